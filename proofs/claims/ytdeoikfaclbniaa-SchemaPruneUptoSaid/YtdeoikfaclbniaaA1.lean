/-
  The interpreter over plain values, and that it is sound.
-/
import GoSem.Core.Code
import GoSem.Core.Lib
import GoSem.Core.Utf8
import Derived.Orders
import GoSem.Dispatch
import Derived.Below
import Derived.LoopN
import Derived.Laws.Rows
import Derived.Laws.Cells
import Derived.Laws.CopyRow
import Derived.Laws.StructEq
import Derived.Laws.Slices
import Derived.Laws.Strings
import Derived.Laws.AppendOwn
import Derived.Laws.MakeOwn
/-
  An interpreter over plain values for the programs of this set: pure values, slices as lists, arrays that a call owns. Definitions alone.
-/
namespace Go.Pv

/-- Values that no store can change: what a call takes and gives back. 'lst' is a slice: tag 0: for good; tag 1: its own cells are lent for the time of a call; tag 2: what lies below, too. 'ro' is the address of cells that are only read; 'fr' (in results alone): a slice that the caller may write to. -/
inductive PV where
  | bool (b : Bool)
  | int (k : IntKind) (n : Int)
  | str (s : ByteArray)
  | nilp
  | nilf
  | lst (tag : Nat) (rows : List (List PV))
  | ro (tag : Nat) (cs : List PV)
  | func (f : Nat) (cap : List PV)
  | agg (cs : List PV)
  | fr (k : Nat) (rows : List (List PV))
  deriving Inhabited

/-- Values inside of a call. 'tl': a slice without spare places; 'own': one over an array of the call's own; 'ptr': into a variable of the call's own; 'aptr': into an array of its own. -/
inductive V where
  | pv (p : PV)
  | tl (rows : List (List PV))
  | own (id ver off len : Nat)
  | ptr (slot off : Nat)
  | aptr (id ver row col : Nat)
  | func (f : Nat) (cap : List V)
  | map (id : Nat)
  | nilm
  | agg (cs : List V)
  | tup (vs : List V)
  | any
  deriving Inhabited

inductive Opd where
  | tmp (t : Nat)
  | val (v : V)
  deriving Inhabited

inductive AOp where
  | mov (x : Opd)
  | pick (c a b : Opd)
  | alloc (slot : Nat) (zero : List V)
  | box (slot n : Nat) (x : Opd)
  | build (zero : List V) (parts : List (Nat × Nat × Opd))
  | lit (k : Nat) (zero : List V) (len : Nat) (parts : List (Nat × Nat × Opd))
  | load (n : Nat) (isAgg : Bool) (x : Opd)
  | store (n : Nat) (x v : Opd)
  | nilck (x : Opd)
  | bin (op : BinOp) (x y : Opd)
  | eqa (ag : Bool) (ks : List Nat) (neg : Bool) (x y : Opd)
  | un (op : UnOp) (x : Opd)
  | conv (k : IntKind) (x : Opd)
  | convs (x : Opd)
  | fld (off : Nat) (x : Opd)
  | part (off n : Nat) (isAgg : Bool) (x : Opd)
  | idx (k : Nat) (x i : Opd)
  | idxa (len k : Nat) (x i : Opd)
  | ixa (len k : Nat) (isAgg : Bool) (x i : Opd)
  | ixs (x i : Opd)
  | sl (k : Nat) (x : Opd) (lo hi mx : Option Opd)
  | sls (x : Opd) (lo hi : Option Opd)
  | len (kd : Nat) (x : Opd)
  | app (k : Nat) (x y : Opd)
  | make (k : Nat) (zero : List V) (n c : Opd)
  | mkmap
  | look (ag : Bool) (ks : List Nat) (zero : V) (x i : Opd) (ok : Bool)
  | upd (ag : Bool) (ks : List Nat) (m k v : Opd)
  | clos (f : Nat) (cap : List Opd)
  | ext (x : Opd) (i : Nat)
  | call (f : Opd) (args : List Opd)
  | minmax (isMax : Bool) (args : List Opd)
  | clr (k : Nat) (zero : List V) (x : Opd)
  | copy (k : Nat) (x y : Opd)
  deriving Inhabited

structure AOper where
  dst : Option Nat
  op : AOp
  guard : Option (Nat × Bool)
  deriving Inhabited

/-- The code of a function. A region bears the variables and boxes that live behind it; a drawn one also, for each operation, which earlier ones it is to be held against. -/
inductive AC where
  | skip
  | region (ops : List AOper) (kt kb : List Nat)
  | draw (ops : List (AOper × List Nat)) (kt kb : List Nat)
  | seq (a b : AC)
  | cond (c : Opd) (thn els : AC)
  | block (id : Nat) (body : AC)
  | loop (body : AC)
  | exit (id : Nat)
  | ret
  | mask (kt kb : List Nat) (a : AC)
  deriving Inhabited

inductive RVar where
  | tmp (t : Nat)
  | cell (t n : Nat) (isAgg : Bool)
  deriving Inhabited

/-- 'fresh': the slices that it gives back are the caller's to write to; 'take': so is the first slice that it is given. -/
structure AFunc where
  nargs : Nat
  body : AC
  results : List RVar
  fresh : Bool
  take : Bool
  deriving Inhabited

/-- An array of the call's own: how often it has grown, the cells of an element, its elements (plain ones, or such as name arrays). -/
structure Arr where
  ver : Nat
  k : Nat
  body : Sum (List (List PV)) (List (List V))

instance : Inhabited Arr := ⟨⟨0, 0, .inl []⟩⟩

structure Heap where
  bx : List (Nat × List V)
  ar : List Arr
  mp : List (List (PV × PV))
  deriving Inhabited

structure St where
  env : List (Nat × V)
  h : Heap
  deriving Inhabited

inductive Ex where
  | normal
  | exit (id : Nat)
  | ret
  deriving Inhabited

def Heap.empty : Heap := ⟨[], [], []⟩

def look1 {α : Type} (t : Nat) : List (Nat × α) → Option α
  | [] => none
  | (s, x) :: r => if s = t then some x else look1 t r

def get (env : List (Nat × V)) (t : Nat) : V := (look1 t env).getD .any

def geto (env : List (Nat × V)) : Opd → V
  | .tmp t => get env t
  | .val v => v

def bxSet (slot : Nat) (cells : List V) : List (Nat × List V) → List (Nat × List V)
  | [] => [(slot, cells)]
  | (s, c) :: r => if s = slot then (slot, cells) :: r else (s, c) :: bxSet slot cells r

def Arr.rows (a : Arr) : List (List V) :=
  match a.body with
  | .inl l => l.map (·.map .pv)
  | .inr l => l

def Arr.size (a : Arr) : Nat :=
  match a.body with
  | .inl l => l.length
  | .inr l => l.length

def V.cells : V → List V
  | .agg cs => cs
  | v => [v]

/-- A cell as a value that stays. -/
def PV.perm : PV → Bool
  | .bool _ | .int _ _ | .str _ | .nilp | .nilf => true
  | .lst t _ => t == 0
  | .func _ cap => cap.isEmpty
  | _ => false

def V.purec : V → Option PV
  | .pv p => if p.perm then some p else none
  | .func f cap => if cap.isEmpty then some (.func f []) else none
  | _ => none

/-- May the cell be stored (no address of a box, none of an array's cell)? -/
def V.calm : V → Bool
  | .pv (.ro _ _) | .pv (.agg _) | .pv (.fr _ _) => false
  | .pv (.func _ cap) => cap.isEmpty
  | .pv _ | .tl _ | .own _ _ _ _ => true
  | .func _ cap => cap.isEmpty
  | _ => false

/-- Do we know how many cells it has? -/
def V.sized : V → Bool
  | .any | .tup _ | .pv (.agg _) | .pv (.fr _ _) => false
  | _ => true

def mapO {α β : Type} (f : α → Option β) : List α → Option (List β)
  | [] => some []
  | x :: r => match f x, mapO f r with
    | some y, some l => some (y :: l)
    | _, _ => none

def mkRows (rows : List (List V)) : Sum (List (List PV)) (List (List V)) :=
  match mapO (mapO V.purec) rows with
  | some l => .inl l
  | none => .inr rows

/-- n rows alike. -/
def sameRows (n : Nat) (zero : List V) : Sum (List (List PV)) (List (List V)) :=
  match mapO V.purec zero with
  | some z => .inl (List.replicate n z)
  | none => .inr (List.replicate n zero)

def catRows (a b : Sum (List (List PV)) (List (List V))) : Sum (List (List PV)) (List (List V)) :=
  match a, b with
  | .inl x, .inl y => .inl (x ++ y)
  | .inl x, .inr y => .inr (x.map (·.map .pv) ++ y)
  | .inr x, .inl y => .inr (x ++ y.map (·.map .pv))
  | .inr x, .inr y => .inr (x ++ y)

def cutRows (off len : Nat) : Sum (List (List PV)) (List (List V)) → Sum (List (List PV)) (List (List V))
  | .inl x => .inl ((x.drop off).take len)
  | .inr x => .inr ((x.drop off).take len)

/-- Cells stored into a row. -/
def setBody (r c : Nat) (news : List V) : Sum (List (List PV)) (List (List V)) → Sum (List (List PV)) (List (List V))
  | .inl x => match mapO V.purec news with
    | some l => .inl (x.set r ((x.getD r []).take c ++ l ++ (x.getD r []).drop (c + news.length)))
    | none => .inr ((x.map (·.map .pv)).set r (((x.getD r []).map .pv).take c ++ news ++ ((x.getD r []).map .pv).drop (c + news.length)))
  | .inr x => .inr (x.set r ((x.getD r []).take c ++ news ++ (x.getD r []).drop (c + news.length)))

def ownArr (h : Heap) (id ver : Nat) : Option Arr :=
  match h.ar[id]? with
  | some a => if a.ver = ver then some a else none
  | none => none

/-- What a value is for a callee: 'own' slices are lent. -/
def lendc (h : Heap) : Nat → V → Option PV
  | _, .pv p => match p with
    | .agg _ => none
    | .fr _ _ => none
    | p => some p
  | _, .tl rows => some (.lst 0 rows)
  | 0, _ => none
  | d + 1, .own id ver off len =>
    match ownArr h id ver with
    | some a => match cutRows off len a.body with
      | .inl rows => some (.lst 1 rows)
      | .inr rows => match mapO (mapO (lendc h d)) rows with
        | some l => some (.lst 2 l)
        | none => none
    | none => none
  | d + 1, .ptr slot off =>
    match look1 slot h.bx with
    | some cs => match mapO (lendc h d) (cs.drop off) with
      | some l => some (.ro 2 l)
      | none => none
    | none => none
  | d + 1, .func f cap => match mapO (lendc h d) cap with
    | some l => some (.func f l)
    | none => none
  | _, _ => none

def lend (h : Heap) : V → Option PV
  | .agg cs => match mapO (lendc h 4) cs with
    | some l => some (.agg l)
    | none => none
  | .pv (.agg cs) => some (.agg cs)
  | v => lendc h 4 v

/-- What a value is once the call has ended: all that it owns stays as it is. -/
def keepc (h : Heap) : Nat → V → Option PV
  | _, .pv p => if p.perm then some p else none
  | _, .tl rows => some (.lst 0 rows)
  | 0, _ => none
  | d + 1, .own id ver off len =>
    match ownArr h id ver with
    | some a => match cutRows off len a.body with
      | .inl rows => some (.lst 0 rows)
      | .inr rows => match mapO (mapO (keepc h d)) rows with
        | some l => some (.lst 0 l)
        | none => none
    | none => none
  | _, .func f cap => if cap.isEmpty then some (.func f []) else none
  | _, _ => none

/-- A cell of a result that the caller may write to. -/
def freshc (h : Heap) : V → Option PV
  | .own id ver 0 len =>
    match ownArr h id ver with
    | some a => (match a.body with
      | .inl rows => if a.k = 0 then none else some (.fr a.k (rows.take len))
      | .inr _ => none)
    | none => none
  | .own _ _ _ _ => none
  | v => keepc h 4 v

def keep (h : Heap) (fresh : Bool) : V → Option PV
  | .agg cs => match mapO (if fresh then freshc h else keepc h 4) cs with
    | some l => some (.agg l)
    | none => none
  | v => if fresh then freshc h v else keepc h 4 v

/-- The arrays that a fresh function gives away: no two may be one. -/
def ownId : V → Option Nat
  | .own id _ _ _ => some id
  | _ => none

def ownIds : List V → List Nat
  | [] => []
  | v :: r => (v.cells.filterMap ownId) ++ ownIds r

def distinct : List Nat → Bool
  | [] => true
  | x :: r => !r.contains x && distinct r

/-- A slice that is given away whole. -/
def lendTake (h : Heap) : V → Option (PV × Option (Nat × Arr))
  | .own id ver 0 len =>
    match ownArr h id ver with
    | some a => if a.size = len ∧ a.k ≠ 0 then (match a.body with
      | .inl rows => some (.fr a.k rows, some (id, ⟨ver + 1, 0, .inl []⟩))
      | .inr _ => none) else none
    | none => none
  | .tl [] => some (.lst 0 [], none)
  | _ => none

/-- A parameter as the callee sees it. -/
def V.ofArg : PV → V
  | .agg cs => .agg (cs.map .pv)
  | .fr _ rows => .own 0 0 0 rows.length
  | p => .pv p

/-- A result as the caller sees it: new arrays are laid behind those that there are. -/
def takec (n : Nat) : List PV → List V × List Arr
  | [] => ([], [])
  | .fr k rows :: r => let (vs, as) := takec (n + 1) r; (.own n 0 0 rows.length :: vs, ⟨0, k, .inl rows⟩ :: as)
  | p :: r => let (vs, as) := takec n r; (.pv p :: vs, as)

def takev (n : Nat) : PV → V × List Arr
  | .agg cs => let (vs, as) := takec n cs; (.agg vs, as)
  | .fr k rows => (.own n 0 0 rows.length, [⟨0, k, .inl rows⟩])
  | p => (.pv p, [])

def takeAll (n : Nat) : List PV → List V × List Arr
  | [] => ([], [])
  | p :: r => let (v, as) := takev n p; let (vs, bs) := takeAll (n + as.length) r; (v :: vs, as ++ bs)

def tuple1 : List V → V
  | [v] => v
  | vs => .tup vs

/-- What an operation turns, and what it looked at. -/
structure Tn where
  bx : Option (Nat × List V) := none
  new : Bool := false
  ar : Option (Nat × Arr) := none
  push : List Arr := []
  mp : Option (Nat × List (PV × PV)) := none
  pushm : Bool := false
  rb : Option Nat := none
  ra : Option Nat := none
  rm : Option Nat := none
  rall : Bool := false
  ra2 : Option Nat := none
  base : Nat := 0
  deriving Inhabited

def Tn.apply (t : Tn) (h : Heap) : Heap :=
  { bx := match t.bx with | some (s, cs) => bxSet s cs h.bx | none => h.bx
    ar := (match t.ar with | some (i, a) => h.ar.set i a | none => h.ar) ++ t.push
    mp := (match t.mp with | some (i, m) => h.mp.set i m | none => h.mp) ++ (if t.pushm then [[]] else []) }

def off2 {α : Type} (o : Option α) (p : Option α) (eq : α → α → Bool) : Bool :=
  match o, p with
  | some a, some b => !eq a b
  | _, _ => true

/-- Are all arrays that it names older than the n-th? -/
def Tn.old (a : Tn) (n : Nat) : Bool := a.ar.all (·.1 < n) && a.ra.all (· < n) && a.ra2.all (· < n)

/-- Does b keep off all that a turns? (Not said here: of what looks at everything.) -/
def Tn.offB (a b : Tn) : Bool :=
  off2 (a.bx.map (·.1)) (b.bx.map (·.1)) (· == ·) && off2 (a.bx.map (·.1)) b.rb (· == ·) &&
  off2 (a.ar.map (·.1)) (b.ar.map (·.1)) (· == ·) && off2 (a.ar.map (·.1)) b.ra (· == ·) && off2 (a.ar.map (·.1)) b.ra2 (· == ·) &&
  (a.push.isEmpty || (b.push.isEmpty && b.old a.base)) && a.mp.isNone && !a.pushm

/-- .. whether b comes before a or behind it. -/
def Tn.off (a b : Tn) : Bool := a.offB b && (!b.rall || (a.bx.isNone && a.ar.isNone && a.push.isEmpty))

/-- .. where b came first: new boxes and new arrays were not in its sight. -/
def Tn.offL (a b : Tn) : Bool := a.offB b && (!b.rall || ((a.bx.isNone || a.new) && a.ar.isNone))

/-- May the two, in this order, change places? -/
def Tn.apart (a b : Tn) : Bool := a.off b && b.offL a

def setAt {α : Type} (l : List α) (off : Nat) (news : List α) : List α := l.take off ++ news ++ l.drop (off + news.length)

/-- Parts laid over zero cells. -/
def fillv (g : Opd → V) : List V → List (Nat × Nat × Opd) → Option (List V)
  | cells, [] => some cells
  | cells, (off, n, x) :: r =>
    if (g x).sized = true ∧ (g x).cells.length = n ∧ off + n ≤ cells.length then fillv g (setAt cells off (g x).cells) r else none

def cellsV (isAgg : Bool) : List V → Option V
  | cs => if isAgg then some (.agg cs) else match cs with
    | [v] => some v
    | _ => none

/-- Cells [off, off + n) of a list. -/
def takeN {α : Type} (off n : Nat) (l : List α) : Option (List α) := if off + n ≤ l.length then some ((l.drop off).take n) else none

def chop {α : Type} (k : Nat) : Nat → List α → List (List α)
  | 0, _ => []
  | n + 1, l => l.take k :: chop k n (l.drop k)

/-- Are two cells of a kind (0: bool, 1: integer, 2: string) equal? -/
def PV.eqs : Nat → PV → PV → Option Bool
  | 0, .bool a, .bool b => some (a == b)
  | 1, .int j a, .int k b => if j = k then some (a == b) else none
  | 2, .str a, .str b => some (a.toList == b.toList)
  | _, _, _ => none

def eqsAll : List Nat → List PV → List PV → Option Bool
  | [], [], [] => some true
  | k :: ks, a :: x, b :: y => match PV.eqs k a b, eqsAll ks x y with
    | some p, some q => some (p && q)
    | _, _ => none
  | _, _, _ => none

def pvOf : V → Option PV
  | .pv p => some p
  | _ => none

def intOf : V → Option Int
  | .pv (.int _ n) => some n
  | _ => none

def intBin (op : BinOp) (k : IntKind) (x y : Int) : Option PV :=
  match op with
  | .add => some (.int k (k.wrap (x + y)))
  | .sub => some (.int k (k.wrap (x - y)))
  | .mul => some (.int k (k.wrap (x * y)))
  | .quo => if y = 0 then none else some (.int k (k.wrap (x.tdiv y)))
  | .rem => if y = 0 then none else some (.int k (x.tmod y))
  | .and => some (.int k (k.wrap (BitVec.ofInt k.bits x &&& BitVec.ofInt k.bits y).toNat))
  | .or => some (.int k (k.wrap (BitVec.ofInt k.bits x ||| BitVec.ofInt k.bits y).toNat))
  | .xor => some (.int k (k.wrap (BitVec.ofInt k.bits x ^^^ BitVec.ofInt k.bits y).toNat))
  | .andNot => some (.int k (k.wrap (BitVec.ofInt k.bits x &&& ~~~(BitVec.ofInt k.bits y)).toNat))
  | .eql => some (.bool (x == y))
  | .neq => some (.bool (x != y))
  | .lss => some (.bool (decide (x < y)))
  | .leq => some (.bool (decide (x ≤ y)))
  | .gtr => some (.bool (decide (x > y)))
  | .geq => some (.bool (decide (x ≥ y)))
  | _ => none

def shiftBin (op : BinOp) (k : IntKind) (x y : Int) : Option PV :=
  if y < 0 then none else
  match op with
  | .shl => some (.int k (k.wrap (x * 2 ^ (min y.toNat k.bits))))
  | .shr => some (.int k (x.fdiv (2 ^ (min y.toNat k.bits))))
  | _ => none

def strBin (op : BinOp) (a b : ByteArray) : Option PV :=
  match op with
  | .eql => some (.bool (a.toList == b.toList))
  | .neq => some (.bool !(a.toList == b.toList))
  | .add => if a.size + b.size ≤ 1099511627776 then some (.str (a ++ b)) else none
  | _ => none

def binV (op : BinOp) : V → V → Option V
  | .pv (.int j a), .pv (.int k b) =>
    if op = .shl ∨ op = .shr then (shiftBin op j a b).map .pv
    else if j = k then (intBin op j a b).map .pv else none
  | .pv (.str a), .pv (.str b) => (strBin op a b).map .pv
  | _, _ => none

def unV : UnOp → V → Option V
  | .neg, .pv (.int k n) => some (.pv (.int k (k.wrap (0 - n))))
  | .not, .pv (.bool b) => some (.pv (.bool !b))
  | _, _ => none

/-- An index in range. -/
def inRange (i : Option Int) (n : Nat) : Option Nat :=
  match i with
  | some x => if 0 ≤ x ∧ x < n then some x.toNat else none
  | none => none

def bound (g : Opd → V) (o : Option Opd) (dflt top : Nat) : Option Nat :=
  match o with
  | none => some dflt
  | some x => match intOf (g x) with
    | some i => if 0 ≤ i ∧ i ≤ top then some i.toNat else none
    | none => none

def mostRows : Nat := 2147483648

/-- The cells of a value that is compared. -/
def plainCells (ag : Bool) : V → Option (List PV)
  | .agg cs => if ag then mapO pvOf cs else none
  | .pv p => if ag then none else some [p]
  | _ => none

def keyOf (ag : Bool) (x : V) : Option PV :=
  match plainCells ag x with
  | some l => if ag then some (.agg l) else l.head?
  | none => none

def keyEq (ag : Bool) (ks : List Nat) : PV → PV → Option Bool
  | .agg a, .agg b => if ag then eqsAll ks a b else none
  | a, b => if ag then none else eqsAll ks [a] [b]

/-- The place of a key in a map. -/
def findKey (ag : Bool) (ks : List Nat) (k : PV) : List (PV × PV) → Nat → Option (Option (Nat × PV))
  | [], _ => if (keyEq ag ks k k).isSome then some none else none
  | (q, v) :: r, i => match keyEq ag ks k q with
    | some true => some (some (i, v))
    | some false => findKey ag ks k r (i + 1)
    | none => none

def loadAt (h : Heap) (n : Nat) : V → Option (List V × Tn)
  | .pv (.ro _ cs) => match takeN 0 n cs with
    | some l => some (l.map .pv, {})
    | none => none
  | .ptr slot off => match look1 slot h.bx with
    | some cs => match takeN off n cs with
      | some l => some (l, { rb := some slot })
      | none => none
    | none => none
  | .aptr id ver row col => match ownArr h id ver with
    | some a => match a.body with
      | .inl x => match x[row]? with
        | some r => match takeN col n r with
          | some l => some (l.map .pv, { ra := some id })
          | none => none
        | none => none
      | .inr x => match x[row]? with
        | some r => match takeN col n r with
          | some l => some (l, { ra := some id })
          | none => none
        | none => none
    | none => none
  | _ => none

def storeAt (h : Heap) (x : V) (news : List V) : Option Tn :=
  match x with
  | .ptr slot off => match look1 slot h.bx with
    | some cs => if off + news.length ≤ cs.length ∧ news.all V.calm then some { bx := some (slot, setAt cs off news) } else none
    | none => none
  | .aptr id ver row col => match ownArr h id ver with
    | some a => if row < a.size ∧ col + news.length ≤ a.k ∧ news.all V.calm then some { ar := some (id, { a with body := setBody row col news a.body }) } else none
    | none => none
  | _ => none

/-- The rows that an append takes. -/
def srcRows (h : Heap) : V → Option (Sum (List (List PV)) (List (List V)) × Option Nat)
  | .pv (.lst t rows) => if t ≤ 1 then some (.inl rows, none) else some (.inr (rows.map (·.map .pv)), none)
  | .tl rows => some (.inl rows, none)
  | .own id ver off len => match ownArr h id ver with
    | some a => some (cutRows off len a.body, some id)
    | none => none
  | _ => none

def rowsLen : Sum (List (List PV)) (List (List V)) → Nat
  | .inl x => x.length
  | .inr x => x.length

/-- Are all rows of k cells? -/
def rowsFit (k : Nat) : Sum (List (List PV)) (List (List V)) → Bool
  | .inl x => x.all (·.length == k)
  | .inr x => x.all (·.length == k)

def appendV (h : Heap) (k : Nat) (x y : V) : Option (V × Tn) :=
  match srcRows h y with
  | none => none
  | some (new, rd) =>
    if rowsFit k new then
      match x with
      | .tl rows =>
        if rowsLen new = 0 then some (.tl rows, { ra := rd })
        else if rows.length + rowsLen new ≤ mostRows ∧ rowsFit k (.inl rows) then
          some (.own h.ar.length 0 0 (rows.length + rowsLen new), { push := [⟨0, k, catRows (.inl rows) new⟩], ra := rd, base := h.ar.length })
        else none
      | .own id ver off len =>
        match ownArr h id ver with
        | some a =>
          if rowsLen new = 0 then some (.own id ver off len, { ra := rd, ra2 := some id })
          else if off + len = a.size ∧ a.k = k ∧ len + rowsLen new ≤ mostRows ∧ rd ≠ some id then
            some (.own id (ver + 1) 0 (len + rowsLen new), { ar := some (id, ⟨ver + 1, k, catRows (cutRows off len a.body) new⟩), ra := rd })
          else none
        | none => none
      | _ => none
    else none

/-- Rows copied into an array of the call's own. -/
def copyV (h : Heap) (k : Nat) (x y : V) : Option (V × Tn) :=
  match srcRows h y with
  | some (.inl new, rd) =>
    if rowsFit k (.inl new) then
      match x with
      | .own id ver off len =>
        if min new.length len = 0 then some (.pv (.int .i64 0), { ra := rd })
        else match ownArr h id ver with
          | some a => match a.body with
            | .inl rows => if a.k = k ∧ off + len ≤ rows.length then
                some (.pv (.int .i64 (min new.length len : Nat)), { ar := some (id, ⟨ver, k, .inl (rows.take off ++ new.take (min new.length len) ++ rows.drop (off + min new.length len))⟩), ra := rd }) else none
            | .inr _ => none
          | none => none
      | _ => none
    else none
  | _ => none

/-- The bounds of a slice expression over len places; the last: is a third bound given, and where. -/
def bounds (g : Opd → V) (lo hi mx : Option Opd) (len : Nat) : Option (Nat × Nat × Option Nat) :=
  match bound g hi len len with
  | some b => match bound g lo 0 b with
    | some a => match mx with
      | none => some (a, b, none)
      | some _ => match bound g mx 0 len with
        | some c => if b ≤ c then some (a, b, some c) else none
        | none => none
    | none => none
  | none => none

def sliceV (g : Opd → V) (h : Heap) (k : Nat) (x : V) (lo hi mx : Option Opd) : Option (V × Tn) :=
  match x with
  | .pv (.lst t rows) =>
    if rowsFit k (.inl rows) then
      match bounds g lo hi mx rows.length with
      | some (a, b, none) => some (.pv (.lst t ((rows.take b).drop a)), {})
      | some (a, b, some c) => if c = b ∧ a = b then some (.tl [], {}) else none
      | none => none
    else none
  | .tl rows =>
    if rowsFit k (.inl rows) then
      match bounds g lo hi mx rows.length with
      | some (a, b, none) => if b = rows.length then some (.tl ((rows.take b).drop a), {}) else some (.pv (.lst 0 ((rows.take b).drop a)), {})
      | some (a, b, some c) => if c = b then some (.tl ((rows.take b).drop a), {}) else none
      | none => none
    else none
  | .own id ver off len =>
    match ownArr h id ver with
    | some ar => if ar.k = k then
        (match bounds g lo hi mx len with
        | some (a, b, none) => some (.own id ver (off + a) (b - a), { ra := some id })
        | some (a, b, some c) => if c = b ∧ a = b then some (.tl [], { ra := some id }) else none
        | none => none) else none
    | none => none
  | _ => none

def sliceS (g : Opd → V) (x : V) (lo hi : Option Opd) : Option V :=
  match x with
  | .pv (.str s) =>
    match bound g hi s.size s.size with
    | some b => match bound g lo 0 b with
      | some a => some (.pv (.str (s.extract a b)))
      | none => none
    | none => none
  | _ => none

def idxR (k t : Nat) (rows : List (List PV)) (i : Option Int) : Option V :=
  match inRange i rows.length with
  | some j => match rows[j]? with
    | some r => if r.length = k then some (.pv (.ro t r)) else none
    | none => none
  | none => none

def idxV (h : Heap) (k : Nat) (x : V) (i : Option Int) : Option (V × Tn) :=
  match x with
  | .pv (.lst t rows) => (idxR k t rows i).map fun v => (v, {})
  | .tl rows => (idxR k 0 rows i).map fun v => (v, {})
  | .own id ver off len => match inRange i len, ownArr h id ver with
    | some j, some a => if a.k = k then some (.aptr id ver (off + j) 0, { ra := some id }) else none
    | _, _ => none
  | _ => none

def fldV (off : Nat) : V → Option V
  | .pv (.ro t cs) => some (.pv (.ro t (cs.drop off)))
  | .ptr slot o => some (.ptr slot (o + off))
  | .aptr id ver row col => some (.aptr id ver row (col + off))
  | _ => none

/-- Lengths: 0: of slices, 1: of strings, 2: of maps. -/
def lenV (h : Heap) : Nat → V → Option (Nat × Tn)
  | 0, .pv (.lst _ rows) => some (rows.length, {})
  | 0, .tl rows => some (rows.length, {})
  | 0, .own _ _ _ len => some (len, {})
  | 1, .pv (.str s) => some (s.size, {})
  | 2, .map id => match h.mp[id]? with
    | some m => some (m.length, { rm := some id })
    | none => none
  | 2, .nilm => some (0, {})
  | _, _ => none

def funcOf : V → Option (Nat × List V)
  | .func f cap => some (f, cap)
  | .pv (.func f cap) => some (f, cap.map .pv)
  | _ => none

def PV.clean : PV → Bool
  | .ro t _ | .lst t _ => t == 0
  | .func _ cap => cap.isEmpty
  | .agg _ => false
  | .fr _ _ => false
  | _ => true

def V.isPv : V → Bool
  | .pv _ => true
  | .tl _ => true
  | .func _ cap => cap.isEmpty
  | .agg cs => cs.all fun | .pv _ => true | .tl _ => true | _ => false
  | _ => false

def minmaxI (isMax : Bool) : Int → List V → Option Int
  | a, [] => some a
  | a, .pv (.int _ b) :: r => minmaxI isMax (if isMax then (if b > a then b else a) else (if b < a then b else a)) r
  | _, _ :: _ => none

/-- Functions that are taken by contracts of their own. -/
abbrev Prims := Nat → Option (List V → Heap → Option (V × Tn))

/-- One operation: its value, and what it turns. 'Φ': what calls give; 'Pr': functions that are taken by contracts of their own. -/
def lendAll (h : Heap) (tk : Bool) (vs : List V) : Option (List PV × Option (Nat × Arr)) :=
  if tk then match vs with
    | v :: r => match lendTake h v with
      | some (p, none) => match mapO (lend h) r with
        | some l => some (p :: l, none)
        | none => none
      | some (p, some (i, a)) => match mapO (lend { h with ar := h.ar.set i a }) r with
        | some l => some (p :: l, some (i, a))
        | none => none
      | none => none
    | [] => none
  else match mapO (lend h) vs with
    | some l => some (l, none)
    | none => none

def evalOp (Φ : Nat → List PV → Option (List PV)) (Pr : Prims) (Tk : Nat → Bool) (g : Opd → V) (h : Heap) : AOp → Option (V × Tn)
  | .mov x => some (g x, {})
  | .pick c a b => match g c with
    | .pv (.bool true) => some (g a, {})
    | .pv (.bool false) => some (g b, {})
    | _ => none
  | .alloc slot zero => match look1 slot h.bx with
    | none => some (.ptr slot 0, { bx := some (slot, zero), new := true })
    | some _ => none
  | .box slot n x => match look1 slot h.bx with
    | none => if (g x).cells.length = n ∧ (g x).cells.all V.calm then some (.ptr slot 0, { bx := some (slot, (g x).cells), new := true }) else none
    | some _ => none
  | .build zero parts => match fillv g zero parts with
    | some cs => some (.agg cs, {})
    | none => none
  | .lit k zero len parts => match fillv g ((List.range (len * k)).map fun i => zero.getD (i % k) .any) parts with
    | some cs => match mkRows (chop k len cs) with
      | .inl rows => some (.tl rows, {})
      | .inr rows => if cs.all V.calm then some (.own h.ar.length 0 0 len, { push := [⟨0, k, .inr rows⟩], base := h.ar.length }) else none
    | none => none
  | .load n isAgg x => match loadAt h n (g x) with
    | some (cs, t) => match cellsV isAgg cs with
      | some v => some (v, t)
      | none => none
    | none => none
  | .store n x v => if (g v).cells.length = n then (match storeAt h (g x) (g v).cells with
      | some t => some (.any, t)
      | none => none) else none
  | .nilck x => match g x with
    | .func f cap => some (.func f cap, {})
    | .pv (.func f cap) => some (.pv (.func f cap), {})
    | .ptr s o => some (.ptr s o, {})
    | .pv (.ro t cs) => some (.pv (.ro t cs), {})
    | .aptr i v r c => some (.aptr i v r c, {})
    | _ => none
  | .bin op x y => (binV op (g x) (g y)).map fun v => (v, {})
  | .eqa ag ks neg x y => match plainCells ag (g x), plainCells ag (g y) with
    | some a, some b => match eqsAll ks a b with
      | some r => some (.pv (.bool (if neg then !r else r)), {})
      | none => none
    | _, _ => none
  | .un op x => (unV op (g x)).map fun v => (v, {})
  | .conv k x => match g x with
    | .pv (.int _ n) => some (.pv (.int k (k.wrap n)), {})
    | _ => none
  | .convs x => match g x with
    | .pv (.str s) => some (.pv (.str s), {})
    | .pv (.int _ n) => some (.pv (.str (Utf8.encode n)), {})
    | _ => none
  | .fld off x => (fldV off (g x)).map fun v => (v, {})
  | .part off n isAgg x => match g x with
    | .agg cs => match takeN off n cs with
      | some l => (cellsV isAgg l).map fun v => (v, {})
      | none => none
    | _ => none
  | .idx k x i => idxV h k (g x) (intOf (g i))
  | .idxa len k x i => match inRange (intOf (g i)) len with
    | some j => (fldV (j * k) (g x)).map fun v => (v, {})
    | none => none
  | .ixa len k isAgg x i => match inRange (intOf (g i)) len with
    | some j => match g x with
      | .agg cs => match takeN (j * k) k cs with
        | some l => (cellsV isAgg l).map fun v => (v, {})
        | none => none
      | _ => none
    | none => none
  | .ixs x i => match g x with
    | .pv (.str s) => match inRange (intOf (g i)) s.size with
      | some j => match s[j]? with
        | some b => some (.pv (.int .u8 b.toNat), {})
        | none => none
      | none => none
    | _ => none
  | .sl k x lo hi mx => sliceV g h k (g x) lo hi mx
  | .sls x lo hi => (sliceS g (g x) lo hi).map fun v => (v, {})
  | .len kd x => match lenV h kd (g x) with
    | some (n, t) => some (.pv (.int .i64 n), t)
    | none => none
  | .app k x y => appendV h k (g x) (g y)
  | .make k zero n c => match intOf (g n), intOf (g c) with
    | some a, some b =>
      if 0 ≤ a ∧ a ≤ b ∧ b ≤ mostRows then some (.own h.ar.length 0 0 a.toNat, { push := [⟨0, k, sameRows a.toNat zero⟩], base := h.ar.length }) else none
    | _, _ => none
  | .mkmap => some (.map h.mp.length, { pushm := true })
  | .look ag ks zero x i ok => match keyOf ag (g i) with
    | none => none
    | some k =>
      match (match g x with
        | .nilm => some []
        | .map id => h.mp[id]?
        | _ => none) with
      | none => none
      | some m => match findKey ag ks k m 0 with
        | none => none
        | some r =>
          let v : V := match r with
            | some (_, p) => .pv p
            | none => zero
          some (if ok then .tup [v, .pv (.bool r.isSome)] else v, match g x with | .map id => { rm := some id } | _ => {})
  | .upd ag ks m k v => match g m, keyOf ag (g k), (g v).purec with
    | .map id, some q, some p => match h.mp[id]? with
      | some l => match findKey ag ks q l 0 with
        | some (some (i, _)) => some (.any, { mp := some (id, l.set i (q, p)) })
        | some none => some (.any, { mp := some (id, l ++ [(q, p)]) })
        | none => none
      | none => none
    | _, _, _ => none
  | .clos f cap => some (.func f (cap.map g), {})
  | .ext x i => match g x with
    | .tup vs => match vs[i]? with
      | some v => some (v, {})
      | none => none
    | _ => none
  | .call f args => match funcOf (g f) with
    | none => none
    | some (fn, cap) =>
      let vs := args.map g ++ cap
      match Pr fn with
      | some pr => pr vs h
      | none => match lendAll h (Tk fn) vs with
        | none => none
        | some (ps, a) => match Φ fn ps with
          | none => none
          | some rs =>
            let (ws, as) := takeAll h.ar.length rs
            some (tuple1 ws, { ar := a, push := as, rall := !(vs.all V.isPv), base := if as.isEmpty then 0 else h.ar.length })
  | .minmax isMax args => match args.map g with
    | .pv (.int k a) :: r => match minmaxI isMax a r with
      | some n => some (.pv (.int k n), {})
      | none => none
    | _ => none
  | .clr k zero x => match g x with
    | .pv (.lst _ []) => some (.tup [], {})
    | .tl [] => some (.tup [], {})
    | .own id ver off len => match ownArr h id ver, mapO V.purec zero with
      | some a, some z => match a.body with
        | .inl rows => if a.k = k ∧ off + len ≤ rows.length then
            some (.tup [], { ar := some (id, ⟨ver, k, .inl (rows.take off ++ List.replicate len z ++ rows.drop (off + len))⟩) }) else none
        | .inr _ => none
      | _, _ => none
    | _ => none
  | .copy k x y => copyV h k (g x) (g y)

def Opd.reads : Opd → List Nat
  | .tmp t => [t]
  | .val _ => []

def readsO : Option Opd → List Nat
  | some x => x.reads
  | none => []

def AOp.reads : AOp → List Nat
  | .mov x | .box _ _ x | .load _ _ x | .nilck x | .un _ x | .conv _ x | .convs x | .fld _ x | .part _ _ _ x | .len _ x | .ext x _ | .clr _ _ x => x.reads
  | .pick c a b => c.reads ++ a.reads ++ b.reads
  | .alloc _ _ | .mkmap => []
  | .build _ parts => parts.flatMap fun p => p.2.2.reads
  | .lit _ _ _ parts => parts.flatMap fun p => p.2.2.reads
  | .store _ x y | .bin _ x y | .eqa _ _ _ x y | .idx _ x y | .idxa _ _ x y | .ixa _ _ _ x y | .ixs x y | .app _ x y | .copy _ x y | .make _ _ x y | .look _ _ _ x y _ => x.reads ++ y.reads
  | .sl _ x lo hi mx => x.reads ++ readsO lo ++ readsO hi ++ readsO mx
  | .sls x lo hi => x.reads ++ readsO lo ++ readsO hi
  | .upd _ _ m k v => m.reads ++ k.reads ++ v.reads
  | .clos _ cap => cap.flatMap Opd.reads
  | .call f args => f.reads ++ args.flatMap Opd.reads
  | .minmax _ args => args.flatMap Opd.reads

def AOper.reads (o : AOper) : List Nat := (match o.guard with | some (t, _) => [t] | none => []) ++ o.op.reads

/-- Neither writes what the other one reads or writes. -/
def AOper.apart (x y : AOper) : Bool :=
  (match x.dst with
   | some d => !y.reads.contains d && y.dst != some d
   | none => true) &&
  (match y.dst with
   | some d => !x.reads.contains d
   | none => true)

def wanted (env : List (Nat × V)) : Option (Nat × Bool) → Option Bool
  | none => some true
  | some (t, b) => match get env t with
    | .pv (.bool c) => some (c == b)
    | .tup _ => some false
    | _ => none

def put (env : List (Nat × V)) (d : Option Nat) (v : V) : List (Nat × V) :=
  match d with
  | some t => (t, v) :: env
  | none => env

def stepOp (Φ : Nat → List PV → Option (List PV)) (Pr : Prims) (Tk : Nat → Bool) (o : AOper) (s : St) : Option (St × Tn) :=
  match wanted s.env o.guard with
  | none => none
  | some false => some (⟨put s.env o.dst (.tup []), s.h⟩, {})
  | some true => match evalOp Φ Pr Tk (geto s.env) s.h o.op with
    | some (v, t) => some (⟨put s.env o.dst v, t.apply s.h⟩, t)
    | none => none

def execOps (Φ : Nat → List PV → Option (List PV)) (Pr : Prims) (Tk : Nat → Bool) : List AOper → St → Option St
  | [], s => some s
  | o :: r, s => match stepOp Φ Pr Tk o s with
    | some (s', _) => execOps Φ Pr Tk r s'
    | none => none

def holdAgainst (un : List Nat) (t : Tn) (done : List Tn) : Bool :=
  un.all fun j => match done[j]? with
    | some u => u.apart t
    | none => false

def execDraw (Φ : Nat → List PV → Option (List PV)) (Pr : Prims) (Tk : Nat → Bool) : List (AOper × List Nat) → List Tn → St → Option St
  | [], _, s => some s
  | (o, un) :: r, done, s => match stepOp Φ Pr Tk o s with
    | some (s', t) => if holdAgainst un t done then execDraw Φ Pr Tk r (done ++ [t]) s' else none
    | none => none

/-- An address of a box that is no more is no address. -/
def okc (kb : List Nat) : V → Bool
  | .ptr s _ => kb.contains s
  | .func _ cap => cap.isEmpty
  | .agg _ | .tup _ => false
  | _ => true

def scrub (kb : List Nat) : V → V
  | .ptr s o => if kb.contains s then .ptr s o else .any
  | .func f cap => if cap.all (okc kb) then .func f cap else .any
  | .agg cs => if cs.all (okc kb) then .agg cs else .any
  | .tup _ => .any
  | v => v

def maskEnv (kt kb : List Nat) (env : List (Nat × V)) : List (Nat × V) := kt.map fun t => (t, scrub kb (get env t))

def maskBx (kb : List Nat) (bx : List (Nat × List V)) : List (Nat × List V) :=
  match kb with
  | [] => []
  | s :: r => match look1 s bx with
    | some cs => (s, cs) :: maskBx r bx
    | none => maskBx r bx

def St.mask (kt kb : List Nat) (s : St) : St := ⟨maskEnv kt kb s.env, { s.h with bx := maskBx kb s.h.bx }⟩

def entry : Nat → List PV → List (Nat × V)
  | _, [] => []
  | n, p :: r => (n, V.ofArg p) :: entry (n + 1) r

/-- The heap in which a body begins: the array that was given away is its own. -/
def entryHeap : List PV → Heap
  | .fr k rows :: _ => ⟨[], [⟨0, k, .inl rows⟩], []⟩
  | _ => Heap.empty

def argsOk : Bool → List PV → Bool
  | _, [] => true
  | tk, .fr _ _ :: r => tk && argsOk false r
  | _, _ :: r => argsOk false r

def resultOf (s : St) : RVar → Option V
  | .tmp t => some (get s.env t)
  | .cell t n isAgg => match loadAt s.h n (get s.env t) with
    | some (cs, _) => cellsV isAgg cs
    | none => none

/-- A function's results, at its body's end. -/
def leave (fn : AFunc) (s : St) : Option (List PV) :=
  match mapO (resultOf s) fn.results with
  | some vs => if !fn.fresh || distinct (ownIds vs) then mapO (keep s.h fn.fresh) vs else none
  | none => none

def runFn (E : AC → St → Option (Ex × St)) (fn : AFunc) (args : List PV) : Option (List PV) :=
  if args.length = fn.nargs ∧ argsOk fn.take args = true then
    match E fn.body ⟨entry 0 args, entryHeap args⟩ with
    | some (.normal, s) => leave fn s
    | some (.ret, s) => leave fn s
    | _ => none
  else none

def callBy (A : Nat → Option AFunc) (E : AC → St → Option (Ex × St)) (f : Nat) (args : List PV) : Option (List PV) :=
  match A f with
  | some fn => runFn E fn args
  | none => none

def takes (A : Nat → Option AFunc) (f : Nat) : Bool :=
  match A f with
  | some fn => fn.take
  | none => false

/-- One layer of the interpreter. -/
def layer (A : Nat → Option AFunc) (Pr : Prims) (E : AC → St → Option (Ex × St)) : AC → St → Option (Ex × St)
  | .skip, s => some (.normal, s)
  | .region ops kt kb, s => match execOps (callBy A E) Pr (takes A) ops s with
    | some s' => some (.normal, s'.mask kt kb)
    | none => none
  | .draw ops kt kb, s => match execDraw (callBy A E) Pr (takes A) ops [] s with
    | some s' => some (.normal, s'.mask kt kb)
    | none => none
  | .seq a b, s => match E a s with
    | some (.normal, s') => E b s'
    | r => r
  | .cond c a b, s => match geto s.env c with
    | .pv (.bool true) => E a s
    | .pv (.bool false) => E b s
    | _ => none
  | .block id a, s => match E a s with
    | some (.exit j, s') => if j = id then some (.normal, s') else some (.exit j, s')
    | r => r
  | .loop a, s => match E a s with
    | some (.normal, s') => E (.loop a) s'
    | r => r
  | .exit id, s => some (.exit id, s)
  | .ret, s => some (.ret, s)
  | .mask kt kb a, s => E a (s.mask kt kb)

def exec (A : Nat → Option AFunc) (Pr : Prims) : Nat → AC → St → Option (Ex × St)
  | 0, _, _ => none
  | n + 1, c, s => layer A Pr (exec A Pr n) c s

end Go.Pv

/-
  From the program's code to the interpreter's: sizes and places are looked up once; what the interpreter does not know is refused. Definitions alone.
-/
namespace Go.Pv

/-- A cell of a constant or of a zero value. -/
def cvc : Value → Option V
  | .bool b => some (.pv (.bool b))
  | .int k n => some (.pv (.int k n))
  | .string s => some (.pv (.str s))
  | .pointer none => some (.pv .nilp)
  | .nilFunc => some (.pv .nilf)
  | .slice none 0 0 => some (.tl [])
  | .map none => some .nilm
  | _ => none

def cv : Value → Option V
  | .agg cs => match mapO cvc cs.toList with
    | some l => some (.agg l)
    | none => none
  | v => cvc v

/-- 'N': the program's number of a function of ours; 'M': ours of the program's. -/
def trOpd (N M : Nat → Nat) : Operand → Option Opd
  | .tmp t => some (.tmp t)
  | .const v => match cv v with
    | some x => some (.val x)
    | none => none
  | .func f => if N (M f) = f then some (.val (.func (M f) [])) else none
  | .global _ => none

def zeroOf (P : Program) (t : TypeId) : Option (List V) :=
  match P.info? t with
  | some i => match i.zero with
    | some z => match mapO cvc z.cells.toList with
      | some l => if l.length = i.size then some l else none
      | none => none
    | none => none
  | none => none

def zeroV (P : Program) (t : TypeId) : Option V := ((P.info? t).bind (·.zero)).bind cvc

def isAggT (P : Program) (t : TypeId) : Option Bool :=
  match P.underlying t with
  | some (.struct _) => some true
  | some (.array _ _) => some true
  | some _ => some false
  | none => none

def sizeT (P : Program) (t : TypeId) : Option Nat := (P.info? t).map (·.size)

/-- The size of an element, small enough. -/
def elemT (P : Program) (t : TypeId) : Option (TypeId × Nat) :=
  match P.underlying t with
  | some (.slice e) => match P.info? e with
    | some i => if i.bytes ≤ 32768 ∧ 0 < i.size ∧ i.zero.map (·.cells.size) = some i.size then some (e, i.size) else none
    | none => none
  | _ => none

/-- How many cells a value of a type has that is loaded, stored, boxed: a plain one has one. -/
def loadT (P : Program) (t : TypeId) : Option (Nat × Bool) :=
  match isAggT P t, sizeT P t with
  | some true, some n => some (n, true)
  | some false, some n => if n = 1 then some (1, false) else none
  | _, _ => none

/-- The cells of a type whose '==' goes cell by cell: 0: bool, 1: integer, 2: string. -/
def plainT (P : Program) : Nat → TypeId → Option (List Nat)
  | 0, _ => none
  | d + 1, t => match P.underlying t with
    | some .bool => some [0]
    | some (.int _) => some [1]
    | some .string => some [2]
    | some (.array n e) => match plainT P d e, loadT P e with
      | some ks, some (k, _) => if k = ks.length then some ((List.replicate n ks).flatten) else none
      | _, _ => none
    | some (.struct fs) => if P.stoodInHeld t then none else
        fs.toList.foldr (fun f (acc : Option (List Nat)) => match acc, plainT P d f.type, loadT P f.type with
          | some l, some ks, some (k, _) => if f.name ≠ "_" ∧ k = ks.length then some (ks ++ l) else none
          | _, _, _ => none) (some [])
    | _ => none

/-- Do the fields lie one behind the other? -/
def offsOk (P : Program) : Nat → List Field → Bool
  | _, [] => true
  | a, f :: r => f.offset == a && offsOk P (a + (sizeT P f.type).getD 0) r

def plainOk (P : Program) : Nat → TypeId → Bool
  | 0, _ => false
  | d + 1, t => match P.underlying t with
    | some (.array _ e) => plainOk P d e
    | some (.struct fs) => offsOk P 0 fs.toList && fs.toList.all fun f => plainOk P d f.type
    | _ => true

/-- A type that can be compared, and a map's key. -/
def cmpT (P : Program) (t : TypeId) : Option (Bool × List Nat) :=
  match plainT P 40 t, isAggT P t with
  | some ks, some ag => if plainOk P 40 t && P.eqGuardType P.depth t == false then some (ag, ks) else none
  | _, _ => none

def partsS (P : Program) (N M : Nat → Nat) (fs : Array Field) : List (Nat × Operand) → Option (List (Nat × Nat × Opd))
  | [] => some []
  | (i, x) :: r => match fs[i]?, trOpd N M x, partsS P N M fs r with
    | some f, some y, some l => match sizeT P f.type with
      | some n => some ((f.offset, n, y) :: l)
      | none => none
    | _, _, _ => none

def partsA (N M : Nat → Nat) (k : Nat) : List (Nat × Operand) → Option (List (Nat × Nat × Opd))
  | [] => some []
  | (i, x) :: r => match trOpd N M x, partsA N M k r with
    | some y, some l => some ((i * k, k, y) :: l)
    | _, _ => none

def trOpt (N M : Nat → Nat) : Option Operand → Option (Option Opd)
  | none => some none
  | some x => match trOpd N M x with
    | some y => some (some y)
    | none => none

def isInt (P : Program) (t : TypeId) : Bool :=
  match P.underlying t with
  | some (.int _) => true
  | _ => false

def trOp (P : Program) (N M : Nat → Nat) (dst : Option Nat) : Op → Option AOp
  | .move x => (trOpd N M x).map .mov
  | .assign x => (trOpd N M x).map .mov
  | .pick c a b => match trOpd N M c, trOpd N M a, trOpd N M b with
    | some c, some a, some b => some (.pick c a b)
    | _, _, _ => none
  | .alloc t => match zeroOf P t, dst with
    | some z, some d => if z.all V.calm then some (.alloc d z) else none
    | _, _ => none
  | .box t x => match loadT P t, trOpd N M x, dst with
    | some (n, _), some x, some d => some (.box d n x)
    | _, _, _ => none
  | .build t parts => match zeroOf P t, P.underlying t with
    | some z, some (.struct fs) => match partsS P N M fs parts.toList with
      | some l => if fs.all fun f => (sizeT P f.type).isSome then some (.build z l) else none
      | none => none
    | some z, some (.array _ e) => match sizeT P e with
      | some k => match partsA N M k parts.toList with
        | some l => some (.build z l)
        | none => none
      | none => none
    | _, _ => none
  | .buildSlice t len parts => match elemT P t with
    | some (e, k) => match zeroOf P e, partsA N M k parts.toList with
      | some z, some l => if len * k ≤ 16777216 then some (.lit k z len l) else none
      | _, _ => none
    | none => none
  | .load t x => match loadT P t, trOpd N M x with
    | some (n, a), some x => some (.load n a x)
    | _, _ => none
  | .store t x v => match loadT P t, trOpd N M x, trOpd N M v with
    | some (n, _), some x, some v => some (.store n x v)
    | _, _, _ => none
  | .nilCheck x => (trOpd N M x).map .nilck
  | .binOp op t x y _ => match trOpd N M x, trOpd N M y with
    | some x, some y => match P.underlying t with
      | some (.int _) => some (.bin op x y)
      | some .string => some (.bin op x y)
      | _ => match cmpT P t with
        | some (ag, ks) => if op = .eql ∨ op = .neq then some (.eqa ag ks (op == .neq) x y) else none
        | none => none
    | _, _ => none
  | .unOp op _ x => (trOpd N M x).map (.un op)
  | .convert s d x => match trOpd N M x, P.underlying s, P.underlying d with
    | some x, some (.int _), some (.int k) => some (.conv k x)
    | some x, some (.int _), some .string => some (.convs x)
    | some x, some .string, some .string => some (.convs x)
    | _, _, _ => none
  | .makeFunc (.func f) first cap => match mapO (trOpd N M) cap.toList with
    | some l => if N (M f) = f ∧ first.size = 0 then some (.clos (M f) l) else none
    | none => none
  | .makeMap _ none => some .mkmap
  | .makeSlice t n c => match elemT P t with
    | some (e, k) => match zeroOf P e, trOpd N M n, trOpd N M c with
      | some z, some n, some c => if z.all V.calm then some (.make k z n c) else none
      | _, _, _ => none
    | none => none
  | .slice t x lo hi mx => match trOpd N M x, trOpt N M lo, trOpt N M hi, trOpt N M mx with
    | some x, some lo, some hi, some mx => match P.underlying t with
      | some .string => match mx with
        | none => some (.sls x lo hi)
        | some _ => none
      | some (.slice e) => match sizeT P e with
        | some k => match mx, hi with
          | some _, none => none
          | _, _ => some (.sl k x lo hi mx)
        | none => none
      | _ => none
    | _, _, _, _ => none
  | .fieldAddr t x i => match P.underlying t, trOpd N M x with
    | some (.struct fs), some x => match fs[i]? with
      | some f => match sizeT P f.type with
        | some n => if n = 0 then none else some (.fld f.offset x)
        | none => none
      | none => none
    | _, _ => none
  | .field t x i => match P.underlying t, trOpd N M x with
    | some (.struct fs), some x => match fs[i]? with
      | some f => match loadT P f.type with
        | some (n, a) => some (.part f.offset n a x)
        | none => none
      | none => none
    | _, _ => none
  | .indexAddr t x i => match trOpd N M x, trOpd N M i, P.underlying t with
    | some x, some i, some (.slice e) => match sizeT P e with
      | some k => some (.idx k x i)
      | none => none
    | some x, some i, some (.array n e) => match sizeT P e with
      | some k => some (.idxa n k x i)
      | none => none
    | _, _, _ => none
  | .index t x i => match trOpd N M x, trOpd N M i, P.underlying t with
    | some x, some i, some (.array n e) => match loadT P e, sizeT P e with
      | some (k, a), some _ => some (.ixa n k a x i)
      | _, _ => none
    | some x, some i, some .string => some (.ixs x i)
    | _, _, _ => none
  | .lookup t x i ok => match trOpd N M x, trOpd N M i, P.underlying t with
    | some x, some i, some (.map k e) => match zeroV P e, cmpT P k with
      | some z, some (ag, ks) => some (.look ag ks z x i ok)
      | _, _ => none
    | _, _, _ => none
  | .mapUpdate t m k v => match trOpd N M m, trOpd N M k, trOpd N M v, P.underlying t with
    | some m, some k, some v, some (.map kt _) => match cmpT P kt with
      | some (ag, ks) => some (.upd ag ks m k v)
      | none => none
    | _, _, _, _ => none
  | .insert t m k v => match trOpd N M m, trOpd N M k, trOpd N M v, P.underlying t with
    | some m, some k, some v, some (.map kt _) => match cmpT P kt with
      | some (ag, ks) => some (.upd ag ks m k v)
      | none => none
    | _, _, _, _ => none
  | .extract x i => (trOpd N M x).map (.ext · i)
  | .call c => match c.callee, mapO (trOpd N M) c.args.toList with
    | .value f, some args => match trOpd N M f with
      | some f => some (.call f args)
      | none => none
    | .builtin .len, some [x] => match (c.argTypes[0]?).bind P.underlying with
      | some .string => some (.len 1 x)
      | some (.slice _) => some (.len 0 x)
      | some (.map _ _) => some (.len 2 x)
      | _ => none
    | .builtin .append, some [x, y] => match c.argTypes[0]? with
      | some t => match elemT P t with
        | some (_, k) => if c.argTypes = #[t, t] then some (.app k x y) else none
        | none => none
      | none => none
    | .builtin .clear, some [x] => match (c.argTypes[0]?).bind (elemT P) with
      | some (e, k) => match zeroOf P e with
        | some z => some (.clr k z x)
        | none => none
      | none => none
    | .builtin .copy, some [x, y] => match c.argTypes[0]? with
      | some t => match elemT P t with
        | some (_, k) => if c.argTypes = #[t, t] then some (.copy k x y) else none
        | none => none
      | none => none
    | .builtin .min, some args => some (.minmax false args)
    | .builtin .max, some args => some (.minmax true args)
    | _, _ => none
  | .panic _ => some (.minmax true [])
  | .makeInterface _ _ => some (.minmax true [])
  | _ => none

def trGuard (ops : Array Oper) (o : Oper) : Option (Option (Nat × Bool)) :=
  match o.guard with
  | none => some none
  | some (j, b) => match (ops[j]?).bind (·.dst) with
    | some t => some (some (t, b))
    | none => none

def trOper (P : Program) (N M : Nat → Nat) (nt : Nat) (ops : Array Oper) (o : Oper) : Option AOper :=
  match trOp P N M o.dst o.op, trGuard ops o with
  | some q, some g => if o.dst.all (· < nt) then some ⟨o.dst, q, g⟩ else none
  | _, _ => none

/-- What comes ahead of each operation, in whatever order. -/
def aheads : List (List Nat) → List Oper → List (List Nat)
  | acc, [] => acc
  | acc, o :: r =>
    let ds := (o.after.toList.filter (Region.binds .any ·)).map (·.on)
    aheads (acc ++ [ds ++ ds.flatMap fun d => acc.getD d []]) r

/-- Does an operation look at memory; does it turn it? -/
def AOp.looks : AOp → Bool
  | .load .. | .len .. | .look .. | .idx .. | .sl .. => true
  | _ => false

def AOp.turns : AOp → Bool
  | .alloc .. | .box .. | .lit .. | .store .. | .app .. | .make .. | .mkmap | .upd .. | .call .. | .clr .. | .copy .. => true
  | _ => false

def clash (a b : AOp) : Bool := (a.turns && (b.looks || b.turns)) || (b.turns && a.looks)

/-- The earlier operations that an operation is to be held against. -/
def against (as : List AOper) (ah : List Nat) (q : AOper) (n : Nat) : List Nat :=
  (List.range n).filter fun j => !ah.contains j && (match as[j]? with
    | some p => clash p.op q.op
    | none => false)

/-- Each two operations that may change places name no slot that the other one writes; edges point back. -/
def drawOk (ops : List Oper) (as : List AOper) (ahs : List (List Nat)) : Bool :=
  (List.range ops.length).all fun i =>
    match ops[i]?, as[i]?, ahs[i]? with
    | some o, some q, some ah =>
      (o.after.toList.all fun e => !Region.binds .any e || e.on < i) &&
      ((List.range i).all fun j => ah.contains j || (match as[j]? with
        | some p => p.apart q
        | none => false))
    | _, _, _ => false

def zipAgainst (as : List AOper) (ahs : List (List Nat)) : List (AOper × List Nat) :=
  as.zipIdx.map fun (q, i) => (q, against as (ahs.getD i []) q i)

abbrev Ann := List (List Nat × List Nat)

def trCode (P : Program) (N M : Nat → Nat) (nt : Nat) : Code → Ann → Option (AC × Ann)
  | .skip, an => some (.skip, an)
  | .region _ ops draw, an => match an, mapO (trOper P N M nt ops) ops.toList with
    | (kt, kb) :: r, some l =>
      if draw then
        if drawOk ops.toList l (aheads [] ops.toList) then some (.draw (zipAgainst l (aheads [] ops.toList)) kt kb, r) else none
      else some (.region l kt kb, r)
    | _, _ => none
  | .seq a b, an => match trCode P N M nt a an with
    | some (x, an') => match trCode P N M nt b an' with
      | some (y, an'') => some (.seq x y, an'')
      | none => none
    | none => none
  | .cond c a b, an => match trOpd N M c, trCode P N M nt a an with
    | some c, some (x, an') => match trCode P N M nt b an' with
      | some (y, an'') => some (.cond c x y, an'')
      | none => none
    | _, _ => none
  | .block id a, an => match trCode P N M nt a an with
    | some (x, an') => some (.block id x, an')
    | none => none
  | .loop a, an => match an with
    | (kt, kb) :: r => match trCode P N M nt a r with
      | some (x, an') => some (.loop (.mask kt kb x), an')
      | none => none
    | [] => none
  | .exit id, an => some (.exit id, an)
  | .ret, an => some (.ret, an)
  | _, _ => none

def trRes (P : Program) : ResultVar → Option RVar
  | .tmp t => some (.tmp t)
  | .cell a t => match loadT P t with
    | some (n, b) => some (.cell a n b)
    | none => none

/-- The program's function number F is ours: its text read so. -/
def FnOk (P : Program) (N M : Nat → Nat) (F : Nat) (an : Ann) (fn : AFunc) : Prop :=
  ∃ go code, P.funcs[F]? = some go ∧ go.body = some code ∧ (go.name == "runtime.NumGoroutine") = false ∧
    fn.nargs ≤ go.ntmps ∧ trCode P N M go.ntmps code an = some (fn.body, []) ∧ mapO (trRes P) go.results.toList = some fn.results

end Go.Pv

/-
  What a value of the interpreter stands for in the machine's memory, and what keeps it so.
-/
namespace Go.Pv

/-- Which blocks no store hits: under tag 0 for good, under tag 1 for the time of a call. -/
abbrev Lx := Nat → Nat → Prop

def lentAt (L : Lx) (t b : Nat) : Prop := L 0 b ∨ (t ≠ 0 ∧ L 1 b)

def PV.one : PV → Bool
  | .agg _ | .fr _ _ => false
  | _ => true

/-- May be laid into a cell. -/
def PV.calm : PV → Bool
  | .ro _ _ | .agg _ | .fr _ _ => false
  | .func _ cap => cap.isEmpty
  | _ => true

theorem PV.calm_v (p : PV) : (V.pv p).calm = p.calm := by cases p <;> rfl

theorem PV.calm_one {p : PV} (h : p.calm = true) : p.one = true := by cases p <;> simp [PV.calm, PV.one] at *

def at2 {α : Type} (rows : List (List α)) (i j : Nat) : Option α := (rows[i]?).bind (·[j]?)

inductive PVR (N : Nat → Nat) (L : Lx) (w : World) : PV → Value → Prop
  | bool (b : Bool) : PVR N L w (.bool b) (.bool b)
  | int (k : IntKind) (n : Int) : PVR N L w (.int k n) (.int k n)
  | str (s : ByteArray) : PVR N L w (.str s) (.string s)
  | nilp : PVR N L w .nilp (.pointer none)
  | nilf : PVR N L w .nilf .nilFunc
  | lst (t : Nat) (rows : List (List PV)) (a : Option Addr) (ad : Addr) (cap k : Nat) (vs : Nat → Nat → Value)
      (hk : ∀ r ∈ rows, r.length = k) (hc : rows.length ≤ cap) (ha : 0 < rows.length → a = some ad ∧ ad.spot = none ∧ lentAt L t ad.block)
      (hcell : ∀ i j c, at2 rows i j = some c → w.cell? ⟨ad.block, ad.off + (i * k + j), none⟩ = some (vs i j))
      (hv : ∀ i j c, at2 rows i j = some c → PVR N L w c (vs i j)) (hp : t ≤ 1 → ∀ i j c, at2 rows i j = some c → c.perm = true)
      (h1 : ∀ i j c, at2 rows i j = some c → c.calm = true) : PVR N L w (.lst t rows) (.slice a rows.length cap)
  | ro (t : Nat) (cs : List PV) (b off : Nat) (vs : Nat → Value) (ha : 0 < cs.length → lentAt L t b)
      (hcell : ∀ (j : Nat) (c : PV), cs[j]? = some c → w.cell? ⟨b, off + j, none⟩ = some (vs j)) (hv : ∀ (j : Nat) (c : PV), cs[j]? = some c → PVR N L w c (vs j))
      (h1 : ∀ c ∈ cs, c.one = true) : PVR N L w (.ro t cs) (.pointer (some ⟨b, off, none⟩))
  | func (f : Nat) (cap : List PV) (arr : Array Value) (hs : arr.size = cap.length) (hv : ∀ (j : Nat) (c : PV), cap[j]? = some c → PVR N L w c (arr.getD j undef)) :
      PVR N L w (.func f cap) (.func (.func (N f)) #[] arr)
  | agg (cs : List PV) (arr : Array Value) (hs : arr.size = cs.length) (hv : ∀ (j : Nat) (c : PV), cs[j]? = some c → PVR N L w c (arr.getD j undef))
      (h1 : ∀ c ∈ cs, c.one = true) : PVR N L w (.agg cs) (.agg arr)

theorem cell_same {w w' : World} {b o : Nat} (h : w'.heap[b]? = w.heap[b]?) : w'.cell? ⟨b, o, none⟩ = w.cell? ⟨b, o, none⟩ := by simp [World.cell?, h]

theorem at2_len {α : Type} {rows : List (List α)} {i j : Nat} {c : α} (h : at2 rows i j = some c) : i < rows.length := by
  unfold at2 at h
  rcases Nat.lt_or_ge i rows.length with h1 | h1
  · exact h1
  · simp [List.getElem?_eq_none h1] at h

theorem lentAt.mono {L L' : Lx} {t b : Nat} (hL : ∀ t b, L t b → L' t b) (h : lentAt L t b) : lentAt L' t b := by
  rcases h with h | ⟨h, h'⟩
  · exact .inl (hL _ _ h)
  · exact .inr ⟨h, hL _ _ h'⟩

theorem PVR.mono {N : Nat → Nat} {L L' : Lx} {w w' : World} {p : PV} {v : Value} (h : PVR N L w p v) (hL : ∀ t b, L t b → L' t b)
    (hw : ∀ t b, L t b → w'.heap[b]? = w.heap[b]?) : PVR N L' w' p v := by
  induction h with
  | bool b => exact .bool b
  | int k n => exact .int k n
  | str s => exact .str s
  | nilp => exact .nilp
  | nilf => exact .nilf
  | lst t rows a ad cap k vs hk hc ha hcell hv hp h1 ih =>
    refine .lst t rows a ad cap k vs hk hc (fun h => ⟨(ha h).1, (ha h).2.1, (ha h).2.2.mono hL⟩) (fun i j c hc' => ?_) ih hp h1
    have hl : lentAt L t ad.block := (ha (Nat.lt_of_le_of_lt (Nat.zero_le _) (at2_len hc'))).2.2
    have hs : w'.heap[ad.block]? = w.heap[ad.block]? := by
      rcases hl with hl | ⟨_, hl⟩ <;> exact hw _ _ hl
    rw [cell_same hs]; exact hcell i j c hc'
  | ro t cs b off vs ha hcell hv h1 ih =>
    refine .ro t cs b off vs (fun h => (ha h).mono hL) (fun j c hc' => ?_) ih h1
    have hl : lentAt L t b := ha (by
      rcases Nat.lt_or_ge j cs.length with h2 | h2
      · omega
      · simp [List.getElem?_eq_none h2] at hc')
    have hs : w'.heap[b]? = w.heap[b]? := by
      rcases hl with hl | ⟨_, hl⟩ <;> exact hw _ _ hl
    rw [cell_same hs]; exact hcell j c hc'
  | func f cap arr hs hv ih => exact .func f cap arr hs ih
  | agg cs arr hs hv h1 ih => exact .agg cs arr hs ih h1

theorem PV.perm_one {p : PV} (h : p.perm = true) : p.one = true := by
  cases p <;> simp [PV.perm, PV.one] at *

/-- A cell that stays hangs on tag 0 alone. -/
theorem PVR.perm0 {N : Nat → Nat} {L L' : Lx} {w w' : World} {p : PV} {v : Value} (h : PVR N L w p v) (hp : p.perm = true)
    (hL : ∀ b, L 0 b → L' 0 b ∧ w'.heap[b]? = w.heap[b]?) : PVR N L' w' p v := by
  induction h with
  | bool b => exact .bool b
  | int k n => exact .int k n
  | str s => exact .str s
  | nilp => exact .nilp
  | nilf => exact .nilf
  | lst t rows a ad cap k vs hk hc ha hcell hv hp' h1 ih =>
    have ht : t = 0 := by simpa [PV.perm] using hp
    subst ht
    have hpp := hp' (by omega)
    refine .lst 0 rows a ad cap k vs hk hc (fun h => ⟨(ha h).1, (ha h).2.1, ?_⟩) (fun i j c hc' => ?_) (fun i j c hc' => ih i j c hc' (hpp i j c hc')) (fun _ => hpp) h1
    · rcases (ha h).2.2 with hl | ⟨hl, _⟩
      · exact .inl (hL _ hl).1
      · exact absurd rfl hl
    · have hl := (ha (Nat.lt_of_le_of_lt (Nat.zero_le _) (at2_len hc'))).2.2
      have hs : w'.heap[ad.block]? = w.heap[ad.block]? := by
        rcases hl with hl | ⟨hl, _⟩
        · exact (hL _ hl).2
        · exact absurd rfl hl
      rw [cell_same hs]; exact hcell i j c hc'
  | ro t cs b off vs ha hcell hv h1 ih => simp [PV.perm] at hp
  | func f cap arr hs hv ih =>
    have hc : cap = [] := by simpa [PV.perm] using hp
    subst hc
    exact .func f [] arr hs (fun j c hc => by simp at hc)
  | agg cs arr hs hv h1 ih => simp [PV.perm] at hp

/-- Where a call's own boxes, arrays and maps lie. -/
structure Emb where
  sl : Nat → Prop
  bx : Nat → Nat
  na : Nat
  ar : Nat → Nat
  ad : Nat → Nat
  cap : Nat → Nat
  av : Nat → Nat
  ak : Nat → Nat
  an : Nat → Nat
  nm : Nat
  mp : Nat → Nat

/-- Cells that a store would find ready. -/
def Soft (w : World) (a : Option Addr) (n : Nat) : Prop := 0 < n → ∀ ad, a = some ad → ∃ arr ty, w.heap[ad.block]? = some (.cells arr ty (0, 0))
theorem Soft.nil {w : World} {a : Option Addr} : Soft w a 0 := fun h => absurd h (Nat.lt_irrefl 0)

inductive VR (N : Nat → Nat) (L : Lx) (e : Emb) (w : World) : V → Value → Prop
  | pv (p : PV) (v : Value) (h : PVR N L w p v) : VR N L e w (.pv p) v
  | tl (rows : List (List PV)) (a : Option Addr) (h : PVR N L w (.lst 0 rows) (.slice a rows.length rows.length)) (hs : Soft w a rows.length) : VR N L e w (.tl rows) (.slice a rows.length rows.length)
  | own (id ver off len : Nat) (a : Option Addr) (cap : Nat) (h0 : 0 < len → a.isSome = true) (h1 : id < e.na) (h2 : ver ≤ e.av id)
      (h3 : ver = e.av id → off + len ≤ e.an id ∧ len ≤ cap ∧ off + cap ≤ e.cap id ∧ (0 < cap → a = some ⟨e.ar id, e.ad id + off * e.ak id, none⟩)) : VR N L e w (.own id ver off len) (.slice a len cap)
  | ptr (s off : Nat) (h : e.sl s) : VR N L e w (.ptr s off) (.pointer (some ⟨e.bx s, off, none⟩))
  | aptr (id ver row col : Nat) (a : Addr) (h1 : id < e.na) (h2 : ver ≤ e.av id) (h3 : ver = e.av id → a = ⟨e.ar id, e.ad id + (row * e.ak id + col), none⟩) :
      VR N L e w (.aptr id ver row col) (.pointer (some a))
  | func (f : Nat) (cap : List V) (arr : Array Value) (hs : arr.size = cap.length) (hv : ∀ (j : Nat) (c : V), cap[j]? = some c → VR N L e w c (arr.getD j undef)) :
      VR N L e w (.func f cap) (.func (.func (N f)) #[] arr)
  | map (id : Nat) (h : id < e.nm) : VR N L e w (.map id) (.map (some (e.mp id)))
  | nilm : VR N L e w .nilm (.map none)
  | agg (cs : List V) (arr : Array Value) (hs : arr.size = cs.length) (hv : ∀ (j : Nat) (c : V), cs[j]? = some c → VR N L e w c (arr.getD j undef)) : VR N L e w (.agg cs) (.agg arr)
  | tup (cs : List V) (arr : Array Value) (hs : arr.size = cs.length) (hv : ∀ (j : Nat) (c : V), cs[j]? = some c → VR N L e w c (arr.getD j undef)) : VR N L e w (.tup cs) (.tuple arr)
  | any (v : Value) : VR N L e w .any v

structure Ext (L : Lx) (e : Emb) (w : World) (L' : Lx) (e' : Emb) (w' : World) : Prop where
  sub : ∀ t b, L t b → L' t b
  kept : ∀ t b, L t b → w'.heap[b]? = w.heap[b]?
  sl : ∀ s, e.sl s → e'.sl s ∧ e'.bx s = e.bx s
  na : e.na ≤ e'.na
  av : ∀ id, id < e.na → e.av id ≤ e'.av id ∧ (e'.av id = e.av id → e'.ar id = e.ar id ∧ e'.ad id = e.ad id ∧ e'.cap id = e.cap id ∧ e'.ak id = e.ak id ∧ e'.an id = e.an id)
  nm : e.nm ≤ e'.nm
  mp : ∀ id, id < e.nm → e'.mp id = e.mp id

theorem Ext.refl (L : Lx) (e : Emb) (w : World) : Ext L e w L e w :=
  ⟨fun _ _ h => h, fun _ _ _ => rfl, fun _ h => ⟨h, rfl⟩, Nat.le_refl _, fun _ _ => ⟨Nat.le_refl _, fun _ => ⟨rfl, rfl, rfl, rfl, rfl⟩⟩, Nat.le_refl _, fun _ _ => rfl⟩

theorem Ext.trans {L L' L'' : Lx} {e e' e'' : Emb} {w w' w'' : World} (h : Ext L e w L' e' w') (k : Ext L' e' w' L'' e'' w'') : Ext L e w L'' e'' w'' := by
  refine ⟨fun t b hb => k.sub _ _ (h.sub _ _ hb), fun t b hb => (k.kept _ _ (h.sub _ _ hb)).trans (h.kept _ _ hb), fun s hs => ?_, Nat.le_trans h.na k.na, fun id hid => ?_, Nat.le_trans h.nm k.nm, fun id hid => ?_⟩
  · obtain ⟨h1, h2⟩ := h.sl s hs
    obtain ⟨h3, h4⟩ := k.sl s h1
    exact ⟨h3, h4.trans h2⟩
  · obtain ⟨h1, h2⟩ := h.av id hid
    obtain ⟨h3, h4⟩ := k.av id (Nat.lt_of_lt_of_le hid h.na)
    refine ⟨Nat.le_trans h1 h3, fun he => ?_⟩
    have e1 : e'.av id = e.av id := by omega
    have e2 : e''.av id = e'.av id := by omega
    obtain ⟨a1, a2, a3, a4, a5⟩ := h2 e1
    obtain ⟨b1, b2, b3, b4, b5⟩ := h4 e2
    exact ⟨b1.trans a1, b2.trans a2, b3.trans a3, b4.trans a4, b5.trans a5⟩
  · exact (k.mp id (Nat.lt_of_lt_of_le hid h.nm)).trans (h.mp id hid)

theorem VR.mono {N : Nat → Nat} {L L' : Lx} {e e' : Emb} {w w' : World} {x : V} {v : Value} (h : VR N L e w x v) (hx : Ext L e w L' e' w') : VR N L' e' w' x v := by
  induction h with
  | pv p v h => exact .pv p v (h.mono hx.sub hx.kept)
  | tl rows a h hs =>
    refine .tl rows a (h.mono hx.sub hx.kept) (fun hn ad' had => ?_)
    cases h with
    | lst _ _ _ ad _ _ _ _ _ ha _ _ _ _ =>
      obtain ⟨h1, _, h3⟩ := ha hn
      rw [h1] at had
      injection had with had
      subst had
      obtain ⟨arr, ty, g⟩ := hs hn ad h1
      refine ⟨arr, ty, ?_⟩
      rcases h3 with h3 | ⟨h3, _⟩
      · rw [hx.kept _ _ h3]; exact g
      · exact absurd rfl h3
  | own id ver off len a cap h0 h1 h2 h3 =>
    obtain ⟨g1, g2⟩ := hx.av id h1
    refine .own id ver off len a cap h0 (Nat.lt_of_lt_of_le h1 hx.na) (Nat.le_trans h2 g1) (fun he => ?_)
    obtain ⟨a1, a2, a3, a4, a5⟩ := g2 (by omega)
    rw [a1, a2, a3, a4, a5]
    exact h3 (by omega)
  | ptr s off h =>
    obtain ⟨g1, g2⟩ := hx.sl s h
    rw [← g2]; exact .ptr s off g1
  | aptr id ver row col a h1 h2 h3 =>
    obtain ⟨g1, g2⟩ := hx.av id h1
    refine .aptr id ver row col a (Nat.lt_of_lt_of_le h1 hx.na) (Nat.le_trans h2 g1) (fun he => ?_)
    obtain ⟨a1, a2, a3, a4, a5⟩ := g2 (by omega)
    rw [a1, a2, a4]
    exact h3 (by omega)
  | func f cap arr hs hv ih => exact .func f cap arr hs ih
  | map id h => rw [← hx.mp id h]; exact .map id (Nat.lt_of_lt_of_le h hx.nm)
  | nilm => exact .nilm
  | agg cs arr hs hv ih => exact .agg cs arr hs ih
  | tup cs arr hs hv ih => exact .tup cs arr hs ih
  | any v => exact .any v

/-- A block of cells that may be written, of n cells at least. -/
def Block (w : World) (b n : Nat) : Prop := ∃ arr ty, w.heap[b]? = some (.cells arr ty (0, 0)) ∧ n ≤ arr.size

def CellsAt (N : Nat → Nat) (L : Lx) (e : Emb) (w : World) (b off : Nat) (cs : List V) : Prop :=
  ∀ (j : Nat) (c : V), cs[j]? = some c → c.calm = true ∧ ∃ v, w.cell? ⟨b, off + j, none⟩ = some v ∧ VR N L e w c v

def permBody : Sum (List (List PV)) (List (List V)) → Prop
  | .inl rows => ∀ r ∈ rows, ∀ c ∈ r, c.perm = true
  | .inr _ => True

/-- A key, and a value that stays. -/
def EntryR (N : Nat → Nat) (L : Lx) (w : World) (p : PV × PV) (m : MapEntry) : Prop := PVR N L w p.1 m.key ∧ PVR N L w p.2 m.val ∧ p.2.perm = true

def keyLike : PV → Bool
  | .bool _ | .int _ _ | .str _ => true
  | .agg cs => cs.all fun | .bool _ | .int _ _ | .str _ => true | _ => false
  | _ => false

structure HR (N : Nat → Nat) (L : Lx) (e : Emb) (W : Nat → Prop) (h : Heap) (w : World) : Prop where
  sl : ∀ s, e.sl s ↔ (look1 s h.bx).isSome = true
  bx : ∀ s cs, look1 s h.bx = some cs → Block w (e.bx s) cs.length ∧ CellsAt N L e w (e.bx s) 0 cs
  na : e.na = h.ar.length
  ver : ∀ (id : Nat) (a : Arr), h.ar[id]? = some a → e.av id = a.ver ∧ e.ak id = a.k ∧ e.an id = a.size ∧ (a.k = 0 → a.rows = [])
  ar : ∀ (id : Nat) (a : Arr), h.ar[id]? = some a → a.k ≠ 0 → a.size ≤ e.cap id ∧ Block w (e.ar id) (e.ad id + e.cap id * a.k) ∧ (∀ r ∈ a.rows, r.length = a.k) ∧
    (∀ i r, a.rows[i]? = some r → CellsAt N L e w (e.ar id) (e.ad id + i * a.k) r) ∧ permBody a.body
  nm : e.nm = h.mp.length
  mp : ∀ (id : Nat) (m : List (PV × PV)), h.mp[id]? = some m → ∃ es clock, w.heap[e.mp id]? = some (.map es clock) ∧ es.size = m.length ∧
    ∀ (i : Nat) (p : PV × PV), m[i]? = some p → keyLike p.1 = true ∧ ∃ x, es[i]? = some x ∧ EntryR N L w p x
  wbx : ∀ s, e.sl s → W (e.bx s) ∧ ∀ t, ¬ L t (e.bx s)
  war : ∀ id, id < e.na → e.ak id ≠ 0 → W (e.ar id) ∧ ∀ t, ¬ L t (e.ar id)
  wmp : ∀ id, id < e.nm → W (e.mp id) ∧ ∀ t, ¬ L t (e.mp id)
  dbx : ∀ s s', e.sl s → e.sl s' → e.bx s = e.bx s' → s = s'
  dba : ∀ s id, e.sl s → id < e.na → e.ak id ≠ 0 → e.bx s ≠ e.ar id
  daa : ∀ i j, i < e.na → j < e.na → e.ak i ≠ 0 → e.ak j ≠ 0 → e.ar i = e.ar j → i = j
  dmm : ∀ i j, i < e.nm → j < e.nm → e.mp i = e.mp j → i = j
  lsz : ∀ t b, L t b → b < w.heap.size
  wide : ∀ b, w.heap.size ≤ b → W b

/-- What is not ours to write is as it was. -/
structure Fr (W : Nat → Prop) (w w' : World) : Prop where
  os : w'.os = w.os
  tape : w'.tape = w.tape
  output : w'.output = w.output
  size : w.heap.size ≤ w'.heap.size
  kept : ∀ b, b < w.heap.size → ¬ W b → w'.heap[b]? = w.heap[b]?
  drawn : w.drawn ≤ w'.drawn

theorem Fr.refl (W : Nat → Prop) (w : World) : Fr W w w := ⟨rfl, rfl, rfl, Nat.le_refl _, fun _ _ _ => rfl, Nat.le_refl _⟩

theorem Fr.trans {W : Nat → Prop} {a b c : World} (h : Fr W a b) (k : Fr W b c) : Fr W a c :=
  ⟨k.os.trans h.os, k.tape.trans h.tape, k.output.trans h.output, Nat.le_trans h.size k.size, fun i hi hw => (k.kept i (Nat.lt_of_lt_of_le hi h.size) hw).trans (h.kept i hi hw), Nat.le_trans h.drawn k.drawn⟩

/-- One step on: what holds of the new state. -/
structure Nx (N : Nat → Nat) (W : Nat → Prop) (L : Lx) (e : Emb) (w : World) (L' : Lx) (e' : Emb) (h' : Heap) (w' : World) : Prop where
  hr : HR N L' e' W h' w'
  ext : Ext L e w L' e' w'
  fr : Fr W w w'
  new : ∀ t b, L' t b → L t b ∨ (t = 0 ∧ W b)

theorem Nx.refl {N : Nat → Nat} {W : Nat → Prop} {L : Lx} {e : Emb} {w : World} {h : Heap} (hr : HR N L e W h w) : Nx N W L e w L e h w :=
  ⟨hr, Ext.refl _ _ _, Fr.refl _ _, fun _ _ h => .inl h⟩

theorem Nx.trans {N : Nat → Nat} {W : Nat → Prop} {L L' L'' : Lx} {e e' e'' : Emb} {w w' w'' : World} {h' h'' : Heap} (h : Nx N W L e w L' e' h' w') (k : Nx N W L' e' w' L'' e'' h'' w'') : Nx N W L e w L'' e'' h'' w'' :=
  ⟨k.hr, h.ext.trans k.ext, h.fr.trans k.fr, fun t b hb => by
    rcases k.new t b hb with hb | hb
    · exact h.new t b hb
    · exact .inr hb⟩

end Go.Pv

/-
  The steps that the state of a call may take: a new block, a new box, a store into a box or an array, an array that grows, a map.
-/
namespace Go.Pv
variable {N : Nat → Nat} {W : Nat → Prop} {L L' : Lx} {e e' : Emb} {h : Heap} {w w' : World}

theorem Block.out {b n : Nat} (k : Block w b n) : ∃ arr ty, w.heap[b]? = some (.cells arr ty (0, 0)) ∧ n ≤ arr.size := k

theorem Block.same {b n : Nat} (k : Block w b n) (hs : w'.heap[b]? = w.heap[b]?) : Block w' b n := by
  obtain ⟨arr, ty, h1, h2⟩ := k
  exact ⟨arr, ty, hs.trans h1, h2⟩

theorem Block.le {b n m : Nat} (k : Block w b n) (hm : m ≤ n) : Block w b m := by
  obtain ⟨arr, ty, h1, h2⟩ := k
  exact ⟨arr, ty, h1, by omega⟩

theorem Block.lt {b n : Nat} (k : Block w b n) : b < w.heap.size := by
  obtain ⟨arr, ty, h1, _⟩ := k
  exact (Array.getElem?_eq_some_iff.1 h1).1

theorem CellsAt.mono {b off : Nat} {cs : List V} (k : CellsAt N L e w b off cs) (hx : Ext L e w L' e' w') (hs : w'.heap[b]? = w.heap[b]?) : CellsAt N L' e' w' b off cs := by
  intro j c hc
  obtain ⟨h1, v, h2, h3⟩ := k j c hc
  exact ⟨h1, v, (cell_same hs).trans h2, h3.mono hx⟩

theorem EntryR.mono {p : PV × PV} {m : MapEntry} (k : EntryR N L w p m) (hx : Ext L e w L' e' w') : EntryR N L' w' p m :=
  ⟨k.1.mono hx.sub hx.kept, k.2.1.mono hx.sub hx.kept, k.2.2⟩

/-- Blocks that stay. -/
theorem heap_alloc_lt (o : Obj) {b : Nat} (hb : b < w.heap.size) : (w.alloc o).heap[b]? = w.heap[b]? := by
  show (w.heap.push o)[b]? = _
  rw [Array.getElem?_push, if_neg (by omega)]

theorem Fr.alloc (o : Obj) : Fr W w (w.alloc o) := ⟨rfl, rfl, rfl, by simp, fun _ hb _ => heap_alloc_lt o hb, Nat.le_refl _⟩

theorem Ext.alloc (hl : ∀ t b, L t b → b < w.heap.size) (o : Obj) : Ext L e w L e (w.alloc o) :=
  { Ext.refl L e w with kept := fun _ _ hb => heap_alloc_lt o (hl _ _ hb) }

theorem HR.lt_bx (hr : HR N L e W h w) {s : Nat} (hs : e.sl s) : e.bx s < w.heap.size := by
  obtain ⟨cs, hcs⟩ := Option.isSome_iff_exists.1 ((hr.sl s).1 hs)
  exact (hr.bx s cs hcs).1.lt

theorem HR.get_ar (hr : HR N L e W h w) {id : Nat} (hi : id < e.na) : ∃ a, h.ar[id]? = some a ∧ e.av id = a.ver ∧ e.ak id = a.k ∧ e.an id = a.size ∧ (a.k = 0 → a.rows = []) := by
  have hi' : id < h.ar.length := by rw [← hr.na]; exact hi
  exact ⟨h.ar[id], List.getElem?_eq_getElem hi', hr.ver id _ (List.getElem?_eq_getElem hi')⟩

theorem HR.lt_ar (hr : HR N L e W h w) {id : Nat} (hi : id < e.na) (hk : e.ak id ≠ 0) : e.ar id < w.heap.size := by
  obtain ⟨a, ha, _, h2, _, _⟩ := hr.get_ar hi
  exact (hr.ar id a ha (by rw [← h2]; exact hk)).2.1.lt

theorem HR.get_mp (hr : HR N L e W h w) {id : Nat} (hi : id < e.nm) : ∃ m, h.mp[id]? = some m := by
  have hi' : id < h.mp.length := by rw [← hr.nm]; exact hi
  exact ⟨h.mp[id], List.getElem?_eq_getElem hi'⟩

theorem HR.lt_mp (hr : HR N L e W h w) {id : Nat} (hi : id < e.nm) : e.mp id < w.heap.size := by
  obtain ⟨m, hm⟩ := hr.get_mp hi
  obtain ⟨es, cl, h1, _⟩ := hr.mp id m hm
  exact (Array.getElem?_eq_some_iff.1 h1).1

/-- A world in which all that is owned, and all that stays, is as it was: new blocks, new draws. -/
theorem HR.quiet (hr : HR N L e W h w) (hs : ∀ b, b < w.heap.size → w'.heap[b]? = w.heap[b]?) (hz : w.heap.size ≤ w'.heap.size)
    (hsub : ∀ t b, L t b → L' t b) (hnew : ∀ t b, L' t b → L t b ∨ (w.heap.size ≤ b ∧ b < w'.heap.size)) : HR N L' e W h w' ∧ Ext L e w L' e w' := by
  have hx : Ext L e w L' e w' := { Ext.refl L e w with sub := hsub, kept := fun _ _ hb => hs _ (hr.lsz _ _ hb) }
  refine ⟨⟨hr.sl, fun s cs hc => ?_, hr.na, hr.ver, fun id a ha hk => ?_, hr.nm, fun id m hm => ?_, fun s hs' => ?_, fun id hi hk => ?_, fun id hi => ?_, hr.dbx, hr.dba, hr.daa, hr.dmm, fun t b hb => ?_, fun b hb => hr.wide b (by omega)⟩, hx⟩
  · obtain ⟨h1, h2⟩ := hr.bx s cs hc
    have := hs _ h1.lt
    exact ⟨h1.same this, h2.mono hx this⟩
  · obtain ⟨h1, h2, h3, h4, h5⟩ := hr.ar id a ha hk
    have := hs _ h2.lt
    exact ⟨h1, h2.same this, h3, fun i r hi => (h4 i r hi).mono hx this, h5⟩
  · obtain ⟨es, cl, h1, h2, h3⟩ := hr.mp id m hm
    have hlt := (Array.getElem?_eq_some_iff.1 h1).1
    refine ⟨es, cl, (hs _ hlt).trans h1, h2, fun i p hp => ?_⟩
    obtain ⟨g1, x, g2, g3⟩ := h3 i p hp
    exact ⟨g1, x, g2, g3.mono hx⟩
  · refine ⟨(hr.wbx s hs').1, fun t hl => ?_⟩
    rcases hnew _ _ hl with hl | hl
    · exact (hr.wbx s hs').2 t hl
    · have := hr.lt_bx hs'; omega
  · refine ⟨(hr.war id hi hk).1, fun t hl => ?_⟩
    rcases hnew _ _ hl with hl | hl
    · exact (hr.war id hi hk).2 t hl
    · have := hr.lt_ar hi hk; omega
  · refine ⟨(hr.wmp id hi).1, fun t hl => ?_⟩
    rcases hnew _ _ hl with hl | hl
    · exact (hr.wmp id hi).2 t hl
    · have := hr.lt_mp hi; omega
  · rcases hnew _ _ hb with hb | hb
    · exact Nat.lt_of_lt_of_le (hr.lsz _ _ hb) hz
    · omega

theorem Fr.drew : Fr W w w.drew := ⟨rfl, rfl, rfl, Nat.le_refl _, fun _ _ _ => rfl, Nat.le_succ _⟩

theorem Nx.drew (hr : HR N L e W h w) : Nx N W L e w L e h w.drew := by
  obtain ⟨h1, h2⟩ := hr.quiet (w' := w.drew) (L' := L) (fun _ _ => rfl) (Nat.le_refl _) (fun _ _ hb => hb) (fun _ _ hb => .inl hb)
  exact ⟨h1, h2, Fr.drew, fun _ _ hb => .inl hb⟩

/-- A new block that stays. -/
def Lx.add (L : Lx) (c : Nat) : Lx := fun t b => L t b ∨ (t = 0 ∧ b = c)

theorem Nx.still (hr : HR N L e W h w) (o : Obj) : Nx N W L e w (L.add w.heap.size) e h (w.alloc o) := by
  obtain ⟨h1, h2⟩ := hr.quiet (w' := w.alloc o) (L' := L.add w.heap.size) (fun _ hb => heap_alloc_lt o hb) (by simp) (fun _ _ hb => .inl hb)
    (fun t b hb => by
      rcases hb with hb | ⟨_, rfl⟩
      · exact .inl hb
      · exact .inr ⟨Nat.le_refl _, by simp⟩)
  refine ⟨h1, h2, Fr.alloc o, fun t b hb => ?_⟩
  rcases hb with hb | ⟨h0, rfl⟩
  · exact .inl hb
  · exact .inr ⟨h0, hr.wide _ (Nat.le_refl _)⟩

/-- A new block, whose we do not say. -/
theorem Nx.idle (hr : HR N L e W h w) (o : Obj) : Nx N W L e w L e h (w.alloc o) := by
  obtain ⟨h1, h2⟩ := hr.quiet (w' := w.alloc o) (L' := L) (fun _ hb => heap_alloc_lt o hb) (by simp) (fun _ _ hb => hb) (fun _ _ hb => .inl hb)
  exact ⟨h1, h2, Fr.alloc o, fun _ _ hb => .inl hb⟩

theorem look1_set {α : Type} (s t : Nat) (c : List V) : ∀ bx : List (Nat × List V), look1 t (bxSet s c bx) = if s = t then some c else look1 t bx
  | [] => by simp [bxSet, look1]
  | (u, d) :: r => by
    unfold bxSet
    by_cases hu : u = s
    · subst hu
      rw [if_pos rfl]
      unfold look1
      split <;> rfl
    · rw [if_neg hu]
      unfold look1
      rw [look1_set (α := α) s t c r]
      by_cases ht : u = t
      · rw [if_pos ht, if_pos ht, if_neg (by omega)]
      · rw [if_neg ht, if_neg ht]

def upd1 {α : Type} (f : Nat → α) (i : Nat) (x : α) : Nat → α := fun j => if j = i then x else f j
theorem upd1_same {α : Type} (f : Nat → α) (i : Nat) (x : α) : upd1 f i x i = x := by simp [upd1]
theorem upd1_other {α : Type} (f : Nat → α) {i j : Nat} (x : α) (hne : j ≠ i) : upd1 f i x j = f j := by simp [upd1, hne]

/-- A new box. -/
def Emb.addBx (e : Emb) (s b : Nat) : Emb := { e with sl := fun t => e.sl t ∨ t = s, bx := upd1 e.bx s b }

theorem Nx.newBox (hr : HR N L e W h w) {s : Nat} (hs : look1 s h.bx = none) {cs : List V} {arr : Array Value} (ty : TypeId) (hz : arr.size = cs.length)
    (hc : ∀ (j : Nat) (c : V), cs[j]? = some c → c.calm = true ∧ VR N L e w c (arr.getD j undef)) :
    Nx N W L e w L (e.addBx s w.heap.size) { h with bx := bxSet s cs h.bx } (w.alloc (.cells arr ty)) := by
  have hns : ¬ e.sl s := fun hh => by have := (hr.sl s).1 hh; simp [hs] at this
  have hne : ∀ t, e.sl t → t ≠ s := fun t ht he => hns (he ▸ ht)
  have hx : Ext L e w L (e.addBx s w.heap.size) (w.alloc (.cells arr ty)) :=
    { sub := fun _ _ hb => hb, kept := fun _ _ hb => heap_alloc_lt _ (hr.lsz _ _ hb), sl := fun t ht => ⟨.inl ht, upd1_other _ _ (hne _ ht)⟩, na := Nat.le_refl _,
      av := fun _ _ => ⟨Nat.le_refl _, fun _ => ⟨rfl, rfl, rfl, rfl, rfl⟩⟩, nm := Nat.le_refl _, mp := fun _ _ => rfl }
  have hnew : (w.alloc (.cells arr ty)).heap[w.heap.size]? = some (.cells arr ty (0, 0)) := heap_alloc_new w _
  refine ⟨⟨fun t => ?_, fun t ds hd => ?_, hr.na, hr.ver, fun id a ha hk => ?_, hr.nm, fun id m hm => ?_, fun t ht => ?_, hr.war, hr.wmp, fun t u ht hu heq => ?_, fun t id ht hi hk => ?_, hr.daa, hr.dmm,
    fun t b hb => by have := hr.lsz t b hb; simp; omega, fun b hb => hr.wide b (by simp at hb; omega)⟩, hx, Fr.alloc _, fun _ _ hb => .inl hb⟩
  · show e.sl t ∨ t = s ↔ _
    rw [look1_set (α := Unit)]
    by_cases ht : s = t
    · subst ht; simp
    · rw [if_neg ht, hr.sl t]
      simp [Ne.symm ht]
  · rw [look1_set (α := Unit)] at hd
    by_cases ht : s = t
    · subst ht
      rw [if_pos rfl] at hd
      injection hd with hd
      subst hd
      show Block _ (upd1 e.bx s w.heap.size s) _ ∧ CellsAt _ _ _ _ (upd1 e.bx s w.heap.size s) _ _
      rw [upd1_same]
      refine ⟨⟨arr, ty, hnew, by omega⟩, fun j c hj => ?_⟩
      obtain ⟨g1, g2⟩ := hc j c hj
      have hjl : j < arr.size := by rw [hz]; exact (List.getElem?_eq_some_iff.1 hj).1
      refine ⟨g1, arr.getD j undef, ?_, g2.mono hx⟩
      rw [cell_of_row _ _ _ _ _ _ hnew]
      simp [Array.getD, hjl]
    · rw [if_neg ht] at hd
      obtain ⟨h1, h2⟩ := hr.bx t ds hd
      show Block _ (upd1 e.bx s w.heap.size t) _ ∧ CellsAt _ _ _ _ (upd1 e.bx s w.heap.size t) _ _
      rw [upd1_other _ _ (Ne.symm ht)]
      have := heap_alloc_lt (.cells arr ty) h1.lt
      exact ⟨h1.same this, h2.mono hx this⟩
  · obtain ⟨h1, h2, h3, h4, h5⟩ := hr.ar id a ha hk
    have := heap_alloc_lt (.cells arr ty) h2.lt
    exact ⟨h1, h2.same this, h3, fun i r hi => (h4 i r hi).mono hx this, h5⟩
  · obtain ⟨es, cl, h1, h2, h3⟩ := hr.mp id m hm
    have hlt := (Array.getElem?_eq_some_iff.1 h1).1
    refine ⟨es, cl, (heap_alloc_lt _ hlt).trans h1, h2, fun i p hp => ?_⟩
    obtain ⟨g1, x, g2, g3⟩ := h3 i p hp
    exact ⟨g1, x, g2, g3.mono hx⟩
  · show W (upd1 e.bx s w.heap.size t) ∧ ∀ u, ¬ L u (upd1 e.bx s w.heap.size t)
    rcases ht with ht | rfl
    · rw [upd1_other _ _ (hne _ ht)]
      exact hr.wbx t ht
    · rw [upd1_same]
      exact ⟨hr.wide _ (Nat.le_refl _), fun u hu => by have := hr.lsz _ _ hu; omega⟩
  · change upd1 e.bx s w.heap.size t = upd1 e.bx s w.heap.size u at heq
    rcases ht with ht | rfl <;> rcases hu with hu | rfl
    · rw [upd1_other _ _ (hne _ ht), upd1_other _ _ (hne _ hu)] at heq
      exact hr.dbx t u ht hu heq
    · rw [upd1_other _ _ (hne _ ht), upd1_same] at heq
      have := hr.lt_bx ht; omega
    · rw [upd1_other _ _ (hne _ hu), upd1_same] at heq
      have := hr.lt_bx hu; omega
    · rfl
  · show upd1 e.bx s w.heap.size t ≠ e.ar id
    rcases ht with ht | rfl
    · rw [upd1_other _ _ (hne _ ht)]
      exact hr.dba t id ht hi hk
    · rw [upd1_same]
      have := hr.lt_ar hi hk
      omega

theorem setRow_other {g b : Nat} (w : World) (arr : Array Value) (hne : b ≠ g) : (w.setRow g arr).heap[b]? = w.heap[b]? := by
  simp only [World.setRow, Array.getElem?_modify]
  rw [if_neg (Ne.symm hne)]

theorem Fr.setRow {g : Nat} (hg : W g) (arr : Array Value) : Fr W w (w.setRow g arr) :=
  ⟨rfl, rfl, rfl, by simp, fun b _ hb => setRow_other w arr (fun he => hb (he ▸ hg)), Nat.le_refl _⟩

/-- A row that is the call's own is written: what lies in other blocks stays. -/
theorem HR.other (_hr : HR N L e W h w) {g : Nat} (arr : Array Value) (hl : ∀ t, ¬ L t g) : Ext L e w L e (w.setRow g arr) :=
  { Ext.refl L e w with kept := fun _ _ hb => setRow_other w arr (fun he => hl _ (he ▸ hb)) }

theorem map_not_row {b g : Nat} {es : Array MapEntry} {cl : Nat} {arr : Array Value} {ty : TypeId} (h1 : w.heap[b]? = some (.map es cl)) (h2 : w.heap[g]? = some (.cells arr ty (0, 0))) : b ≠ g := by
  rintro rfl
  rw [h1] at h2
  cases h2

/-- A store into a box. -/
theorem Nx.storeBox (hr : HR N L e W h w) {s off : Nat} {cs news : List V} {arr : Array Value} {ty : TypeId} {vs : List Value} (hs : look1 s h.bx = some cs)
    (hg : w.heap[e.bx s]? = some (.cells arr ty (0, 0))) (hfit : off + news.length ≤ cs.length) (hz : vs.length = news.length)
    (hc : ∀ (j : Nat) (c : V), news[j]? = some c → c.calm = true ∧ ∃ v, vs[j]? = some v ∧ VR N L e w c v) :
    Nx N W L e w L e { h with bx := bxSet s (setAt cs off news) h.bx } (w.setRow (e.bx s) (arr.toList.take off ++ vs ++ arr.toList.drop (off + vs.length)).toArray) := by
  have hsl : e.sl s := (hr.sl s).2 (by rw [hs]; rfl)
  have hx := hr.other (g := e.bx s) (arr.toList.take off ++ vs ++ arr.toList.drop (off + vs.length)).toArray (hr.wbx s hsl).2
  obtain ⟨⟨arr', ty', hb1, hb2⟩, hcells⟩ := hr.bx s cs hs
  rw [hg] at hb1
  injection hb1 with hb1
  injection hb1 with hb1 hb3
  subst hb1; subst hb3
  have hsame := setRow_heap w (e.bx s) arr (arr.toList.take off ++ vs ++ arr.toList.drop (off + vs.length)).toArray ty (0, 0) hg
  refine ⟨⟨fun t => ?_, fun t ds hd => ?_, hr.na, hr.ver, fun id a ha hk => ?_, hr.nm, fun id m hm => ?_, hr.wbx, hr.war, hr.wmp, hr.dbx, hr.dba, hr.daa, hr.dmm,
    fun t b hb => by have := hr.lsz t b hb; simpa using this, fun b hb => hr.wide b (by simpa using hb)⟩, hx, Fr.setRow (hr.wbx s hsl).1 _, fun _ _ hb => .inl hb⟩
  · rw [look1_set (α := Unit)]
    by_cases ht : s = t
    · subst ht; simp [hsl]
    · rw [if_neg ht]; exact hr.sl t
  · rw [look1_set (α := Unit)] at hd
    by_cases ht : s = t
    · subst ht
      rw [if_pos rfl] at hd
      injection hd with hd
      subst hd
      refine ⟨⟨_, ty, hsame, ?_⟩, fun j c hj => ?_⟩
      · simp [setAt]; omega
      · rw [Nat.zero_add, cell_of_row _ _ _ _ _ _ hsame]
        unfold setAt at hj
        simp only [List.getElem?_toArray]
        have hoff : off ≤ arr.toList.length := by simp; omega
        rcases Nat.lt_or_ge j off with h1 | h1
        · rw [List.append_assoc, List.getElem?_append_left (by simp; omega), List.getElem?_take, if_pos h1] at hj
          obtain ⟨g1, v, g2, g3⟩ := hcells j c hj
          rw [Nat.zero_add, cell_of_row _ _ _ _ _ _ hg] at g2
          refine ⟨g1, v, ?_, g3.mono hx⟩
          rw [List.append_assoc, List.getElem?_append_left (by simp; omega), List.getElem?_take, if_pos h1, Array.getElem?_toList]
          exact g2
        · rcases Nat.lt_or_ge j (off + news.length) with h2 | h2
          · rw [List.append_assoc, List.getElem?_append_right (by simp; omega), List.getElem?_append_left (by simp; omega)] at hj
            have hl1 : (cs.take off).length = off := by simp; omega
            rw [hl1] at hj
            obtain ⟨g1, v, g2, g3⟩ := hc _ c hj
            refine ⟨g1, v, ?_, g3.mono hx⟩
            rw [List.append_assoc, List.getElem?_append_right (by simp; omega), List.getElem?_append_left (by simp; omega)]
            have hl2 : (arr.toList.take off).length = off := by simp; omega
            rw [hl2]
            exact g2
          · rw [List.getElem?_append_right (by simp; omega), List.getElem?_drop] at hj
            have hl1 : off + news.length + (j - (cs.take off ++ news).length) = j := by simp; omega
            rw [hl1] at hj
            obtain ⟨g1, v, g2, g3⟩ := hcells j c hj
            rw [Nat.zero_add, cell_of_row _ _ _ _ _ _ hg] at g2
            refine ⟨g1, v, ?_, g3.mono hx⟩
            rw [List.getElem?_append_right (by simp; omega), List.getElem?_drop]
            have hl2 : off + vs.length + (j - (arr.toList.take off ++ vs).length) = j := by simp; omega
            rw [hl2, Array.getElem?_toList]
            exact g2
    · rw [if_neg ht] at hd
      obtain ⟨h1, h2⟩ := hr.bx t ds hd
      have hne : e.bx t ≠ e.bx s := fun he => ht (hr.dbx s t hsl ((hr.sl t).2 (by rw [hd]; rfl)) he.symm)
      have := setRow_other w (arr.toList.take off ++ vs ++ arr.toList.drop (off + vs.length)).toArray hne
      exact ⟨h1.same this, h2.mono hx this⟩
  · obtain ⟨h1, h2, h3, h4, h5⟩ := hr.ar id a ha hk
    have hid : id < e.na := by rw [hr.na]; exact (List.getElem?_eq_some_iff.1 ha).1
    have hk' : e.ak id ≠ 0 := by rw [(hr.ver id a ha).2.1]; exact hk
    have := setRow_other w (arr.toList.take off ++ vs ++ arr.toList.drop (off + vs.length)).toArray (hr.dba s id hsl hid hk').symm
    exact ⟨h1, h2.same this, h3, fun i r hi => (h4 i r hi).mono hx this, h5⟩
  · obtain ⟨es, cl, h1, h2, h3⟩ := hr.mp id m hm
    refine ⟨es, cl, (setRow_other w _ (map_not_row h1 hg)).trans h1, h2, fun i p hp => ?_⟩
    obtain ⟨g1, x, g2, g3⟩ := h3 i p hp
    exact ⟨g1, x, g2, g3.mono hx⟩

end Go.Pv

/-
  The steps that the state of a call may take, once more: arrays and maps.
-/
namespace Go.Pv
variable {N : Nat → Nat} {W : Nat → Prop} {L L' : Lx} {e e' : Emb} {h : Heap} {w w' : World}

def Emb.pushAr (e : Emb) (b d c : Nat) (a : Arr) : Emb :=
  { e with na := e.na + 1, ar := upd1 e.ar e.na b, ad := upd1 e.ad e.na d, cap := upd1 e.cap e.na c, av := upd1 e.av e.na a.ver, ak := upd1 e.ak e.na a.k, an := upd1 e.an e.na a.size }

def Emb.setAr (e : Emb) (id b d c : Nat) (a : Arr) : Emb :=
  { e with ar := upd1 e.ar id b, ad := upd1 e.ad id d, cap := upd1 e.cap id c, av := upd1 e.av id a.ver, ak := upd1 e.ak id a.k, an := upd1 e.an id a.size }

/-- The cells of an array's rows lie at b, from d on. -/
def RowsAt (N : Nat → Nat) (L : Lx) (e : Emb) (w : World) (b d : Nat) (a : Arr) : Prop :=
  ∀ (i : Nat) (r : List V), a.rows[i]? = some r → CellsAt N L e w b (d + i * a.k) r

theorem RowsAt.mono {b d : Nat} {a : Arr} (k : RowsAt N L e w b d a) (hx : Ext L e w L' e' w') (hs : w'.heap[b]? = w.heap[b]?) : RowsAt N L' e' w' b d a :=
  fun i r hi => (k i r hi).mono hx hs

theorem ne_of_lt_na {i n : Nat} (h : i < n) : i ≠ n := by omega

/-- An array more, in a block that nobody else has. -/
theorem Nx.pushArr (hr : HR N L e W h w) {b d c : Nat} (a : Arr) (hW : W b) (hL : ∀ t, ¬ L t b) (hbx : ∀ s, e.sl s → e.bx s ≠ b) (hbar : ∀ id, id < e.na → e.ak id ≠ 0 → e.ar id ≠ b)
    (hk0 : a.k ≠ 0) (hc : a.size ≤ c) (hb : Block w b (d + c * a.k)) (hk : ∀ r ∈ a.rows, r.length = a.k) (hrows : RowsAt N L e w b d a) (hp : permBody a.body) :
    Nx N W L e w L (e.pushAr b d c a) { h with ar := h.ar ++ [a] } w := by
  have hx : Ext L e w L (e.pushAr b d c a) w :=
    { Ext.refl L e w with
      sl := fun s hs => ⟨hs, rfl⟩, na := Nat.le_succ _
      av := fun id hi => by
        have hn := ne_of_lt_na hi
        exact ⟨Nat.le_of_eq (upd1_other _ _ hn).symm, fun _ => ⟨upd1_other _ _ hn, upd1_other _ _ hn, upd1_other _ _ hn, upd1_other _ _ hn, upd1_other _ _ hn⟩⟩ }
  have hcase : ∀ (id : Nat) (a' : Arr), (h.ar ++ [a])[id]? = some a' → (id < e.na ∧ h.ar[id]? = some a') ∨ (id = e.na ∧ a' = a) := by
    intro id a' ha
    rw [hr.na]
    rcases Nat.lt_or_ge id h.ar.length with h1 | h1
    · rw [List.getElem?_append_left h1] at ha
      exact .inl ⟨h1, ha⟩
    · rw [List.getElem?_append_right h1] at ha
      have : id - h.ar.length = 0 := by
        rcases Nat.lt_or_ge 0 (id - h.ar.length) with h2 | h2
        · rw [List.getElem?_eq_none (by simp; omega)] at ha; cases ha
        · omega
      rw [this] at ha
      simp at ha
      exact .inr ⟨by omega, ha.symm⟩
  refine ⟨⟨hr.sl, fun s cs hs => ?_, by simp [Emb.pushAr, hr.na], fun id a' ha => ?_, fun id a' ha hk' => ?_, hr.nm, fun id m hm => ?_, hr.wbx, fun id hi hk' => ?_, hr.wmp, hr.dbx, fun s id hs hi hk' => ?_, fun i j hi hj hki hkj heq => ?_, hr.dmm, hr.lsz, hr.wide⟩,
    hx, Fr.refl _ _, fun _ _ hb => .inl hb⟩
  · obtain ⟨h1, h2⟩ := hr.bx s cs hs
    exact ⟨h1, h2.mono hx rfl⟩
  · rcases hcase id a' ha with ⟨hi, ha⟩ | ⟨rfl, rfl⟩
    · simp only [Emb.pushAr, upd1_other _ _ (ne_of_lt_na hi)]
      exact hr.ver id a' ha
    · simp [Emb.pushAr, upd1_same, hk0]
  · rcases hcase id a' ha with ⟨hi, ha⟩ | ⟨rfl, rfl⟩
    · simp only [Emb.pushAr, upd1_other _ _ (ne_of_lt_na hi)]
      obtain ⟨h1, h2, h3, h4, h5⟩ := hr.ar id a' ha hk'
      exact ⟨h1, h2, h3, fun i r hi' => (h4 i r hi').mono hx rfl, h5⟩
    · simp only [Emb.pushAr, upd1_same]
      exact ⟨hc, hb, hk, fun i r hi' => (hrows i r hi').mono hx rfl, hp⟩
  · obtain ⟨es, cl, h1, h2, h3⟩ := hr.mp id m hm
    refine ⟨es, cl, h1, h2, fun i p hp' => ?_⟩
    obtain ⟨g1, x, g2, g3⟩ := h3 i p hp'
    exact ⟨g1, x, g2, g3⟩
  · change id < e.na + 1 at hi
    rcases Nat.lt_or_ge id e.na with h1 | h1
    · simp only [Emb.pushAr, upd1_other _ _ (ne_of_lt_na h1)] at hk' ⊢
      exact hr.war id h1 hk'
    · obtain rfl : id = e.na := by omega
      simp only [Emb.pushAr, upd1_same]
      exact ⟨hW, hL⟩
  · change id < e.na + 1 at hi
    rcases Nat.lt_or_ge id e.na with h1 | h1
    · simp only [Emb.pushAr, upd1_other _ _ (ne_of_lt_na h1)] at hk' ⊢
      exact hr.dba s id hs h1 hk'
    · obtain rfl : id = e.na := by omega
      simp only [Emb.pushAr, upd1_same]
      exact hbx s hs
  · change i < e.na + 1 at hi
    change j < e.na + 1 at hj
    rcases Nat.lt_or_ge i e.na with h1 | h1 <;> rcases Nat.lt_or_ge j e.na with h2 | h2
    · simp only [Emb.pushAr, upd1_other _ _ (ne_of_lt_na h1), upd1_other _ _ (ne_of_lt_na h2)] at hki hkj heq
      exact hr.daa i j h1 h2 hki hkj heq
    · obtain rfl : j = e.na := by omega
      simp only [Emb.pushAr, upd1_other _ _ (ne_of_lt_na h1), upd1_same] at hki heq
      exact absurd heq (hbar i h1 hki)
    · obtain rfl : i = e.na := by omega
      simp only [Emb.pushAr, upd1_other _ _ (ne_of_lt_na h2), upd1_same] at hkj heq
      exact absurd heq.symm (hbar j h2 hkj)
    · omega

theorem set_get {α : Type} {l : List α} {i j : Nat} {x y : α} (hh : (l.set i x)[j]? = some y) : (j = i ∧ y = x) ∨ (j ≠ i ∧ l[j]? = some y) := by
  by_cases hji : j = i
  · subst hji
    have hl : j < l.length := by
      have := (List.getElem?_eq_some_iff.1 hh).1
      simpa using this
    rw [List.getElem?_set_self hl] at hh
    injection hh with hh
    exact .inl ⟨rfl, hh.symm⟩
  · rw [List.getElem?_set_ne (Ne.symm hji)] at hh
    exact .inr ⟨hji, hh⟩

/-- An array is turned: it stays where it is, or moves into a new block. -/
theorem Nx.setArr (hr : HR N L e W h w) {id b d c : Nat} {a0 : Arr} (a : Arr) (h0 : h.ar[id]? = some a0) (hk0 : a0.k ≠ 0)
    (hother : ∀ g, g < w.heap.size → g ≠ e.ar id → w'.heap[g]? = w.heap[g]?) (hsz : w.heap.size ≤ w'.heap.size) (hfr : Fr W w w')
    (hv : a0.ver < a.ver ∨ (a.ver = a0.ver ∧ b = e.ar id ∧ d = e.ad id ∧ c = e.cap id ∧ a.k = a0.k ∧ a.size = a0.size)) (hloc : b = e.ar id ∨ w.heap.size ≤ b)
    (hk1 : a.k ≠ 0) (hc : a.size ≤ c) (hb : Block w' b (d + c * a.k)) (hk : ∀ r ∈ a.rows, r.length = a.k)
    (hrows : ∀ (i : Nat) (r : List V), a.rows[i]? = some r → ∀ (j : Nat) (x : V), r[j]? = some x → x.calm = true ∧ ∃ v, w'.cell? ⟨b, d + i * a.k + j, none⟩ = some v ∧ VR N L e w x v) (hp : permBody a.body) :
    Nx N W L e w L (e.setAr id b d c a) { h with ar := h.ar.set id a } w' := by
  have hid : id < e.na := by rw [hr.na]; exact (List.getElem?_eq_some_iff.1 h0).1
  obtain ⟨v1, v2, v3, _⟩ := hr.ver id a0 h0
  have hak : e.ak id ≠ 0 := by rw [v2]; exact hk0
  have hown := hr.war id hid hak
  have hx : Ext L e w L (e.setAr id b d c a) w' :=
    { Ext.refl L e w with
      kept := fun t g hg => hother g (hr.lsz _ _ hg) (fun he => hown.2 t (he ▸ hg))
      sl := fun s hs => ⟨hs, rfl⟩, na := Nat.le_refl _
      av := fun j hj => by
        by_cases hji : j = id
        · subst hji
          simp only [Emb.setAr, upd1_same]
          rcases hv with hv | ⟨g1, g2, g3, g4, g5, g6⟩
          · exact ⟨by omega, fun he => by omega⟩
          · exact ⟨by omega, fun _ => ⟨g2, g3, g4, by omega, by omega⟩⟩
        · exact ⟨Nat.le_of_eq (upd1_other _ _ hji).symm, fun _ => ⟨upd1_other _ _ hji, upd1_other _ _ hji, upd1_other _ _ hji, upd1_other _ _ hji, upd1_other _ _ hji⟩⟩ }
  have hWb : W b ∧ ∀ t, ¬ L t b := by
    rcases hloc with rfl | hl
    · exact hown
    · exact ⟨hr.wide _ hl, fun t ht => by have := hr.lsz _ _ ht; omega⟩
  refine ⟨⟨hr.sl, fun s cs hs => ?_, by simp [Emb.setAr, hr.na], fun j a' ha => ?_, fun j a' ha hk' => ?_, hr.nm, fun j m hm => ?_, hr.wbx, fun j hj hk' => ?_, hr.wmp, hr.dbx, fun s j hs hj hk' => ?_, fun i j hi hj hki hkj heq => ?_, hr.dmm,
    fun t g hg => by have := hr.lsz t g hg; omega, fun g hg => hr.wide g (by omega)⟩, hx, hfr, fun _ _ hb => .inl hb⟩
  · obtain ⟨h1, h2⟩ := hr.bx s cs hs
    have hsl := (hr.sl s).2 (by rw [hs]; rfl)
    have := hother _ h1.lt (hr.dba s id hsl hid hak)
    exact ⟨h1.same this, h2.mono hx this⟩
  · rcases set_get ha with ⟨rfl, rfl⟩ | ⟨hne, ha⟩
    · simp [Emb.setAr, upd1_same, hk1]
    · simp only [Emb.setAr, upd1_other _ _ hne]
      exact hr.ver j a' ha
  · rcases set_get ha with ⟨rfl, rfl⟩ | ⟨hne, ha⟩
    · simp only [Emb.setAr, upd1_same]
      refine ⟨hc, hb, hk, fun i r hi j' x hj' => ?_, hp⟩
      obtain ⟨g1, v, g2, g3⟩ := hrows i r hi j' x hj'
      exact ⟨g1, v, g2, g3.mono hx⟩
    · simp only [Emb.setAr, upd1_other _ _ hne]
      obtain ⟨h1, h2, h3, h4, h5⟩ := hr.ar j a' ha hk'
      have hj : j < e.na := by rw [hr.na]; exact (List.getElem?_eq_some_iff.1 ha).1
      have hkj : e.ak j ≠ 0 := by rw [(hr.ver j a' ha).2.1]; exact hk'
      have := hother _ h2.lt (fun he => hne (hr.daa j id hj hid hkj hak he))
      exact ⟨h1, h2.same this, h3, fun i r hi' => (h4 i r hi').mono hx this, h5⟩
  · obtain ⟨es, cl, h1, h2, h3⟩ := hr.mp j m hm
    obtain ⟨_, ⟨arr, ty, h4, _⟩, _⟩ := hr.ar id a0 h0 hk0
    refine ⟨es, cl, (hother _ (Array.getElem?_eq_some_iff.1 h1).1 (map_not_row h1 h4)).trans h1, h2, fun i p hp' => ?_⟩
    obtain ⟨g1, x, g2, g3⟩ := h3 i p hp'
    exact ⟨g1, x, g2, g3.mono hx⟩
  · by_cases hji : j = id
    · subst hji
      simp only [Emb.setAr, upd1_same]
      exact hWb
    · simp only [Emb.setAr, upd1_other _ _ hji] at hk' ⊢
      exact hr.war j hj hk'
  · by_cases hji : j = id
    · subst hji
      simp only [Emb.setAr, upd1_same]
      rcases hloc with rfl | hl
      · exact hr.dba s j hs hid hak
      · have := hr.lt_bx hs; omega
    · simp only [Emb.setAr, upd1_other _ _ hji] at hk' ⊢
      exact hr.dba s j hs hj hk'
  · by_cases hii : i = id <;> by_cases hjj : j = id
    · omega
    · subst hii
      simp only [Emb.setAr, upd1_same, upd1_other _ _ hjj] at hkj heq
      rcases hloc with rfl | hl
      · exact hr.daa i j hid hj hak hkj heq
      · have := hr.lt_ar hj hkj; omega
    · subst hjj
      simp only [Emb.setAr, upd1_same, upd1_other _ _ hii] at hki heq
      rcases hloc with rfl | hl
      · exact hr.daa i j hi hid hki hak heq
      · have := hr.lt_ar hi hki; omega
    · simp only [Emb.setAr, upd1_other _ _ hii, upd1_other _ _ hjj] at hki hkj heq
      exact hr.daa i j hi hj hki hkj heq

/-- An array is given away. -/
theorem Nx.killArr (hr : HR N L e W h w) {id : Nat} {a0 : Arr} (a : Arr) (h0 : h.ar[id]? = some a0) (hv : a0.ver < a.ver) (hk : a.k = 0) (hre : a.rows = []) :
    Nx N W L e w L (e.setAr id (e.ar id) (e.ad id) (e.cap id) a) { h with ar := h.ar.set id a } w := by
  have hid : id < e.na := by rw [hr.na]; exact (List.getElem?_eq_some_iff.1 h0).1
  obtain ⟨v1, v2, v3, _⟩ := hr.ver id a0 h0
  have hx : Ext L e w L (e.setAr id (e.ar id) (e.ad id) (e.cap id) a) w :=
    { Ext.refl L e w with
      sl := fun s hs => ⟨hs, rfl⟩, na := Nat.le_refl _
      av := fun j hj => by
        by_cases hji : j = id
        · subst hji
          simp only [Emb.setAr, upd1_same]
          exact ⟨by omega, fun he => by omega⟩
        · exact ⟨Nat.le_of_eq (upd1_other _ _ hji).symm, fun _ => ⟨upd1_other _ _ hji, upd1_other _ _ hji, upd1_other _ _ hji, upd1_other _ _ hji, upd1_other _ _ hji⟩⟩ }
  have hak : ∀ j, (e.setAr id (e.ar id) (e.ad id) (e.cap id) a).ak j ≠ 0 → j ≠ id ∧ e.ak j ≠ 0 := by
    intro j hj
    by_cases hji : j = id
    · subst hji; simp [Emb.setAr, upd1_same, hk] at hj
    · simp only [Emb.setAr, upd1_other _ _ hji] at hj
      exact ⟨hji, hj⟩
  refine ⟨⟨hr.sl, fun s cs hs => ?_, by simp [Emb.setAr, hr.na], fun j a' ha => ?_, fun j a' ha hk' => ?_, hr.nm, fun j m hm => ?_, hr.wbx, fun j hj hk' => ?_, hr.wmp, hr.dbx, fun s j hs hj hk' => ?_, fun i j hi hj hki hkj heq => ?_, hr.dmm,
    hr.lsz, hr.wide⟩, hx, Fr.refl _ _, fun _ _ hb => .inl hb⟩
  · obtain ⟨h1, h2⟩ := hr.bx s cs hs
    exact ⟨h1, h2.mono hx rfl⟩
  · rcases set_get ha with ⟨rfl, rfl⟩ | ⟨hne, ha⟩
    · simp [Emb.setAr, upd1_same, hre]
    · simp only [Emb.setAr, upd1_other _ _ hne]
      exact hr.ver j a' ha
  · rcases set_get ha with ⟨rfl, rfl⟩ | ⟨hne, ha⟩
    · exact absurd hk hk'
    · simp only [Emb.setAr, upd1_other _ _ hne]
      obtain ⟨h1, h2, h3, h4, h5⟩ := hr.ar j a' ha hk'
      exact ⟨h1, h2, h3, fun i r hi' => (h4 i r hi').mono hx rfl, h5⟩
  · obtain ⟨es, cl, h1, h2, h3⟩ := hr.mp j m hm
    exact ⟨es, cl, h1, h2, h3⟩
  · obtain ⟨hji, hkj⟩ := hak j hk'
    simp only [Emb.setAr, upd1_other _ _ hji]
    exact hr.war j hj hkj
  · obtain ⟨hji, hkj⟩ := hak j hk'
    simp only [Emb.setAr, upd1_other _ _ hji]
    exact hr.dba s j hs hj hkj
  · obtain ⟨hii, hki⟩ := hak i hki
    obtain ⟨hjj, hkj⟩ := hak j hkj
    simp only [Emb.setAr, upd1_other _ _ hii, upd1_other _ _ hjj] at heq
    exact hr.daa i j hi hj hki hkj heq

def Emb.pushMp (e : Emb) (b : Nat) : Emb := { e with nm := e.nm + 1, mp := upd1 e.mp e.nm b }

/-- A new map. -/
theorem Nx.newMap (hr : HR N L e W h w) : Nx N W L e w L (e.pushMp w.heap.size) { h with mp := h.mp ++ [[]] } (w.alloc (.map #[] 0)) := by
  have hs : ∀ b, b < w.heap.size → (w.alloc (.map #[] 0)).heap[b]? = w.heap[b]? := fun b hb => heap_alloc_lt _ hb
  have hx : Ext L e w L (e.pushMp w.heap.size) (w.alloc (.map #[] 0)) :=
    { sub := fun _ _ hb => hb, kept := fun _ _ hb => hs _ (hr.lsz _ _ hb), sl := fun s h => ⟨h, rfl⟩, na := Nat.le_refl _, av := fun _ _ => ⟨Nat.le_refl _, fun _ => ⟨rfl, rfl, rfl, rfl, rfl⟩⟩
      nm := Nat.le_succ _, mp := fun id hi => upd1_other _ _ (ne_of_lt_na hi) }
  have hnew : (w.alloc (.map #[] 0)).heap[w.heap.size]? = some (.map #[] 0) := heap_alloc_new w _
  refine ⟨⟨hr.sl, fun s cs hc => ?_, hr.na, hr.ver, fun id a ha hk => ?_, by simp [Emb.pushMp, hr.nm], fun id m hm => ?_, hr.wbx, hr.war, fun id hi => ?_, hr.dbx, hr.dba, hr.daa, fun i j hi hj heq => ?_,
    fun t b hb => by have := hr.lsz t b hb; simp; omega, fun b hb => hr.wide b (by simp at hb; omega)⟩, hx, Fr.alloc _, fun _ _ hb => .inl hb⟩
  · obtain ⟨h1, h2⟩ := hr.bx s cs hc
    exact ⟨h1.same (hs _ h1.lt), h2.mono hx (hs _ h1.lt)⟩
  · obtain ⟨h1, h2, h3, h4, h5⟩ := hr.ar id a ha hk
    exact ⟨h1, h2.same (hs _ h2.lt), h3, fun i r hi => (h4 i r hi).mono hx (hs _ h2.lt), h5⟩
  · rcases Nat.lt_or_ge id h.mp.length with h1 | h1
    · change (h.mp ++ [[]])[id]? = some m at hm
      rw [List.getElem?_append_left h1] at hm
      have hi : id < e.nm := by rw [hr.nm]; exact h1
      obtain ⟨es, cl, h1, h2, h3⟩ := hr.mp id m hm
      simp only [Emb.pushMp, upd1_other _ _ (ne_of_lt_na hi)]
      refine ⟨es, cl, (hs _ (Array.getElem?_eq_some_iff.1 h1).1).trans h1, h2, fun i p hp => ?_⟩
      obtain ⟨g1, x, g2, g3⟩ := h3 i p hp
      exact ⟨g1, x, g2, g3.mono hx⟩
    · change (h.mp ++ [[]])[id]? = some m at hm
      rw [List.getElem?_append_right h1] at hm
      have : id - h.mp.length = 0 := by
        rcases Nat.lt_or_ge 0 (id - h.mp.length) with h2 | h2
        · rw [List.getElem?_eq_none (by simp; omega)] at hm; cases hm
        · omega
      rw [this] at hm
      simp at hm
      subst hm
      obtain rfl : id = e.nm := by rw [hr.nm]; omega
      simp only [Emb.pushMp, upd1_same]
      exact ⟨#[], 0, hnew, rfl, fun i p hp => by simp at hp⟩
  · change id < e.nm + 1 at hi
    rcases Nat.lt_or_ge id e.nm with h1 | h1
    · simp only [Emb.pushMp, upd1_other _ _ (ne_of_lt_na h1)]
      exact hr.wmp id h1
    · obtain rfl : id = e.nm := by omega
      simp only [Emb.pushMp, upd1_same]
      exact ⟨hr.wide _ (Nat.le_refl _), fun u hu => by have := hr.lsz _ _ hu; omega⟩
  · change i < e.nm + 1 at hi
    change j < e.nm + 1 at hj
    rcases Nat.lt_or_ge i e.nm with h1 | h1 <;> rcases Nat.lt_or_ge j e.nm with h2 | h2
    · simp only [Emb.pushMp, upd1_other _ _ (ne_of_lt_na h1), upd1_other _ _ (ne_of_lt_na h2)] at heq
      exact hr.dmm i j h1 h2 heq
    · obtain rfl : j = e.nm := by omega
      simp only [Emb.pushMp, upd1_other _ _ (ne_of_lt_na h1), upd1_same] at heq
      have := hr.lt_mp h1; omega
    · obtain rfl : i = e.nm := by omega
      simp only [Emb.pushMp, upd1_other _ _ (ne_of_lt_na h2), upd1_same] at heq
      have := hr.lt_mp h2; omega
    · omega

/-- A map is turned. -/
theorem Nx.setMap (hr : HR N L e W h w) {id : Nat} {m0 m : List (PV × PV)} {es : Array MapEntry} {cl : Nat} (h0 : h.mp[id]? = some m0) (hz : es.size = m.length)
    (hent : ∀ (i : Nat) (p : PV × PV), m[i]? = some p → keyLike p.1 = true ∧ ∃ x, es[i]? = some x ∧ EntryR N L w p x) :
    Nx N W L e w L e { h with mp := h.mp.set id m } { w with heap := w.heap.setIfInBounds (e.mp id) (.map es cl) } := by
  have hid : id < e.nm := by rw [hr.nm]; exact (List.getElem?_eq_some_iff.1 h0).1
  have hown := hr.wmp id hid
  obtain ⟨es0, cl0, h1, _⟩ := hr.mp id m0 h0
  have hlt := (Array.getElem?_eq_some_iff.1 h1).1
  have hs : ∀ b, b ≠ e.mp id → ({ w with heap := w.heap.setIfInBounds (e.mp id) (.map es cl) } : World).heap[b]? = w.heap[b]? := fun b hb => by
    show (w.heap.setIfInBounds (e.mp id) (.map es cl))[b]? = _
    rw [Array.getElem?_setIfInBounds_ne (Ne.symm hb)]
  have hself : ({ w with heap := w.heap.setIfInBounds (e.mp id) (.map es cl) } : World).heap[e.mp id]? = some (.map es cl) := by
    show (w.heap.setIfInBounds (e.mp id) (.map es cl))[e.mp id]? = _
    rw [Array.getElem?_setIfInBounds_self_of_lt hlt]
  have hx : Ext L e w L e { w with heap := w.heap.setIfInBounds (e.mp id) (.map es cl) } :=
    { Ext.refl L e w with kept := fun t b hb => hs b (fun he => hown.2 t (he ▸ hb)) }
  refine ⟨⟨hr.sl, fun s cs hc => ?_, hr.na, hr.ver, fun j a ha hk => ?_, by simp [hr.nm], fun j m' hm => ?_, hr.wbx, hr.war, hr.wmp, hr.dbx, hr.dba, hr.daa, hr.dmm,
    fun t b hb => by have := hr.lsz t b hb; simpa using this, fun b hb => hr.wide b (by simpa using hb)⟩, hx, ⟨rfl, rfl, rfl, by simp, fun b _ hb => hs b (fun he => hb (he ▸ hown.1)), Nat.le_refl _⟩, fun _ _ hb => .inl hb⟩
  · obtain ⟨h2, h3⟩ := hr.bx s cs hc
    obtain ⟨arr, ty, h4, _⟩ := h2.out
    have := hs (e.bx s) (fun he => map_not_row h1 h4 he.symm)
    exact ⟨h2.same this, h3.mono hx this⟩
  · obtain ⟨g1, g2, g3, g4, g5⟩ := hr.ar j a ha hk
    obtain ⟨arr, ty, h4, _⟩ := g2.out
    have := hs (e.ar j) (fun he => map_not_row h1 h4 he.symm)
    exact ⟨g1, g2.same this, g3, fun i r hi => (g4 i r hi).mono hx this, g5⟩
  · rcases set_get hm with ⟨rfl, rfl⟩ | ⟨hne, hm⟩
    · refine ⟨es, cl, hself, hz, fun i p hp => ?_⟩
      obtain ⟨g1, x, g2, g3⟩ := hent i p hp
      exact ⟨g1, x, g2, g3.mono hx⟩
    · obtain ⟨es', cl', g1, g2, g3⟩ := hr.mp j m' hm
      have hj : j < e.nm := by rw [hr.nm]; exact (List.getElem?_eq_some_iff.1 hm).1
      refine ⟨es', cl', (hs _ (fun he => hne (hr.dmm j id hj hid he))).trans g1, g2, fun i p hp => ?_⟩
      obtain ⟨k1, x, k2, k3⟩ := g3 i p hp
      exact ⟨k1, x, k2, k3.mono hx⟩

end Go.Pv

/-
  The operations, one by one: what the interpreter says of one, the machine does.
-/
namespace Go.Pv
variable {P : Program} {N M : Nat → Nat} {W : Nat → Prop} {L L' : Lx} {e e' : Emb} {h : Heap} {w w' : World} {g : Opd → V} {ρ : Operand → Value}

/-- Operands stand for what they should. -/
def OR (N M : Nat → Nat) (L : Lx) (e : Emb) (w : World) (g : Opd → V) (ρ : Operand → Value) : Prop :=
  ∀ x y, trOpd N M x = some y → VR N L e w (g y) (ρ x)

/-- The machine's run comes to a value and a world that fit. -/
def Good (P : Program) (N : Nat → Nat) (W : Nat → Prop) (L : Lx) (e : Emb) (h : Heap) (w : World) (s : Sem Value) (v : V) (t : Tn) : Prop :=
  ∃ v' w' L' e', s.run P w = .ok v' w' ∧ Nx N W L e w L' e' (t.apply h) w' ∧ VR N L' e' w' v v'

theorem Tn.apply_plain (h : Heap) (rb ra rm : Option Nat) (rall new : Bool) {ra2 : Option Nat} {base : Nat} : ({ rb := rb, ra := ra, rm := rm, rall := rall, new := new, ra2 := ra2, base := base } : Tn).apply h = h := by
  cases h; simp [Tn.apply]

theorem Good.pure {s : Sem Value} {v : V} {v' : Value} {t : Tn} (hr : HR N L e W h w) (hs : s.run P w = .ok v' w) (hv : VR N L e w v v') (ht : t.apply h = h) : Good P N W L e h w s v t := by
  refine ⟨v', w, L, e, hs, ?_, hv⟩
  rw [ht]
  exact Nx.refl hr

theorem VR.calm_one {x : V} {v : Value} (hv : VR N L e w x v) (hc : x.calm = true) : v.oneCell' = true := by
  cases hv with
  | pv p v hp => cases hp <;> first | rfl | (simp [V.calm] at hc)
  | tl => rfl
  | own => rfl
  | ptr => rfl
  | aptr => rfl
  | func => rfl
  | map => rfl
  | nilm => rfl
  | agg => simp [V.calm] at hc
  | tup => simp [V.calm] at hc
  | any => simp [V.calm] at hc

theorem VR.cells {x : V} {v : Value} (hv : VR N L e w x v) (hs : x.sized = true) :
    v.cells.size = x.cells.length ∧ ∀ (j : Nat) (c : V), x.cells[j]? = some c → VR N L e w c (v.cells.getD j undef) := by
  have key : ∀ {x : V} {v : Value}, VR N L e w x v → x.cells = [x] → v.cells = #[v] → v.cells.size = x.cells.length ∧ ∀ (j : Nat) (c : V), x.cells[j]? = some c → VR N L e w c (v.cells.getD j undef) := by
    intro x v hv h1 h2
    rw [h1, h2]
    refine ⟨rfl, fun j c hj => ?_⟩
    match j, hj with
    | 0, hj => simp at hj; subst hj; exact hv
    | j + 1, hj => simp at hj
  cases hv with
  | pv p v hp =>
    cases hp with
    | agg => simp [V.sized] at hs
    | _ => exact key (.pv _ _ (by constructor <;> assumption)) rfl rfl
  | tl rows a hh hsoft => exact key (.tl rows a hh hsoft) rfl rfl
  | own id ver off len a cap h0 h1 h2 h3 => exact key (.own id ver off len a cap h0 h1 h2 h3) rfl rfl
  | ptr s off hh => exact key (.ptr s off hh) rfl rfl
  | aptr id ver row col a h1 h2 h3 => exact key (.aptr id ver row col a h1 h2 h3) rfl rfl
  | func f cap arr h1 h2 => exact key (.func f cap arr h1 h2) rfl rfl
  | map id hh => exact key (.map id hh) rfl rfl
  | nilm => exact key .nilm rfl rfl
  | agg cs arr h1 h2 => exact ⟨h1, h2⟩
  | tup => simp [V.sized] at hs
  | any => simp [V.sized] at hs

theorem calm_sized {x : V} (hc : x.cells.all V.calm = true) : x.sized = true := by
  cases x with
  | pv p => cases p <;> first | rfl | (simp [V.cells, V.calm] at hc)
  | any => simp [V.cells, V.calm] at hc
  | tup => simp [V.cells, V.calm] at hc
  | _ => rfl

theorem getD_of_getElem? {arr : Array Value} {j : Nat} (hj : j < arr.size) : arr[j]? = some (arr.getD j undef) := by
  simp [Array.getD, hj]

-- sizes

theorem loadT_spec {t : TypeId} {n : Nat} {ag : Bool} (hl : loadT P t = some (n, ag)) :
    (isAgg t).run P w = .ok ag w ∧ (sizeOf t).run P w = .ok n w ∧ (ag = false → n = 1) := by
  unfold loadT isAggT sizeT at hl
  cases hi : P.info? t with
  | none => simp [hi] at hl
  | some i =>
    simp only [hi, Option.map_some] at hl
    cases hu : P.underlying t with
    | none => simp [hu] at hl
    | some d =>
      simp only [hu] at hl
      have hsz : (sizeOf t).run P w = .ok i.size w := by simp [sizeOf, typeInfo, hi]
      rw [hsz]
      cases d <;> simp at hl <;> (first
        | (obtain ⟨h1, h2, h3⟩ := hl; subst h2; subst h3; simp [isAgg, underlying, hu, h1])
        | (obtain ⟨h2, h3⟩ := hl; subst h2; subst h3; simp [isAgg, underlying, hu]))

theorem sizeT_spec {t : TypeId} {n : Nat} (hl : sizeT P t = some n) : (sizeOf t).run P w = .ok n w := by
  unfold sizeT at hl
  cases hi : P.info? t with
  | none => simp [hi] at hl
  | some i => simp [hi] at hl; simp [sizeOf, typeInfo, hi, hl]

theorem addr_add (b off j : Nat) : (⟨b, off, none⟩ : Addr).add j = ⟨b, off + j, none⟩ := by
  unfold Addr.add; split <;> simp_all

/-- A value loaded: n cells that are there. -/
theorem load_run {t : TypeId} {n : Nat} {ag : Bool} (hl : loadT P t = some (n, ag)) {b off : Nat} {cs : List V} (hn : cs.length = n)
    (hc : ∀ (j : Nat) (c : V), cs[j]? = some c → ∃ v, w.cell? ⟨b, off + j, none⟩ = some v ∧ VR N L e w c v) {v : V} (hv : cellsV ag cs = some v) :
    ∃ v', (loadVar t ⟨b, off, none⟩).run P w = .ok v' w ∧ VR N L e w v v' := by
  obtain ⟨h1, h2, h3⟩ := loadT_spec (w := w) hl
  let f : Nat → Value := fun j => (w.cell? ⟨b, off + j, none⟩).getD undef
  have hf : ∀ (j : Nat) (c : V), cs[j]? = some c → w.cell? ⟨b, off + j, none⟩ = some (f j) ∧ VR N L e w c (f j) := by
    intro j c hj
    obtain ⟨v, g1, g2⟩ := hc j c hj
    simp only [f, g1, Option.getD_some]
    exact ⟨trivial, g2⟩
  cases ag with
  | true =>
    have hv' : V.agg cs = v := by simpa [cellsV] using hv
    subst hv'
    have hload := run_loadCells (P := P) w ⟨b, off, none⟩ n f (fun j hj => by
      rw [addr_add]
      exact (hf j cs[j] (List.getElem?_eq_getElem (by omega))).1)
    refine ⟨.agg ((List.range n).map f).toArray, by simp [loadVar, h1, h2, hload], .agg cs _ (by simp [hn]) (fun j c hj => ?_)⟩
    have hjl : j < n := by rw [← hn]; exact (List.getElem?_eq_some_iff.1 hj).1
    have := (hf j c hj).2
    simpa [Array.getD, hjl] using this
  | false =>
    have h1' := h3 rfl
    subst h1'
    match cs, hn with
    | [c], _ =>
      have hv' : c = v := by simpa [cellsV] using hv
      subst hv'
      obtain ⟨g1, g2⟩ := hf 0 c rfl
      simp only [Nat.add_zero] at g1
      refine ⟨f 0, ?_, g2⟩
      simp [loadVar, h1, g1]

theorem takeN_spec {α : Type} {off n : Nat} {l r : List α} (hh : takeN off n l = some r) : r.length = n ∧ off + n ≤ l.length ∧ ∀ (j : Nat) (x : α), r[j]? = some x → l[off + j]? = some x := by
  unfold takeN at hh
  split at hh
  · rename_i hle
    injection hh with hh
    subst hh
    refine ⟨by simp; omega, hle, fun j x hj => ?_⟩
    rw [List.getElem?_take] at hj
    split at hj
    · rwa [List.getElem?_drop] at hj
    · cases hj
  · cases hh

theorem map_pv_get {l : List PV} {j : Nat} {c : V} (hj : (l.map V.pv)[j]? = some c) : ∃ p, l[j]? = some p ∧ c = .pv p := by
  rw [List.getElem?_map] at hj
  cases hl : l[j]? with
  | none => simp [hl] at hj
  | some p => simp [hl] at hj; exact ⟨p, rfl, hj.symm⟩

theorem ownArr_spec {id ver : Nat} {a : Arr} (hh : ownArr h id ver = some a) : h.ar[id]? = some a ∧ a.ver = ver := by
  unfold ownArr at hh
  cases hg : h.ar[id]? with
  | none => simp [hg] at hh
  | some x =>
    simp only [hg] at hh
    split at hh
    · injection hh with hh; subst hh; exact ⟨rfl, by assumption⟩
    · cases hh

/-- The address and the cells of what is loaded. -/
theorem loadAt_spec (hr : HR N L e W h w) {n : Nat} {x : V} {v : Value} (hx : VR N L e w x v) {cs : List V} {t : Tn} (hh : loadAt h n x = some (cs, t)) :
    t.apply h = h ∧ cs.length = n ∧ ∃ b off, v = .pointer (some ⟨b, off, none⟩) ∧ ∀ (j : Nat) (c : V), cs[j]? = some c → ∃ v', w.cell? ⟨b, off + j, none⟩ = some v' ∧ VR N L e w c v' := by
  unfold loadAt at hh
  split at hh
  · rename_i tg ds
    cases hl : takeN 0 n ds with
    | none => simp [hl] at hh
    | some l =>
      simp [hl] at hh
      obtain ⟨rfl, rfl⟩ := hh
      obtain ⟨k1, k2, k3⟩ := takeN_spec hl
      cases hx with
      | pv _ _ hp =>
        cases hp with
        | ro _ _ b off vs ha hcell hv h1 =>
          refine ⟨Tn.apply_plain h _ _ _ _ _, by simp [k1], b, off, rfl, fun j c hj => ?_⟩
          obtain ⟨p, hp, rfl⟩ := map_pv_get hj
          have := k3 j p hp
          rw [Nat.zero_add] at this
          exact ⟨vs j, hcell j p this, .pv _ _ (hv j p this)⟩
  · rename_i slot off
    cases hs : look1 slot h.bx with
    | none => simp [hs] at hh
    | some ds =>
      simp only [hs] at hh
      cases hl : takeN off n ds with
      | none => simp [hl] at hh
      | some l =>
        simp [hl] at hh
        obtain ⟨rfl, rfl⟩ := hh
        obtain ⟨k1, k2, k3⟩ := takeN_spec hl
        cases hx with
        | ptr _ _ hsl =>
          refine ⟨Tn.apply_plain h _ _ _ _ _, k1, e.bx slot, off, rfl, fun j c hj => ?_⟩
          obtain ⟨_, v', g1, g2⟩ := (hr.bx slot ds hs).2 (off + j) c (k3 j c hj)
          rw [Nat.zero_add] at g1
          exact ⟨v', g1, g2⟩
  · rename_i id ver row col
    cases ho : ownArr h id ver with
    | none => simp [ho] at hh
    | some a =>
      simp only [ho] at hh
      obtain ⟨ha, hver⟩ := ownArr_spec ho
      obtain ⟨e1, e2, e3, e4⟩ := hr.ver id a ha
      cases hx with
      | aptr _ _ _ _ ad q1 q2 q3 =>
        have had := q3 (by omega)
        subst had
        have key : ∀ r : List V, a.rows[row]? = some r → takeN col n r = some cs → a.k ≠ 0 ∧ cs.length = n ∧ ∀ (j : Nat) (c : V), cs[j]? = some c → ∃ v', w.cell? ⟨e.ar id, e.ad id + (row * e.ak id + col) + j, none⟩ = some v' ∧ VR N L e w c v' := by
          intro r hrow hl
          obtain ⟨k1, k2, k3⟩ := takeN_spec hl
          by_cases hk : a.k = 0
          · rw [e4 hk] at hrow; simp at hrow
          · obtain ⟨g1, g2, g3, g4, g5⟩ := hr.ar id a ha hk
            refine ⟨hk, k1, fun j c hj => ?_⟩
            obtain ⟨_, v', p1, p2⟩ := g4 row r hrow (col + j) c (k3 j c hj)
            rw [e2, show e.ad id + (row * a.k + col) + j = e.ad id + row * a.k + (col + j) by omega]
            exact ⟨v', p1, p2⟩
        split at hh
        · rename_i rows hbody
          cases hrw : rows[row]? with
          | none => simp [hrw] at hh
          | some r =>
            simp only [hrw] at hh
            cases hl : takeN col n r with
            | none => simp [hl] at hh
            | some l =>
              simp [hl] at hh
              obtain ⟨rfl, rfl⟩ := hh
              have hrow : a.rows[row]? = some (r.map V.pv) := by simp [Arr.rows, hbody, hrw]
              have hl' : takeN col n (r.map V.pv) = some (l.map V.pv) := by
                unfold takeN at hl ⊢
                simp only [List.length_map]
                split at hl
                · rename_i hle; rw [if_pos hle]; injection hl with hl; subst hl; simp [List.map_take, List.map_drop]
                · cases hl
              obtain ⟨_, k2, k3⟩ := key _ hrow hl'
              exact ⟨Tn.apply_plain h _ _ _ _ _, k2, _, _, rfl, k3⟩
        · rename_i rows hbody
          cases hrw : rows[row]? with
          | none => simp [hrw] at hh
          | some r =>
            simp only [hrw] at hh
            cases hl : takeN col n r with
            | none => simp [hl] at hh
            | some l =>
              simp [hl] at hh
              obtain ⟨rfl, rfl⟩ := hh
              have hrow : a.rows[row]? = some r := by simp [Arr.rows, hbody, hrw]
              obtain ⟨_, k2, k3⟩ := key _ hrow hl
              exact ⟨Tn.apply_plain h _ _ _ _ _, k2, _, _, rfl, k3⟩
  · cases hh

end Go.Pv

/-
  The operations, one by one: variables, addresses, fields, indexes, slices, numbers, strings.
-/
namespace Go.Pv
variable {P : Program} {N M : Nat → Nat} {W : Nat → Prop} {L L' : Lx} {e e' : Emb} {h : Heap} {w w' : World} {g : Opd → V} {ρ : Operand → Value}

theorem mapO_len {α β : Type} {f : α → Option β} : ∀ {l : List α} {r : List β}, mapO f l = some r → r.length = l.length
  | [], r, hh => by simp [mapO] at hh; subst hh; rfl
  | x :: l, r, hh => by
    unfold mapO at hh
    cases hx : f x with
    | none => simp [hx] at hh
    | some y =>
      cases hl : mapO f l with
      | none => simp [hx, hl] at hh
      | some s => simp [hx, hl] at hh; subst hh; simp [mapO_len hl]

theorem mapO_get {α β : Type} {f : α → Option β} : ∀ {l : List α} {r : List β}, mapO f l = some r → ∀ (j : Nat) (y : β), r[j]? = some y → ∃ x, l[j]? = some x ∧ f x = some y
  | [], r, hh, j, y, hj => by simp [mapO] at hh; subst hh; simp at hj
  | x :: l, r, hh, j, y, hj => by
    unfold mapO at hh
    cases hx : f x with
    | none => simp [hx] at hh
    | some z =>
      cases hl : mapO f l with
      | none => simp [hx, hl] at hh
      | some s =>
        simp [hx, hl] at hh
        subst hh
        match j with
        | 0 => simp at hj; subst hj; exact ⟨x, rfl, hx⟩
        | j + 1 => simp at hj; simpa using mapO_get hl j y hj

theorem mapO_fwd {α β : Type} {f : α → Option β} {l : List α} {r : List β} (hh : mapO f l = some r) (j : Nat) (x : α) (hj : l[j]? = some x) : ∃ y, r[j]? = some y ∧ f x = some y := by
  have hlt : j < r.length := by rw [mapO_len hh]; exact (List.getElem?_eq_some_iff.1 hj).1
  obtain ⟨x', h1, h2⟩ := mapO_get hh j r[j] (List.getElem?_eq_getElem hlt)
  rw [hj] at h1
  injection h1 with h1
  subst h1
  exact ⟨_, List.getElem?_eq_getElem hlt, h2⟩

theorem VR.cvc {v : Value} {c : V} (hc : cvc v = some c) : VR N L e w c v := by
  unfold Pv.cvc at hc
  split at hc <;> (try (cases hc; done)) <;> (injection hc with hc; subst hc)
  · exact .pv _ _ (.bool _)
  · exact .pv _ _ (.int _ _)
  · exact .pv _ _ (.str _)
  · exact .pv _ _ .nilp
  · exact .pv _ _ .nilf
  · exact .tl [] none (.lst 0 [] none default 0 0 (fun _ _ => undef) (by simp) (by simp) (by simp) (by simp [at2]) (by simp [at2]) (by simp [at2]) (by simp [at2])) Soft.nil
  · exact .nilm

theorem arr_getD_toList {arr : Array Value} {j : Nat} {x : Value} (hj : arr.toList[j]? = some x) : arr.getD j undef = x := by
  rw [Array.getElem?_toList] at hj
  have hlt := (Array.getElem?_eq_some_iff.1 hj).1
  simp only [Array.getD, hlt, dif_pos]
  exact (Array.getElem?_eq_some_iff.1 hj).2

theorem VR.cv {v : Value} {x : V} (hc : Pv.cv v = some x) : VR N L e w x v := by
  unfold Pv.cv at hc
  split at hc
  · rename_i cs
    cases hm : mapO Pv.cvc cs.toList with
    | none => simp [hm] at hc
    | some l =>
      simp [hm] at hc
      subst hc
      refine .agg l cs (by simpa using (mapO_len hm).symm) (fun j c hj => ?_)
      obtain ⟨y, h1, h2⟩ := mapO_get hm j c hj
      rw [arr_getD_toList h1]
      exact VR.cvc h2
  · exact VR.cvc hc

/-- The operands of an operation, in its slots. -/
theorem OR.of_env {env : List (Nat × V)} {a : Act} (hE : ∀ t, VR N L e w (get env t) (a.tmps.getD t undef)) : OR N M L e w (geto env) a.eval := by
  intro x y hxy
  unfold trOpd at hxy
  split at hxy
  · injection hxy with hxy; subst hxy; exact hE _
  · rename_i v
    cases hc : Pv.cv v with
    | none => simp [hc] at hxy
    | some z => simp [hc] at hxy; subst hxy; exact VR.cv hc
  · rename_i f
    split at hxy
    · rename_i hN
      injection hxy with hxy; subst hxy
      show VR N L e w (.func (M f) []) (.func (.func f) #[] #[])
      have := VR.func (N := N) (L := L) (e := e) (w := w) (M f) [] #[] rfl (by simp)
      rwa [hN] at this
    · cases hxy
  · cases hxy

theorem zeroOf_spec {t : TypeId} {z : List V} (hz : zeroOf P t = some z) : ∃ i zv, P.info? t = some i ∧ i.zero = some zv ∧ z.length = i.size ∧ zv.cells.size = z.length ∧
    (∀ (j : Nat) (c : V), z[j]? = some c → cvc (zv.cells.getD j undef) = some c) ∧ (∀ w, (zeroValue t).run P w = .ok zv w) := by
  unfold zeroOf at hz
  cases hi : P.info? t with
  | none => simp [hi] at hz
  | some i =>
    simp only [hi] at hz
    cases hzv : i.zero with
    | none => simp [hzv] at hz
    | some zv =>
      simp only [hzv] at hz
      cases hm : mapO Pv.cvc zv.cells.toList with
      | none => simp [hm] at hz
      | some l =>
        simp only [hm] at hz
        split at hz
        · rename_i hl
          injection hz with hz
          subst hz
          refine ⟨i, zv, rfl, hzv, hl, by simpa using (mapO_len hm).symm, fun j c hj => ?_, fun w => by simp [zeroValue, typeInfo, hi, hzv]⟩
          obtain ⟨y, h1, h2⟩ := mapO_get hm j c hj
          rw [arr_getD_toList h1]
          exact h2
        · cases hz

theorem run_newVar (t : TypeId) (v : Value) : (newVar t v).run P w = .ok ⟨w.heap.size, 0, none⟩ (w.alloc (.cells v.cells t)) := by
  simp [newVar, newRow]

theorem Tn.apply_bx (h : Heap) (s : Nat) (cs : List V) (new : Bool) : ({ bx := some (s, cs), new := new } : Tn).apply h = { h with bx := bxSet s cs h.bx } := by
  cases h; simp [Tn.apply]

theorem s_alloc (hr : HR N L e W h w) {t : TypeId} {z : List V} (hz : zeroOf P t = some z) {slot : Nat} (hs : look1 slot h.bx = none) (hcalm : z.all V.calm = true) :
    Good P N W L e h w (Instr.alloc t true (.tuple #[])) (.ptr slot 0) { bx := some (slot, z), new := true } := by
  obtain ⟨i, zv, h1, h2, h3, h4, h5, h6⟩ := zeroOf_spec hz
  have hn := Nx.newBox hr hs (cs := z) (arr := zv.cells) t h4 (fun j c hj => ⟨List.all_eq_true.1 hcalm c (List.mem_of_getElem? hj), VR.cvc (h5 j c hj)⟩)
  refine ⟨.pointer (some ⟨w.heap.size, 0, none⟩), w.alloc (.cells zv.cells t), L, e.addBx slot w.heap.size, ?_, ?_, ?_⟩
  · simp [Instr.alloc, h6, run_newVar]
  · rw [Tn.apply_bx]; exact hn
  · have := VR.ptr (N := N) (L := L) (e := e.addBx slot w.heap.size) (w := w.alloc (.cells zv.cells t)) slot 0 (.inr rfl)
    simpa [Emb.addBx, upd1_same] using this

theorem s_box (hr : HR N L e W h w) {t : TypeId} {n : Nat} {slot : Nat} (hs : look1 slot h.bx = none) {x : V} {xv : Value} (hx : VR N L e w x xv)
    (_hn : x.cells.length = n) (hcalm : x.cells.all V.calm = true) : Good P N W L e h w (Instr.box t xv) (.ptr slot 0) { bx := some (slot, x.cells), new := true } := by
  obtain ⟨h1, h2⟩ := hx.cells (calm_sized hcalm)
  have hnx := Nx.newBox hr hs (cs := x.cells) (arr := xv.cells) t h1 (fun j c hj => ⟨List.all_eq_true.1 hcalm c (List.mem_of_getElem? hj), h2 j c hj⟩)
  refine ⟨.pointer (some ⟨w.heap.size, 0, none⟩), w.alloc (.cells xv.cells t), L, e.addBx slot w.heap.size, ?_, ?_, ?_⟩
  · simp [Instr.box, run_newVar]
  · rw [Tn.apply_bx]; exact hnx
  · have := VR.ptr (N := N) (L := L) (e := e.addBx slot w.heap.size) (w := w.alloc (.cells xv.cells t)) slot 0 (.inr rfl)
    simpa [Emb.addBx, upd1_same] using this

theorem Tn.apply_ar (h : Heap) (id : Nat) (a : Arr) (ra : Option Nat) : ({ ar := some (id, a), ra := ra } : Tn).apply h = { h with ar := h.ar.set id a } := by
  cases h; simp [Tn.apply]

/-- Cells as they are kept: plain ones, if all are. -/
def norm (news : List V) : List V :=
  match mapO V.purec news with
  | some l => l.map .pv
  | none => news

theorem V.purec_perm {c : V} {p : PV} (hp : c.purec = some p) : p.perm = true := by
  cases c <;> simp [V.purec] at hp
  · obtain ⟨h1, rfl⟩ := hp; exact h1
  · obtain ⟨h1, rfl⟩ := hp; rfl

theorem VR.purec {c : V} {p : PV} {v : Value} (hv : VR N L e w c v) (hp : c.purec = some p) : VR N L e w (.pv p) v := by
  cases hv with
  | pv q v hq => simp [V.purec] at hp; obtain ⟨_, rfl⟩ := hp; exact .pv _ _ hq
  | func f cap arr h1 h2 =>
    simp [V.purec] at hp
    obtain ⟨hc, rfl⟩ := hp
    subst hc
    exact .pv _ _ (.func f [] arr h1 (by simp))
  | _ => simp [V.purec] at hp

theorem PV.perm_calm {p : PV} (hp : p.perm = true) : (V.pv p).calm = true := by
  cases p <;> simp [PV.perm, V.calm] at * <;> exact hp

theorem norm_len (news : List V) : (norm news).length = news.length := by
  unfold norm
  cases hm : mapO V.purec news with
  | none => rfl
  | some l => simp [mapO_len hm]

theorem norm_get {news : List V} (hc : news.all V.calm = true) {j : Nat} {c : V} (hj : (norm news)[j]? = some c) :
    c.calm = true ∧ ∃ d, news[j]? = some d ∧ ∀ v, VR N L e w d v → VR N L e w c v := by
  unfold norm at hj
  cases hm : mapO V.purec news with
  | none => rw [hm] at hj; exact ⟨List.all_eq_true.1 hc c (List.mem_of_getElem? hj), c, hj, fun _ hv => hv⟩
  | some l =>
    rw [hm] at hj
    obtain ⟨p, hp, rfl⟩ := map_pv_get hj
    obtain ⟨d, h1, h2⟩ := mapO_get hm j p hp
    exact ⟨PV.perm_calm (V.purec_perm h2), d, h1, fun v hv => hv.purec h2⟩

def newsOf (a : Arr) (news : List V) : List V :=
  match a.body with
  | .inl _ => norm news
  | .inr _ => news

theorem newsOf_len (a : Arr) (news : List V) : (newsOf a news).length = news.length := by
  unfold newsOf
  split
  · exact norm_len news
  · rfl

theorem newsOf_get {a : Arr} {news : List V} (hc : news.all V.calm = true) {j : Nat} {c : V} (hj : (newsOf a news)[j]? = some c) :
    c.calm = true ∧ ∃ d, news[j]? = some d ∧ ∀ v, VR N L e w d v → VR N L e w c v := by
  unfold newsOf at hj
  split at hj
  · exact norm_get hc hj
  · exact ⟨List.all_eq_true.1 hc c (List.mem_of_getElem? hj), c, hj, fun _ hv => hv⟩

theorem setBody_rows (a : Arr) (r c : Nat) (news : List V) (hr : r < a.size) :
    (({ a with body := setBody r c news a.body } : Arr)).rows = a.rows.set r ((a.rows.getD r []).take c ++ newsOf a news ++ (a.rows.getD r []).drop (c + news.length)) := by
  obtain ⟨ver, k, body⟩ := a
  cases body with
  | inl x =>
    have hr' : r < x.length := hr
    have hg : (x.map (·.map V.pv)).getD r [] = (x.getD r []).map V.pv := by
      simp [List.getD, List.getElem?_map, List.getElem?_eq_getElem hr']
    simp only [setBody, Arr.rows, newsOf, norm]
    cases hm : mapO V.purec news with
    | none => simp only []; rw [hg]
    | some l =>
      simp only []
      rw [hg, List.map_set]
      simp [List.map_take, List.map_drop]
  | inr x => simp [setBody, Arr.rows, newsOf]

theorem setBody_size (a : Arr) (r c : Nat) (news : List V) : (({ a with body := setBody r c news a.body } : Arr)).size = a.size := by
  obtain ⟨ver, k, body⟩ := a
  cases body with
  | inl x =>
    simp only [setBody, Arr.size]
    cases hm : mapO V.purec news <;> simp
  | inr x => simp [setBody, Arr.size]

theorem Arr.rows_length (a : Arr) : a.rows.length = a.size := by
  obtain ⟨ver, k, body⟩ := a
  cases body <;> simp [Arr.rows, Arr.size]

theorem setBody_perm (a : Arr) (r c : Nat) (news : List V) (hp : permBody a.body) : permBody (setBody r c news a.body) := by
  obtain ⟨ver, k, body⟩ := a
  cases body with
  | inr x => simp [setBody, permBody]
  | inl x =>
    simp only [setBody]
    cases hm : mapO V.purec news with
    | none => simp [permBody]
    | some l =>
      simp only [permBody] at hp ⊢
      intro q hq d hd
      rcases List.mem_or_eq_of_mem_set hq with hq | rfl
      · exact hp q hq d hd
      · have hrow : ∀ d ∈ x.getD r [], d.perm = true := by
          intro d hd
          cases hx : x[r]? with
          | none => simp [List.getD, hx] at hd
          | some q => simp [List.getD, hx] at hd; exact hp q (List.mem_of_getElem? hx) d hd
        simp only [List.mem_append] at hd
        rcases hd with (hd | hd) | hd
        · exact hrow d (List.mem_of_mem_take hd)
        · obtain ⟨j, hj⟩ := List.mem_iff_getElem?.1 hd
          obtain ⟨_, _, h2⟩ := mapO_get hm j d hj
          exact V.purec_perm h2
        · exact hrow d (List.mem_of_mem_drop hd)

/-- A list with news laid over it, place by place. -/
theorem over_get {α : Type} {l news : List α} {c : Nat} (hfit : c + news.length ≤ l.length) {j : Nat} {x : α} (hj : (l.take c ++ news ++ l.drop (c + news.length))[j]? = some x) :
    (c ≤ j ∧ j < c + news.length ∧ news[j - c]? = some x) ∨ ((j < c ∨ c + news.length ≤ j) ∧ l[j]? = some x) := by
  have hl : (l.take c).length = c := by simp; omega
  rcases Nat.lt_or_ge j c with h1 | h1
  · rw [List.append_assoc, List.getElem?_append_left (by omega), List.getElem?_take, if_pos h1] at hj
    exact .inr ⟨.inl h1, hj⟩
  · rcases Nat.lt_or_ge j (c + news.length) with h2 | h2
    · rw [List.append_assoc, List.getElem?_append_right (by omega), List.getElem?_append_left (by omega), hl] at hj
      exact .inl ⟨h1, h2, hj⟩
    · rw [List.getElem?_append_right (by simp; omega), List.getElem?_drop] at hj
      have : c + news.length + (j - (l.take c ++ news).length) = j := by simp; omega
      rw [this] at hj
      exact .inr ⟨.inr h2, hj⟩

theorem over_fwd_in {α : Type} {l news : List α} {c : Nat} (hfit : c + news.length ≤ l.length) {j : Nat} (h1 : c ≤ j) (h2 : j < c + news.length) :
    (l.take c ++ news ++ l.drop (c + news.length))[j]? = news[j - c]? := by
  have hl : (l.take c).length = c := by simp; omega
  rw [List.append_assoc, List.getElem?_append_right (by omega), List.getElem?_append_left (by omega), hl]

theorem over_fwd_out {α : Type} {l news : List α} {c : Nat} (hfit : c + news.length ≤ l.length) {j : Nat} (h1 : j < c ∨ c + news.length ≤ j) :
    (l.take c ++ news ++ l.drop (c + news.length))[j]? = l[j]? := by
  have hl : (l.take c).length = c := by simp; omega
  rcases h1 with h1 | h1
  · rw [List.append_assoc, List.getElem?_append_left (by omega), List.getElem?_take, if_pos h1]
  · rw [List.getElem?_append_right (by simp; omega), List.getElem?_drop]
    have : c + news.length + (j - (l.take c ++ news).length) = j := by simp; omega
    rw [this]

/-- A store of a value's cells. -/
theorem store_run {t : TypeId} {n : Nat} (hsz : (sizeOf t).run P w = .ok n w) {b off : Nat} {xv : Value} (hn : xv.cells.size = n) {arr : Array Value} {ty : TypeId}
    (hb : w.heap[b]? = some (.cells arr ty (0, 0))) (hfit : off + n ≤ arr.size) (h1 : ∀ v ∈ xv.cells.toList, v.oneCell' = true) :
    (storeVar t ⟨b, off, none⟩ xv).run P w = .ok () (w.setRow b (arr.toList.take off ++ xv.cells.toList ++ arr.toList.drop (off + xv.cells.toList.length)).toArray) := by
  have hst := run_storeCells_at P b off ty xv.cells.toList 0 arr w hb (by simp; omega) h1
  simp only [Nat.add_zero] at hst
  simp [storeVar, hsz, hn, hst]

theorem VR.all_one {x : V} {xv : Value} (hx : VR N L e w x xv) (hc : x.cells.all V.calm = true) : ∀ v ∈ xv.cells.toList, v.oneCell' = true := by
  intro v hv
  obtain ⟨h1, h2⟩ := hx.cells (calm_sized hc)
  obtain ⟨j, hj⟩ := List.mem_iff_getElem?.1 hv
  rw [Array.getElem?_toList] at hj
  have hjl := (Array.getElem?_eq_some_iff.1 hj).1
  have hc' : x.cells[j]? = some (x.cells[j]'(by omega)) := List.getElem?_eq_getElem (by omega)
  have hvr := h2 j _ hc'
  have : xv.cells.getD j undef = v := arr_getD_toList (by rw [Array.getElem?_toList]; exact hj)
  rw [this] at hvr
  exact hvr.calm_one (List.all_eq_true.1 hc _ (List.mem_of_getElem? hc'))

theorem storeAt_run {t : TypeId} {a : Addr} {v : Value} : (Instr.storeAt t (.pointer (some a)) v).run P w = (storeVar t a v).run P w := by
  simp [Instr.storeAt, Instr.sureAddr]

theorem s_store (hr : HR N L e W h w) {t : TypeId} {n : Nat} (hsz : (sizeOf t).run P w = .ok n w) {x v : V} {xv vv : Value} (hx : VR N L e w x xv) (hv : VR N L e w v vv)
    (hn : v.cells.length = n) {tn : Tn} (hh : storeAt h x v.cells = some tn) :
    ∃ w' L' e', (Instr.storeAt t xv vv).run P w = .ok () w' ∧ Nx N W L e w L' e' (tn.apply h) w' := by
  unfold storeAt at hh
  split at hh
  · rename_i slot off
    cases hs : look1 slot h.bx with
    | none => simp [hs] at hh
    | some cs =>
      simp only [hs] at hh
      split at hh
      · rename_i hcond
        obtain ⟨hfit, hcalm⟩ := hcond
        injection hh with hh
        subst hh
        cases hx with
        | ptr _ _ hsl =>
          obtain ⟨⟨arr, ty, hb, hbz⟩, _⟩ := hr.bx slot cs hs
          obtain ⟨k1, k2⟩ := hv.cells (calm_sized hcalm)
          have hst := store_run (P := P) hsz (off := off) (xv := vv) (by omega) hb (by omega) (hv.all_one hcalm)
          refine ⟨_, L, e, storeAt_run.trans hst, ?_⟩
          have := Nx.storeBox hr (off := off) (news := v.cells) (vs := vv.cells.toList) hs hb hfit (by simpa using k1) (fun j c hj => by
            have hjl := (List.getElem?_eq_some_iff.1 hj).1
            refine ⟨List.all_eq_true.1 hcalm c (List.mem_of_getElem? hj), vv.cells.getD j undef, ?_, k2 j c hj⟩
            rw [Array.getElem?_toList]
            exact getD_of_getElem? (by omega))
          simpa [Tn.apply] using this
      · cases hh
  · rename_i id ver row col
    cases ho : ownArr h id ver with
    | none => simp [ho] at hh
    | some a =>
      simp only [ho] at hh
      obtain ⟨ha, hver⟩ := ownArr_spec ho
      obtain ⟨e1, e2, e3, e4⟩ := hr.ver id a ha
      split at hh
      · rename_i hcond
        obtain ⟨hrow, hcol, hcalm⟩ := hcond
        injection hh with hh
        subst hh
        have hk : a.k ≠ 0 := by
          intro hk
          have := e4 hk
          rw [← Arr.rows_length, this] at hrow
          simp at hrow
        obtain ⟨g1, ⟨arr, ty, hb, hbz⟩, g3, g4, g5⟩ := hr.ar id a ha hk
        cases hx with
        | aptr _ _ _ _ ad q1 q2 q3 =>
          have had := q3 (by omega)
          subst had
          obtain ⟨k1, k2⟩ := hv.cells (calm_sized hcalm)
          have hle : row * a.k + a.k ≤ e.cap id * a.k := by
            have : (row + 1) * a.k ≤ e.cap id * a.k := Nat.mul_le_mul_right _ (by omega)
            rw [Nat.add_mul, Nat.one_mul] at this
            exact this
          have hst := store_run (P := P) hsz (off := e.ad id + (row * e.ak id + col)) (xv := vv) (by omega) hb (by rw [e2]; omega) (hv.all_one hcalm)
          have hid : id < e.na := q1
          have hlen : vv.cells.toList.length = v.cells.length := by simpa using k1
          have hfit : e.ad id + (row * e.ak id + col) + vv.cells.toList.length ≤ arr.toList.length := by simp; rw [e2]; omega
          refine ⟨_, L, e.setAr id (e.ar id) (e.ad id) (e.cap id) { a with body := setBody row col v.cells a.body }, storeAt_run.trans hst, ?_⟩
          rw [Tn.apply_ar]
          refine Nx.setArr hr (b := e.ar id) (d := e.ad id) (c := e.cap id) { a with body := setBody row col v.cells a.body } ha hk
            (fun q _ hq => setRow_other w _ hq) (by simp) (Fr.setRow (hr.war id hid (by rw [e2]; exact hk)).1 _) (.inr ⟨rfl, rfl, rfl, rfl, rfl, setBody_size a row col v.cells⟩) (.inl rfl) hk
            (by rw [setBody_size]; exact g1) ⟨_, ty, setRow_heap w _ arr _ ty (0, 0) hb, by simp; omega⟩ ?_ ?_ (setBody_perm a row col v.cells g5)
          · intro r hr'
            rw [setBody_rows a row col v.cells hrow] at hr'
            rcases List.mem_or_eq_of_mem_set hr' with hr' | rfl
            · exact g3 r hr'
            · have hrl : (a.rows.getD row []).length = a.k := by
                have : a.rows[row]? = some (a.rows[row]'(by rw [Arr.rows_length]; exact hrow)) := List.getElem?_eq_getElem _
                simp only [List.getD, this, Option.getD_some]
                exact g3 _ (List.getElem_mem _)
              simp only [List.length_append, List.length_take, List.length_drop, newsOf_len, hrl]; omega
          · intro i r hi j c hj
            have hcell : ∀ o, (w.setRow (e.ar id) (arr.toList.take (e.ad id + (row * e.ak id + col)) ++ vv.cells.toList ++ arr.toList.drop (e.ad id + (row * e.ak id + col) + vv.cells.toList.length)).toArray).cell? ⟨e.ar id, o, none⟩ =
                (arr.toList.take (e.ad id + (row * e.ak id + col)) ++ vv.cells.toList ++ arr.toList.drop (e.ad id + (row * e.ak id + col) + vv.cells.toList.length))[o]? := fun o => by
              rw [cell_of_row _ _ _ _ _ _ (setRow_heap w _ arr _ ty (0, 0) hb)]
              simp
            have hold : ∀ o v', w.cell? ⟨e.ar id, o, none⟩ = some v' → arr.toList[o]? = some v' := fun o v' ho' => by
              rw [cell_of_row _ _ _ _ _ _ hb] at ho'
              simpa using ho'
            rw [setBody_rows a row col v.cells hrow] at hi
            have hrowlen : ∀ (i : Nat) (r : List V), a.rows[i]? = some r → r.length = a.k := fun i r hi => g3 r (List.mem_of_getElem? hi)
            have hrg : a.rows[row]? = some (a.rows.getD row []) := by
              have : a.rows[row]? = some (a.rows[row]'(by rw [Arr.rows_length]; exact hrow)) := List.getElem?_eq_getElem _
              simp only [List.getD, this, Option.getD_some]
            have apart : ∀ i' j', i' ≠ row → j' < a.k → e.ad id + i' * a.k + j' < e.ad id + (row * a.k + col) ∨ e.ad id + (row * a.k + col) + v.cells.length ≤ e.ad id + i' * a.k + j' := by
              intro i' j' hne hj'
              rcases Nat.lt_or_ge i' row with hlt | hge
              · left
                have : (i' + 1) * a.k ≤ row * a.k := Nat.mul_le_mul_right _ (by omega)
                rw [Nat.add_mul, Nat.one_mul] at this
                omega
              · right
                have : (row + 1) * a.k ≤ i' * a.k := Nat.mul_le_mul_right _ (by omega)
                rw [Nat.add_mul, Nat.one_mul] at this
                omega
            rcases set_get hi with ⟨rfl, rfl⟩ | ⟨hne, hi⟩
            · have hfit' : col + (newsOf a v.cells).length ≤ (a.rows.getD i []).length := by rw [newsOf_len, hrowlen _ _ hrg]; exact hcol
              rw [← newsOf_len a v.cells] at hj
              rcases over_get hfit' hj with ⟨p1, p2, p3⟩ | ⟨p1, p2⟩
              · obtain ⟨q1', d, q2', q3'⟩ := newsOf_get (N := N) (L := L) (e := e) (w := w) hcalm p3
                refine ⟨q1', vv.cells.getD (j - col) undef, ?_, q3' _ (k2 _ _ q2')⟩
                rw [newsOf_len] at p2
                rw [hcell, over_fwd_in (j := e.ad id + i * a.k + j) hfit (by rw [e2]; omega) (by rw [e2, hlen]; omega), Array.getElem?_toList]
                rw [show e.ad id + i * a.k + j - (e.ad id + (i * e.ak id + col)) = j - col by rw [e2]; omega]
                exact getD_of_getElem? (by omega)
              · obtain ⟨q1', v', q2', q3'⟩ := g4 i _ hrg j c p2
                rw [newsOf_len] at p1
                refine ⟨q1', v', ?_, q3'⟩
                rw [hcell, over_fwd_out (j := e.ad id + i * a.k + j) hfit (by rw [e2, hlen]; omega)]
                exact hold _ _ q2'
            · obtain ⟨q1', v', q2', q3'⟩ := g4 i r hi j c hj
              have hjk : j < a.k := by rw [← hrowlen i r hi]; exact (List.getElem?_eq_some_iff.1 hj).1
              refine ⟨q1', v', ?_, q3'⟩
              rw [hcell, over_fwd_out (j := e.ad id + i * a.k + j) hfit (by rw [e2, hlen]; exact apart i j hne hjk)]
              exact hold _ _ q2'
      · cases hh
  · cases hh

end Go.Pv

/-
  The operations, one by one: parts, addresses of parts, indexes, slices, numbers, strings.
-/
namespace Go.Pv
variable {P : Program} {N M : Nat → Nat} {W : Nat → Prop} {L L' : Lx} {e e' : Emb} {h : Heap} {w w' : World} {g : Opd → V} {ρ : Operand → Value}

/-- The value is there, and the world is as it was. -/
def Plain (P : Program) (N : Nat → Nat) (L : Lx) (e : Emb) (w : World) (s : Sem Value) (v : V) : Prop := ∃ v', s.run P w = .ok v' w ∧ VR N L e w v v'

theorem Plain.good (hr : HR N L e W h w) {s : Sem Value} {v : V} {t : Tn} (hp : Plain P N L e w s v) (ht : t.apply h = h) : Good P N W L e h w s v t := by
  obtain ⟨v', h1, h2⟩ := hp
  exact .pure hr h1 h2 ht

theorem isAgg_of {t : TypeId} {ag : Bool} (hl : isAggT P t = some ag) : (isAgg t).run P w = .ok ag w := by
  unfold isAggT at hl
  cases hu : P.underlying t with
  | none => simp [hu] at hl
  | some d =>
    simp only [hu] at hl
    cases d <;> simp at hl <;> subst hl <;> simp [isAgg, underlying, hu]

/-- A part of a struct's or an array's cells. -/
theorem part_run {t : TypeId} {n : Nat} {ag : Bool} (hl : loadT P t = some (n, ag)) {off : Nat} {cs : List V} {arr : Array Value} (hs : arr.size = cs.length)
    (hv : ∀ (j : Nat) (c : V), cs[j]? = some c → VR N L e w c (arr.getD j undef)) {l : List V} (ht : takeN off n cs = some l) {v : V} (hc : cellsV ag l = some v) :
    Plain P N L e w (part t arr off) v := by
  obtain ⟨h1, h2, h3⟩ := loadT_spec (w := w) hl
  obtain ⟨k1, k2, k3⟩ := takeN_spec ht
  cases ag with
  | true =>
    have hv' : V.agg l = v := by simpa [cellsV] using hc
    subst hv'
    refine ⟨.agg (arr.extract off (off + n)), by simp [part, h1, h2], .agg l _ (by simp; omega) (fun j c hj => ?_)⟩
    have hjl : j < n := by rw [← k1]; exact (List.getElem?_eq_some_iff.1 hj).1
    have := hv (off + j) c (k3 j c hj)
    have e1 : (arr.extract off (off + n)).getD j undef = arr.getD (off + j) undef := by
      have hlt : off + j < arr.size := by omega
      simp only [Array.getD, hlt, dif_pos, Array.size_extract]
      rw [dif_pos (by omega)]
      simp
    rw [e1]; exact this
  | false =>
    have h1' := h3 rfl
    subst h1'
    match l, k1 with
    | [c], _ =>
      have hv' : c = v := by simpa [cellsV] using hc
      subst hv'
      have hcs := k3 0 c rfl
      have hlt : off + 0 < arr.size := by rw [hs]; exact (List.getElem?_eq_some_iff.1 hcs).1
      simp only [Nat.add_zero] at hcs hlt
      refine ⟨arr.getD off undef, ?_, hv off c hcs⟩
      have hge : arr[off]? = some (arr.getD off undef) := getD_of_getElem? hlt
      generalize arr.getD off undef = u at hge
      simp [part, h1, hge]

theorem s_part {t : TypeId} {fs : Array Field} {i n : Nat} {f : Field} {ag : Bool} (hu : P.underlying t = some (.struct fs)) (hf : fs[i]? = some f) (hl : loadT P f.type = some (n, ag)) {cs : List V} {xv : Value}
    (hx : VR N L e w (.agg cs) xv) {l : List V} (ht : takeN f.offset n cs = some l) {v : V} (hc : cellsV ag l = some v) : Plain P N L e w (Instr.field t xv i) v := by
  cases hx with
  | agg _ arr h1 h2 =>
    obtain ⟨v', k1, k2⟩ := part_run hl h1 h2 ht hc
    exact ⟨v', by simp [Instr.field, underlying, hu, hf, asAgg, k1], k2⟩

theorem s_fld {x v : V} {xv : Value} (hx : VR N L e w x xv) {off : Nat} (hh : fldV off x = some v) :
    ∃ a, xv = .pointer (some a) ∧ VR N L e w v (.pointer (some (a.add off))) := by
  unfold fldV at hh
  split at hh
  · rename_i t cs
    injection hh with hh
    subst hh
    cases hx with
    | pv _ _ hp =>
      cases hp with
      | ro _ _ b o vs ha hcell hv h1 =>
        refine ⟨⟨b, o, none⟩, rfl, ?_⟩
        rw [addr_add]
        refine .pv _ _ (.ro t (cs.drop off) b (o + off) (fun j => vs (off + j)) (fun hl => ha (by simp at hl; omega)) (fun j c hj => ?_) (fun j c hj => ?_) (fun c hc => h1 c (List.mem_of_mem_drop hc)))
        · rw [List.getElem?_drop] at hj
          rw [Nat.add_assoc]; exact hcell _ c hj
        · rw [List.getElem?_drop] at hj
          exact hv _ c hj
  · rename_i s o
    injection hh with hh
    subst hh
    cases hx with
    | ptr _ _ hs => exact ⟨_, rfl, by rw [addr_add]; exact .ptr s _ hs⟩
  · injection hh with hh
    subst hh
    cases hx with
    | aptr id ver row col a h1 h2 h3 =>
      refine ⟨a, rfl, .aptr _ _ _ _ _ h1 h2 (fun hv => ?_)⟩
      rw [h3 hv, addr_add, Nat.add_assoc, Nat.add_assoc]
  · cases hh

theorem s_fieldAddr {t : TypeId} {fs : Array Field} {i n : Nat} {f : Field} (hu : P.underlying t = some (.struct fs)) (hf : fs[i]? = some f) (hn : sizeT P f.type = some n) (hn0 : n ≠ 0) {x v : V} {xv : Value}
    (hx : VR N L e w x xv) (hh : fldV f.offset x = some v) : Plain P N L e w (Instr.fieldAt t xv i) v := by
  obtain ⟨a, rfl, h2⟩ := s_fld hx hh
  have hsz := sizeT_spec (w := w) hn
  exact ⟨_, by simp [Instr.fieldAt, underlying, hu, hf, Instr.sureAddr, fieldPlace, hsz, hn0], h2⟩

theorem inRange_spec {i : V} {iv : Value} (hi : VR N L e w i iv) {n j : Nat} (hh : inRange (intOf i) n = some j) : ∃ k x, iv = .int k x ∧ 0 ≤ x ∧ x < n ∧ x.toNat = j ∧ j < n := by
  cases hi with
  | pv p v hp =>
    cases hp with
    | int k x =>
      simp only [intOf, inRange] at hh
      split at hh
      · rename_i hc
        injection hh with hh
        exact ⟨k, x, rfl, hc.1, hc.2, hh, by omega⟩
      · cases hh
    | _ => simp [intOf, inRange] at hh
  | _ => simp [intOf, inRange] at hh

theorem s_idx (hr : HR N L e W h w) {t el : TypeId} {k : Nat} (hu : P.underlying t = some (.slice el)) (hk : sizeT P el = some k) {x i v : V} {xv iv : Value} (hx : VR N L e w x xv) (hi : VR N L e w i iv)
    {tn : Tn} (hh : idxV h k x (intOf i) = some (v, tn)) : Plain P N L e w (Instr.indexAt t xv iv) v ∧ tn.apply h = h := by
  have hsz := sizeT_spec (w := w) hk
  have run : ∀ (a : Addr) (len cap : Nat) (kd : IntKind) (y : Int), 0 ≤ y → y < len → (Instr.indexAt t (.slice (some a) len cap) (.int kd y)).run P w = .ok (.pointer (some (a.add (y.toNat * k)))) w := by
    intro a len cap kd y h0 h1
    simp [Instr.indexAt, asIntOf, underlying, hu, hsz, h0, h1]
  have rows : ∀ (tg : Nat) (rows : List (List PV)) (r : List PV) (j : Nat) (v' : Value), PVR N L w (.lst tg rows) v' → rows[j]? = some r → r.length = k → inRange (intOf i) rows.length = some j →
      Plain P N L e w (Instr.indexAt t v' iv) (.pv (.ro tg r)) := by
    intro tg rows r j v' hp hr hrk hj
    obtain ⟨kd, y, rfl, y0, y1, yj, jl⟩ := inRange_spec hi hj
    cases hp with
    | lst _ _ a ad cap k' vs hk' hc ha hcell hv hpm h1 =>
      obtain ⟨rfl, hsp, hl⟩ := ha (by omega)
      have hkk : k' = k := by rw [← hk' r (List.mem_of_getElem? hr)]; exact hrk
      subst hkk
      refine ⟨_, run ad _ cap kd y y0 y1, ?_⟩
      obtain ⟨b, o, sp⟩ := ad
      simp only at hsp
      subst hsp
      rw [addr_add, yj]
      have hat : ∀ (j' : Nat) (c : PV), r[j']? = some c → at2 rows j j' = some c := fun j' c hc => by simp [at2, hr, hc]
      refine .pv _ _ (.ro tg r b (o + j * k') (fun j' => vs j j') (fun _ => hl) (fun j' c hc => ?_) (fun j' c hc => hv j j' c (hat j' c hc)) (fun c hc => ?_))
      · rw [Nat.add_assoc]; exact hcell j j' c (hat j' c hc)
      · obtain ⟨j', hj'⟩ := List.mem_iff_getElem?.1 hc
        exact PV.calm_one (h1 j j' c (hat j' c hj'))
  have rowsV : ∀ (tg : Nat) (rows' : List (List PV)) (v0 : V) (v' : Value), PVR N L w (.lst tg rows') v' → idxR k tg rows' (intOf i) = some v0 → Plain P N L e w (Instr.indexAt t v' iv) v0 := by
    intro tg rws v0 v' hp hh
    unfold idxR at hh
    cases hj : inRange (intOf i) rws.length with
    | none => simp [hj] at hh
    | some j =>
      simp only [hj] at hh
      cases hr : rws[j]? with
      | none => simp [hr] at hh
      | some r =>
        simp only [hr] at hh
        split at hh
        · rename_i hrk
          injection hh with hh
          subst hh
          exact rows tg rws r j _ hp hr hrk hj
        · cases hh
  unfold idxV at hh
  split at hh
  · rename_i tg rws
    cases hq : idxR k tg rws (intOf i) with
    | none => simp [hq] at hh
    | some v0 =>
      simp [hq] at hh
      obtain ⟨rfl, rfl⟩ := hh
      cases hx with
      | pv _ _ hp => exact ⟨rowsV tg rws _ _ hp hq, Tn.apply_plain h _ _ _ _ _⟩
  · rename_i rws
    cases hq : idxR k 0 rws (intOf i) with
    | none => simp [hq] at hh
    | some v0 =>
      simp [hq] at hh
      obtain ⟨rfl, rfl⟩ := hh
      cases hx with
      | tl _ _ hp => exact ⟨rowsV 0 rws _ _ hp hq, Tn.apply_plain h _ _ _ _ _⟩
  · rename_i id ver off len
    cases hj : inRange (intOf i) len with
    | none => simp [hj] at hh
    | some j =>
      cases ho : ownArr h id ver with
      | none => simp [hj, ho] at hh
      | some ar =>
        simp only [hj, ho] at hh
        split at hh
        · rename_i hk'
          injection hh with hh
          simp only [Prod.mk.injEq] at hh
          obtain ⟨rfl, rfl⟩ := hh
          refine ⟨?_, Tn.apply_plain h _ _ _ _ _⟩
          obtain ⟨kd, y, rfl, y0, y1, yj, jl⟩ := inRange_spec hi hj
          obtain ⟨ho1, ho2⟩ := ownArr_spec ho
          obtain ⟨v1, v2, v3, _⟩ := hr.ver id ar ho1
          cases hx with
          | own _ _ _ _ a cap h0 h1 h2 h3 =>
            obtain ⟨ad, rfl⟩ := Option.isSome_iff_exists.1 (h0 (by omega))
            refine ⟨_, run ad len cap kd y y0 y1, .aptr id ver (off + j) 0 _ h1 h2 (fun hv => ?_)⟩
            obtain ⟨g1, g2, g3, g4⟩ := h3 hv
            have := g4 (by omega)
            injection this with this
            subst this
            rw [addr_add, yj, v2, hk', Nat.add_mul]
            simp [Nat.add_assoc]
        · cases hh
  · cases hh

theorem s_idxa {t el : TypeId} {n k : Nat} (hu : P.underlying t = some (.array n el)) (hk : sizeT P el = some k) {x i v : V} {xv iv : Value} (hx : VR N L e w x xv) (hi : VR N L e w i iv)
    {j : Nat} (hj : inRange (intOf i) n = some j) (hh : fldV (j * k) x = some v) : Plain P N L e w (Instr.indexAt t xv iv) v := by
  have hsz := sizeT_spec (w := w) hk
  obtain ⟨kd, y, rfl, y0, y1, yj, jl⟩ := inRange_spec hi hj
  obtain ⟨a, rfl, h2⟩ := s_fld hx hh
  refine ⟨_, ?_, h2⟩
  subst yj
  simp [Instr.indexAt, asIntOf, underlying, hu, Instr.sureAddr, hsz, y0, y1]

theorem s_ixa {t el : TypeId} {n k : Nat} {ag : Bool} (hu : P.underlying t = some (.array n el)) (hl : loadT P el = some (k, ag)) {cs : List V} {i v : V} {xv iv : Value} (hx : VR N L e w (.agg cs) xv) (hi : VR N L e w i iv)
    {j : Nat} (hj : inRange (intOf i) n = some j) {l : List V} (ht : takeN (j * k) k cs = some l) (hc : cellsV ag l = some v) : Plain P N L e w (Instr.index t xv iv) v := by
  obtain ⟨kd, y, rfl, y0, y1, yj, jl⟩ := inRange_spec hi hj
  cases hx with
  | agg _ arr h1 h2 =>
    obtain ⟨v', k1, k2⟩ := part_run hl h1 h2 ht hc
    obtain ⟨_, hsz, _⟩ := loadT_spec (w := w) hl
    refine ⟨v', ?_, k2⟩
    subst yj
    simp [Instr.index, asIntOf, underlying, hu, hsz, y0, y1, k1]

theorem s_ixs {t : TypeId} (hu : P.underlying t = some .string) {s : ByteArray} {i : V} {xv iv : Value} (hx : VR N L e w (.pv (.str s)) xv) (hi : VR N L e w i iv)
    {j : Nat} (hj : inRange (intOf i) s.size = some j) {b : UInt8} (hb : s[j]? = some b) : Plain P N L e w (Instr.index t xv iv) (.pv (.int .u8 b.toNat)) := by
  obtain ⟨kd, y, rfl, y0, y1, yj, jl⟩ := inRange_spec hi hj
  cases hx with
  | pv _ _ hp =>
    cases hp with
    | str _ =>
      refine ⟨.int .u8 b.toNat, ?_, .pv _ _ (.int _ _)⟩
      subst yj
      simp [Instr.index, asIntOf, underlying, hu, y0, hb]

end Go.Pv

/-
  The operations, one by one: slice expressions, lengths, numbers, strings.
-/
namespace Go.Pv
variable {P : Program} {N M : Nat → Nat} {W : Nat → Prop} {L L' : Lx} {e e' : Emb} {h : Heap} {w w' : World} {g : Opd → V} {ρ : Operand → Value}

theorem bound_spec (hO : OR N M L e w g ρ) {o : Option Operand} {q : Option Opd} (ho : trOpt N M o = some q) {d top b : Nat} (hb : bound g q d top = some b) :
    (o = none ∧ q = none ∧ b = d) ∨ ∃ x y k i, o = some x ∧ q = some y ∧ ρ x = .int k i ∧ 0 ≤ i ∧ i ≤ top ∧ i.toNat = b := by
  unfold trOpt at ho
  split at ho
  · injection ho with ho
    subst ho
    simp [bound] at hb
    exact .inl ⟨rfl, rfl, hb.symm⟩
  · rename_i x
    cases hx : trOpd N M x with
    | none => simp [hx] at ho
    | some y =>
      simp [hx] at ho
      subst ho
      refine .inr ⟨x, y, ?_⟩
      have hv := hO x y hx
      simp only [bound] at hb
      cases hi : intOf (g y) with
      | none => simp [hi] at hb
      | some i =>
        simp only [hi] at hb
        split at hb
        · rename_i hc
          injection hb with hb
          generalize hgy : g y = v at hv hi
          generalize hrx : ρ x = u at hv
          cases hv with
          | pv p u hp =>
            cases hp with
            | int k n =>
              simp [intOf] at hi
              subst hi
              exact ⟨k, n, rfl, rfl, rfl, hc.1, hc.2, hb⟩
            | _ => simp [intOf] at hi
          | _ => simp [intOf] at hi
        · cases hb

theorem bounds_run (hO : OR N M L e w g ρ) {lo hi mx : Option Operand} {lo' hi' mx' : Option Opd} (hlo : trOpt N M lo = some lo') (hhi : trOpt N M hi = some hi') (hmx : trOpt N M mx = some mx')
    (hnn : ∀ y, mx' = some y → hi' ≠ none) {len cap : Nat} (hcap : len ≤ cap) {a b : Nat} {c : Option Nat} (hb : bounds g lo' hi' mx' len = some (a, b, c)) (isS : Bool) :
    (Instr.sliceBounds isS len cap (lo.map ρ) (hi.map ρ) (mx.map ρ)).run P w = .ok (a, b, c.getD cap) w ∧ a ≤ b ∧ b ≤ len ∧ (∀ m, c = some m → b ≤ m ∧ m ≤ len) := by
  unfold bounds at hb
  cases hb1 : bound g hi' len len with
  | none => simp [hb1] at hb
  | some b' =>
    simp only [hb1] at hb
    cases hb2 : bound g lo' 0 b' with
    | none => simp [hb2] at hb
    | some a' =>
      simp only [hb2] at hb
      have hble : b' ≤ len := by
        rcases bound_spec hO hhi hb1 with ⟨_, _, h3⟩ | ⟨_, _, _, i, _, _, _, h4, h5, h6⟩ <;> omega
      have hale : a' ≤ b' := by
        rcases bound_spec hO hlo hb2 with ⟨_, _, h3⟩ | ⟨_, _, _, i, _, _, _, h4, h5, h6⟩ <;> omega
      have low : ∀ code : BoundsCode, ((match lo.map ρ with | some v => Instr.sliceBound v b' code | none => pure 0) : Sem Nat).run P w = .ok a' w := by
        intro code
        rcases bound_spec hO hlo hb2 with ⟨h1, h2, h3⟩ | ⟨x, y, k, i, h1, h2, h3, h4, h5, h6⟩
        · subst h1; simp [h3]
        · subst h1; simp only [Option.map_some, h3]; rw [run_sliceBound w k i b' code h4 h5, h6]
      cases hm : mx' with
      | none =>
        simp only [hm] at hb
        injection hb with hb
        simp only [Prod.mk.injEq] at hb
        obtain ⟨rfl, rfl, rfl⟩ := hb
        refine ⟨?_, hale, hble, fun m hm' => by cases hm'⟩
        have hmn : mx = none := by
          subst hm
          unfold trOpt at hmx
          split at hmx
          · rfl
          · split at hmx <;> simp at hmx
        subst hmn
        have high : ((match hi.map ρ with | some v => Instr.sliceBound v cap (if isS then .sliceAcap else .sliceAlen) | none => pure len) : Sem Nat).run P w = .ok b' w := by
          rcases bound_spec hO hhi hb1 with ⟨h1, h2, h3⟩ | ⟨x, y, k, i, h1, h2, h3, h4, h5, h6⟩
          · subst h1; simp [h3]
          · subst h1; simp only [Option.map_some, h3]; rw [run_sliceBound w k i cap _ h4 (by omega), h6]
        have lowr := low .sliceB
        cases hi with
        | none =>
          simp only [Option.map_none] at high
          simp only [Instr.sliceBounds, Option.map_none, Sem.run_bind, Sem.run_pure, Result.andThen_ok]
          have : len = b' := by simpa using high
          subst this
          cases lo with
          | none => simp only [Option.map_none] at lowr ⊢; simp only [Sem.run_bind, Sem.run_pure, Result.andThen_ok] at lowr ⊢; simpa using lowr
          | some l => simp only [Option.map_some] at lowr ⊢; simp [lowr]
        | some hx =>
          simp only [Option.map_some] at high
          simp only [Instr.sliceBounds, Option.map_none, Option.map_some, Sem.run_bind, Sem.run_pure, Result.andThen_ok, high]
          cases lo with
          | none => simp only [Option.map_none] at lowr ⊢; simp only [Sem.run_bind, Sem.run_pure, Result.andThen_ok] at lowr ⊢; simpa using lowr
          | some l => simp only [Option.map_some] at lowr ⊢; simp [lowr]
      | some y =>
        simp only [hm] at hb
        cases hb3 : bound g (some y) 0 len with
        | none => simp [hb3] at hb
        | some c' =>
          simp only [hb3] at hb
          split at hb
          · rename_i hbc
            injection hb with hb
            simp only [Prod.mk.injEq] at hb
            obtain ⟨rfl, rfl, rfl⟩ := hb
            have hcl : c' ≤ len := by
              rcases bound_spec hO (by rw [← hm]; exact hmx) hb3 with ⟨_, h2, _⟩ | ⟨_, _, _, i, _, _, _, h4, h5, h6⟩
              · cases h2
              · omega
            refine ⟨?_, hale, hble, fun m hm' => by injection hm' with hm'; omega⟩
            rcases bound_spec hO (by rw [← hm]; exact hmx) hb3 with ⟨_, h2, _⟩ | ⟨x, y', k, i, h1, h2, h3, h4, h5, h6⟩
            · cases h2
            · subst h1
              rcases bound_spec hO hhi hb1 with ⟨q1, q2, q3⟩ | ⟨x', y'', k', i', q1, q2, q3, q4, q5, q6⟩
              · exact absurd q2 (hnn y hm)
              · subst q1
                have lowr := low .slice3C
                simp only [Instr.sliceBounds, Option.map_some, Sem.run_bind, h3, q3]
                rw [run_sliceBound w k i cap _ h4 (by omega), Result.andThen_ok, h6, run_sliceBound w k' i' c' _ q4 (by omega), Result.andThen_ok, q6]
                cases lo with
                | none => simp only [Option.map_none] at lowr ⊢; simp only [Sem.run_bind, Sem.run_pure, Result.andThen_ok] at lowr ⊢; simpa using lowr
                | some l => simp only [Option.map_some] at lowr ⊢; simp [lowr]
          · cases hb

/-- A slice of a slice that stays. -/
theorem lst_slice {tg k cap a b m : Nat} {rows : List (List PV)} {A : Option Addr} (hp : PVR N L w (.lst tg rows) (.slice A rows.length cap)) (hf : rowsFit k (.inl rows) = true)
    (hab : a ≤ b) (hb : b ≤ rows.length) (_hm : m ≤ cap) (hbm : b ≤ m) :
    PVR N L w (.lst tg ((rows.take b).drop a)) (.slice (if m = a then A else A.map (·.add (a * k))) (b - a) (m - a)) := by
  have hlen : ((rows.take b).drop a).length = b - a := by simp; omega
  rw [← hlen]
  cases hp with
  | lst _ _ _ ad _ k' vs hk hc ha hcell hv hpm h1 =>
    have hat : ∀ i j c, at2 ((rows.take b).drop a) i j = some c → at2 rows (a + i) j = some c := by
      intro i j c hh
      unfold at2 at hh ⊢
      rw [List.getElem?_drop, List.getElem?_take] at hh
      split at hh
      · exact hh
      · simp at hh
    by_cases hne : 0 < ((rows.take b).drop a).length
    · obtain ⟨rfl, hsp, hl⟩ := ha (by omega)
      have hkk : k' = k := by
        have : rows[0]? = some (rows[0]'(by omega)) := List.getElem?_eq_getElem _
        have h2 := hk _ (List.mem_of_getElem? this)
        simp only [rowsFit, List.all_eq_true, beq_iff_eq] at hf
        rw [← h2]; exact hf _ (List.mem_of_getElem? this)
      subst hkk
      have hma : m ≠ a := by omega
      rw [if_neg hma]
      obtain ⟨bb, o, sp⟩ := ad
      simp only at hsp
      subst hsp
      refine .lst tg _ _ ⟨bb, o + a * k', none⟩ _ k' (fun i j => vs (a + i) j) (fun r hr => hk r (List.mem_of_mem_take (List.mem_of_mem_drop hr))) (by omega) (fun _ => ⟨by simp [addr_add], rfl, hl⟩)
        (fun i j c hh => ?_) (fun i j c hh => hv _ _ c (hat i j c hh)) (fun ht i j c hh => hpm ht _ _ c (hat i j c hh)) (fun i j c hh => h1 _ _ c (hat i j c hh))
      have := hcell _ _ c (hat i j c hh)
      simp only at this ⊢
      rw [← this, Nat.add_mul]
      congr 2
      omega
    · have hnil : (rows.take b).drop a = [] := List.eq_nil_of_length_eq_zero (by omega)
      rw [hnil]
      exact .lst tg [] _ ad _ k' vs (by simp) (by simp) (by simp) (by simp [at2]) (by simp [at2]) (by simp [at2]) (by simp [at2])

theorem nil_slice {tg cap : Nat} {A : Option Addr} : PVR N L w (.lst tg []) (.slice A 0 cap) :=
  .lst tg [] A default cap 0 (fun _ _ => undef) (by simp) (by simp) (by simp) (by simp [at2]) (by simp [at2]) (by simp [at2]) (by simp [at2])

theorem s_slice (hr : HR N L e W h w) (hO : OR N M L e w g ρ) {lo hi mx : Option Operand} {lo' hi' mx' : Option Opd} (hlo : trOpt N M lo = some lo') (hhi : trOpt N M hi = some hi') (hmx : trOpt N M mx = some mx')
    (hnn : ∀ y, mx' = some y → hi' ≠ none) {t el : TypeId} {k : Nat} (hu : P.underlying t = some (.slice el)) (hk : sizeT P el = some k) {x v : V} {xv : Value} (hx : VR N L e w x xv)
    {tn : Tn} (hh : sliceV g h k x lo' hi' mx' = some (v, tn)) : Plain P N L e w (Instr.sliceAt t xv (lo.map ρ) (hi.map ρ) (mx.map ρ)) v ∧ tn.apply h = h := by
  have hsz := sizeT_spec (w := w) hk
  have run : ∀ (A : Option Addr) (len cap a b m : Nat), (Instr.sliceBounds true len cap (lo.map ρ) (hi.map ρ) (mx.map ρ)).run P w = .ok (a, b, m) w →
      (Instr.sliceAt t (.slice A len cap) (lo.map ρ) (hi.map ρ) (mx.map ρ)).run P w = .ok (.slice (if m = a then A else A.map (·.add (a * k))) (b - a) (m - a)) w := by
    intro A len cap a b m hb
    simp [Instr.sliceAt, Instr.slice, underlying, hu, hb, hsz]
  unfold sliceV at hh
  split at hh
  · rename_i tg rows
    split at hh
    · rename_i hf
      cases hx with
      | pv _ _ hp =>
        have hp' := hp
        cases hp with
        | lst _ _ A ad cap k' vs hk' hc ha hcell hv hpm h1 =>
          cases hb : bounds g lo' hi' mx' rows.length with
          | none => simp [hb] at hh
          | some abc =>
            obtain ⟨a, b, c⟩ := abc
            obtain ⟨r1, r2, r3, r4⟩ := bounds_run (P := P) (w := w) hO hlo hhi hmx hnn hc hb true
            simp only [hb] at hh
            cases c with
            | none =>
              simp at hh
              obtain ⟨rfl, rfl⟩ := hh
              exact ⟨⟨_, run A _ cap a b _ r1, .pv _ _ (lst_slice hp' hf r2 r3 (Nat.le_refl _) (by simp; omega))⟩, Tn.apply_plain h _ _ _ _ _⟩
            | some m =>
              simp only [] at hh
              split at hh
              · rename_i hcond
                obtain ⟨rfl, rfl⟩ := hcond
                injection hh with hh
                simp only [Prod.mk.injEq] at hh
                obtain ⟨rfl, rfl⟩ := hh
                refine ⟨⟨_, run A _ cap _ _ _ r1, ?_⟩, Tn.apply_plain h _ _ _ _ _⟩
                simp only [Option.getD_some, Nat.sub_self]
                exact .tl [] _ nil_slice Soft.nil
              · cases hh
    · cases hh
  · rename_i rows
    split at hh
    · rename_i hf
      cases hx with
      | tl _ A hp hsoft =>
        have hso : ∀ (c : Prop) [Decidable c] (j n : Nat), n ≤ rows.length → Soft w (if c then A else A.map (·.add j)) n := by
          intro c _ j n hn h0 ad hd
          split at hd
          · exact hsoft (by omega) ad hd
          · cases A with
            | none => cases hd
            | some a0 =>
              injection hd with hd
              subst hd
              have hb : (a0.add j).block = a0.block := by unfold Addr.add; split <;> rfl
              show ∃ arr ty, w.heap[(a0.add j).block]? = _
              rw [hb]
              exact hsoft (by omega) a0 rfl
        cases hb : bounds g lo' hi' mx' rows.length with
        | none => simp [hb] at hh
        | some abc =>
          obtain ⟨a, b, c⟩ := abc
          obtain ⟨r1, r2, r3, r4⟩ := bounds_run (P := P) (w := w) hO hlo hhi hmx hnn (Nat.le_refl rows.length) hb true
          simp only [hb] at hh
          cases c with
          | none =>
            simp only [Option.getD_none] at r1
            simp only [] at hh
            have hsl := lst_slice (m := rows.length) hp hf r2 r3 (Nat.le_refl _) r3
            split at hh
            · rename_i hbl
              injection hh with hh
              simp only [Prod.mk.injEq] at hh
              obtain ⟨rfl, rfl⟩ := hh
              refine ⟨⟨_, run A _ _ a b _ r1, ?_⟩, Tn.apply_plain h _ _ _ _ _⟩
              have hlen : ((rows.take b).drop a).length = b - a := by simp; omega
              subst hbl
              have := VR.tl (N := N) (L := L) (e := e) (w := w) ((rows.take rows.length).drop a) (if rows.length = a then A else A.map (·.add (a * k))) (by rw [hlen]; exact hsl) (hso _ _ _ (by simp only [List.length_drop, List.length_take]; omega))
              rw [hlen] at this
              exact this
            · injection hh with hh
              simp only [Prod.mk.injEq] at hh
              obtain ⟨rfl, rfl⟩ := hh
              exact ⟨⟨_, run A _ _ a b _ r1, .pv _ _ hsl⟩, Tn.apply_plain h _ _ _ _ _⟩
          | some m =>
            obtain ⟨m1, m2⟩ := r4 m rfl
            simp only [] at hh
            split at hh
            · rename_i hcond
              subst hcond
              injection hh with hh
              simp only [Prod.mk.injEq] at hh
              obtain ⟨rfl, rfl⟩ := hh
              have hlen : ((rows.take m).drop a).length = m - a := by simp; omega
              refine ⟨⟨_, run A _ _ _ _ _ r1, ?_⟩, Tn.apply_plain h _ _ _ _ _⟩
              have hsl := lst_slice (m := m) hp hf r2 r3 m2 (Nat.le_refl _)
              have := VR.tl (N := N) (L := L) (e := e) (w := w) ((rows.take m).drop a) (if m = a then A else A.map (·.add (a * k))) (by rw [hlen]; exact hsl) (hso _ _ _ (by simp only [List.length_drop, List.length_take]; omega))
              rw [hlen] at this
              exact this
            · cases hh
    · cases hh
  · rename_i id ver off len
    cases ho : ownArr h id ver with
    | none => simp [ho] at hh
    | some ar =>
      simp only [ho] at hh
      split at hh
      · rename_i hark
        obtain ⟨ho1, ho2⟩ := ownArr_spec ho
        obtain ⟨v1, v2, v3, _⟩ := hr.ver id ar ho1
        cases hx with
        | own _ _ _ _ A cap h0 h1 h2 h3 =>
          obtain ⟨g1, g2, g3, g4⟩ := h3 (by omega)
          cases hb : bounds g lo' hi' mx' len with
          | none => simp [hb] at hh
          | some abc =>
            obtain ⟨a, b, c⟩ := abc
            obtain ⟨r1, r2, r3, r4⟩ := bounds_run (P := P) (w := w) hO hlo hhi hmx hnn g2 hb true
            simp only [hb] at hh
            cases c with
            | none =>
              simp at hh
              obtain ⟨rfl, rfl⟩ := hh
              refine ⟨⟨_, run A _ cap a b _ r1, ?_⟩, Tn.apply_plain h _ _ _ _ _⟩
              simp only [Option.getD_none]
              refine .own id ver (off + a) (b - a) _ _ (fun hlt => ?_) h1 h2 (fun _ => ⟨by omega, by omega, by omega, fun hlt => ?_⟩)
              · have := h0 (by omega)
                split
                · exact this
                · simpa using this
              · rw [if_neg (by omega), g4 (by omega)]
                simp only [Option.map_some, addr_add]
                rw [v2, hark, Nat.add_mul]
                simp [Nat.add_assoc]
            | some m =>
              simp only [] at hh
              split at hh
              · rename_i hcond
                obtain ⟨rfl, rfl⟩ := hcond
                injection hh with hh
                simp only [Prod.mk.injEq] at hh
                obtain ⟨rfl, rfl⟩ := hh
                refine ⟨⟨_, run A _ cap _ _ _ r1, ?_⟩, Tn.apply_plain h _ _ _ _ _⟩
                simp only [Option.getD_some, Nat.sub_self]
                exact .tl [] _ nil_slice Soft.nil
              · cases hh
      · cases hh
  · cases hh

theorem s_sls (hO : OR N M L e w g ρ) {lo hi : Option Operand} {lo' hi' : Option Opd} (hlo : trOpt N M lo = some lo') (hhi : trOpt N M hi = some hi')
    {t : TypeId} (hu : P.underlying t = some .string) {x v : V} {xv : Value} (hx : VR N L e w x xv) (hh : sliceS g x lo' hi' = some v) :
    Plain P N L e w (Instr.sliceAt t xv (lo.map ρ) (hi.map ρ) none) v := by
  unfold sliceS at hh
  split at hh
  · rename_i s
    cases hx with
    | pv _ _ hp =>
      cases hp with
      | str _ =>
        cases hb1 : bound g hi' s.size s.size with
        | none => simp [hb1] at hh
        | some b =>
          simp only [hb1] at hh
          cases hb2 : bound g lo' 0 b with
          | none => simp [hb2] at hh
          | some a =>
            simp only [hb2] at hh
            injection hh with hh
            subst hh
            have hb : bounds g lo' hi' none s.size = some (a, b, none) := by simp [bounds, hb1, hb2]
            obtain ⟨r1, _⟩ := bounds_run (P := P) (w := w) (mx := none) hO hlo hhi rfl (by simp) (Nat.le_refl s.size) hb false
            simp only [Option.map_none, Option.getD_none] at r1
            exact ⟨_, by simp [Instr.sliceAt, Instr.slice, underlying, hu, r1], .pv _ _ (.str _)⟩
  · cases hh

end Go.Pv

/-
  The operations, one by one: lengths, numbers, strings, parts put together.
-/
namespace Go.Pv
variable {P : Program} {N M : Nat → Nat} {W : Nat → Prop} {L L' : Lx} {e e' : Emb} {h : Heap} {w w' : World} {g : Opd → V} {ρ : Operand → Value}

theorem VR.int {k : IntKind} {n : Int} {v : Value} (hv : VR N L e w (.pv (.int k n)) v) : v = .int k n := by
  cases hv with
  | pv _ _ hp => cases hp; rfl

theorem VR.bool {b : Bool} {v : Value} (hv : VR N L e w (.pv (.bool b)) v) : v = .bool b := by
  cases hv with
  | pv _ _ hp => cases hp; rfl

theorem VR.str {s : ByteArray} {v : Value} (hv : VR N L e w (.pv (.str s)) v) : v = .string s := by
  cases hv with
  | pv _ _ hp => cases hp; rfl

theorem plain_int (k : IntKind) (n : Int) {s : Sem Value} (hs : s.run P w = .ok (.int k n) w) : Plain P N L e w s (.pv (.int k n)) := ⟨_, hs, .pv _ _ (.int k n)⟩
theorem plain_bool (b : Bool) {s : Sem Value} (hs : s.run P w = .ok (.bool b) w) : Plain P N L e w s (.pv (.bool b)) := ⟨_, hs, .pv _ _ (.bool b)⟩
theorem plain_str (b : ByteArray) {s : Sem Value} (hs : s.run P w = .ok (.string b) w) : Plain P N L e w s (.pv (.str b)) := ⟨_, hs, .pv _ _ (.str b)⟩

theorem intBin_run {op : BinOp} {t : TypeId} {k : IntKind} {a b : Int} {p : PV} (hns : ¬ (op = .shl ∨ op = .shr)) (hh : intBin op k a b = some p) :
    Plain P N L e w (binOp op t (.int k a) (.int k b)) (.pv p) := by
  cases op <;> simp [intBin] at hh hns
  case add => subst hh; exact plain_int _ _ (by simp [binOp, Op.intArith])
  case sub => subst hh; exact plain_int _ _ (by simp [binOp, Op.intArith])
  case mul => subst hh; exact plain_int _ _ (by simp [binOp, Op.intArith])
  case quo => obtain ⟨h1, rfl⟩ := hh; exact plain_int _ _ (by simp [binOp, Op.intDiv, h1])
  case rem => obtain ⟨h1, rfl⟩ := hh; exact plain_int _ _ (by simp [binOp, Op.intDiv, h1])
  case and => subst hh; exact plain_int _ _ (by simp [binOp, Op.intBits])
  case or => subst hh; exact plain_int _ _ (by simp [binOp, Op.intBits])
  case xor => subst hh; exact plain_int _ _ (by simp [binOp, Op.intBits])
  case andNot => subst hh; exact plain_int _ _ (by simp [binOp, Op.intBits])
  case eql => subst hh; exact plain_bool _ (by simp [binOp, Op.intCmp])
  case neq => subst hh; exact plain_bool _ (by simp [binOp, Op.intCmp])
  case lss => subst hh; exact plain_bool _ (by simp [binOp, Op.intCmp])
  case leq => subst hh; exact plain_bool _ (by simp [binOp, Op.intCmp])
  case gtr => subst hh; exact plain_bool _ (by simp [binOp, Op.intCmp])
  case geq => subst hh; exact plain_bool _ (by simp [binOp, Op.intCmp])

theorem s_bin {op : BinOp} {t : TypeId} {x y v : V} {xv yv : Value} (hx : VR N L e w x xv) (hy : VR N L e w y yv) (hh : binV op x y = some v) : Plain P N L e w (binOp op t xv yv) v := by
  unfold binV at hh
  split at hh
  · rename_i j a k b
    have e1 := hx.int
    have e2 := hy.int
    subst e1; subst e2
    split at hh
    · rename_i hs
      unfold shiftBin at hh
      split at hh
      · simp at hh
      · rename_i hb
        rcases hs with rfl | rfl
        · simp at hh; subst hh; exact plain_int _ _ (by simp [binOp, Op.shift, hb])
        · simp at hh; subst hh; exact plain_int _ _ (by simp [binOp, Op.shift, hb])
    · rename_i hs
      split at hh
      · rename_i hjk
        subst hjk
        cases hq : intBin op j a b with
        | none => simp [hq] at hh
        | some p => simp [hq] at hh; subst hh; exact intBin_run hs hq
      · cases hh
  · rename_i a b
    have e1 := hx.str
    have e2 := hy.str
    subst e1; subst e2
    cases op <;> simp [strBin] at hh
    · obtain ⟨h1, rfl⟩ := hh
      exact plain_str _ (by
        have : ¬ (((a.size + b.size : Nat) : Int) > IntKind.i64.max) := by
          have : IntKind.i64.max = 9223372036854775807 := by decide
          omega
        simp only [binOp, Op.stringOp]
        rw [if_neg this]
        rfl)
    · subst hh; exact plain_bool _ (by simp [binOp, Op.stringOp])
    · subst hh; exact plain_bool _ (by simp [binOp, Op.stringOp])
  · cases hh

/-- The guard of '==' does nothing at integers and strings. -/
theorem eqGuard_bin {op : BinOp} {t : TypeId} {x y : Operand} {x' y' v : V} {xv yv : Value} (hx : VR N L e w x' xv) (hy : VR N L e w y' yv) (hh : binV op x' y' = some v) :
    (eqGuard op t x y xv yv).run P w = .ok () w := by
  unfold binV at hh
  split at hh
  · have e1 := hx.int
    have e2 := hy.int
    subst e1; subst e2
    unfold eqGuard
    split <;> rfl
  · have e1 := hx.str
    have e2 := hy.str
    subst e1; subst e2
    unfold eqGuard
    split <;> rfl
  · cases hh

theorem s_un {op : UnOp} {x v : V} {xv : Value} (hx : VR N L e w x xv) (hh : unV op x = some v) : Plain P N L e w (Op.unary op xv) v := by
  unfold unV at hh
  split at hh
  · injection hh with hh
    subst hh
    have e1 := hx.int
    subst e1
    exact plain_int _ _ (by simp [Op.unary, Op.intArith])
  · injection hh with hh
    subst hh
    have e1 := hx.bool
    subst e1
    exact plain_bool _ (by simp [Op.unary])
  · cases hh

theorem s_conv {s d : TypeId} {k k' : IntKind} (hs : P.underlying s = some (.int k')) (hd : P.underlying d = some (.int k)) {k0 : IntKind} {n : Int} {xv : Value} (hx : VR N L e w (.pv (.int k0 n)) xv) :
    Plain P N L e w (convert s d xv) (.pv (.int k (k.wrap n))) := by
  have e1 := hx.int
  subst e1
  exact plain_int _ _ (by simp [convert, underlying, hs, hd, Conv.intToInt])

theorem s_convs1 {s d : TypeId} {k' : IntKind} (hs : P.underlying s = some (.int k')) (hd : P.underlying d = some .string) {k0 : IntKind} {n : Int} {xv : Value} (hx : VR N L e w (.pv (.int k0 n)) xv) :
    Plain P N L e w (convert s d xv) (.pv (.str (Utf8.encode n))) := by
  have e1 := hx.int
  subst e1
  exact plain_str _ (by simp [convert, underlying, hs, hd, Conv.intToString])

theorem s_convs2 {s d : TypeId} {de : TypeDesc} (hs : P.underlying s = some de) (hd : P.underlying d = some .string) {b : ByteArray} {xv : Value} (hx : VR N L e w (.pv (.str b)) xv) :
    Plain P N L e w (convert s d xv) (.pv (.str b)) := by
  have e1 := hx.str
  subst e1
  exact plain_str _ (by simp [convert, underlying, hs, hd])

theorem s_ext {vs : List V} {i : Nat} {v : V} {xv : Value} (hx : VR N L e w (.tup vs) xv) (hv : vs[i]? = some v) : Plain P N L e w (Instr.extract xv i) v := by
  cases hx with
  | tup _ arr h1 h2 =>
    have hlt : i < arr.size := by rw [h1]; exact (List.getElem?_eq_some_iff.1 hv).1
    have hge : arr[i]? = some (arr.getD i undef) := getD_of_getElem? hlt
    refine ⟨arr.getD i undef, ?_, h2 i v hv⟩
    generalize arr.getD i undef = u at hge
    simp [Instr.extract, hge]

theorem s_len0 {t el : TypeId} (hd : P.underlying t = some (.slice el)) {ty : TypeId} {x : V} {xv : Value} (hx : VR N L e w x xv) {n : Nat} {tn : Tn} (hh : lenV h 0 x = some (n, tn)) :
    (Builtin.len_ #[t] ty #[xv]).run P w = .ok (goInt n) w ∧ tn.apply h = h := by
  unfold lenV at hh
  split at hh <;> first | (cases hh; done) | skip
  · rename_i tg rows _
    simp at hh
    obtain ⟨rfl, rfl⟩ := hh
    refine ⟨?_, Tn.apply_plain h _ _ _ _ _⟩
    cases hx with
    | pv _ _ hp => cases hp with | lst => simp [Builtin.len_, underlying, hd]
  · simp at hh
    obtain ⟨rfl, rfl⟩ := hh
    refine ⟨?_, Tn.apply_plain h _ _ _ _ _⟩
    cases hx with
    | tl => simp [Builtin.len_, underlying, hd]
  · simp at hh
    obtain ⟨rfl, rfl⟩ := hh
    refine ⟨?_, Tn.apply_plain h _ _ _ _ _⟩
    cases hx with
    | own => simp [Builtin.len_, underlying, hd]
  all_goals (rename_i hq; simp at hq)

theorem s_len1 {t : TypeId} (hd : P.underlying t = some .string) {ty : TypeId} {x : V} {xv : Value} (hx : VR N L e w x xv) {n : Nat} {tn : Tn} (hh : lenV h 1 x = some (n, tn)) :
    (Builtin.len_ #[t] ty #[xv]).run P w = .ok (goInt n) w ∧ tn.apply h = h := by
  unfold lenV at hh
  split at hh <;> first | (cases hh; done) | skip
  all_goals first
    | (rename_i hq; simp at hq; done)
    | (simp at hh
       obtain ⟨rfl, rfl⟩ := hh
       refine ⟨?_, Tn.apply_plain h _ _ _ _ _⟩
       have e1 := hx.str
       subst e1
       simp [Builtin.len_, underlying, hd])

theorem getObj_map {r : Nat} {es : Array MapEntry} {cl : Nat} (hm : w.heap[r]? = some (.map es cl)) : (getObj r).run P w = .ok (.map es cl) w := by
  simp [getObj, Sem.run, hm]

theorem s_len2 (hr : HR N L e W h w) {t k el : TypeId} (hd : P.underlying t = some (.map k el)) {ty : TypeId} {x : V} {xv : Value} (hx : VR N L e w x xv) {n : Nat} {tn : Tn} (hh : lenV h 2 x = some (n, tn)) :
    (Builtin.len_ #[t] ty #[xv]).run P w = .ok (goInt n) w ∧ tn.apply h = h := by
  unfold lenV at hh
  split at hh <;> first | (cases hh; done) | skip
  all_goals (try (rename_i hq; simp at hq; done))
  · rename_i id _
    cases hm : h.mp[id]? with
    | none => simp [hm] at hh
    | some m =>
      simp [hm] at hh
      obtain ⟨rfl, rfl⟩ := hh
      refine ⟨?_, Tn.apply_plain h _ _ _ _ _⟩
      cases hx with
      | map _ hid =>
        obtain ⟨es, cl, g1, g2, _⟩ := hr.mp id m hm
        simp [Builtin.len_, underlying, hd, getObj_map g1, g2]
  · simp at hh
    obtain ⟨rfl, rfl⟩ := hh
    refine ⟨?_, Tn.apply_plain h _ _ _ _ _⟩
    cases hx with
    | nilm => simp [Builtin.len_, underlying, hd]

theorem minmax_run (isMax : Bool) (k : IntKind) : ∀ (r : List V) (vs : List Value) (a n : Int), (∀ (j : Nat) (c : V), r[j]? = some c → ∃ v, vs[j]? = some v ∧ VR N L e w c v) → vs.length = r.length → minmaxI isMax a r = some n →
    (vs.foldlM (if isMax then Builtin.max2 else Builtin.min2) (.int k a)).run P w = .ok (.int k n) w
  | [], vs, a, n, _, hl, hh => by
    have : vs = [] := List.eq_nil_of_length_eq_zero (by simpa using hl)
    subst this
    simp [minmaxI] at hh
    subst hh
    rfl
  | c :: r, vs, a, n, hv, hl, hh => by
    match vs, hl with
    | v :: vs, hl =>
      unfold minmaxI at hh
      split at hh
      · cases ‹_ :: _ = []›
      · rename_i k' b r' heq
        injection heq with h1 h2
        subst h1; subst h2
        obtain ⟨v', h3, h4⟩ := hv 0 _ rfl
        simp at h3
        subst h3
        have e1 := h4.int
        subst e1
        have ih := minmax_run isMax k r vs _ n (fun j c hj => by simpa using hv (j + 1) c (by simpa using hj)) (by simpa using hl) hh
        cases isMax <;> simp [List.foldlM_cons, Builtin.max2, Builtin.min2] at ih ⊢ <;> exact ih
      · cases hh

/-- Cells that stand for cells, one by one. -/
def CellsR (N : Nat → Nat) (L : Lx) (e : Emb) (w : World) (cs : List V) (arr : Array Value) : Prop :=
  arr.size = cs.length ∧ ∀ (j : Nat) (c : V), cs[j]? = some c → VR N L e w c (arr.getD j undef)

/-- Cells laid over others, one by one. -/
def layOver (off : Nat) (vs : Array Value) (cells : Array Value) : Array Value := vs.zipIdx.foldl (fun cs (c, j) => cs.setIfInBounds (off + j) c) cells

theorem layOver_list (off : Nat) : ∀ (l : List Value) (i : Nat) (cells : Array Value), 
    ((l.zipIdx i).foldl (fun (cs : Array Value) (x : Value × Nat) => cs.setIfInBounds (off + x.2) x.1) cells).size = cells.size ∧
    ∀ j, ((l.zipIdx i).foldl (fun (cs : Array Value) (x : Value × Nat) => cs.setIfInBounds (off + x.2) x.1) cells)[j]? =
      if off + i ≤ j ∧ j < off + i + l.length ∧ j < cells.size then l[j - (off + i)]? else cells[j]?
  | [], i, cells => by
    refine ⟨rfl, fun j => ?_⟩
    rw [if_neg (by simp; omega)]
    rfl
  | v :: l, i, cells => by
    obtain ⟨h1, h2⟩ := layOver_list off l (i + 1) (cells.setIfInBounds (off + i) v)
    simp only [List.zipIdx_cons, List.foldl_cons]
    refine ⟨by rw [h1]; simp, fun j => ?_⟩
    rw [h2 j]
    simp only [Array.size_setIfInBounds, List.length_cons]
    by_cases hj : j = off + i
    · subst hj
      rw [if_neg (by omega)]
      by_cases hs : off + i < cells.size
      · rw [if_pos (by omega), Array.getElem?_setIfInBounds_self_of_lt hs]
        simp
      · rw [if_neg (by omega), Array.getElem?_eq_none (by simp; omega), Array.getElem?_eq_none (by omega)]
    · by_cases hc : off + (i + 1) ≤ j ∧ j < off + (i + 1) + l.length ∧ j < cells.size
      · rw [if_pos hc, if_pos (by omega)]
        rw [show j - (off + i) = (j - (off + (i + 1))) + 1 by omega, List.getElem?_cons_succ]
      · rw [if_neg hc, if_neg (by omega), Array.getElem?_setIfInBounds_ne (Ne.symm hj)]

theorem layOver_get (off : Nat) (vs cells : Array Value) : (layOver off vs cells).size = cells.size ∧
    ∀ j, (layOver off vs cells)[j]? = if off ≤ j ∧ j < off + vs.size ∧ j < cells.size then vs[j - off]? else cells[j]? := by
  have key : layOver off vs cells = (vs.toList.zipIdx 0).foldl (fun (cs : Array Value) (x : Value × Nat) => cs.setIfInBounds (off + x.2) x.1) cells := by
    unfold layOver
    rw [← Array.foldl_toList, Array.toList_zipIdx]
  rw [key]
  obtain ⟨h1, h2⟩ := layOver_list off vs.toList 0 cells
  refine ⟨h1, fun j => ?_⟩
  rw [h2 j]
  simp

theorem CellsR.over {cs : List V} {arr : Array Value} (hc : CellsR N L e w cs arr) {x : V} {v : Value} (hx : VR N L e w x v) (hs : x.sized = true) {off : Nat} (hfit : off + x.cells.length ≤ cs.length) :
    CellsR N L e w (setAt cs off x.cells) (layOver off v.cells arr) := by
  obtain ⟨h1, h2⟩ := hx.cells hs
  obtain ⟨k1, k2⟩ := layOver_get off v.cells arr
  refine ⟨by rw [k1, hc.1]; simp [setAt]; omega, fun j c hj => ?_⟩
  have hjl : j < arr.size := by
    rw [hc.1]
    have := (List.getElem?_eq_some_iff.1 hj).1
    simp [setAt] at this
    omega
  have hget : (layOver off v.cells arr).getD j undef = ((layOver off v.cells arr)[j]?).getD undef := by simp
  rw [hget, k2 j]
  unfold setAt at hj
  rcases over_get hfit hj with ⟨p1, p2, p3⟩ | ⟨p1, p2⟩
  · rw [if_pos (by omega)]
    have := h2 _ c p3
    simpa using this
  · rw [if_neg (by omega)]
    have := hc.2 j c p2
    simpa using this

/-- Parts laid over zero cells. -/
theorem fill_run (hO : OR N M L e w g ρ) {place : Nat → Option (Nat × Nat)} : ∀ (parts : List (Nat × Operand)) (parts' : List (Nat × Nat × Opd)) (cs cs' : List V) (arr : Array Value),
    parts'.length = parts.length → (∀ (j : Nat) (q : Nat × Nat × Opd), parts'[j]? = some q → ∃ i x, parts[j]? = some (i, x) ∧ place i = some (q.1, q.2.1) ∧ trOpd N M x = some q.2.2) →
    CellsR N L e w cs arr → fillv g cs parts' = some cs' → ∃ arr', Instr.fill place arr (parts.map fun (i, x) => (i, ρ x)) = some arr' ∧ CellsR N L e w cs' arr'
  | [], parts', cs, cs', arr, hl, _, hc, hf => by
    have : parts' = [] := List.eq_nil_of_length_eq_zero (by simpa using hl)
    subst this
    simp [fillv] at hf
    subst hf
    exact ⟨arr, rfl, hc⟩
  | (i, x) :: parts, parts', cs, cs', arr, hl, hp, hc, hf => by
    match parts', hl with
    | (off, n, y) :: parts', hl =>
      obtain ⟨i', x', q1, q2, q3⟩ := hp 0 _ rfl
      simp at q1
      obtain ⟨rfl, rfl⟩ := q1
      simp only [fillv] at hf
      split at hf
      · rename_i hcond
        obtain ⟨c1, c2, c3⟩ := hcond
        have hx := hO x y q3
        obtain ⟨h1, h2⟩ := hx.cells c1
        have hov := hc.over hx c1 (off := off) (by omega)
        obtain ⟨arr', r1, r2⟩ := fill_run hO parts parts' _ cs' _ (by simpa using hl) (fun j q hj => by simpa using hp (j + 1) q (by simpa using hj)) hov hf
        refine ⟨arr', ?_, r2⟩
        simp only [List.map_cons, Instr.fill, q2]
        have hn : (((ρ x).cells.size ≠ n || off + (ρ x).cells.size > arr.size) : Bool) = false := by
          have e1 : (ρ x).cells.size = n := by rw [h1, c2]
          simp [e1, hc.1]; omega
        rw [if_neg (by rw [hn]; simp)]
        exact r1
      · cases hf

theorem CellsR.zero {t : TypeId} {z : List V} (hz : zeroOf P t = some z) : ∃ zv, (∀ w, (zeroValue t).run P w = .ok zv w) ∧ CellsR N L e w z zv.cells := by
  obtain ⟨i, zv, h1, h2, h3, h4, h5, h6⟩ := zeroOf_spec hz
  exact ⟨zv, h6, h4, fun j c hj => VR.cvc (h5 j c hj)⟩

theorem partsA_spec {k : Nat} : ∀ {parts : List (Nat × Operand)} {l : List (Nat × Nat × Opd)}, partsA N M k parts = some l → l.length = parts.length ∧
    ∀ (j : Nat) (q : Nat × Nat × Opd), l[j]? = some q → ∃ i x, parts[j]? = some (i, x) ∧ some (i * k, k) = some (q.1, q.2.1) ∧ trOpd N M x = some q.2.2
  | [], l, hh => by simp [partsA] at hh; subst hh; simp
  | (i, x) :: r, l, hh => by
    unfold partsA at hh
    cases hx : trOpd N M x with
    | none => simp [hx] at hh
    | some y =>
      cases hr : partsA N M k r with
      | none => simp [hx, hr] at hh
      | some s =>
        simp [hx, hr] at hh
        subst hh
        obtain ⟨k1, k2⟩ := partsA_spec hr
        refine ⟨by simp [k1], fun j q hj => ?_⟩
        match j with
        | 0 => simp at hj; subst hj; exact ⟨i, x, rfl, rfl, hx⟩
        | j + 1 => simpa using k2 j q (by simpa using hj)

theorem partsS_spec {fs : Array Field} : ∀ {parts : List (Nat × Operand)} {l : List (Nat × Nat × Opd)}, partsS P N M fs parts = some l → l.length = parts.length ∧
    ∀ (j : Nat) (q : Nat × Nat × Opd), l[j]? = some q → ∃ i x f, parts[j]? = some (i, x) ∧ fs[i]? = some f ∧ q.1 = f.offset ∧ sizeT P f.type = some q.2.1 ∧ trOpd N M x = some q.2.2
  | [], l, hh => by simp [partsS] at hh; subst hh; simp
  | (i, x) :: r, l, hh => by
    unfold partsS at hh
    cases hf : fs[i]? with
    | none => simp [hf] at hh
    | some f =>
      cases hx : trOpd N M x with
      | none => simp [hf, hx] at hh
      | some y =>
        cases hr : partsS P N M fs r with
        | none => simp [hf, hx, hr] at hh
        | some s =>
          cases hn : sizeT P f.type with
          | none => simp [hf, hx, hr, hn] at hh
          | some n =>
            simp [hf, hx, hr, hn] at hh
            subst hh
            obtain ⟨k1, k2⟩ := partsS_spec hr
            refine ⟨by simp [k1], fun j q hj => ?_⟩
            match j with
            | 0 => simp at hj; subst hj; exact ⟨i, x, f, rfl, hf, rfl, hn, hx⟩
            | j + 1 => simpa using k2 j q (by simpa using hj)

theorem places_run (fs : Array Field) (hall : fs.all (fun f => (sizeT P f.type).isSome) = true) :
    (fs.mapM fun f => do pure (f.offset, ← sizeOf f.type) : Sem (Array (Nat × Nat))).run P w = .ok (fs.map fun f => (f.offset, (sizeT P f.type).getD 0)) w := by
  have hl : ∀ f ∈ fs.toList, (sizeT P f.type).isSome = true := fun f hf => Array.all_eq_true_iff_forall_mem.1 hall f (by simpa using hf)
  have key : ∀ l : List Field, (∀ f ∈ l, (sizeT P f.type).isSome = true) → (l.mapM fun f => Functor.map (Prod.mk f.offset) (sizeOf f.type) : Sem (List (Nat × Nat))).run P w = .ok (l.map fun f => (f.offset, (sizeT P f.type).getD 0)) w := by
    intro l
    induction l with
    | nil => intro _; rfl
    | cons f l ih =>
      intro hl
      obtain ⟨n, hn⟩ := Option.isSome_iff_exists.1 (hl f (by simp))
      have hsz := sizeT_spec (w := w) hn
      simp [List.mapM_cons, hsz, ih (fun f hf => hl f (by simp [hf])), hn]
  obtain ⟨fl⟩ := fs
  have := key fl hl
  simp only [Array.mapM_eq_mapM_toList] at *
  simp [this]

theorem s_build1 (hO : OR N M L e w g ρ) {t : TypeId} {z : List V} (hz : zeroOf P t = some z) {fs : Array Field} (hu : P.underlying t = some (.struct fs)) (hall : fs.all (fun f => (sizeT P f.type).isSome) = true)
    {parts : Array (Nat × Operand)} {l : List (Nat × Nat × Opd)} (hp : partsS P N M fs parts.toList = some l) {cs : List V} (hf : fillv g z l = some cs) :
    Plain P N L e w (Instr.build t (parts.map fun (i, x) => (i, ρ x))) (.agg cs) := by
  obtain ⟨zv, h1, h2⟩ := CellsR.zero (N := N) (L := L) (e := e) (w := w) hz
  obtain ⟨k1, k2⟩ := partsS_spec hp
  obtain ⟨arr', r1, r2⟩ := fill_run hO (place := fun i => (fs.map fun f => (f.offset, (sizeT P f.type).getD 0))[i]?) parts.toList l z cs zv.cells k1 (fun j q hj => by
    obtain ⟨i, x, f, q1, q2, q3, q4, q5⟩ := k2 j q hj
    exact ⟨i, x, q1, by simp [q2, q3, q4], q5⟩) h2 hf
  refine ⟨.agg arr', ?_, .agg cs arr' r2.1 r2.2⟩
  have hpl := places_run (P := P) (w := w) fs hall
  simp only [Instr.build, Sem.run_bind, h1, Result.andThen_ok, underlying, run_program, hu, Sem.run_pure]
  rw [hpl]
  simp only [Result.andThen_ok, Array.toList_map]
  rw [r1]
  rfl

theorem s_build2 (hO : OR N M L e w g ρ) {t el : TypeId} {len k : Nat} {z : List V} (hz : zeroOf P t = some z) (hu : P.underlying t = some (.array len el)) (hk : sizeT P el = some k)
    {parts : Array (Nat × Operand)} {l : List (Nat × Nat × Opd)} (hp : partsA N M k parts.toList = some l) {cs : List V} (hf : fillv g z l = some cs) :
    Plain P N L e w (Instr.build t (parts.map fun (i, x) => (i, ρ x))) (.agg cs) := by
  obtain ⟨zv, h1, h2⟩ := CellsR.zero (N := N) (L := L) (e := e) (w := w) hz
  obtain ⟨k1, k2⟩ := partsA_spec hp
  obtain ⟨arr', r1, r2⟩ := fill_run hO (place := fun i => some (i * k, k)) parts.toList l z cs zv.cells k1 k2 h2 hf
  refine ⟨.agg arr', ?_, .agg cs arr' r2.1 r2.2⟩
  have hsz := sizeT_spec (w := w) hk
  simp only [Instr.build, Sem.run_bind, h1, Result.andThen_ok, underlying, run_program, hu, Sem.run_pure, hsz, Array.toList_map]
  rw [r1]
  rfl

end Go.Pv

/-
  The operations, one by one: slices made, written out, appended to.
-/
namespace Go.Pv
variable {P : Program} {N M : Nat → Nat} {W : Nat → Prop} {L L' : Lx} {e e' : Emb} {h : Heap} {w w' : World} {g : Opd → V} {ρ : Operand → Value}

def rowsOf : Sum (List (List PV)) (List (List V)) → List (List V)
  | .inl l => l.map (·.map .pv)
  | .inr l => l

theorem Arr.rows_of (a : Arr) : a.rows = rowsOf a.body := by
  obtain ⟨v, k, b⟩ := a
  cases b <;> rfl

theorem rowsOf_len (s : Sum (List (List PV)) (List (List V))) : (rowsOf s).length = rowsLen s := by
  cases s <;> simp [rowsOf, rowsLen]

theorem rowsOf_cat (a b : Sum (List (List PV)) (List (List V))) : rowsOf (catRows a b) = rowsOf a ++ rowsOf b := by
  cases a <;> cases b <;> simp [rowsOf, catRows]

theorem rowsOf_cut (off len : Nat) (s : Sum (List (List PV)) (List (List V))) : rowsOf (cutRows off len s) = ((rowsOf s).drop off).take len := by
  cases s <;> simp [rowsOf, cutRows, List.map_take, List.map_drop]

theorem rowsFit_spec {k : Nat} {s : Sum (List (List PV)) (List (List V))} (hf : rowsFit k s = true) : ∀ r ∈ rowsOf s, r.length = k := by
  cases s with
  | inl x =>
    intro r hr
    simp only [rowsOf, List.mem_map] at hr
    obtain ⟨q, hq, rfl⟩ := hr
    simp only [rowsFit, List.all_eq_true, beq_iff_eq] at hf
    simpa using hf q hq
  | inr x =>
    intro r hr
    simp only [rowsFit, List.all_eq_true, beq_iff_eq] at hf
    exact hf r hr

theorem permBody_cat {a b : Sum (List (List PV)) (List (List V))} (ha : permBody a) (hb : permBody b) : permBody (catRows a b) := by
  cases a <;> cases b <;> simp only [catRows, permBody] at *
  intro r hr
  rcases List.mem_append.1 hr with hr | hr
  · exact ha r hr
  · exact hb r hr

theorem permBody_cut {off len : Nat} {a : Sum (List (List PV)) (List (List V))} (ha : permBody a) : permBody (cutRows off len a) := by
  cases a <;> simp only [cutRows, permBody] at *
  intro r hr
  exact ha r (List.mem_of_mem_drop (List.mem_of_mem_take hr))

/-- Rows that lie one behind the other as so many values. -/
def RowsR (N : Nat → Nat) (L : Lx) (e : Emb) (w : World) (k : Nat) (rows : List (List V)) (vals : List Value) : Prop :=
  vals.length = rows.length * k ∧ (∀ r ∈ rows, r.length = k) ∧ ∀ (i : Nat) (r : List V), rows[i]? = some r → ∀ (j : Nat) (c : V), r[j]? = some c → c.calm = true ∧ ∃ u, vals[i * k + j]? = some u ∧ VR N L e w c u

theorem RowsR.one {k : Nat} {rows : List (List V)} {vals : List Value} (hr : RowsR N L e w k rows vals) : ∀ u ∈ vals, u.oneCell' = true := by
  intro u hu
  obtain ⟨q, hq⟩ := List.mem_iff_getElem?.1 hu
  have hql : q < vals.length := (List.getElem?_eq_some_iff.1 hq).1
  rw [hr.1] at hql
  have hk : 0 < k := by
    rcases Nat.eq_zero_or_pos k with h0 | h0
    · rw [h0] at hql; simp at hql
    · exact h0
  have hi : q / k < rows.length := (Nat.div_lt_iff_lt_mul hk).2 hql
  have hri : rows[q / k]? = some (rows[q / k]'hi) := List.getElem?_eq_getElem hi
  have hrl := hr.2.1 _ (List.mem_of_getElem? hri)
  have hj : q % k < (rows[q / k]'hi).length := by rw [hrl]; exact Nat.mod_lt _ hk
  obtain ⟨h1, u', h2, h3⟩ := hr.2.2 _ _ hri (q % k) _ (List.getElem?_eq_getElem hj)
  rw [Nat.div_add_mod' q k, hq] at h2
  injection h2 with h2
  subst h2
  exact h3.calm_one h1

/-- Cells that lie in memory from b on, as values. -/
theorem vals_of {k n : Nat} {b off : Nat} (f : ∀ q, q < n * k → ∃ v, w.cell? ⟨b, off + q, none⟩ = some v) : ∃ vals : List Value, vals.length = n * k ∧ ∀ q v, vals[q]? = some v → w.cell? ⟨b, off + q, none⟩ = some v := by
  refine ⟨(List.range (n * k)).map fun q => (w.cell? ⟨b, off + q, none⟩).getD undef, by simp, fun q v hq => ?_⟩
  have hlt : q < n * k := by have := (List.getElem?_eq_some_iff.1 hq).1; simpa using this
  obtain ⟨u, hu⟩ := f q hlt
  simp [hlt, hu] at hq
  rw [hu, hq]

/-- A slice that stays, as rows and values. -/
theorem lst_rows {tg k cap : Nat} {rows : List (List PV)} {A : Option Addr} (hp : PVR N L w (.lst tg rows) (.slice A rows.length cap)) (hf : rowsFit k (.inl rows) = true) :
    ∃ (ad : Addr) (vals : List Value), (0 < rows.length → A = some ad) ∧ RowsR N L e w k (rows.map (·.map .pv)) vals ∧ ∀ q v, vals[q]? = some v → w.cell? (ad.add q) = some v := by
  have hfit := rowsFit_spec hf
  cases hp with
  | lst _ _ _ ad _ k' vs hk hc ha hcell hv hpm h1 =>
    by_cases hn : 0 < rows.length
    · obtain ⟨rfl, hsp, hl⟩ := ha hn
      obtain ⟨b, o, sp⟩ := ad
      simp only at hsp
      subst hsp
      have hkk : k' = k := by
        have : rows[0]? = some (rows[0]'hn) := List.getElem?_eq_getElem _
        rw [← hk _ (List.mem_of_getElem? this)]
        have := hfit ((rows[0]'hn).map .pv) (List.mem_map.2 ⟨_, List.getElem_mem _, rfl⟩)
        simpa using this
      subst hkk
      have hat : ∀ q, q < rows.length * k' → ∃ c, at2 rows (q / k') (q % k') = some c := by
        intro q hq
        have hk0 : 0 < k' := by
          rcases Nat.eq_zero_or_pos k' with h0 | h0
          · rw [h0] at hq; simp at hq
          · exact h0
        have hi : q / k' < rows.length := (Nat.div_lt_iff_lt_mul hk0).2 hq
        have hrl := hk (rows[q / k']'hi) (List.getElem_mem _)
        refine ⟨(rows[q / k']'hi)[q % k']'(by rw [hrl]; exact Nat.mod_lt _ hk0), ?_⟩
        simp [at2, List.getElem?_eq_getElem hi]
      obtain ⟨vals, v1, v2⟩ := vals_of (w := w) (k := k') (n := rows.length) (b := b) (off := o) (fun q hq => by
        obtain ⟨c, hc⟩ := hat q hq
        have := hcell _ _ c hc
        rw [Nat.div_add_mod' q k'] at this
        exact ⟨_, this⟩)
      refine ⟨⟨b, o, none⟩, vals, fun _ => rfl, ⟨by simpa using v1, fun r hr => ?_, fun i r hi j c hj => ?_⟩, fun q v hq => by rw [addr_add]; exact v2 q v hq⟩
      · obtain ⟨q, hq, rfl⟩ := List.mem_map.1 hr
        simpa using hk q hq
      · rw [List.getElem?_map] at hi
        cases hri : rows[i]? with
        | none => simp [hri] at hi
        | some q =>
          simp [hri] at hi
          subst hi
          obtain ⟨p, hp, rfl⟩ := map_pv_get hj
          have hat' : at2 rows i j = some p := by simp [at2, hri, hp]
          have hjk : j < k' := by rw [← hk q (List.mem_of_getElem? hri)]; exact (List.getElem?_eq_some_iff.1 hp).1
          have hil : i < rows.length := (List.getElem?_eq_some_iff.1 hri).1
          have hql : i * k' + j < vals.length := by
            rw [v1]
            have : (i + 1) * k' ≤ rows.length * k' := Nat.mul_le_mul_right _ (by omega)
            rw [Nat.add_mul, Nat.one_mul] at this
            omega
          refine ⟨by rw [PV.calm_v]; exact h1 i j p hat', vs i j, ?_, .pv _ _ (hv i j p hat')⟩
          have h3 := v2 _ _ (List.getElem?_eq_getElem hql)
          have h4 := hcell i j p hat'
          simp only at h4
          rw [h4] at h3
          injection h3 with h3
          rw [List.getElem?_eq_getElem hql, ← h3]
    · have h0 : rows = [] := List.eq_nil_of_length_eq_zero (by omega)
      subst h0
      exact ⟨default, [], fun hh => absurd hh (by simp), ⟨by simp, by simp, by simp⟩, by simp⟩

theorem cut_full {α : Type} {l : List α} {off len : Nat} (hfit : off + len ≤ l.length) : ((l.drop off).take len).length = len := by simp; omega

theorem cut_get {α : Type} {l : List α} {off len i : Nat} {x : α} (hi : ((l.drop off).take len)[i]? = some x) : i < len ∧ l[off + i]? = some x := by
  rw [List.getElem?_take] at hi
  split at hi
  · rw [List.getElem?_drop] at hi
    exact ⟨by assumption, hi⟩
  · cases hi

/-- A slice over an array of the call's own, as rows and values. -/
theorem own_rows (hr : HR N L e W h w) {id ver off len cap : Nat} {A : Option Addr} (hx : VR N L e w (.own id ver off len) (.slice A len cap)) {a : Arr} (ho : ownArr h id ver = some a) (hk : a.k ≠ 0) :
    ∃ (ad : Addr) (vals : List Value), (0 < len → A = some ad) ∧ RowsR N L e w a.k (rowsOf (cutRows off len a.body)) vals ∧ (∀ q v, vals[q]? = some v → w.cell? (ad.add q) = some v) ∧ (rowsOf (cutRows off len a.body)).length = len := by
  obtain ⟨ho1, ho2⟩ := ownArr_spec ho
  obtain ⟨v1, v2, v3, v4⟩ := hr.ver id a ho1
  obtain ⟨g1, g2, g3, g4, g5⟩ := hr.ar id a ho1 hk
  cases hx with
  | own _ _ _ _ _ _ h0 h1 h2 h3 =>
    obtain ⟨q1, q2, q3, q4⟩ := h3 (by omega)
    rw [rowsOf_cut, ← Arr.rows_of]
    have hlen : ((a.rows.drop off).take len).length = len := cut_full (by rw [Arr.rows_length]; omega)
    have hrow : ∀ i, i < len → ∃ r, a.rows[off + i]? = some r ∧ r.length = a.k := by
      intro i hi
      have hlt : off + i < a.rows.length := by rw [Arr.rows_length]; omega
      exact ⟨_, List.getElem?_eq_getElem hlt, g3 _ (List.getElem_mem _)⟩
    obtain ⟨vals, u1, u2⟩ := vals_of (w := w) (k := a.k) (n := len) (b := e.ar id) (off := e.ad id + off * a.k) (fun q hq => by
      have hk0 : 0 < a.k := by omega
      obtain ⟨r, hr1, hr2⟩ := hrow (q / a.k) ((Nat.div_lt_iff_lt_mul hk0).2 hq)
      have hj : q % a.k < r.length := by rw [hr2]; exact Nat.mod_lt _ hk0
      obtain ⟨_, v, k1, _⟩ := g4 _ _ hr1 (q % a.k) _ (List.getElem?_eq_getElem hj)
      refine ⟨v, ?_⟩
      rw [← k1]
      congr 2
      have := Nat.div_add_mod' q a.k
      rw [Nat.add_mul]
      omega)
    refine ⟨⟨e.ar id, e.ad id + off * a.k, none⟩, vals, fun hl => by rw [q4 (by omega), v2], ⟨by rw [hlen]; exact u1, fun r hr' => g3 r (List.mem_of_mem_drop (List.mem_of_mem_take hr')), fun i r hi j c hj => ?_⟩, fun q v hq => by rw [addr_add]; exact u2 q v hq, hlen⟩
    obtain ⟨hil, hi'⟩ := cut_get hi
    obtain ⟨k0, v, k1, k2⟩ := g4 _ _ hi' j c hj
    have hjk : j < a.k := by rw [← g3 r (List.mem_of_getElem? hi')]; exact (List.getElem?_eq_some_iff.1 hj).1
    have hql : i * a.k + j < vals.length := by
      rw [u1]
      have : (i + 1) * a.k ≤ len * a.k := Nat.mul_le_mul_right _ (by omega)
      rw [Nat.add_mul, Nat.one_mul] at this
      omega
    refine ⟨k0, v, ?_, k2⟩
    have h5 := u2 _ _ (List.getElem?_eq_getElem hql)
    rw [show e.ad id + off * a.k + (i * a.k + j) = e.ad id + (off + i) * a.k + j by rw [Nat.add_mul]; omega, k1] at h5
    injection h5 with h5
    rw [List.getElem?_eq_getElem hql, ← h5]

/-- What an append takes. -/
theorem src_rows (hr : HR N L e W h w) {y : V} {yv : Value} (hy : VR N L e w y yv) {new : Sum (List (List PV)) (List (List V))} {rd : Option Nat} (hs : srcRows h y = some (new, rd)) {k : Nat} (hf : rowsFit k new = true) (_hk : k ≠ 0) :
    ∃ (B : Option Addr) (c : Nat) (ad : Addr) (vals : List Value), yv = .slice B (rowsLen new) c ∧ (0 < rowsLen new → B = some ad) ∧ RowsR N L e w k (rowsOf new) vals ∧ (∀ q v, vals[q]? = some v → w.cell? (ad.add q) = some v) ∧ permBody new ∧
      (∀ id, rd = some id → ∃ ver off len, y = .own id ver off len) := by
  unfold srcRows at hs
  split at hs
  · rename_i tg rows
    cases hy with
    | pv _ _ hp =>
      have hp' := hp
      cases hp with
      | lst _ _ A ad cap k' vs hk' hc ha hcell hv hpm h1 =>
        split at hs
        · rename_i ht
          injection hs with hs
          simp only [Prod.mk.injEq] at hs
          obtain ⟨rfl, rfl⟩ := hs
          obtain ⟨ad, vals, k1, k2, k3⟩ := lst_rows (e := e) hp' hf
          refine ⟨A, cap, ad, vals, rfl, k1, k2, k3, fun r hr' c hc' => ?_, by simp⟩
          obtain ⟨i, hi⟩ := List.mem_iff_getElem?.1 hr'
          obtain ⟨j, hj⟩ := List.mem_iff_getElem?.1 hc'
          exact hpm ht i j c (by simp [at2, hi, hj])
        · injection hs with hs
          simp only [Prod.mk.injEq] at hs
          obtain ⟨rfl, rfl⟩ := hs
          have hf' : rowsFit k (.inl rows) = true := by
            simp only [rowsFit, List.all_map] at hf ⊢
            simpa using hf
          obtain ⟨ad, vals, k1, k2, k3⟩ := lst_rows (e := e) hp' hf'
          refine ⟨A, cap, ad, vals, by simp [rowsLen], by simpa [rowsLen] using k1, k2, k3, trivial, by simp⟩
  · rename_i rows
    injection hs with hs
    simp only [Prod.mk.injEq] at hs
    obtain ⟨rfl, rfl⟩ := hs
    cases hy with
    | tl _ A hp =>
      obtain ⟨ad, vals, k1, k2, k3⟩ := lst_rows (e := e) hp hf
      refine ⟨A, _, ad, vals, rfl, k1, k2, k3, fun r hr' c hc' => ?_, by simp⟩
      cases hp with
      | lst _ _ _ ad _ k' vs hk' hc ha hcell hv hpm h1 =>
        obtain ⟨i, hi⟩ := List.mem_iff_getElem?.1 hr'
        obtain ⟨j, hj⟩ := List.mem_iff_getElem?.1 hc'
        exact hpm (by omega) i j c (by simp [at2, hi, hj])
  · rename_i id ver off len
    cases ho : ownArr h id ver with
    | none => simp [ho] at hs
    | some a =>
      simp [ho] at hs
      obtain ⟨rfl, rfl⟩ := hs
      obtain ⟨ho1, ho2⟩ := ownArr_spec ho
      obtain ⟨v1, v2, v3, v4⟩ := hr.ver id a ho1
      cases hy with
      | own _ _ _ _ A cap h0 h1 h2 h3 =>
        by_cases hk0 : a.k = 0
        · obtain ⟨q1, q2, q3, q4⟩ := h3 (by omega)
          have hre := v4 hk0
          have hl0 : len = 0 := by
            rw [v3, ← Arr.rows_length, hre] at q1
            simp at q1
            omega
          subst hl0
          have hcut : rowsOf (cutRows off 0 a.body) = [] := by rw [rowsOf_cut]; simp
          have hcl : rowsLen (cutRows off 0 a.body) = 0 := by rw [← rowsOf_len, hcut]; rfl
          refine ⟨A, cap, default, [], by rw [hcl], by rw [hcl]; intro hh; omega, ⟨by rw [hcut]; simp, by rw [hcut]; simp, by rw [hcut]; simp⟩, by simp, ?_, fun i hi => ⟨ver, off, 0, by injection hi with hi; rw [hi]⟩⟩
          cases hb : a.body with
          | inl x => simp [cutRows, permBody]
          | inr x => simp [cutRows, permBody]
        · have hov := VR.own (N := N) (L := L) (e := e) (w := w) id ver off len A cap h0 h1 h2 h3
          obtain ⟨ad, vals, k1, k2, k3, k4⟩ := own_rows hr hov ho hk0
          have hkk : RowsR N L e w k (rowsOf (cutRows off len a.body)) vals := by
            by_cases hl : len = 0
            · have hn : rowsOf (cutRows off len a.body) = [] := List.eq_nil_of_length_eq_zero (by omega)
              rw [hn] at k2 ⊢
              have : vals = [] := List.eq_nil_of_length_eq_zero (by have := k2.1; simpa using this)
              subst this
              exact ⟨by simp, by simp, by simp⟩
            · have h5 := rowsFit_spec hf
              have h6 := k2.2.1
              have hlt : 0 < (rowsOf (cutRows off len a.body)).length := by omega
              have : a.k = k := by rw [← h5 _ (List.getElem_mem hlt), ← h6 _ (List.getElem_mem hlt)]
              rw [← this]; exact k2
          have hcl : rowsLen (cutRows off len a.body) = len := by rw [← rowsOf_len]; exact k4
          obtain ⟨_, _, _, _, g5⟩ := hr.ar id a ho1 hk0
          refine ⟨A, cap, ad, vals, by rw [hcl], by rw [hcl]; exact k1, hkk, k3, permBody_cut g5, fun i hi => ⟨ver, off, len, by injection hi with hi; rw [hi]⟩⟩
  · cases hs

theorem elemT_spec {t el : TypeId} {k : Nat} (he : elemT P t = some (el, k)) : ∃ i z, P.underlying t = some (.slice el) ∧ P.info? el = some i ∧ i.size = k ∧ i.bytes ≤ 32768 ∧ 0 < k ∧ i.zero = some z ∧ z.cells.size = k := by
  unfold elemT at he
  cases hu : P.underlying t with
  | none => simp [hu] at he
  | some d =>
    cases d <;> simp [hu] at he
    rename_i el'
    cases hi : P.info? el' with
    | none => simp [hi] at he
    | some i =>
      simp only [hi] at he
      split at he
      · rename_i hc
        injection he with he
        simp only [Prod.mk.injEq] at he
        obtain ⟨rfl, rfl⟩ := he
        cases hz : i.zero with
        | none => simp [hz] at hc
        | some z =>
          simp [hz] at hc
          exact ⟨i, z, rfl, hi, rfl, hc.1, hc.2.1, hz, hc.2.2⟩
      · cases he

/-- An append of nothing. -/
theorem app_zero {t ty el : TypeId} {i : TypeInfo} (hu : P.underlying t = some (.slice el)) (hi : P.info? el = some i) {A B : Option Addr} {n c c' : Nat} (hc : n ≤ c) :
    (Builtin.append_ #[t, t] ty #[.slice A n c, .slice B 0 c']).run P w = .ok (.slice A n c) w := by
  cases A <;> cases B <;> simp [Builtin.append_, run_underlying hu, sizeOf, typeInfo, hi, Builtin.lenOf, Builtin.firstCells, loadCells, loadCellsFrom, hc, storeCells]

theorem rowsAt_new {k n : Nat} {rows1 rows2 : List (List V)} {olds news : List Value} {rest : Array Value} {w1 : World} {el : TypeId} (h1 : RowsR N L e w k rows1 olds) (h2 : RowsR N L e w k rows2 news) (hn : rows1.length = n)
    {b : Nat} (hb : w1.heap[b]? = some (.cells (olds.toArray ++ news.toArray ++ rest) el (0, 0))) :
    ∀ (i : Nat) (r : List V), (rows1 ++ rows2)[i]? = some r → ∀ (j : Nat) (c : V), r[j]? = some c → c.calm = true ∧ ∃ v, w1.cell? ⟨b, 0 + i * k + j, none⟩ = some v ∧ VR N L e w c v := by
  intro i r hi j c hj
  have key : ∀ (q : Nat) (v : Value), (olds ++ news)[q]? = some v → w1.cell? ⟨b, 0 + q, none⟩ = some v := by
    intro q v hq
    rw [Nat.zero_add, cell_of_row _ _ _ _ _ _ hb]
    have hlt := (List.getElem?_eq_some_iff.1 hq).1
    rw [← Array.getElem?_toList]
    simp only [Array.toList_append]
    rw [List.getElem?_append_left (by simpa using hlt)]
    exact hq
  rcases Nat.lt_or_ge i rows1.length with hl | hl
  · rw [List.getElem?_append_left hl] at hi
    obtain ⟨k1, v, k2, k3⟩ := h1.2.2 i r hi j c hj
    refine ⟨k1, v, ?_, k3⟩
    rw [Nat.add_assoc]
    refine key _ _ ?_
    rw [List.getElem?_append_left (List.getElem?_eq_some_iff.1 k2).1]
    exact k2
  · rw [List.getElem?_append_right hl] at hi
    obtain ⟨k1, v, k2, k3⟩ := h2.2.2 _ r hi j c hj
    refine ⟨k1, v, ?_, k3⟩
    rw [Nat.add_assoc]
    refine key _ _ ?_
    have hle : olds.length ≤ i * k + j := by
      rw [h1.1]
      have : rows1.length * k ≤ i * k := Nat.mul_le_mul_right _ hl
      omega
    rw [List.getElem?_append_right hle, h1.1]
    rw [show i * k + j - rows1.length * k = (i - rows1.length) * k + j by
      have e1 : (i - rows1.length) * k + rows1.length * k = i * k := by rw [← Nat.add_mul]; congr 1; omega
      omega]
    exact k2

theorem app_grow {t ty el : TypeId} {i : TypeInfo} {z : Value} (hu : P.underlying t = some (.slice el)) (hi : P.info? el = some i) (hz : i.zero = some z) {A B : Option Addr} {n c m c' : Nat} {ad ad' : Addr} {olds news : List Value}
    (hA : 0 < n → A = some ad) (hlo : olds.length = n * i.size) (holds : ∀ j v, olds[j]? = some v → w.cell? (ad.add j) = some v) (hB : B = some ad') (hl : news.length = m * i.size) (hnews : ∀ j v, news[j]? = some v → w.cell? (ad'.add j) = some v)
    (hg : c < n + m) (hm : 0 < m) (hmost : n + m ≤ mostRows) (hby : i.bytes ≤ 32768) (hnil : A = none → c = 0) :
    (Builtin.append_ #[t, t] ty #[.slice A n c, .slice B m c']).run P w = .ok (.slice (some ⟨w.heap.size, 0, none⟩) (n + m) (grownCap w (n + m) c el))
      (w.drew.alloc (.cells (olds.toArray ++ news.toArray ++ Builtin.zeroCells z.cells (grownCap w (n + m) c el - (n + m))) el)) := by
  subst hB
  have hbytes : (n + m) * i.bytes ≤ 140737488355328 := by
    unfold mostRows at hmost
    calc (n + m) * i.bytes ≤ 2147483648 * 32768 := Nat.mul_le_mul hmost hby
      _ ≤ 140737488355328 := by decide
  unfold mostRows at hmost
  cases hAA : A with
  | none =>
    have hn0 : n = 0 := by
      rcases Nat.eq_zero_or_pos n with h0 | h0
      · exact h0
      · have := hA h0; rw [hAA] at this; cases this
    subst hn0
    have hc0 := hnil hAA
    subst hc0
    have ho : olds = [] := List.eq_nil_of_length_eq_zero (by simpa using hlo)
    subst ho
    have hr := run_append_nil (P := P) w t ty el i z hu hi hz ad' m c' news hl hnews hm (by omega) (by simp at hbytes; omega)
    simpa using hr
  | some a0 =>
    by_cases hn0 : n = 0
    · subst hn0
      have ho : olds = [] := List.eq_nil_of_length_eq_zero (by simpa using hlo)
      subst ho
      have hr := run_append_grow (P := P) w t ty el i z hu hi hz a0 0 c [] (by simp) (by simp) ad' m c' news hl hnews hg (by omega) (growslice_fits hg hbytes)
      simpa using hr
    · have hA' := hA (by omega)
      rw [hAA] at hA'
      injection hA' with hA'
      subst hA'
      exact run_append_grow (P := P) w t ty el i z hu hi hz a0 n c olds hlo holds ad' m c' news hl hnews hg (by omega) (growslice_fits hg hbytes)

theorem size_grown {k n m G : Nat} {olds news : List Value} {z : Value} (h1 : olds.length = n * k) (h2 : news.length = m * k) (hz : z.cells.size = k) (hG : n + m ≤ G) :
    (olds.toArray ++ news.toArray ++ Builtin.zeroCells z.cells (G - (n + m))).size = G * k := by
  simp only [Array.size_append, List.size_toArray, size_zeroCells, hz, h1, h2, ← Nat.add_mul]
  congr 1
  omega

theorem Tn.apply_push (h : Heap) (as : List Arr) (ra : Option Nat) {base : Nat} : ({ push := as, ra := ra, base := base } : Tn).apply h = { h with ar := h.ar ++ as } := by
  cases h; simp [Tn.apply]

theorem s_app (hr : HR N L e W h w) {t ty el : TypeId} {k : Nat} (he : elemT P t = some (el, k)) {x y v : V} {xv yv : Value} (hx : VR N L e w x xv) (hy : VR N L e w y yv) {tn : Tn} (hh : appendV h k x y = some (v, tn)) :
    Good P N W L e h w (Builtin.append_ #[t, t] ty #[xv, yv]) v tn := by
  obtain ⟨i, z, hu, hi, hsz, hby, hk0, hz, hzs⟩ := elemT_spec he
  unfold appendV at hh
  cases hs : srcRows h y with
  | none => simp [hs] at hh
  | some nr =>
    obtain ⟨new, rd⟩ := nr
    simp only [hs] at hh
    split at hh
    · rename_i hfit
      obtain ⟨B, c', ad', news, rfl, s1, s2, s3, s4, s5⟩ := src_rows hr hy hs hfit (by omega)
      split at hh
      · rename_i rows
        cases hx with
        | tl _ A hp hsoft =>
          split at hh
          · rename_i h0
            injection hh with hh
            simp only [Prod.mk.injEq] at hh
            obtain ⟨rfl, rfl⟩ := hh
            refine .pure hr ?_ (.tl rows A hp hsoft) (Tn.apply_plain h _ _ _ _ _)
            rw [h0]
            exact app_zero hu hi (Nat.le_refl _)
          · rename_i h0
            split at hh
            · rename_i hcond
              obtain ⟨hmost, hfit0⟩ := hcond
              injection hh with hh
              simp only [Prod.mk.injEq] at hh
              obtain ⟨rfl, rfl⟩ := hh
              obtain ⟨ad, olds, o1, o2, o3⟩ := lst_rows (e := e) hp hfit0
              have hpb : permBody (.inl rows) := by
                intro r hr' c hc'
                cases hp with
                | lst _ _ _ _ _ k' vs hk' hc ha hcell hv hpm h1 =>
                  obtain ⟨i', hi'⟩ := List.mem_iff_getElem?.1 hr'
                  obtain ⟨j', hj'⟩ := List.mem_iff_getElem?.1 hc'
                  exact hpm (by omega) i' j' c (by simp [at2, hi', hj'])
              have hnl : rows.length = 0 → A = none ∨ True := fun _ => .inr trivial
              have hrl : (rows.map (·.map V.pv)).length = rows.length := by simp
              have hlo : olds.length = rows.length * i.size := by rw [o2.1, hrl, hsz]
              have hln : news.length = rowsLen new * i.size := by rw [s2.1, rowsOf_len, hsz]
              have hrun : (Builtin.append_ #[t, t] ty #[.slice A rows.length rows.length, .slice B (rowsLen new) c']).run P w = _ :=
                app_grow (z := z) hu hi hz o1 hlo o3 (s1 (by omega)) hln s3 (by omega) (by omega) hmost hby (fun hA => by
                  rcases Nat.eq_zero_or_pos rows.length with h1 | h1
                  · exact h1
                  · have := o1 h1; rw [hA] at this; cases this)
              have hG := grownCap_ge w (rows.length + rowsLen new) rows.length el
              generalize hGG : grownCap w (rows.length + rowsLen new) rows.length el = G at hrun hG
              have hsize := size_grown (z := z) (k := k) (n := rows.length) (m := rowsLen new) (G := G) (by rw [hlo, hsz]) (by rw [hln, hsz]) hzs hG
              have n1 := Nx.drew hr
              have n2 := Nx.idle n1.hr (.cells (olds.toArray ++ news.toArray ++ Builtin.zeroCells z.cells (G - (rows.length + rowsLen new))) el)
              have hnew : (w.drew.alloc (.cells (olds.toArray ++ news.toArray ++ Builtin.zeroCells z.cells (G - (rows.length + rowsLen new))) el)).heap[w.heap.size]? = some (.cells (olds.toArray ++ news.toArray ++ Builtin.zeroCells z.cells (G - (rows.length + rowsLen new))) el (0, 0)) := heap_alloc_new w.drew _
              have hbody : rowsOf (catRows (.inl rows) new) = rows.map (·.map V.pv) ++ rowsOf new := by rw [rowsOf_cat]; rfl
              have n12 := n1.trans n2
              have n3 := Nx.pushArr n2.hr (b := w.heap.size) (d := 0) (c := G) ⟨0, k, catRows (.inl rows) new⟩ (hr.wide _ (Nat.le_refl _)) (fun t ht => by have := hr.lsz _ _ ht; omega)
                (fun s hs' => by have := hr.lt_bx hs'; omega) (fun id hid hk' => by have := hr.lt_ar hid hk'; omega) (by show k ≠ 0; omega)
                (by rw [← Arr.rows_length, Arr.rows_of, hbody]; simp [rowsOf_len]; omega) ⟨_, el, hnew, by rw [hsize]; simp⟩
                (fun r hr' => by
                  rw [Arr.rows_of, hbody] at hr'
                  rcases List.mem_append.1 hr' with hr' | hr'
                  · exact o2.2.1 r hr'
                  · exact s2.2.1 r hr')
                (fun i' r hi' j c hj => by
                  rw [Arr.rows_of, hbody] at hi'
                  obtain ⟨q1, v', q2, q3⟩ := rowsAt_new o2 s2 hrl hnew i' r hi' j c hj
                  exact ⟨q1, v', q2, q3.mono n12.ext⟩)
                (permBody_cat hpb s4)
              refine ⟨_, _, L, _, hrun, by rw [Tn.apply_push]; exact n12.trans n3, ?_⟩
              have := VR.own (N := N) (L := L) (e := e.pushAr w.heap.size 0 G ⟨0, k, catRows (.inl rows) new⟩) (w := w.drew.alloc (.cells (olds.toArray ++ news.toArray ++ Builtin.zeroCells z.cells (G - (rows.length + rowsLen new))) el))
                e.na 0 0 (rows.length + rowsLen new) (some ⟨w.heap.size, 0, none⟩) G (fun _ => rfl) (by simp [Emb.pushAr]) (by simp) (fun _ => by
                  simp only [Emb.pushAr, upd1_same]
                  refine ⟨?_, hG, by omega, fun _ => by simp⟩
                  rw [← Arr.rows_length, Arr.rows_of, hbody]; simp [rowsOf_len])
              rw [hr.na] at this
              exact this
            · cases hh
      · rename_i id ver off len
        cases ho : ownArr h id ver with
        | none => simp [ho] at hh
        | some a =>
          simp only [ho] at hh
          obtain ⟨ho1, ho2⟩ := ownArr_spec ho
          obtain ⟨v1, v2, v3, v4⟩ := hr.ver id a ho1
          cases hx with
          | own _ _ _ _ A cap h0 h1 h2 h3 =>
            obtain ⟨q1, q2, q3, q4⟩ := h3 (by omega)
            split at hh
            · rename_i hz0
              injection hh with hh
              simp only [Prod.mk.injEq] at hh
              obtain ⟨rfl, rfl⟩ := hh
              refine .pure hr ?_ (.own id ver off len A cap h0 h1 h2 h3) (Tn.apply_plain h _ _ _ _ _)
              rw [hz0]
              exact app_zero hu hi q2
            · rename_i hz0
              split at hh
              · rename_i hcond
                obtain ⟨hfull, hak, hmost, hrd⟩ := hcond
                injection hh with hh
                simp only [Prod.mk.injEq] at hh
                obtain ⟨rfl, rfl⟩ := hh
                have hak0 : a.k ≠ 0 := by omega
                have hov := VR.own (N := N) (L := L) (e := e) (w := w) id ver off len A cap h0 h1 h2 h3
                obtain ⟨ad, olds, o1, o2, o3, o4⟩ := own_rows hr hov ho hak0
                rw [hak] at o2
                obtain ⟨g1, ⟨arr, ty', hb, hbz⟩, g3, g4, g5⟩ := hr.ar id a ho1 hak0
                have hlo : olds.length = len * i.size := by rw [o2.1, o4, hsz]
                have hln : news.length = rowsLen new * i.size := by rw [s2.1, rowsOf_len, hsz]
                have hbody : rowsOf (catRows (cutRows off len a.body) new) = rowsOf (cutRows off len a.body) ++ rowsOf new := rowsOf_cat _ _
                have hsizeA : (⟨ver + 1, k, catRows (cutRows off len a.body) new⟩ : Arr).size = len + rowsLen new := by
                  rw [← Arr.rows_length, Arr.rows_of, hbody]; simp [o4, rowsOf_len]
                have hrowk : ∀ r ∈ (⟨ver + 1, k, catRows (cutRows off len a.body) new⟩ : Arr).rows, r.length = k := by
                  intro r hr'
                  rw [Arr.rows_of, hbody] at hr'
                  rcases List.mem_append.1 hr' with hr' | hr'
                  · exact o2.2.1 r hr'
                  · exact s2.2.1 r hr'
                by_cases hroom : len + rowsLen new ≤ cap
                · -- there is room
                  have hA := q4 (by omega)
                  have hcapk : e.ad id + off * k + cap * k ≤ e.ad id + e.cap id * k := by
                    have : (off + cap) * k ≤ e.cap id * k := Nat.mul_le_mul_right _ q3
                    rw [Nat.add_mul] at this
                    omega
                  have hfitk : e.ad id + off * k + len * k + news.length ≤ arr.size := by
                    rw [hln, hsz]
                    have : (len + rowsLen new) * k ≤ cap * k := Nat.mul_le_mul_right _ hroom
                    rw [Nat.add_mul] at this
                    rw [hak] at hbz
                    omega
                  have hB := s1 (by omega)
                  have hf := run_firstCells_some (P := P) w i.size (rowsLen new) ad' (rowsLen new) c' news hln s3
                  rw [hsz] at hf
                  have hst := run_storeCells_at P (e.ar id) (e.ad id + off * k + len * k) ty' news 0 arr w hb (by simpa using hfitk) s2.one
                  simp only [Nat.add_zero] at hst
                  have hrun : (Builtin.append_ #[t, t] ty #[.slice A len cap, .slice B (rowsLen new) c']).run P w =
                      .ok (.slice A (len + rowsLen new) cap) (w.setRow (e.ar id) (arr.toList.take (e.ad id + off * k + len * k) ++ news ++ arr.toList.drop (e.ad id + off * k + len * k + news.length)).toArray) := by
                    subst hB
                    rw [hA, v2, hak]
                    simp only [Builtin.append_, List.getElem?_toArray, List.getElem?_cons_zero, List.getElem?_cons_succ, run_underlying hu, Sem.run_bind, Result.andThen_ok, sizeOf, typeInfo, run_program, hi, Sem.run_pure, Builtin.lenOf, hroom, if_true, Bool.false_eq_true, if_false, Bool.not_false, hf, addr_add, hsz, hst]
                  have hcell : ∀ o, (w.setRow (e.ar id) (arr.toList.take (e.ad id + off * k + len * k) ++ news ++ arr.toList.drop (e.ad id + off * k + len * k + news.length)).toArray).cell? ⟨e.ar id, o, none⟩ =
                      (arr.toList.take (e.ad id + off * k + len * k) ++ news ++ arr.toList.drop (e.ad id + off * k + len * k + news.length))[o]? := fun o => by
                    rw [cell_of_row _ _ _ _ _ _ (setRow_heap w _ arr _ ty' (0, 0) hb)]
                    simp
                  have hold : ∀ o v', w.cell? ⟨e.ar id, o, none⟩ = some v' → arr.toList[o]? = some v' := fun o v' ho' => by
                    rw [cell_of_row _ _ _ _ _ _ hb] at ho'
                    simpa using ho'
                  have hfit' : e.ad id + off * k + len * k + news.length ≤ arr.toList.length := by simpa using hfitk
                  have hnx := Nx.setArr hr (b := e.ar id) (d := e.ad id + off * k) (c := cap) ⟨ver + 1, k, catRows (cutRows off len a.body) new⟩ ho1 hak0
                    (fun q _ hq => setRow_other w _ hq) (by simp) (Fr.setRow (hr.war id h1 (by rw [v2]; exact hak0)).1 _) (.inl (by show a.ver < ver + 1; omega)) (.inl rfl) (by show k ≠ 0; omega)
                    (by rw [hsizeA]; exact hroom) ⟨_, ty', setRow_heap w _ arr _ ty' (0, 0) hb, by
                      show e.ad id + off * k + cap * k ≤ _
                      rw [hak] at hbz
                      have hz' : ((arr.toList.take (e.ad id + off * k + len * k) ++ news ++ arr.toList.drop (e.ad id + off * k + len * k + news.length)).toArray).size = arr.size := by simp; omega
                      rw [hz']
                      omega⟩ hrowk
                    (fun i' r hi' j c hj => by
                      rw [Arr.rows_of, hbody] at hi'
                      show _ ∧ ∃ v, _ = some v ∧ _
                      have hrk := hrowk r (by rw [Arr.rows_of, hbody]; exact List.mem_of_getElem? hi')
                      have hjk : j < k := by rw [← hrk]; exact (List.getElem?_eq_some_iff.1 hj).1
                      rcases Nat.lt_or_ge i' len with hl | hl
                      · rw [List.getElem?_append_left (by rw [o4]; exact hl), rowsOf_cut, ← Arr.rows_of] at hi'
                        obtain ⟨_, hi''⟩ := cut_get hi'
                        obtain ⟨k1, v', k2, k3⟩ := g4 _ _ hi'' j c hj
                        refine ⟨k1, v', ?_, k3⟩
                        have hlt : (i' + 1) * k ≤ len * k := Nat.mul_le_mul_right _ (by omega)
                        rw [Nat.add_mul, Nat.one_mul] at hlt
                        rw [hcell, over_fwd_out (j := e.ad id + off * k + i' * k + j) hfit' (.inl (by omega))]
                        refine hold _ _ ?_
                        rw [← k2, hak, Nat.add_mul]
                        congr 2
                        omega
                      · rw [List.getElem?_append_right (by rw [o4]; exact hl), o4] at hi'
                        obtain ⟨k1, u, k2, k3⟩ := s2.2.2 _ r hi' j c hj
                        refine ⟨k1, u, ?_, k3⟩
                        have e1 : (i' - len) * k + len * k = i' * k := by rw [← Nat.add_mul]; congr 1; omega
                        have hlt2 := (List.getElem?_eq_some_iff.1 k2).1
                        rw [hcell, over_fwd_in (j := e.ad id + off * k + i' * k + j) hfit' (by omega) (by omega)]
                        rw [← k2]
                        congr 1
                        omega)
                    (permBody_cat (permBody_cut g5) s4)
                  refine ⟨_, _, L, _, hrun, by rw [Tn.apply_ar]; exact hnx, ?_⟩
                  refine .own id (ver + 1) 0 (len + rowsLen new) A cap (fun _ => by rw [hA]; rfl) h1 (by simp [Emb.setAr, upd1_same]) (fun _ => ?_)
                  simp only [Emb.setAr, upd1_same]
                  refine ⟨by rw [hsizeA]; omega, hroom, by omega, fun _ => ?_⟩
                  rw [hA, v2, hak]
                  simp
                · -- a new array
                  have hrun : (Builtin.append_ #[t, t] ty #[.slice A len cap, .slice B (rowsLen new) c']).run P w = _ :=
                    app_grow (z := z) hu hi hz o1 hlo o3 (s1 (by omega)) hln s3 (by omega) (by omega) hmost hby (fun hA => by
                      rcases Nat.eq_zero_or_pos cap with h1' | h1'
                      · exact h1'
                      · have := q4 h1'; rw [hA] at this; cases this)
                  have hG := grownCap_ge w (len + rowsLen new) cap el
                  generalize hGG : grownCap w (len + rowsLen new) cap el = G at hrun hG
                  have hsize := size_grown (z := z) (k := k) (n := len) (m := rowsLen new) (G := G) (by rw [hlo, hsz]) (by rw [hln, hsz]) hzs hG
                  have hnew : (w.drew.alloc (.cells (olds.toArray ++ news.toArray ++ Builtin.zeroCells z.cells (G - (len + rowsLen new))) el)).heap[w.heap.size]? = some (.cells (olds.toArray ++ news.toArray ++ Builtin.zeroCells z.cells (G - (len + rowsLen new))) el (0, 0)) := heap_alloc_new w.drew _
                  have hnx := Nx.setArr hr (w' := w.drew.alloc (.cells (olds.toArray ++ news.toArray ++ Builtin.zeroCells z.cells (G - (len + rowsLen new))) el)) (b := w.heap.size) (d := 0) (c := G) ⟨ver + 1, k, catRows (cutRows off len a.body) new⟩ ho1 hak0
                    (fun q hq _ => heap_alloc_old w.drew _ q hq) (by simp) (Fr.drew.trans (Fr.alloc _)) (.inl (by show a.ver < ver + 1; omega)) (.inr (Nat.le_refl _)) (by show k ≠ 0; omega)
                    (by rw [hsizeA]; exact hG) ⟨_, el, hnew, by rw [hsize]; simp⟩ hrowk
                    (fun i' r hi' j c hj => by
                      rw [Arr.rows_of, hbody] at hi'
                      exact rowsAt_new o2 s2 o4 hnew i' r hi' j c hj)
                    (permBody_cat (permBody_cut g5) s4)
                  refine ⟨_, _, L, _, hrun, by rw [Tn.apply_ar]; exact hnx, ?_⟩
                  refine .own id (ver + 1) 0 (len + rowsLen new) _ G (fun _ => rfl) h1 (by simp [Emb.setAr, upd1_same]) (fun _ => ?_)
                  simp only [Emb.setAr, upd1_same]
                  exact ⟨by rw [hsizeA]; omega, hG, by omega, fun _ => by simp⟩
              · cases hh
      · cases hh
    · cases hh

end Go.Pv

/-
  The operations, one by one: make, a slice written out, clear.
-/
namespace Go.Pv
variable {P : Program} {N M : Nat → Nat} {W : Nat → Prop} {L L' : Lx} {e e' : Emb} {h : Heap} {w w' : World} {g : Opd → V} {ρ : Operand → Value}

theorem chop_len {α : Type} (k : Nat) : ∀ (n : Nat) (l : List α), (chop k n l).length = n
  | 0, _ => rfl
  | n + 1, l => by simp [chop, chop_len k n]

theorem chop_get {α : Type} (k : Nat) : ∀ (n : Nat) (l : List α) (i : Nat), i < n → (chop k n l)[i]? = some ((l.drop (i * k)).take k)
  | 0, _, _, hi => by omega
  | n + 1, l, 0, _ => by simp [chop]
  | n + 1, l, i + 1, hi => by
    simp only [chop, List.getElem?_cons_succ]
    rw [chop_get k n (l.drop k) i (by omega), List.drop_drop, Nat.add_mul, Nat.one_mul, Nat.add_comm]

/-- A new block whose cells are rows. -/
theorem rowsR_chop {k n : Nat} {cs : List V} {arr : Array Value} (hc : CellsR N L e w cs arr) (hl : cs.length = n * k) (hcalm : ∀ c ∈ cs, c.calm = true) : RowsR N L e w k (chop k n cs) arr.toList := by
  have hrow : ∀ i r, (chop k n cs)[i]? = some r → i < n ∧ r = (cs.drop (i * k)).take k := by
    intro i r hi
    have hlt : i < n := by have := (List.getElem?_eq_some_iff.1 hi).1; rwa [chop_len] at this
    rw [chop_get k n cs i hlt] at hi
    injection hi with hi
    exact ⟨hlt, hi.symm⟩
  refine ⟨by rw [chop_len, Array.length_toList, hc.1, hl], fun r hr => ?_, fun i r hi j c hj => ?_⟩
  · obtain ⟨i, hi⟩ := List.mem_iff_getElem?.1 hr
    obtain ⟨h1, rfl⟩ := hrow i r hi
    have : (i + 1) * k ≤ n * k := Nat.mul_le_mul_right _ (by omega)
    rw [Nat.add_mul, Nat.one_mul] at this
    simp; omega
  · obtain ⟨h1, rfl⟩ := hrow i r hi
    rw [List.getElem?_take] at hj
    split at hj
    · rw [List.getElem?_drop] at hj
      have hv := hc.2 _ c hj
      have hlt : i * k + j < arr.size := by rw [hc.1]; exact (List.getElem?_eq_some_iff.1 hj).1
      refine ⟨hcalm c (List.mem_of_getElem? hj), arr.getD (i * k + j) undef, ?_, hv⟩
      rw [Array.getElem?_toList]
      exact getD_of_getElem? hlt
    · cases hj

/-- Rows kept as plain ones. -/
theorem rowsR_norm {k : Nat} {rows : List (List V)} {vals : List Value} (hr : RowsR N L e w k rows vals) {l : List (List PV)} (hm : mapO (mapO V.purec) rows = some l) :
    RowsR N L e w k (l.map (·.map .pv)) vals ∧ ∀ r ∈ l, ∀ c ∈ r, c.perm = true := by
  have hrow : ∀ i q, l[i]? = some q → ∃ r, rows[i]? = some r ∧ mapO V.purec r = some q := fun i q hi => mapO_get hm i q hi
  refine ⟨⟨by rw [hr.1, List.length_map, mapO_len hm], fun r hr' => ?_, fun i r hi j c hj => ?_⟩, fun r hr' c hc => ?_⟩
  · obtain ⟨q, hq, rfl⟩ := List.mem_map.1 hr'
    obtain ⟨i, hi⟩ := List.mem_iff_getElem?.1 hq
    obtain ⟨r, h1, h2⟩ := hrow i q hi
    rw [List.length_map, mapO_len h2]
    exact hr.2.1 r (List.mem_of_getElem? h1)
  · rw [List.getElem?_map] at hi
    cases hq : l[i]? with
    | none => simp [hq] at hi
    | some q =>
      simp [hq] at hi
      subst hi
      obtain ⟨r', h1, h2⟩ := hrow i q hq
      obtain ⟨p, hp, rfl⟩ := map_pv_get hj
      obtain ⟨d, h3, h4⟩ := mapO_get h2 j p hp
      obtain ⟨k1, u, k2, k3⟩ := hr.2.2 i r' h1 j d h3
      exact ⟨PV.perm_calm (V.purec_perm h4), u, k2, k3.purec h4⟩
  · obtain ⟨i, hi⟩ := List.mem_iff_getElem?.1 hr'
    obtain ⟨r', h1, h2⟩ := hrow i r hi
    obtain ⟨j, hj⟩ := List.mem_iff_getElem?.1 hc
    obtain ⟨d, h3, h4⟩ := mapO_get h2 j c hj
    exact V.purec_perm h4

theorem RowsR.mono {k : Nat} {rows : List (List V)} {vals : List Value} (hr : RowsR N L e w k rows vals) (hx : Ext L e w L' e' w') : RowsR N L' e' w' k rows vals :=
  ⟨hr.1, hr.2.1, fun i r hi j c hj => by
    obtain ⟨k1, u, k2, k3⟩ := hr.2.2 i r hi j c hj
    exact ⟨k1, u, k2, k3.mono hx⟩⟩

/-- A new array in a new block. -/
theorem new_arr (hr : HR N L e W h w) {k n c : Nat} (hk : k ≠ 0) {body : Sum (List (List PV)) (List (List V))} {arr : Array Value} {el : TypeId} (hrow : RowsR N L e w k (rowsOf body) (arr.toList.take (n * k))) (hn : rowsLen body = n)
    (hc : n ≤ c) (hsz : c * k ≤ arr.size) (hp : permBody body) :
    Nx N W L e w L (e.pushAr w.heap.size 0 c ⟨0, k, body⟩) { h with ar := h.ar ++ [⟨0, k, body⟩] } (w.alloc (.cells arr el)) ∧
    VR N L (e.pushAr w.heap.size 0 c ⟨0, k, body⟩) (w.alloc (.cells arr el)) (.own h.ar.length 0 0 n) (.slice (some ⟨w.heap.size, 0, none⟩) n c) := by
  have n1 := Nx.idle hr (.cells arr el)
  have hnew : (w.alloc (.cells arr el)).heap[w.heap.size]? = some (.cells arr el (0, 0)) := heap_alloc_new w _
  have hsize : (⟨0, k, body⟩ : Arr).size = n := by rw [← Arr.rows_length, Arr.rows_of, rowsOf_len, hn]
  have n2 := Nx.pushArr n1.hr (b := w.heap.size) (d := 0) (c := c) ⟨0, k, body⟩ (hr.wide _ (Nat.le_refl _)) (fun t ht => by have := hr.lsz _ _ ht; omega)
    (fun s hs => by have := hr.lt_bx hs; omega) (fun id hid hk' => by have := hr.lt_ar hid hk'; omega) hk (by rw [hsize]; exact hc) ⟨_, el, hnew, by simpa using hsz⟩
    (fun r hr' => hrow.2.1 r (by rw [← Arr.rows_of ⟨0, k, body⟩]; exact hr'))
    (fun i r hi j x hj => by
      rw [Arr.rows_of] at hi
      obtain ⟨k1, u, k2, k3⟩ := hrow.2.2 i r hi j x hj
      refine ⟨k1, u, ?_, k3.mono n1.ext⟩
      rw [cell_of_row _ _ _ _ _ _ hnew]
      rw [List.getElem?_take] at k2
      split at k2
      · rw [Array.getElem?_toList] at k2
        simpa [Nat.add_assoc] using k2
      · cases k2)
    hp
  refine ⟨n1.trans n2, ?_⟩
  rw [← hr.na]
  refine .own e.na 0 0 n _ c (fun _ => rfl) (by simp [Emb.pushAr]) (by simp) (fun _ => ?_)
  simp only [Emb.pushAr, upd1_same]
  exact ⟨by rw [hsize]; omega, hc, by omega, fun _ => by simp⟩

theorem madeCells_get {z : Array Value} {k n q : Nat} (hz : z.size = k) (hk : 0 < k) (hq : q < n) : (madeCells z n)[q]? = some (z.getD (q % k) undef) := by
  have hlt : q % k < z.size := by rw [hz]; exact Nat.mod_lt _ hk
  simp only [madeCells, Array.getElem?_map]
  rw [Array.getElem?_range, if_pos hq]
  simp only [Option.map_some, hz]
  congr 1
  simp [Array.getD, hlt]

theorem sameRows_of (n : Nat) (zero : List V) : (rowsLen (sameRows n zero) = n) ∧ permBody (sameRows n zero) ∧
    ∀ (i : Nat) (r : List V), (rowsOf (sameRows n zero))[i]? = some r → i < n ∧ r = norm zero := by
  unfold sameRows norm
  cases hm : mapO V.purec zero with
  | none =>
    refine ⟨by simp [rowsLen], trivial, fun i r hi => ?_⟩
    simp only [rowsOf, List.getElem?_replicate] at hi
    split at hi
    · injection hi with hi; exact ⟨by assumption, hi.symm⟩
    · cases hi
  | some z =>
    refine ⟨by simp [rowsLen], fun r hr c hc => ?_, fun i r hi => ?_⟩
    · have := List.eq_of_mem_replicate hr
      subst this
      obtain ⟨j, hj⟩ := List.mem_iff_getElem?.1 hc
      obtain ⟨_, _, h2⟩ := mapO_get hm j c hj
      exact V.purec_perm h2
    · simp only [rowsOf, List.map_replicate, List.getElem?_replicate] at hi
      split at hi
      · injection hi with hi; exact ⟨by assumption, hi.symm⟩
      · cases hi

theorem s_make (hr : HR N L e W h w) {t el : TypeId} {k : Nat} (he : elemT P t = some (el, k)) {zero : List V} (hz : zeroOf P el = some zero) (hcalm : zero.all V.calm = true) {n c : V} {nv cv : Value} (hn : VR N L e w n nv) (hc : VR N L e w c cv)
    {a b : Int} (ha : intOf n = some a) (hb : intOf c = some b) (h0 : 0 ≤ a) (hab : a ≤ b) (hbm : b ≤ mostRows) :
    Good P N W L e h w (Instr.makeSlice t nv cv) (.own h.ar.length 0 0 a.toNat) { push := [⟨0, k, sameRows a.toNat zero⟩], base := h.ar.length } := by
  obtain ⟨i, z, hu, hi, hsz, hby, hk0, hzz, hzs⟩ := elemT_spec he
  have hn' : ∃ kd, nv = .int kd a := by
    cases hn with
    | pv p v hp =>
      cases hp with
      | int kd x => simp [intOf] at ha; subst ha; exact ⟨kd, rfl⟩
      | _ => simp [intOf] at ha
    | _ => simp [intOf] at ha
  have hc' : ∃ kd, cv = .int kd b := by
    cases hc with
    | pv p v hp =>
      cases hp with
      | int kd x => simp [intOf] at hb; subst hb; exact ⟨kd, rfl⟩
      | _ => simp [intOf] at hb
    | _ => simp [intOf] at hb
  obtain ⟨kn, rfl⟩ := hn'
  obtain ⟨kc, rfl⟩ := hc'
  unfold mostRows at hbm
  have hbytes : (i.bytes : Int) * b ≤ 281474976710656 := by
    have h1 : (i.bytes : Int) ≤ 32768 := by omega
    have h2 : (i.bytes : Int) * b ≤ 32768 * 2147483648 := Int.mul_le_mul h1 (by omega) (by omega) (by omega)
    omega
  have hrun := run_make (P := P) w t el i z hu hi hzz kn kc a b h0 hab hbytes (by omega)
  obtain ⟨i', zv, hi', hz', hl1, hl2, hl3, _⟩ := zeroOf_spec hz
  rw [hi] at hi'
  injection hi' with hi'
  subst hi'
  rw [hzz] at hz'
  injection hz' with hz'
  subst hz'
  obtain ⟨s1, s2, s3⟩ := sameRows_of a.toNat zero
  have hzk : zero.length = k := by rw [hl1, hsz]
  have hrow : RowsR N L e w k (rowsOf (sameRows a.toNat zero)) ((madeCells z.cells (b.toNat * i.size)).toList.take (a.toNat * k)) := by
    have hle : a.toNat * k ≤ b.toNat * k := Nat.mul_le_mul_right _ (by omega)
    refine ⟨?_, fun r hr' => ?_, fun q r hq j x hj => ?_⟩
    · rw [rowsOf_len, s1, List.length_take, Array.length_toList, size_madeCells, hsz]; omega
    · obtain ⟨q, hq⟩ := List.mem_iff_getElem?.1 hr'
      obtain ⟨_, rfl⟩ := s3 q r hq
      rw [norm_len, hzk]
    · obtain ⟨hqa, rfl⟩ := s3 q r hq
      obtain ⟨g1, d, g2, g3⟩ := norm_get (N := N) (L := L) (e := e) (w := w) hcalm hj
      have hjk : j < k := by rw [← hzk, ← norm_len]; exact (List.getElem?_eq_some_iff.1 hj).1
      have hqk : (q + 1) * k ≤ a.toNat * k := Nat.mul_le_mul_right _ (by omega)
      rw [Nat.add_mul, Nat.one_mul] at hqk
      refine ⟨g1, z.cells.getD j undef, ?_, g3 _ (VR.cvc (hl3 j d g2))⟩
      rw [List.getElem?_take, if_pos (by omega), Array.getElem?_toList, hsz, madeCells_get hzs hk0 (by omega)]
      rw [Nat.mul_add_mod_self_right, Nat.mod_eq_of_lt hjk]
  obtain ⟨n1, n2⟩ := new_arr hr (c := b.toNat) (el := el) (by omega) hrow s1 (by omega) (by rw [size_madeCells, hsz]; omega) s2
  exact ⟨_, _, L, _, hrun, by rw [Tn.apply_push]; exact n1, n2⟩

theorem V.purec_calm {c : V} {p : PV} (hp : c.purec = some p) : c.calm = true := by
  cases c <;> simp [V.purec] at hp
  · obtain ⟨h1, rfl⟩ := hp; exact PV.perm_calm h1
  · obtain ⟨h1, rfl⟩ := hp; simp [V.calm, h1]

theorem mem_of_chop {α : Type} {k n : Nat} {l : List α} (hk : 0 < k) (hl : l.length = n * k) {x : α} (hx : x ∈ l) : ∃ r ∈ chop k n l, x ∈ r := by
  obtain ⟨q, hq⟩ := List.mem_iff_getElem?.1 hx
  have hlt : q < n * k := by rw [← hl]; exact (List.getElem?_eq_some_iff.1 hq).1
  have hi : q / k < n := (Nat.div_lt_iff_lt_mul hk).2 hlt
  refine ⟨_, List.mem_of_getElem? (chop_get k n l (q / k) hi), ?_⟩
  refine List.mem_of_getElem? (i := q % k) ?_
  rw [List.getElem?_take, if_pos (Nat.mod_lt _ hk), List.getElem?_drop, Nat.div_add_mod' q k]
  exact hq

theorem fillv_len {g : Opd → V} : ∀ {parts : List (Nat × Nat × Opd)} {cs cs' : List V}, fillv g cs parts = some cs' → cs'.length = cs.length
  | [], cs, cs', hf => by simp [fillv] at hf; subst hf; rfl
  | (off, n, x) :: r, cs, cs', hf => by
    simp only [fillv] at hf
    split at hf
    · rename_i hc
      have := fillv_len hf
      rw [this]
      simp [setAt]; omega
    · cases hf

theorem s_lit (hr : HR N L e W h w) (hO : OR N M L e w g ρ) {t el : TypeId} {k len : Nat} (he : elemT P t = some (el, k)) {zero : List V} (hz : zeroOf P el = some zero) (hmost : len * k ≤ 16777216)
    {parts : Array (Nat × Operand)} {l : List (Nat × Nat × Opd)} (hp : partsA N M k parts.toList = some l) {cs : List V} (hf : fillv g ((List.range (len * k)).map fun i => zero.getD (i % k) .any) l = some cs) :
    (∀ rows, mkRows (chop k len cs) = .inl rows → Good P N W L e h w (Instr.buildSlice t len (parts.map fun (i, x) => (i, ρ x))) (.tl rows) {}) ∧
    (∀ rows, mkRows (chop k len cs) = .inr rows → cs.all V.calm = true → Good P N W L e h w (Instr.buildSlice t len (parts.map fun (i, x) => (i, ρ x))) (.own h.ar.length 0 0 len) { push := [⟨0, k, .inr rows⟩], base := h.ar.length }) := by
  obtain ⟨i, z, hu, hi, hsz, hby, hk0, hzz, hzs⟩ := elemT_spec he
  obtain ⟨i', zv, hi', hz', hl1, hl2, hl3, hl4⟩ := zeroOf_spec hz
  rw [hi] at hi'
  injection hi' with hi'
  subst hi'
  rw [hzz] at hz'
  injection hz' with hz'
  subst hz'
  have hzk : zero.length = k := by rw [hl1, hsz]
  obtain ⟨k1, k2⟩ := partsA_spec hp
  have hcells : CellsR N L e w ((List.range (len * k)).map fun i => zero.getD (i % k) .any) (madeCells z.cells (len * k)) := by
    refine ⟨by simp [size_madeCells], fun j c hj => ?_⟩
    rw [List.getElem?_map] at hj
    have hjl : j < len * k := by
      rcases Nat.lt_or_ge j (len * k) with h1 | h1
      · exact h1
      · simp [h1] at hj
    rw [List.getElem?_range hjl] at hj
    simp only [Option.map_some, Option.some.injEq] at hj
    have hm := madeCells_get hzs hk0 hjl
    have hzg : zero[j % k]? = some c := by
      have hlt : j % k < zero.length := by rw [hzk]; exact Nat.mod_lt _ hk0
      rw [← hj]
      simp [List.getD, List.getElem?_eq_getElem hlt]
    have hval : (madeCells z.cells (len * k)).getD j undef = z.cells.getD (j % k) undef := by
      have : (madeCells z.cells (len * k)).getD j undef = ((madeCells z.cells (len * k))[j]?).getD undef := by simp
      rw [this, hm]; rfl
    rw [hval]
    exact VR.cvc (hl3 _ _ hzg)
  obtain ⟨arr', r1, r2⟩ := fill_run hO (place := fun i => some (i * k, k)) parts.toList l _ cs _ k1 k2 hcells hf
  have hlen : cs.length = len * k := by rw [fillv_len hf]; simp
  have hrun : (Instr.buildSlice t len (parts.map fun (i, x) => (i, ρ x))).run P w = .ok (.slice (some ⟨w.heap.size, 0, none⟩) len len) (w.alloc (.cells arr' el)) := by
    have hsizeOf : ∀ w : World, (sizeOf el).run P w = .ok k w := fun w => by simp [sizeOf, typeInfo, hi, hsz]
    have hle : ¬ (16777216 < len * k) := by omega
    by_cases h0 : len * k = 0
    · have r1' : Instr.fill (fun i => some (i * k, k)) #[] (parts.toList.map fun x => (x.1, ρ x.2)) = some arr' := by
        have hm : madeCells z.cells (len * k) = #[] := by rw [h0]; simp [madeCells, Array.range_zero']
        rw [hm] at r1
        exact r1
      have hl0 : len = 0 := by
        rcases Nat.mul_eq_zero.1 h0 with h1 | h1
        · exact h1
        · omega
      subst hl0
      simp [Instr.buildSlice, run_underlying hu, hsizeOf, r1', newRow, Array.range_zero']
    · have r1' : Instr.fill (fun i => some (i * k, k)) ((Array.range (len * k)).map fun x => z.cells[x % z.cells.size]!) (parts.toList.map fun x => (x.1, ρ x.2)) = some arr' := r1
      have h0' : ¬ (len = 0 ∨ k = 0) := fun hh => h0 (by rcases hh with hh | hh <;> simp [hh])
      simp [Instr.buildSlice, run_underlying hu, hsizeOf, hle, hl4, r1', newRow]
      exact fun hh => absurd hh h0
  constructor
  · intro rows hm
    unfold mkRows at hm
    cases hmm : mapO (mapO V.purec) (chop k len cs) with
    | none => simp [hmm] at hm
    | some rl =>
      simp [hmm] at hm
      subst hm
      have hcalm : ∀ c ∈ cs, c.calm = true := by
        intro c hc
        obtain ⟨r, hr', hcr⟩ := mem_of_chop hk0 hlen hc
        obtain ⟨q, hq⟩ := List.mem_iff_getElem?.1 hr'
        obtain ⟨r2', _, h3⟩ := mapO_fwd hmm q r hq
        obtain ⟨j, hj⟩ := List.mem_iff_getElem?.1 hcr
        obtain ⟨p, _, h5⟩ := mapO_fwd h3 j c hj
        exact V.purec_calm h5
      have hR := rowsR_chop (k := k) (n := len) r2 hlen hcalm
      obtain ⟨n1, n2⟩ := rowsR_norm hR hmm
      have hst := Nx.still hr (.cells arr' el)
      have hnew : (w.alloc (.cells arr' el)).heap[w.heap.size]? = some (.cells arr' el (0, 0)) := heap_alloc_new w _
      have hrl : rl.length = len := by rw [mapO_len hmm, chop_len]
      have hat : ∀ i j c, at2 rl i j = some c → ∃ u, arr'.toList[i * k + j]? = some u ∧ VR N L e w (.pv c) u ∧ c.perm = true := by
        intro i j c hc
        unfold at2 at hc
        cases hq : rl[i]? with
        | none => simp [hq] at hc
        | some q =>
          simp [hq] at hc
          obtain ⟨_, u, h2, h3⟩ := n1.2.2 i (q.map .pv) (by simp [hq]) j (.pv c) (by simp [hc])
          exact ⟨u, h2, h3, n2 q (List.mem_of_getElem? hq) c (List.mem_of_getElem? hc)⟩
      refine ⟨_, _, _, e, hrun, by rw [show ({} : Tn).apply h = h from Tn.apply_plain h _ _ _ _ _]; exact hst, ?_⟩
      have hp0 : PVR N (L.add w.heap.size) (w.alloc (.cells arr' el)) (.lst 0 rl) (.slice (some ⟨w.heap.size, 0, none⟩) rl.length len) := by
        refine .lst 0 rl _ ⟨w.heap.size, 0, none⟩ len k (fun i j => (arr'.toList[i * k + j]?).getD undef) (fun r hr' => ?_) (by omega) (fun _ => ⟨rfl, rfl, .inl (.inr ⟨rfl, rfl⟩)⟩) (fun i j c hc => ?_) (fun i j c hc => ?_) (fun _ i j c hc => ?_) (fun i j c hc => ?_)
        · obtain ⟨q, hq⟩ := List.mem_iff_getElem?.1 hr'
          have := n1.2.1 (r.map .pv) (List.mem_map.2 ⟨r, hr', rfl⟩)
          simpa using this
        · obtain ⟨u, h1, _, _⟩ := hat i j c hc
          rw [cell_of_row _ _ _ _ _ _ hnew, h1]
          simp only [Nat.zero_add, Option.getD_some]
          rw [← Array.getElem?_toList]
          exact h1
        · obtain ⟨u, h1, h2, _⟩ := hat i j c hc
          rw [h1]
          have := h2.mono hst.ext
          cases this with
          | pv _ _ hp => exact hp
        · exact (hat i j c hc).choose_spec.2.2
        · have := (hat i j c hc).choose_spec.2.2
          rw [← PV.calm_v]; exact PV.perm_calm this
      have := VR.tl (e := e) rl (some ⟨w.heap.size, 0, none⟩) (by rw [hrl] at hp0 ⊢; exact hp0) (fun _ ad had => by injection had with had; subst had; exact ⟨arr', el, hnew⟩)
      rw [hrl] at this
      exact this
  · intro rows hm hcalm
    have hrows : rows = chop k len cs := by
      unfold mkRows at hm
      cases hmm : mapO (mapO V.purec) (chop k len cs) with
      | none => simp [hmm] at hm; exact hm.symm
      | some rl => simp [hmm] at hm
    subst hrows
    have hR := rowsR_chop (k := k) (n := len) r2 hlen (fun c hc => List.all_eq_true.1 hcalm c hc)
    have hsz' : arr'.size = len * k := by rw [r2.1, hlen]
    have htake : arr'.toList.take (len * k) = arr'.toList := List.take_of_length_le (by simp [hsz'])
    obtain ⟨n1, n2⟩ := new_arr hr (k := k) (n := len) (c := len) (body := .inr (chop k len cs)) (arr := arr') (el := el) (by omega) (by rw [htake]; exact hR) (by simp [rowsLen, chop_len]) (Nat.le_refl _) (by omega) trivial
    exact ⟨_, _, L, _, hrun, by rw [Tn.apply_push]; exact n1, n2⟩

theorem set_rows_cells {_k _n off len : Nat} {z : List PV} {rows : List (List PV)} (hfit : off + len ≤ rows.length) (i : Nat) (r : List PV)
    (hi : (rows.take off ++ List.replicate len z ++ rows.drop (off + len))[i]? = some r) : (off ≤ i ∧ i < off + len ∧ r = z) ∨ ((i < off ∨ off + len ≤ i) ∧ rows[i]? = some r) := by
  have h1 : off + (List.replicate len z).length ≤ rows.length := by simpa using hfit
  have h2 : (rows.take off ++ List.replicate len z ++ rows.drop (off + (List.replicate len z).length))[i]? = some r := by simpa using hi
  rcases over_get h1 h2 with ⟨p1, p2, p3⟩ | ⟨p1, p2⟩
  · left
    rw [List.getElem?_replicate] at p3
    split at p3
    · injection p3 with p3
      exact ⟨p1, by simpa using p2, p3.symm⟩
    · cases p3
  · right
    exact ⟨by simpa using p1, p2⟩

theorem zeroCells_get {z : Array Value} {k n q : Nat} (hz : z.size = k) (hk : 0 < k) (hq : q < n * k) : (Builtin.zeroCells z n).toList[q]? = some (z.getD (q % k) undef) := by
  have := madeCells_get (n := n * k) hz hk hq
  rw [← Array.getElem?_toList] at this
  rw [← this]
  simp [Builtin.zeroCells, madeCells, hz]

theorem s_clr (hr : HR N L e W h w) {t el : TypeId} {k : Nat} (he : elemT P t = some (el, k)) {zero : List V} (hz : zeroOf P el = some zero) {x : V} {xv : Value} (hx : VR N L e w x xv) :
    (∀ tg, x = .pv (.lst tg []) → Good P N W L e h w (Builtin.clear_ #[t] 0 #[xv]) (.tup []) {}) ∧ (x = .tl [] → Good P N W L e h w (Builtin.clear_ #[t] 0 #[xv]) (.tup []) {}) ∧
    (∀ id ver off len a z rows, x = .own id ver off len → ownArr h id ver = some a → mapO V.purec zero = some z → a.body = .inl rows → a.k = k → off + len ≤ rows.length →
      Good P N W L e h w (Builtin.clear_ #[t] 0 #[xv]) (.tup []) { ar := some (id, ⟨ver, k, .inl (rows.take off ++ List.replicate len z ++ rows.drop (off + len))⟩) }) := by
  obtain ⟨i, zv, hu, hi, hsz, hby, hk0, hzz, hzs⟩ := elemT_spec he
  have hempty : ∀ (A : Option Addr) (c : Nat), (Builtin.clear_ #[t] 0 #[.slice A 0 c]).run P w = .ok (.tuple #[]) w := by
    intro A c
    cases A <;> simp [Builtin.clear_, run_underlying hu]
  have htup : VR N L e w (.tup []) (.tuple #[]) := .tup [] #[] rfl (by simp)
  refine ⟨fun tg hh => ?_, fun hh => ?_, fun id ver off len a z rows hh ho hm hb hak hfit => ?_⟩
  · subst hh
    cases hx with
    | pv _ _ hp => cases hp with | lst => exact .pure hr (hempty _ _) htup (Tn.apply_plain h _ _ _ _ _)
  · subst hh
    cases hx with
    | tl => exact .pure hr (hempty _ _) htup (Tn.apply_plain h _ _ _ _ _)
  · subst hh
    obtain ⟨ho1, ho2⟩ := ownArr_spec ho
    obtain ⟨v1, v2, v3, v4⟩ := hr.ver id a ho1
    have hak0 : a.k ≠ 0 := by omega
    obtain ⟨g1, ⟨arr, ty, hbk, hbz⟩, g3, g4, g5⟩ := hr.ar id a ho1 hak0
    have hrows : a.rows = rows.map (·.map .pv) := by rw [Arr.rows_of, hb]; rfl
    have hasz : a.size = rows.length := by rw [← Arr.rows_length, hrows]; simp
    obtain ⟨i', zv', hi', hz', hl1, hl2, hl3, hl4⟩ := zeroOf_spec hz
    rw [hi] at hi'
    injection hi' with hi'
    subst hi'
    rw [hzz] at hz'
    injection hz' with hz'
    subst hz'
    have hzk : z.length = k := by rw [mapO_len hm, hl1, hsz]
    cases hx with
    | own _ _ _ _ A cap h0 h1 h2 h3 =>
      obtain ⟨q1, q2, q3, q4⟩ := h3 (by omega)
      by_cases hl0 : len = 0
      · subst hl0
        have hsame : (⟨ver, k, .inl (rows.take off ++ List.replicate 0 z ++ rows.drop (off + 0))⟩ : Arr) = a := by
          obtain ⟨av, ak, ab⟩ := a
          simp only at ho2 hak hb
          subst ho2; subst hak; subst hb
          simp
        refine .pure hr (hempty _ _) htup ?_
        rw [hsame, Tn.apply_ar]
        have : h.ar.set id a = h.ar := by
          apply List.ext_getElem?
          intro j
          by_cases hj : j = id
          · subst hj
            rw [List.getElem?_set_self (List.getElem?_eq_some_iff.1 ho1).1, ho1]
          · rw [List.getElem?_set_ne (Ne.symm hj)]
        rw [this]
      · have hA := q4 (by omega)
        rw [v2, hak] at hA
        have hcapk : (off + len) * k ≤ e.cap id * k := Nat.mul_le_mul_right _ (by omega)
        rw [Nat.add_mul] at hcapk
        rw [hak] at hbz
        have hnl : (Builtin.zeroCells zv.cells len).toList.length = len * k := by simp [size_zeroCells, hzs]
        have hget : ∀ q, q < len * k → (Builtin.zeroCells zv.cells len).toList[q]? = some (zv.cells.getD (q % k) undef) := fun q hq => zeroCells_get hzs hk0 hq
        have hval : ∀ (j : Nat) (p : PV), z[j]? = some p → VR N L e w (.pv p) (zv.cells.getD j undef) ∧ p.perm = true := by
          intro j p hp
          obtain ⟨d, h5, h6⟩ := mapO_get hm j p hp
          exact ⟨(VR.cvc (hl3 j d h5)).purec h6, V.purec_perm h6⟩
        have hone : ∀ v ∈ (Builtin.zeroCells zv.cells len).toList, v.oneCell' = true := by
          intro v hv
          obtain ⟨q, hq⟩ := List.mem_iff_getElem?.1 hv
          have hql : q < len * k := by rw [← hnl]; exact (List.getElem?_eq_some_iff.1 hq).1
          rw [hget q hql] at hq
          injection hq with hq
          have hjl : q % k < z.length := by rw [hzk]; exact Nat.mod_lt _ hk0
          obtain ⟨h5, h6⟩ := hval (q % k) _ (List.getElem?_eq_getElem hjl)
          rw [hq] at h5
          exact h5.calm_one (PV.perm_calm h6)
        have hst := run_storeCells_at P (e.ar id) (e.ad id + off * k) ty (Builtin.zeroCells zv.cells len).toList 0 arr w hbk (by rw [hnl]; omega) hone
        simp only [Nat.add_zero] at hst
        have hrun : (Builtin.clear_ #[t] 0 #[.slice A len cap]).run P w = .ok (.tuple #[]) (w.setRow (e.ar id) (arr.toList.take (e.ad id + off * k) ++ (Builtin.zeroCells zv.cells len).toList ++ arr.toList.drop (e.ad id + off * k + (Builtin.zeroCells zv.cells len).toList.length)).toArray) := by
          rw [hA]
          have hc : ∀ c, (Builtin.clear_ #[t] 0 #[.slice (some ⟨e.ar id, e.ad id + off * k, none⟩) len c]).run P w = ((storeCells ⟨e.ar id, e.ad id + off * k, none⟩ (Builtin.zeroCells zv.cells len).toList).run P w).andThen fun _ w' => .ok (.tuple #[]) w' := by
            intro c
            match len, hl0 with
            | n + 1, _ => simp [Builtin.clear_, run_underlying hu, hl4]
          rw [hc, hst]
          rfl
        have hcell : ∀ o, (w.setRow (e.ar id) (arr.toList.take (e.ad id + off * k) ++ (Builtin.zeroCells zv.cells len).toList ++ arr.toList.drop (e.ad id + off * k + (Builtin.zeroCells zv.cells len).toList.length)).toArray).cell? ⟨e.ar id, o, none⟩ =
            (arr.toList.take (e.ad id + off * k) ++ (Builtin.zeroCells zv.cells len).toList ++ arr.toList.drop (e.ad id + off * k + (Builtin.zeroCells zv.cells len).toList.length))[o]? := fun o => by
          rw [cell_of_row _ _ _ _ _ _ (setRow_heap w _ arr _ ty (0, 0) hbk)]
          simp
        have hold : ∀ o v', w.cell? ⟨e.ar id, o, none⟩ = some v' → arr.toList[o]? = some v' := fun o v' ho' => by
          rw [cell_of_row _ _ _ _ _ _ hbk] at ho'
          simpa using ho'
        have hfit' : e.ad id + off * k + (Builtin.zeroCells zv.cells len).toList.length ≤ arr.toList.length := by rw [hnl]; simp; omega
        have hlen' : (rows.take off ++ List.replicate len z ++ rows.drop (off + len)).length = rows.length := by simp; omega
        have hnx := Nx.setArr hr (b := e.ar id) (d := e.ad id) (c := e.cap id) ⟨ver, k, .inl (rows.take off ++ List.replicate len z ++ rows.drop (off + len))⟩ ho1 hak0
          (fun q _ hq => setRow_other w _ hq) (by simp) (Fr.setRow (hr.war id h1 (by rw [v2]; exact hak0)).1 _) (.inr ⟨ho2.symm, rfl, rfl, rfl, hak.symm, by show (rows.take off ++ List.replicate len z ++ rows.drop (off + len)).length = _; rw [hlen', hasz]⟩) (.inl rfl) (by show k ≠ 0; omega)
          (by show (rows.take off ++ List.replicate len z ++ rows.drop (off + len)).length ≤ _; rw [hlen', ← hasz]; exact g1)
          ⟨_, ty, setRow_heap w _ arr _ ty (0, 0) hbk, by
            show e.ad id + e.cap id * k ≤ _
            have hz' : ((arr.toList.take (e.ad id + off * k) ++ (Builtin.zeroCells zv.cells len).toList ++ arr.toList.drop (e.ad id + off * k + (Builtin.zeroCells zv.cells len).toList.length)).toArray).size = arr.size := by
              simp only [List.size_toArray, List.length_append, List.length_take, List.length_drop, hnl, Array.length_toList]; omega
            rw [hz']; omega⟩
          (fun r hr' => by
            simp only [Arr.rows, List.mem_map] at hr'
            obtain ⟨q, hq, rfl⟩ := hr'
            obtain ⟨i', hi'⟩ := List.mem_iff_getElem?.1 hq
            rcases set_rows_cells (_k := k) (_n := 0) hfit i' q hi' with ⟨_, _, rfl⟩ | ⟨_, hi''⟩
            · simpa using hzk
            · have := g3 (q.map .pv) (by rw [hrows]; exact List.mem_map.2 ⟨q, List.mem_of_getElem? hi'', rfl⟩)
              rw [hak] at this; exact this)
          (fun i' r hi' j x hj => by
            simp only [Arr.rows, List.getElem?_map] at hi'
            show _ ∧ ∃ v, _ = some v ∧ _
            cases hq : (rows.take off ++ List.replicate len z ++ rows.drop (off + len))[i']? with
            | none => rw [hq, Option.map_none] at hi'; cases hi'
            | some q =>
              rw [hq, Option.map_some] at hi'
              injection hi' with hi'
              subst hi'
              obtain ⟨p, hp, rfl⟩ := map_pv_get hj
              rcases set_rows_cells (_k := k) (_n := 0) hfit i' q hq with ⟨p1, p2, rfl⟩ | ⟨p1, p2⟩
              · obtain ⟨h5, h6⟩ := hval j p hp
                have hjk : j < k := by rw [← hzk]; exact (List.getElem?_eq_some_iff.1 hp).1
                refine ⟨PV.perm_calm h6, _, ?_, h5⟩
                have e1 : (i' - off) * k + off * k = i' * k := by rw [← Nat.add_mul]; congr 1; omega
                have e2 : (i' - off + 1) * k ≤ len * k := Nat.mul_le_mul_right _ (by omega)
                rw [Nat.add_mul, Nat.one_mul] at e2
                rw [hcell, over_fwd_in (j := e.ad id + i' * k + j) hfit' (by omega) (by rw [hnl]; omega)]
                rw [show e.ad id + i' * k + j - (e.ad id + off * k) = (i' - off) * k + j by omega, hget _ (by omega)]
                rw [Nat.mul_add_mod_self_right, Nat.mod_eq_of_lt hjk]
              · have hrow : a.rows[i']? = some (q.map .pv) := by rw [hrows]; simp [p2]
                obtain ⟨h5, v', h6, h7⟩ := g4 i' _ hrow j (.pv p) (by simp [hp])
                have hjk : j < k := by
                  have := g3 _ (List.mem_of_getElem? hrow)
                  rw [hak] at this
                  have h8 := (List.getElem?_eq_some_iff.1 hp).1
                  simpa using (by simpa using this : q.length = k) ▸ h8
                refine ⟨h5, v', ?_, h7⟩
                rw [hak] at h6
                have hout : e.ad id + i' * k + j < e.ad id + off * k ∨ e.ad id + off * k + (Builtin.zeroCells zv.cells len).toList.length ≤ e.ad id + i' * k + j := by
                  rw [hnl]
                  rcases p1 with p1 | p1
                  · left
                    have : (i' + 1) * k ≤ off * k := Nat.mul_le_mul_right _ (by omega)
                    rw [Nat.add_mul, Nat.one_mul] at this
                    omega
                  · right
                    have : (off + len) * k ≤ i' * k := Nat.mul_le_mul_right _ p1
                    rw [Nat.add_mul] at this
                    omega
                rw [hcell, over_fwd_out (j := e.ad id + i' * k + j) hfit' hout]
                exact hold _ _ h6)
          (fun r hr' c hc => by
            obtain ⟨i', hi'⟩ := List.mem_iff_getElem?.1 hr'
            rcases set_rows_cells (_k := k) (_n := 0) hfit i' r hi' with ⟨_, _, rfl⟩ | ⟨_, hi''⟩
            · obtain ⟨j, hj⟩ := List.mem_iff_getElem?.1 hc
              exact (hval j c hj).2
            · rw [hb] at g5
              exact g5 r (List.mem_of_getElem? hi'') c hc)
        refine ⟨_, _, L, _, hrun, by rw [Tn.apply_ar]; exact hnx, .tup [] #[] rfl (by simp)⟩

theorem set_rows_over {off : Nat} {new rows : List (List PV)} (hfit : off + new.length ≤ rows.length) (i : Nat) (r : List PV)
    (hi : (rows.take off ++ new ++ rows.drop (off + new.length))[i]? = some r) : (off ≤ i ∧ i < off + new.length ∧ new[i - off]? = some r) ∨ ((i < off ∨ off + new.length ≤ i) ∧ rows[i]? = some r) :=
  over_get hfit hi

theorem s_copy (hr : HR N L e W h w) {t el ty : TypeId} {k : Nat} (he : elemT P t = some (el, k)) {x y v : V} {xv yv : Value} (hx : VR N L e w x xv) (hy : VR N L e w y yv) {tn : Tn} (hh : copyV h k x y = some (v, tn)) :
    Good P N W L e h w (Builtin.copy_ #[t, t] ty #[xv, yv]) v tn := by
  obtain ⟨i, zv, hu, hi, hsz, hby, hk0, hzz, hzs⟩ := elemT_spec he
  have hsize : sizeOf el = (pure k : Sem Nat) ∨ True := .inr trivial
  unfold copyV at hh
  split at hh <;> first | (cases hh; done) | skip
  rename_i new rd hs
  split at hh <;> first | (cases hh; done) | skip
  rename_i hfitk
  obtain ⟨B, c', ad', news, rfl, s1, s2, s3, s4, s5⟩ := src_rows hr hy hs hfitk (by omega)
  simp only [rowsLen] at s1 s2 s3 s4 hy ⊢
  split at hh <;> first | (cases hh; done) | skip
  rename_i id ver off len
  have hn : Nat.min new.length len = min new.length len := rfl
  cases hx with
  | own _ _ _ _ A cap h0 h1 h2 h3 =>
  split at hh
  · rename_i hm0
    injection hh with hh; injection hh with e1 e2; subst e1; subst e2
    refine .pure hr ?_ (.pv _ _ (.int .i64 0)) (Tn.apply_plain h _ _ _ _ _)
    cases B <;> cases A <;> simp [Builtin.copy_, run_underlying hu, Builtin.lenOf, Builtin.firstCells, sizeOf, typeInfo, hi, hn, hm0, storeCells, loadCells, loadCellsFrom, goInt]
  · rename_i hm0
    split at hh <;> first | (cases hh; done) | skip
    rename_i a ho
    split at hh <;> first | (cases hh; done) | skip
    rename_i rows hb
    split at hh <;> first | (cases hh; done) | skip
    rename_i hc
    obtain ⟨hak, hfit0⟩ := hc
    injection hh with hh; injection hh with e1 e2; subst e1; subst e2
    generalize hm : min new.length len = m at hm0 ⊢
    have hml : m ≤ len := by omega
    have hmn : m ≤ new.length := by omega
    have hfit : off + m ≤ rows.length := by omega
    obtain ⟨ho1, ho2⟩ := ownArr_spec ho
    obtain ⟨v1, v2, v3, v4⟩ := hr.ver id a ho1
    have hak0 : a.k ≠ 0 := by omega
    obtain ⟨g1, ⟨arr, ty', hbk, hbz⟩, g3, g4, g5⟩ := hr.ar id a ho1 hak0
    have hrows : a.rows = rows.map (·.map .pv) := by rw [Arr.rows_of, hb]; rfl
    have hasz : a.size = rows.length := by rw [← Arr.rows_length, hrows]; simp
    obtain ⟨q1, q2, q3, q4⟩ := h3 (by omega)
    have hA := q4 (by omega)
    rw [v2, hak] at hA
    have hcapk : (off + len) * k ≤ e.cap id * k := Nat.mul_le_mul_right _ (by omega)
    rw [Nat.add_mul] at hcapk
    rw [hak] at hbz
    have hmk : m * k ≤ len * k := Nat.mul_le_mul_right _ hml
    have hmk' : m * k ≤ new.length * k := Nat.mul_le_mul_right _ hmn
    have hrl : (rowsOf (.inl new)).length = new.length := by simp [rowsOf]
    have hnews : news.length = new.length * k := by rw [s2.1, hrl]
    generalize hcs : news.take (m * k) = cs at *
    have hnl : cs.length = m * k := by rw [← hcs, List.length_take, hnews]; omega
    have hget : ∀ q, q < m * k → cs[q]? = news[q]? := fun q hq => by rw [← hcs, List.getElem?_take, if_pos hq]
    have hone : ∀ v ∈ cs, v.oneCell' = true := fun v hv => s2.one v (by rw [← hcs] at hv; exact List.mem_of_mem_take hv)
    have htl : (new.take m).length = m := by simp; omega
    have hval : ∀ (i : Nat) (r : List PV), (new.take m)[i]? = some r → r.length = k ∧ ∀ (j : Nat) (p : PV), r[j]? = some p → p.perm = true ∧ ∃ u, cs[i * k + j]? = some u ∧ VR N L e w (.pv p) u := by
      intro i r hir
      have him : i < m := by rw [← htl]; exact (List.getElem?_eq_some_iff.1 hir).1
      rw [List.getElem?_take, if_pos him] at hir
      have hrl' : r.length = k := by
        have := s2.2.1 (r.map .pv) (by simp only [rowsOf]; exact List.mem_map.2 ⟨r, List.mem_of_getElem? hir, rfl⟩)
        simpa using this
      refine ⟨hrl', fun j p hp => ?_⟩
      have hjk : j < k := by rw [← hrl']; exact (List.getElem?_eq_some_iff.1 hp).1
      obtain ⟨_, u, h5, h6⟩ := s2.2.2 i (r.map .pv) (by simp [rowsOf, hir]) j (.pv p) (by simp [hp])
      refine ⟨s4 r (List.mem_of_getElem? hir) p (List.mem_of_getElem? hp), u, ?_, h6⟩
      have : (i + 1) * k ≤ m * k := Nat.mul_le_mul_right _ him
      rw [Nat.add_mul, Nat.one_mul] at this
      rw [hget _ (by omega)]
      exact h5
    have hst := run_storeCells_at P (e.ar id) (e.ad id + off * k) ty' cs 0 arr w hbk (by rw [hnl]; omega) hone
    simp only [Nat.add_zero] at hst
    have hB : B = some ad' := s1 (by omega)
    have hld := run_loadCells_list (P := P) w ad' cs (fun j u hj => s3 j u (by
      have hjl : j < m * k := by rw [← hnl]; exact (List.getElem?_eq_some_iff.1 hj).1
      rw [← hget j hjl]; exact hj))
    rw [hnl] at hld
    have hrun : (Builtin.copy_ #[t, t] ty #[.slice A len cap, .slice B new.length c']).run P w = .ok (goInt m) (w.setRow (e.ar id) (arr.toList.take (e.ad id + off * k) ++ cs ++ arr.toList.drop (e.ad id + off * k + cs.length)).toArray) := by
      rw [hA, hB]
      have hmin : Nat.min new.length len = m := hm
      simp [Builtin.copy_, run_underlying hu, Builtin.lenOf, Builtin.firstCells, sizeOf, typeInfo, hi, hsz, hmin, hld, hst]
    have hcell : ∀ o, (w.setRow (e.ar id) (arr.toList.take (e.ad id + off * k) ++ cs ++ arr.toList.drop (e.ad id + off * k + cs.length)).toArray).cell? ⟨e.ar id, o, none⟩ =
        (arr.toList.take (e.ad id + off * k) ++ cs ++ arr.toList.drop (e.ad id + off * k + cs.length))[o]? := fun o => by
      rw [cell_of_row _ _ _ _ _ _ (setRow_heap w _ arr _ ty' (0, 0) hbk)]
      simp
    have hold : ∀ o v', w.cell? ⟨e.ar id, o, none⟩ = some v' → arr.toList[o]? = some v' := fun o v' ho' => by
      rw [cell_of_row _ _ _ _ _ _ hbk] at ho'
      simpa using ho'
    have hfit' : e.ad id + off * k + cs.length ≤ arr.toList.length := by rw [hnl]; simp; omega
    have hlen' : (rows.take off ++ new.take m ++ rows.drop (off + m)).length = rows.length := by simp; omega
    have hover : ∀ (i : Nat) (r : List PV), (rows.take off ++ new.take m ++ rows.drop (off + m))[i]? = some r → (off ≤ i ∧ i < off + m ∧ (new.take m)[i - off]? = some r) ∨ ((i < off ∨ off + m ≤ i) ∧ rows[i]? = some r) := by
      intro i r hir
      have := set_rows_over (off := off) (new := new.take m) (rows := rows) (by rw [htl]; exact hfit) i r (by rw [htl]; exact hir)
      rw [htl] at this
      exact this
    have hnx := Nx.setArr hr (b := e.ar id) (d := e.ad id) (c := e.cap id) ⟨ver, k, .inl (rows.take off ++ new.take m ++ rows.drop (off + m))⟩ ho1 hak0
      (fun q _ hq => setRow_other w _ hq) (by simp) (Fr.setRow (hr.war id h1 (by rw [v2]; exact hak0)).1 _) (.inr ⟨ho2.symm, rfl, rfl, rfl, hak.symm, by show (rows.take off ++ new.take m ++ rows.drop (off + m)).length = _; rw [hlen', hasz]⟩) (.inl rfl) (by show k ≠ 0; omega)
      (by show (rows.take off ++ new.take m ++ rows.drop (off + m)).length ≤ _; rw [hlen', ← hasz]; exact g1)
      ⟨_, ty', setRow_heap w _ arr _ ty' (0, 0) hbk, by
        show e.ad id + e.cap id * k ≤ _
        have hz' : ((arr.toList.take (e.ad id + off * k) ++ cs ++ arr.toList.drop (e.ad id + off * k + cs.length)).toArray).size = arr.size := by
          simp only [List.size_toArray, List.length_append, List.length_take, List.length_drop, hnl, Array.length_toList]; omega
        rw [hz']; omega⟩
      (fun r hr' => by
        simp only [Arr.rows, List.mem_map] at hr'
        obtain ⟨q, hq, rfl⟩ := hr'
        obtain ⟨i', hi'⟩ := List.mem_iff_getElem?.1 hq
        rcases hover i' q hi' with ⟨_, _, h5⟩ | ⟨_, hi''⟩
        · simpa using (hval _ _ h5).1
        · have := g3 (q.map .pv) (by rw [hrows]; exact List.mem_map.2 ⟨q, List.mem_of_getElem? hi'', rfl⟩)
          rw [hak] at this; exact this)
      (fun i' r hi' j x hj => by
        simp only [Arr.rows, List.getElem?_map] at hi'
        show _ ∧ ∃ v, _ = some v ∧ _
        cases hq : (rows.take off ++ new.take m ++ rows.drop (off + m))[i']? with
        | none => rw [hq, Option.map_none] at hi'; cases hi'
        | some q =>
          rw [hq, Option.map_some] at hi'
          injection hi' with hi'
          subst hi'
          obtain ⟨p, hp, rfl⟩ := map_pv_get hj
          rcases hover i' q hq with ⟨p1, p2, p3⟩ | ⟨p1, p2⟩
          · obtain ⟨h4, h5⟩ := hval _ _ p3
            obtain ⟨h6, u, h7, h8⟩ := h5 j p hp
            have hjk : j < k := by rw [← h4]; exact (List.getElem?_eq_some_iff.1 hp).1
            refine ⟨PV.perm_calm h6, u, ?_, h8⟩
            have e1 : (i' - off) * k + off * k = i' * k := by rw [← Nat.add_mul]; congr 1; omega
            have e2 : (i' - off + 1) * k ≤ m * k := Nat.mul_le_mul_right _ (by omega)
            rw [Nat.add_mul, Nat.one_mul] at e2
            rw [hcell, over_fwd_in (j := e.ad id + i' * k + j) hfit' (by omega) (by rw [hnl]; omega)]
            rw [show e.ad id + i' * k + j - (e.ad id + off * k) = (i' - off) * k + j by omega]
            exact h7
          · have hrow : a.rows[i']? = some (q.map .pv) := by rw [hrows]; simp [p2]
            obtain ⟨h5, v', h6, h7⟩ := g4 i' _ hrow j (.pv p) (by simp [hp])
            have hjk : j < k := by
              have := g3 _ (List.mem_of_getElem? hrow)
              rw [hak] at this
              have h8 := (List.getElem?_eq_some_iff.1 hp).1
              simpa using (by simpa using this : q.length = k) ▸ h8
            refine ⟨h5, v', ?_, h7⟩
            rw [hak] at h6
            have hout : e.ad id + i' * k + j < e.ad id + off * k ∨ e.ad id + off * k + cs.length ≤ e.ad id + i' * k + j := by
              rw [hnl]
              rcases p1 with p1 | p1
              · left
                have : (i' + 1) * k ≤ off * k := Nat.mul_le_mul_right _ (by omega)
                rw [Nat.add_mul, Nat.one_mul] at this
                omega
              · right
                have : (off + m) * k ≤ i' * k := Nat.mul_le_mul_right _ p1
                rw [Nat.add_mul] at this
                omega
            rw [hcell, over_fwd_out (j := e.ad id + i' * k + j) hfit' hout]
            exact hold _ _ h6)
      (fun r hr' c hc => by
        obtain ⟨i', hi'⟩ := List.mem_iff_getElem?.1 hr'
        rcases hover i' r hi' with ⟨_, _, h5⟩ | ⟨_, hi''⟩
        · obtain ⟨j, hj⟩ := List.mem_iff_getElem?.1 hc
          exact ((hval _ _ h5).2 j c hj).1
        · rw [hb] at g5
          exact g5 r (List.mem_of_getElem? hi'') c hc)
    refine ⟨_, _, L, _, hrun, by rw [Tn.apply_ar]; exact hnx, .pv _ _ (by simpa [goInt] using PVR.int IntKind.i64 m)⟩

end Go.Pv

