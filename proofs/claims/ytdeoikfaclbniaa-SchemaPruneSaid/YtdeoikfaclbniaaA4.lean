/-
  The interpreter over plain values,and that it is sound.
-/
import Derived.Test.YtdeoikfaclbniaaA3
import Derived.SizedLaws
namespace Go.Pv
structure Edge where
  fr : Int
  send : Bool
  label : Int
  to : Int
  deriving DecidableEq,Inhabited
structure Auto where
  states : Int
  start : Int
  edges : List Edge
  deriving DecidableEq,Inhabited
def Edge.c (e : Edge) : List PV := [.int .i64 e.fr,.bool e.send,.int .i64 e.label,.int .i64 e.to]
@[go_sem] theorem Edge.c_eq (e : Edge) : e.c = [.int .i64 e.fr,.bool e.send,.int .i64 e.label,.int .i64 e.to] := rfl
def Edge.dec : List PV → Option Edge
  | [.int .i64 a,.bool b,.int .i64 c,.int .i64 d] => some ⟨a,b,c,d⟩
  | _ => none
theorem Edge.dec_enc (r : List PV) (x : Edge) (h : Edge.dec r = some x) : x.c = r := by
  unfold Edge.dec at h
  split at h
  · cases h
    rfl
  · cases h
def Auto.p (t : Nat) (a : Auto) : PV := .agg [.int .i64 a.states,.int .i64 a.start,.lst t (a.edges.map Edge.c)]
@[go_sem] theorem Auto.p_eq (t : Nat) (a : Auto) : a.p t = .agg [.int .i64 a.states,.int .i64 a.start,.lst t (a.edges.map Edge.c)] := rfl
def ints (l : List Int) : List (List PV) := l.map fun x => [.int .i64 x]
@[go_sem] theorem ints_length (l : List Int) : (ints l).length = l.length := by simp [ints]
@[go_sem] theorem ints_get (l : List Int) (i : Nat) : (ints l)[i]? = l[i]?.map fun x => [.int .i64 x] := by simp [ints]
@[go_sem] theorem ints_set (l : List Int) (i : Nat) (x : Int) : (ints l).set i [.int .i64 x] = ints (l.set i x) := by simp [ints,List.map_set]
theorem ints_store {id row ver : Nat} {k : IntKind} {x : Int} {l : List Int} (h1 : row < l.length) (hk : k = .i64) : storeRow id row 0 [.pv (.int k x)] ⟨ver,1,.inl (ints l)⟩ = some { ar := some (id,⟨ver,1,.inl (ints (l.set row x))⟩) } := by
  subst hk
  rw [storeRow_one (by rw [ints_length]; exact h1) rfl (.inr ⟨.int .i64 l[row],by simp [ints,h1]⟩) rfl,ints_set]
@[go_sem] theorem ints_store64 {id row ver : Nat} {x : Int} {l : List Int} (h1 : row < l.length) : storeRow id row 0 [.pv (.int .i64 x)] ⟨ver,1,.inl (ints l)⟩ = some { ar := some (id,⟨ver,1,.inl (ints (l.set row x))⟩) } := ints_store h1 rfl
@[go_sem] theorem ints_made (n : Nat) (x : Int) : sameRows n [.pv (.int .i64 x)] = .inl (ints (List.replicate n x)) := by
  simp [sameRows,mapO,V.purec,PV.perm,ints]
@[go_sem] theorem ints_take (l : List Int) (n : Nat) : (ints l).take n = ints (l.take n) := by simp [ints]
def Edge.side (e : Edge) : Int := if e.send = true then 1 else 0
def cmpI (x y : Int) : Int := if x < y then -1 else if y < x then 1 else 0
def Edge.cmp (a b : Edge) : Int := if cmpI a.fr b.fr ≠ 0 then cmpI a.fr b.fr else if cmpI a.side b.side ≠ 0 then cmpI a.side b.side else cmpI a.label b.label
def Edge.lt (a b : Edge) : Bool := if a.fr ≠ b.fr then decide (a.fr < b.fr) else if a.send ≠ b.send then b.send else decide (a.label < b.label)
theorem Edge.cmp_lt (a b : Edge) : decide (Edge.cmp a b < 0) = Edge.lt a b := by
  unfold Edge.cmp Edge.lt cmpI Edge.side
  by_cases h1 : a.fr = b.fr
  · simp only [h1,Int.lt_irrefl,if_false,ne_eq,not_true_eq_false]
    cases ha : a.send <;> cases hb : b.send <;> simp <;> (repeat' split) <;> simp <;> omega
  · rcases Int.lt_or_gt_of_ne h1 with h | h
    · simp [h,h1]
    · have : ¬ a.fr < b.fr := by omega
      simp [h,h1,this]
theorem Edge.swo : Go.Sort.SWO Edge.lt where
  irrefl x := by simp [Edge.lt]
  trans x y z h1 h2 := by
    unfold Edge.lt at *
    by_cases a1 : x.fr = y.fr <;> by_cases a2 : y.fr = z.fr <;> by_cases b1 : x.send = y.send <;> by_cases b2 : y.send = z.send <;> simp_all <;> (try omega)
    all_goals (try (have : ¬ x.fr = z.fr := by omega); simp_all; omega)
  ntrans x y z h1 h2 := by
    unfold Edge.lt at *
    by_cases a1 : x.fr = y.fr <;> by_cases a2 : y.fr = z.fr <;> by_cases b1 : x.send = y.send <;> by_cases b2 : y.send = z.send <;> simp_all <;> (try omega)
    all_goals (try (have : ¬ x.fr = z.fr := by omega); simp_all; omega)
end Go.Pv
namespace Go.Pv
end Go.Pv
namespace Go.Pv
theorem getD_some {l : List Int} {i : Nat} (h : i < l.length) : l[i]? = some (l.getD i 0) := by simp [h]
end Go.Pv
namespace Go.Pv
def I64 (x : Int) : Prop := -9223372036854775808 ≤ x ∧ x ≤ 9223372036854775807
def lenOk {α : Type} (l : List α) : Prop := l.length ≤ 9223372036854775807
def strOk (s : ByteArray) : Prop := s.size ≤ 9223372036854775807
structure Raw where
  id : Int
  data : ByteArray
def Raw.c (r : Raw) : List PV := [.int .i64 r.id,.str r.data]
def Raw.ok (r : Raw) : Prop := I64 r.id ∧ strOk r.data
structure Val where
  kind : Int
  bool : Bool
  int : Int
  str : ByteArray
  id : Int
  keys : List (List PV)
  items : List (List PV)
  rest : List Raw
def Val.c (v : Val) : List PV := [.int .i64 v.kind,.bool v.bool,.int .i64 v.int,.str v.str,.int .i64 v.id,.lst 0 v.keys,.lst 0 v.items,.lst 0 (v.rest.map Raw.c)]
def VOk : Nat → List PV → Prop
  | 0,_ => False
  | n + 1,cs => ∃ v : Val,cs = v.c ∧ (I64 v.kind ∧ I64 v.int ∧ strOk v.str ∧ I64 v.id) ∧ (lenOk v.keys ∧ lenOk v.items ∧ lenOk v.rest) ∧ (∀ r ∈ v.keys,VOk n r) ∧ (∀ r ∈ v.items,VOk n r) ∧ ∀ r ∈ v.rest,r.ok
structure Sym where
  id : Int
  name : ByteArray
def Sym.c (s : Sym) : List PV := [.int .i64 s.id,.str s.name]
def Sym.ok (s : Sym) : Prop := I64 s.id ∧ strOk s.name
structure Mem where
  id : Int
  name : ByteArray
  type : Int
  crit : Bool
  has : Bool
  dflt : Val
def Mem.c (m : Mem) : List PV := [.int .i64 m.id,.str m.name,.int .i64 m.type,.bool m.crit,.bool m.has,.int .i64 m.dflt.kind,.bool m.dflt.bool,.int .i64 m.dflt.int,.str m.dflt.str,.int .i64 m.dflt.id,.lst 0 m.dflt.keys,.lst 0 m.dflt.items,.lst 0 (m.dflt.rest.map Raw.c)]
def Mem.ok (m : Mem) : Prop := I64 m.id ∧ strOk m.name ∧ I64 m.type ∧ ∃ n,VOk n m.dflt.c
structure Typ where
  kind : Int
  name : ByteArray
  low : Int
  high : Int
  max : Int
  syms : List Sym
  mems : List Mem
  key : Int
  elem : Int
  opn : Bool
def Typ.c (t : Typ) : List PV := [.int .i64 t.kind,.str t.name,.int .i64 t.low,.int .i64 t.high,.int .i64 t.max,.lst 0 (t.syms.map Sym.c),.lst 0 (t.mems.map Mem.c),.int .i64 t.key,.int .i64 t.elem,.bool t.opn]
def Typ.ok (t : Typ) : Prop := (I64 t.kind ∧ strOk t.name ∧ I64 t.low ∧ I64 t.high ∧ I64 t.max ∧ I64 t.key ∧ I64 t.elem) ∧ (lenOk t.syms ∧ lenOk t.mems) ∧ (∀ s ∈ t.syms,s.ok) ∧ ∀ m ∈ t.mems,m.ok
end Go.Pv
namespace Go.Pv
variable {P : Program}
theorem typed_int {n : Nat} {t : TypeId} {k : IntKind} {cs : List PV} (hu : P.underlying t = some (.int k)) (h : typed P (n + 1) t cs) : ∃ x,cs = [.int k x] ∧ k.min ≤ x ∧ x ≤ k.max := by
  simpa only [typed,hu] using h
theorem typed_bool {n : Nat} {t : TypeId} {cs : List PV} (hu : P.underlying t = some .bool) (h : typed P (n + 1) t cs) : ∃ b,cs = [.bool b] := by
  simpa only [typed,hu] using h
theorem typed_slice {n : Nat} {t el : TypeId} {cs : List PV} (hu : P.underlying t = some (.slice el)) (h : typed P (n + 1) t cs) : ∃ rows,cs = [.lst 0 rows] ∧ rows.length ≤ maxLen ∧ ∀ r ∈ rows,typed P n el r := by
  simpa only [typed,hu] using h
def typesOk (P : Program) (n : Nat) : List TypeId → List PV → Prop
  | [],cs => cs = []
  | t :: ts,cs => ∃ r q,cs = r ++ q ∧ typed P n t r ∧ typesOk P n ts q
theorem typed_struct {n : Nat} {t : TypeId} {fs : Array Field} {ts : List TypeId} {cs : List PV} (hu : P.underlying t = some (.struct fs)) (hts : fs.toList.map (·.type) = ts) (h : typed P (n + 1) t cs) : typesOk P n ts cs := by
  simp only [typed,hu] at h
  obtain ⟨parts,h1,rfl,h3⟩ := h
  subst hts
  have key : ∀ (l : List Field) (parts : List (List PV)),parts.length = l.length → (∀ (i : Nat) (f : Field) (r : List PV),l[i]? = some f → parts[i]? = some r → typed P n f.type r) → typesOk P n (l.map (·.type)) parts.flatten := by
    intro l
    induction l with
    | nil => intro parts hl _; simp [List.eq_nil_of_length_eq_zero hl,typesOk]
    | cons f l ih =>
      intro parts hl hp
      match parts,hl with
      | r :: parts,hl => exact ⟨r,parts.flatten,rfl,hp 0 f r rfl rfl,ih parts (by simpa using hl) (fun i g q hg hq => hp (i + 1) g q (by simpa using hg) (by simpa using hq))⟩
  exact key fs.toList parts (by simpa using h1) (fun i f r hf hr => h3 i f r (by simpa using hf) hr)
theorem rows_map {α : Type} {c : α → List PV} : ∀ {rows : List (List PV)},(∀ r ∈ rows,∃ x,r = c x) → ∃ l : List α,rows = l.map c
  | [],_ => ⟨[],rfl⟩
  | r :: rows,h => by
    obtain ⟨x,rfl⟩ := h r (by simp)
    obtain ⟨l,rfl⟩ := rows_map (rows := rows) (fun q hq => h q (by simp [hq]))
    exact ⟨x :: l,rfl⟩
theorem isAgg_struct {t : TypeId} {fs : Array Field} (hu : P.underlying t = some (.struct fs)) : isAggT P t = some true := by simp [isAggT,hu]
end Go.Pv
namespace Go.Pv
open Go.RowKit Go.ChangeShapes
variable {P : Program} {N : Nat → Nat} {w : World}
def typedB (P : Program) (M : Nat) : Nat → TypeId → List PV → Prop
  | 0,_,_ => False
  | n + 1,t,cs => match P.underlying t with
    | some .bool => ∃ b,cs = [.bool b]
    | some (.int k) => ∃ x,cs = [.int k x] ∧ k.min ≤ x ∧ x ≤ k.max
    | some .string => ∃ s,cs = [.str s] ∧ s.size ≤ maxLen
    | some (.slice e) => ∃ rows,cs = [.lst 0 rows] ∧ (rows.length ≤ maxLen ∧ rows.length * P.bytesOf e ≤ M) ∧ ∀ r ∈ rows,typedB P M n e r
    | some (.struct fs) => ∃ parts : List (List PV),parts.length = fs.size ∧ cs = parts.flatten ∧ ∀ (i : Nat) (f : Field) (r : List PV),fs[i]? = some f → parts[i]? = some r → typedB P M n f.type r
    | some (.array m e) => ∃ parts : List (List PV),parts.length = m ∧ cs = parts.flatten ∧ ∀ r ∈ parts,typedB P M n e r
    | _ => False
theorem typedB.typed {M : Nat} : ∀ {n : Nat} {t : TypeId} {cs : List PV},typedB P M n t cs → typed P n t cs
  | 0,_,_,h => h.elim
  | n + 1,t,cs,h => by
    simp only [typedB] at h
    simp only [Pv.typed]
    cases hu : P.underlying t with
    | none => simp [hu] at h
    | some d =>
      rw [hu] at h
      cases d <;> simp only at h ⊢ <;> try exact h
      · obtain ⟨rows,h1,h2,h3⟩ := h
        exact ⟨rows,h1,h2.1,fun r hr => (h3 r hr).typed⟩
      all_goals first
        | (obtain ⟨parts,h1,h2,h3⟩ := h; exact ⟨parts,h1,h2,fun i f r hi hr => (h3 i f r hi hr).typed⟩)
        | (obtain ⟨parts,h1,h2,h3⟩ := h; exact ⟨parts,h1,h2,fun r hr => (h3 r hr).typed⟩)
def Held {H : Type} (P : Program) (M : Nat) (t : TypeId) (d : DataW H) : Prop := ∀ n ∈ d.weights P t,n ≤ M
theorem weights_all {H : Type} {e : TypeId} {d : DataW H} {n : Nat} (hn : n ∈ d.weights P e) : ∀ {l : List (DataW H)},d ∈ l → n ∈ DataW.weightsAll P e l
  | [],h => by cases h
  | x :: l,h => by
    simp only [DataW.weightsAll,List.mem_append]
    rcases List.mem_cons.1 h with rfl | h
    · exact .inl hn
    · exact .inr (weights_all hn h)
theorem weights_front {H : Type} : ∀ {ts : List TypeId} {ds : List (DataW H)} (us : List TypeId) {n : Nat},n ∈ DataW.weightsEach P ts ds → n ∈ DataW.weightsEach P (ts ++ us) ds
  | [],_,_,_,h => by simp [DataW.weightsEach] at h
  | _ :: _,[],_,_,h => by simp [DataW.weightsEach] at h
  | t :: ts,d :: ds,us,n,h => by
    simp only [DataW.weightsEach,List.mem_append,List.cons_append] at h ⊢
    exact h.imp id (weights_front us)
theorem Held.slice {H : Type} {M : Nat} {t el : TypeId} {e s : List (DataW H)} (hM : Held P M t (.slice e s)) (hu : P.underlying t = some (.slice el)) : e.length * P.bytesOf el ≤ M ∧ ∀ d ∈ e,Held P M el d := by
  refine ⟨?_,fun d hd n hn => hM n (by simp only [DataW.weights,hu,List.mem_cons,List.mem_append]; exact .inr (.inl (weights_all hn hd)))⟩
  exact Nat.le_trans (Nat.mul_le_mul_right _ (Nat.le_add_right _ _)) (hM ((e.length + s.length) * P.bytesOf el) (by simp [DataW.weights,hu]))
theorem Held.field {H : Type} {M : Nat} {t : TypeId} {fs : Array Field} {ps : List (DataW H)} (hM : Held P M t (.agg ps)) (hu : P.underlying t = some (.struct fs)) {j : Nat} {f : Field} {d : DataW H} (hj : fs.toList[j]? = some f) (hd : ps[j]? = some d) : Held P M f.type d :=
  fun n hn => hM n (by simp only [DataW.weights,hu]; exact DataW.weights_mem_each (j := j) (by rw [List.getElem?_map,hj]; rfl) hd n hn)
theorem Held.item {H : Type} {M : Nat} {t el : TypeId} {m : Nat} {ps : List (DataW H)} (hM : Held P M t (.agg ps)) (hu : P.underlying t = some (.array m el)) {d : DataW H} (hd : d ∈ ps) : Held P M el d :=
  fun n hn => hM n (by simp only [DataW.weights,hu]; exact weights_all hn hd)
theorem trod_reach {S : List TypeId} (hS : recData P S = true) {H : Type} {M : Nat} {enc : TypeId × Value → H} {base : Nat} {spare : Nat → Bool} {held : Bool} : ∀ (fuel : Nat) (t : TypeId),t ∈ S → ∀ (cs : List Value) (r : DataW H × List MemPlace),DataW.trod enc P w base spare held fuel t cs = some r → Held P M t r.1 →
    ∃ ps,typedB P M fuel t ps ∧ Rel2 N w ps cs
  | 0,t,_,cs,r,ht,_ => by simp [DataW.trod] at ht
  | fuel + 1,t,hp,cs,r,ht,hM => by
      have hp := shape_of hS hp
      unfold shapeOk at hp
      cases hu : P.underlying t with
      | none => simp [hu] at hp
      | some de =>
        simp only [hu] at hp
        cases de with
        | bool =>
          rcases cs with _ | ⟨v,_ | ⟨v2,l⟩⟩
          · simp [DataW.trod,hu] at ht
          · cases v <;> simp [DataW.trod,hu] at ht
            rename_i b
            exact ⟨[.bool b],by simp only [typedB,hu]; exact ⟨b,rfl⟩,Rel2.one (.bool b) rfl⟩
          · simp [DataW.trod,hu] at ht
        | int k =>
          rcases cs with _ | ⟨v,_ | ⟨v2,l⟩⟩
          · simp [DataW.trod,hu] at ht
          · cases v <;> simp [DataW.trod,hu] at ht
            rename_i k' x
            obtain ⟨⟨rfl,hwf⟩,_⟩ := ht
            simp [Lit.wf] at hwf
            exact ⟨[.int k' x],by simp only [typedB,hu]; exact ⟨x,rfl,hwf.1,hwf.2⟩,Rel2.one (.int k' x) rfl⟩
          · simp [DataW.trod,hu] at ht
        | string =>
          rcases cs with _ | ⟨v,_ | ⟨v2,l⟩⟩
          · simp [DataW.trod,hu] at ht
          · cases v <;> simp [DataW.trod,hu] at ht
            rename_i x
            exact ⟨[.str x],by simp only [typedB,hu]; exact ⟨x,rfl,ht.1⟩,Rel2.one (.str x) rfl⟩
          · simp [DataW.trod,hu] at ht
        | slice el =>
          simp only [Bool.and_eq_true,decide_eq_true_eq] at hp
          obtain ⟨hpe,hk⟩ := hp
          rcases cs with _ | ⟨v,_ | ⟨v2,l⟩⟩
          · simp [DataW.trod,hu] at ht
          · cases v with
            | slice A len cap =>
              cases A with
              | none =>
                rcases len with _ | len <;> rcases cap with _ | cap <;> simp [DataW.trod,hu] at ht
                refine ⟨[.lst 0 []],by simp only [typedB,hu]; exact ⟨[],rfl,by simp,by simp⟩,Rel2.one (.lst 0 [] none default 0 0 (fun _ _ => undef) (by simp) (by simp) (by simp) (by simp [at2]) (by simp [at2]) (by simp [at2]) (by simp [at2])) rfl⟩
              | some a =>
                simp only [DataW.trod,hu] at ht
                split at ht <;> first | (cases ht; done) | skip
                rename_i hc
                rw [Option.bind_eq_some_iff] at ht
                obtain ⟨elems,hel,hrest⟩ := ht
                rw [Option.map_eq_some_iff] at hrest
                obtain ⟨rest,_,rfl⟩ := hrest
                obtain ⟨k1,k2⟩ := mapM_all hel
                obtain ⟨b1,b2⟩ := hM.slice hu
                rw [List.length_map,k1,List.length_range] at b1
                obtain ⟨rows,q1,q2,q3⟩ := lst_pv (N := N) (w := w) (a := a) (len := len) (cap := cap) (base := base) (Ty := typedB P M fuel el) hk hc.2.1 (fun i hi => by
                  obtain ⟨y,hy0,hy⟩ := k2 i i (by simp [hi])
                  rw [Option.bind_eq_some_iff] at hy
                  obtain ⟨ci,hci,htr⟩ := hy
                  exact ⟨ci,hci,trod_reach hS fuel el (List.contains_iff_mem.1 hpe) ci y htr (b2 y.1 (List.mem_map.2 ⟨y,List.mem_of_getElem? hy0,rfl⟩))⟩)
                refine ⟨[.lst 0 rows],by simp only [typedB,hu]; exact ⟨rows,rfl,⟨by omega,by rw [q1]; exact b1⟩,q2⟩,?_⟩
                rw [q1] at q3
                exact Rel2.one q3 rfl
            | _ => simp [DataW.trod,hu] at ht
          · simp [DataW.trod,hu] at ht
        | struct fs =>
          simp only [Bool.and_eq_true,List.all_eq_true,beq_iff_eq] at hp
          obtain ⟨⟨ho,hf⟩,hsum⟩ := hp
          simp only [DataW.trod,hu] at ht
          split at ht <;> first | (cases ht; done) | skip
          rename_i hlen
          obtain ⟨xs,hxs,rfl⟩ := Option.map_eq_some_iff.1 ht
          obtain ⟨k1,k2⟩ := mapM_all hxs
          obtain ⟨parts,p1,p2⟩ := choose_list (fun (_ : Nat) (f : Field) (ps : List PV) => typedB P M fuel f.type ps ∧ Rel2 N w ps ((cs.drop f.offset).take (P.cellsOf f.type))) fs.toList (fun j f hj => by
            obtain ⟨y,hy0,hy⟩ := k2 j f hj
            exact trod_reach hS fuel f.type (List.contains_iff_mem.1 (hf f (List.mem_of_getElem? hj)).1) _ y hy (hM.field hu (j := j) hj (by rw [List.getElem?_map,hy0]; rfl)))
          refine ⟨parts.flatten,by simp only [typedB,hu]; exact ⟨parts,by simpa using p1,rfl,fun i f r hi hr => (p2 i f r (by simpa using hi) hr).1⟩,?_⟩
          have := rel_fields (N := N) (w := w) (cs := cs) fs.toList 0 parts ho (fun f hff => (hf f hff).2) p1 (by rw [Nat.zero_add,hsum,hlen]) (fun i f r hi hr => (p2 i f r hi hr).2)
          simpa using this
        | array m el =>
          simp only [Bool.and_eq_true,beq_iff_eq] at hp
          simp only [DataW.trod,hu] at ht
          split at ht <;> first | (cases ht; done) | skip
          rename_i hlen
          obtain ⟨xs,hxs,rfl⟩ := Option.map_eq_some_iff.1 ht
          obtain ⟨k1,k2⟩ := mapM_all hxs
          obtain ⟨parts,p1,p2⟩ := choose_list (fun (i : Nat) (_ : Nat) (ps : List PV) => typedB P M fuel el ps ∧ Rel2 N w ps ((cs.drop (i * P.cellsOf el)).take (P.cellsOf el))) (List.range m) (fun j x hj => by
            obtain ⟨y,hy0,hy⟩ := k2 j x hj
            have hjx : x = j := by
              have hlt : j < m := by have := (List.getElem?_eq_some_iff.1 hj).1; simpa using this
              simp [hlt] at hj; exact hj.symm
            subst hjx
            exact trod_reach hS fuel el (List.contains_iff_mem.1 hp.1) _ y hy (hM.item hu (List.mem_map.2 ⟨y,List.mem_of_getElem? hy0,rfl⟩)))
          have hpl : parts.length = m := by simpa using p1
          refine ⟨parts.flatten,by simp only [typedB,hu]; exact ⟨parts,hpl,rfl,fun r hr => by
            obtain ⟨i,hi⟩ := List.mem_iff_getElem?.1 hr
            have hlt : i < m := by rw [← hpl]; exact (List.getElem?_eq_some_iff.1 hi).1
            exact (p2 i i r (by simp [hlt]) hi).1⟩,?_⟩
          have := rel_items (N := N) (w := w) (cs := cs) (k := P.cellsOf el) m 0 parts hpl (by rw [Nat.zero_add,hp.2,hlen]) (fun i r hi => by
            have hlt : i < m := by rw [← hpl]; exact (List.getElem?_eq_some_iff.1 hi).1
            rw [Nat.zero_add]
            exact (p2 i i r (by simp [hlt]) hi).2)
          simpa using this
        | _ => simp at hp
theorem args_reach {S : List TypeId} (hS : recData P S = true) {H : Type} {M : Nat} {enc : TypeId × Value → H} {base b0 : Nat} {spare : Nat → Bool} {held : Bool} {r : Reach} : ∀ (ts : List TypeId) (vs : List Value) (ds : List (DataW H)) (pl : List MemPlace),DataW.TrodAll enc P w base spare held ts vs ds pl → (∀ t ∈ ts,t ∈ S) → (∀ n ∈ DataW.weightsEach P ts ds,n ≤ M) →
    (∀ (j : Nat) (t : TypeId) (v : Value),ts[j]? = some t → vs[j]? = some v → Value.okWide P w r b0 t v) →
    ∃ css : List (List PV),css.length = ts.length ∧ vs.length = ts.length ∧ (∀ (j : Nat) (t : TypeId) (cs : List PV),ts[j]? = some t → css[j]? = some cs → ∃ n,typedB P M n t cs) ∧
      ∀ (j : Nat) (p : PV),(List.zipWith (argPV P) ts css)[j]? = some p → ∃ v,vs[j]? = some v ∧ PVR N (froz w) w p v
  | [],[],[],pl,_,_,_,_ => ⟨[],rfl,rfl,fun j t cs hj => by simp at hj,fun j p hj => by simp at hj⟩
  | t :: ts,v :: vs,d :: ds,pl,h,hp,hM,hv => by
    obtain ⟨p,q,⟨fuel,h1⟩,h2,_⟩ := h
    obtain ⟨ps,k1,k2⟩ := trod_reach (N := N) hS fuel t (hp t (by simp)) _ _ h1 (fun n hn => hM n (by simp only [DataW.weightsEach]; exact List.mem_append_left _ hn))
    have hone := arg_rec (shape_of hS (hp t (by simp))) (hv 0 t v rfl rfl) k1.typed k2
    obtain ⟨css,g1,g2,g3,g4⟩ := args_reach hS ts vs ds q h2 (fun u hu => hp u (by simp [hu])) (fun n hn => hM n (by simp only [DataW.weightsEach]; exact List.mem_append_right _ hn)) (fun j u x hj hx => hv (j + 1) u x (by simpa using hj) (by simpa using hx))
    refine ⟨ps :: css,by simp [g1],by simp [g2],fun j u cs hj hc => ?_,fun j p hj => ?_⟩
    · match j,hj,hc with
      | 0,hj,hc => simp at hj hc; subst hj; subst hc; exact ⟨_,k1⟩
      | j + 1,hj,hc => exact g3 j u cs (by simpa using hj) (by simpa using hc)
    · match j,hj with
      | 0,hj => simp at hj; subst hj; exact ⟨v,rfl,hone⟩
      | j + 1,hj => simpa using g4 j p (by simpa using hj)
theorem law_calls_reach {S : List TypeId} (hS : recData P S = true) {H : Type} {M : Nat} {enc : TypeId × Value → H} {base b0 : Nat} {spare : Nat → Bool} {held : Bool} {r : Reach} {f : Nat} {ts : List TypeId} (hF : ∀ css : List (List PV),css.length = ts.length → (∀ (j : Nat) (t : TypeId) (cs : List PV),ts[j]? = some t → css[j]? = some cs → ∃ n,typedB P M n t cs) →
      FnR P N f (List.zipWith (argPV P) ts css) [.bool true]) (htab : TabW N w) {go : Func} {code : Code} (h1 : P.funcs[N f]? = some go) (h2 : go.body = some code) (h3 : (go.name == "runtime.NumGoroutine") = false)
    {args : Array Value} {ds : List (DataW H)} {pl : List MemPlace} (hA : DataW.TrodAll enc P w base spare held ts args.toList ds pl) (hp : ∀ t ∈ ts,t ∈ S) (hM : ∀ n ∈ DataW.weightsEach P ts ds,n ≤ M)
    (hv : ∀ (j : Nat) (t : TypeId) (v : Value),ts[j]? = some t → args.toList[j]? = some v → Value.okWide P w r b0 t v) :
    Calls P (N f) args w fun e w' => e = .returned (.bool true) ∧ Below w.heap.size w w' := by
  obtain ⟨css,g1,g2,g3,g4⟩ := args_reach (N := N) hS ts args.toList ds pl hA hp hM hv
  have hlen : args.toList.length = (List.zipWith (argPV P) ts css).length := by rw [g2,List.length_zipWith,g1]; simp
  have hcg := hF css g1 g3 (froz w) w none args (fun t b hb => hb.2) htab.froz (.plain _ _ hlen g4)
  have hpost : ∀ v w',After N (froz w) w none [.bool true] v w' → v = .bool true ∧ Below w.heap.size w w' := by
    rintro v w' ⟨L1,bs,vals,f1,f2,f3,f4,f5,f6,f7,rfl⟩
    refine ⟨?_,f1.os,f1.tape,f1.output,f1.size,fun k hk => f1.kept k hk (fun hc => by
      rcases hc with hc | hc
      · omega
      · cases hc)⟩
    cases f5 with
    | cons p u b1 ps vs b2 q1 q2 =>
      cases q2
      cases q1 with
      | cell _ _ _ q =>
        cases q with
        | keep _ _ _ q => cases q; rfl
  rcases hcg with ⟨v,w',k1,k2⟩ | ⟨k1,k2⟩
  · exfalso
    have : (callFunc (N f) args).run P w = .ok (.enter (N f) args) w := by simp only [beq_eq_false_iff_ne,ne_eq] at h3; simp [callFunc,h1,h2,h3]
    rw [this] at k1
    cases k1
  · refine k2.mono fun e w' hh => ?_
    cases e with
    | returned v =>
      obtain ⟨rfl,hb⟩ := hpost v w' hh
      exact ⟨rfl,hb⟩
    | panicked => exact hh.elim
    | outgrown => exact hh.elim
theorem law_lifted_reach {H : Type} {S : List TypeId} {C : Checked} {os : Os} {N : Nat → Nat} {f : Nat} {fn : Func} {s : ChangeSpec} {code : Code} {tb : TypeId} (enc : TypeId × Value → H)
    (hF : ∀ css : List (List PV),css.length = fn.params.toList.length → (∀ (j : Nat) (t : TypeId) (cs : List PV),fn.params.toList[j]? = some t → css[j]? = some cs → ∃ n,typedB C.prog reachBytes n t cs) → FnR C.prog N f (List.zipWith (argPV C.prog) fn.params.toList css) [.bool true])
    (hN : N 1000000 < 100000 := by decide) (own : ownKnob C.prog.godebug = none) (hl : laidOutB C.prog = true) (started : os.Started) (noInit : C.prog.inits.idxOf? (N f) = none) (hfn : C.prog.funcs[N f]? = some fn) (hcode : fn.body = some code) (hname : (fn.name == "runtime.NumGoroutine") = false)
    (wit : ∃ (w : World) (tape : Tape) (i : Input),w.os = os ∧ (w.forCall tape i).Shaped C.prog ∧ i.vars = [] ∧ Input.okWide C.prog (w.forCall tape i) .any w.heap.size (N f) i ∧
      s.pre6 enc C.prog fn [] false (w.forCall tape i).memory i.args ∧ ({} : Assume).holds C.prog (lone (Frame.enter C.prog (N f) i.args .normal) [] (w.forCall tape i)))
    (hres : fn.resultTypes = #[tb]) (htb : C.prog.underlying tb = some .bool) (hsv : s.vars = []) (hsf : ∀ ds : List (DataW H),ds.length = fn.params.toList.length → s.fn H ds = { results := [.lit (.bool true)],args := ds })
    (hr : ∀ t ∈ fn.params.toList,C.prog.readableRec t = true ∧ t < C.prog.types.size) (hS : recData C.prog S = true) (hp : ∀ t ∈ fn.params.toList,t ∈ S) :
    ReturnsInHanded {} C os (N f) .any (s.pre6 enc C.prog fn [] false) (s.post enc C.prog fn false true false false) := by
  refine returnsInHanded_of_change_sized own started noInit hfn wit ?_
  intro W base args ds gs before hval hW _ hz _
  have hW' := hW
  obtain ⟨p,q,h1,h2,h3,h4,h5⟩ := hW
  have hlen : ds.length = fn.params.toList.length := by
    have key : ∀ (ts : List TypeId) (vs : List Value) (ds : List (DataW H)) (ps : List MemPlace),DataW.TrodAll enc C.prog W 0 (fun _ => true) true ts vs ds ps → ds.length = ts.length := by
      intro ts
      induction ts with
      | nil => intro vs ds ps h; obtain ⟨rfl,rfl,rfl⟩ := trodAll_nil h; rfl
      | cons t ts ih =>
        intro vs ds ps h
        obtain ⟨v,vs',d,ds',p,q,rfl,rfl,rfl,_,g2⟩ := trodAll_cons h
        simp [ih _ _ _ g2]
    exact key _ _ _ _ h1
  have hgs : gs = [] := by
    rw [hsv] at h2
    obtain ⟨g1,g2⟩ := trodVars_none h2
    first | exact g2 | exact g1
  refine (law_calls_reach hS hF (.none hN) hfn hcode hname h1 hp (fun n hn => by
    rw [hgs,List.append_nil] at hz
    exact of_decide_eq_true (List.all_eq_true.1 hz n (weights_front _ hn))) (fun j t v hj hv => hval j t v (by simpa using hj) (by simpa using hv))).mono fun e W' ⟨he,hb⟩ => ?_
  subst he
  exact ⟨_,rfl,law_post hl hW' hsv hres htb (by rw [hgs,List.append_nil]; exact hsf ds hlen) hr hb⟩
end Go.Pv
