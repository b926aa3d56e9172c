/-
 What the functions of the law give.
-/
import Derived.Test.YtcdmmccepnbnhaaGreatDoorC5
set_option linter.unusedSimpArgs false
set_option linter.unusedVariables false
namespace Go.Pv
variable {P : Program}
theorem slice_dec {α : Type} {c : α → List PV} {ok : α → Prop} {n : Nat} {t el : TypeId} {cs : List PV} (hu : P.underlying t = some (.slice el)) (he : ∀ cs,typed P n el cs → ∃ x,cs = c x ∧ ok x) (h : typed P (n + 1) t cs) : ∃ l : List α,cs = [.lst 0 (l.map c)] ∧ l.length ≤ 2 ^ 63 - 1 ∧ ∀ x ∈ l,ok x := by
 obtain ⟨rows,rfl,hl,hr⟩ := typed_slice hu h
 obtain ⟨l,rfl⟩ := rows_map (c := fun x : {x : α // ok x} => c x.1) (rows := rows) (fun r hr' => by
  obtain ⟨x,rfl,hx⟩ := he r (hr r hr')
  exact ⟨⟨x,hx⟩,rfl⟩)
 refine ⟨l.map (·.1),by simp [],by simpa [maxLen] using hl,fun x hx => ?_⟩
 obtain ⟨y,_,rfl⟩ := List.mem_map.1 hx
 exact y.2
theorem u8_min : IntKind.min .u8 = 0 := by decide
theorem u8_max : IntKind.max .u8 = 255 := by decide
structure DraftT (P : Program) (td tl ta tu : TypeId) : Prop where
 d : ∃ fs,P.underlying td = some (.struct fs) ∧ fs.toList.map (·.type) = [tu,tl]
 l : P.underlying tl = some (.slice ta)
 a : ∃ fs,P.underlying ta = some (.struct fs) ∧ fs.toList.map (·.type) = [tu,tu,tu]
 u : P.underlying tu = some (.int .u8)
theorem arc_typed {td tl ta tu : TypeId} (T : DraftT P td tl ta tu) {n : Nat} (cs : List PV) (h : typed P (n + 2) ta cs) : ∃ x : Arc,cs = x.c ∧ x.ok := by
 obtain ⟨fs,hu,hts⟩ := T.a
 obtain ⟨r0,q0,rfl,h0,r1,q1,rfl,h1,r2,q2,rfl,h2,rfl⟩ := typed_struct hu hts h
 obtain ⟨x,rfl,hx⟩ := typed_int T.u h0
 obtain ⟨y,rfl,hy⟩ := typed_int T.u h1
 obtain ⟨z,rfl,hz⟩ := typed_int T.u h2
 rw [u8_min,u8_max] at hx hy hz
 exact ⟨⟨x,y,z⟩,rfl,hx,hy,hz⟩
theorem draft_typed {td tl ta tu : TypeId} (T : DraftT P td tl ta tu) {n : Nat} (cs : List PV) (h : typed P (n + 4) td cs) : ∃ d : Draft,cs = [.int .u8 d.n,.lst 0 (d.arcs.map Arc.c)] ∧ d.ok := by
 obtain ⟨fs,hu,hts⟩ := T.d
 obtain ⟨r0,q0,rfl,h0,r1,q1,rfl,h1,rfl⟩ := typed_struct hu hts h
 obtain ⟨x,rfl,hx⟩ := typed_int T.u h0
 rw [u8_min,u8_max] at hx
 obtain ⟨l,rfl,hl,hok⟩ := slice_dec T.l (arc_typed T (n := n)) h1
 exact ⟨⟨x,l⟩,rfl,hx,hl,hok⟩
end Go.Pv
namespace Go.Pv
variable {P : Program}
structure ParT (P : Program) (tp td tl ta tu : TypeId) : Prop where
 d : DraftT P td tl ta tu
 p : ∃ fs,P.underlying tp = some (.struct fs) ∧ fs.toList.map (·.type) = [td,td,tu]
def parArg {tp td tl ta tu : TypeId} (T : ParT P tp td tl ta tu) : Arg P tp (Draft × Draft × Int) where
 pv d := .agg [.int .u8 d.1.n,.lst 0 (d.1.arcs.map Arc.c),.int .u8 d.2.1.n,.lst 0 (d.2.1.arcs.map Arc.c),.int .u8 d.2.2]
 ok d := d.1.ok ∧ d.2.1.ok ∧ 0 ≤ d.2.2 ∧ d.2.2 ≤ 255
 dec cs h := by
  obtain ⟨fs,hu,hts⟩ := T.p
  obtain ⟨r0,q0,rfl,h0,r1,q1,rfl,h1,r2,q2,rfl,h2,rfl⟩ := typed_struct (n := 11) hu hts h
  obtain ⟨a,rfl,ha⟩ := draft_typed (n := 7) T.d _ h0
  obtain ⟨b,rfl,hb⟩ := draft_typed (n := 7) T.d _ h1
  obtain ⟨c,rfl,hc⟩ := typed_int (n := 10) T.d.u h2
  rw [u8_min,u8_max] at hc
  exact ⟨⟨a,b,c⟩,⟨ha,hb,hc⟩,by simp only [argPV,isAgg_struct hu,if_true]; rfl⟩
end Go.Pv
