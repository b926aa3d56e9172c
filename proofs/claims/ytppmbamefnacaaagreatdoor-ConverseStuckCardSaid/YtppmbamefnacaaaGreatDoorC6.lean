/-
 What the functions of the law give.
-/
import Derived.Test.YtppmbamefnacaaaGreatDoorC5
namespace Go.Pv
variable {P : Program}
theorem slice_dec {α : Type} {c : α → List PV} {ok : α → Prop} {n : Nat} {t el : TypeId} {cs : List PV} (hu : P.underlying t = some (.slice el)) (he : ∀ cs,typed P n el cs → ∃ x,cs = c x ∧ ok x) (h : typed P (n + 1) t cs) : ∃ l : List α,cs = [.lst 0 (l.map c)] ∧ l.length ≤ 2 ^ 63 - 1 ∧ ∀ x ∈ l,ok x := by
 obtain ⟨rows,rfl,hl,hr⟩ := typed_slice hu h
 obtain ⟨l,rfl⟩ := rows_map (c := fun x : {x : α // ok x} => c x.1) (rows := rows) (fun r hr' => by
  obtain ⟨x,rfl,hx⟩ := he r (hr r hr')
  exact ⟨⟨x,hx⟩,rfl⟩)
 refine ⟨l.map (·.1),by simp [],by simpa [maxLen] using hl,fun x hx => ?_⟩
 obtain ⟨y,_,rfl⟩ := List.mem_map.1 hx
 exact y.2
theorem u8_min : IntKind.min .u8 = 0 := by decide
theorem u8_max : IntKind.max .u8 = 255 := by decide
structure DraftT (P : Program) (td tl ta tu : TypeId) : Prop where
 d : ∃ fs,P.underlying td = some (.struct fs) ∧ fs.toList.map (·.type) = [tu,tl]
 l : P.underlying tl = some (.slice ta)
 a : ∃ fs,P.underlying ta = some (.struct fs) ∧ fs.toList.map (·.type) = [tu,tu,tu]
 u : P.underlying tu = some (.int .u8)
theorem arc_typed {td tl ta tu : TypeId} (T : DraftT P td tl ta tu) {n : Nat} (cs : List PV) (h : typed P (n + 2) ta cs) : ∃ x : Arc,cs = x.c ∧ x.ok := by
 obtain ⟨fs,hu,hts⟩ := T.a
 obtain ⟨r0,q0,rfl,h0,r1,q1,rfl,h1,r2,q2,rfl,h2,rfl⟩ := typed_struct hu hts h
 obtain ⟨x,rfl,hx⟩ := typed_int T.u h0
 obtain ⟨y,rfl,hy⟩ := typed_int T.u h1
 obtain ⟨z,rfl,hz⟩ := typed_int T.u h2
 rw [u8_min,u8_max] at hx hy hz
 exact ⟨⟨x,y,z⟩,rfl,hx,hy,hz⟩
theorem draft_typed {td tl ta tu : TypeId} (T : DraftT P td tl ta tu) {n : Nat} (cs : List PV) (h : typed P (n + 4) td cs) : ∃ d : Draft,cs = [.int .u8 d.n,.lst 0 (d.arcs.map Arc.c)] ∧ d.ok := by
 obtain ⟨fs,hu,hts⟩ := T.d
 obtain ⟨r0,q0,rfl,h0,r1,q1,rfl,h1,rfl⟩ := typed_struct hu hts h
 obtain ⟨x,rfl,hx⟩ := typed_int T.u h0
 rw [u8_min,u8_max] at hx
 obtain ⟨l,rfl,hl,hok⟩ := slice_dec T.l (arc_typed T (n := n)) h1
 exact ⟨⟨x,l⟩,rfl,hx,hl,hok⟩
end Go.Pv
namespace Go.Pv
variable {P : Program}
structure SysT (P : Program) (ts tc tl tm ta te le li ti tb : TypeId) : Prop where
 s : ∃ fs,P.underlying ts = some (.struct fs) ∧ fs.toList.map (·.type) = [ta,ta,ti]
 c : ∃ fs,P.underlying tc = some (.struct fs) ∧ fs.toList.map (·.type) = [ti,ti,li,li]
 l : P.underlying tl = some (.slice tm)
 m : ∃ fs,P.underlying tm = some (.struct fs) ∧ fs.toList.map (·.type) = [ti,tb,ti]
 a : ∃ fs,P.underlying ta = some (.struct fs) ∧ fs.toList.map (·.type) = [ti,ti,le]
 le : P.underlying le = some (.slice te)
 e : ∃ fs,P.underlying te = some (.struct fs) ∧ fs.toList.map (·.type) = [ti,tb,ti,ti]
 li : P.underlying li = some (.slice ti)
 i : P.underlying ti = some (.int .i64)
 b : P.underlying tb = some .bool
variable {ts tc tl tm ta te le li ti tb : TypeId}
theorem sedge_typed (T : SysT P ts tc tl tm ta te le li ti tb) {n : Nat} (cs : List PV) (h : typed P (n + 2) te cs) : ∃ x : Edge,cs = x.c ∧ True := by
 obtain ⟨fs,hu,hts⟩ := T.e
 obtain ⟨r0,q0,rfl,h0,r1,q1,rfl,h1,r2,q2,rfl,h2,r3,q3,rfl,h3,rfl⟩ := typed_struct hu hts h
 obtain ⟨x,rfl,_⟩ := typed_int T.i h0
 obtain ⟨y,rfl⟩ := typed_bool T.b h1
 obtain ⟨z,rfl,_⟩ := typed_int T.i h2
 obtain ⟨u,rfl,_⟩ := typed_int T.i h3
 exact ⟨⟨x,y,z,u⟩,rfl,trivial⟩
theorem mov_typed (T : SysT P ts tc tl tm ta te le li ti tb) {n : Nat} (cs : List PV) (h : typed P (n + 2) tm cs) : ∃ x : Mov,cs = x.c ∧ True := by
 obtain ⟨fs,hu,hts⟩ := T.m
 obtain ⟨r0,q0,rfl,h0,r1,q1,rfl,h1,r2,q2,rfl,h2,rfl⟩ := typed_struct hu hts h
 obtain ⟨x,rfl,_⟩ := typed_int T.i h0
 obtain ⟨y,rfl⟩ := typed_bool T.b h1
 obtain ⟨z,rfl,_⟩ := typed_int T.i h2
 exact ⟨⟨x,y,z⟩,rfl,trivial⟩
theorem aut_typed (T : SysT P ts tc tl tm ta te le li ti tb) {n : Nat} (cs : List PV) (h : typed P (n + 4) ta cs) : ∃ a : Auto,cs = [.int .i64 a.states,.int .i64 a.start,.lst 0 (a.edges.map Edge.c)] ∧ a.edges.length ≤ 2 ^ 63 - 1 := by
 obtain ⟨fs,hu,hts⟩ := T.a
 obtain ⟨r0,q0,rfl,h0,r1,q1,rfl,h1,r2,q2,rfl,h2,rfl⟩ := typed_struct hu hts h
 obtain ⟨x,rfl,_⟩ := typed_int T.i h0
 obtain ⟨y,rfl,_⟩ := typed_int T.i h1
 obtain ⟨l,rfl,hl,_⟩ := slice_dec T.le (sedge_typed T (n := n)) h2
 exact ⟨⟨x,y,l⟩,rfl,hl⟩
theorem ints_typed (T : SysT P ts tc tl tm ta te le li ti tb) {n : Nat} (cs : List PV) (h : typed P (n + 2) li cs) : ∃ l : List Int,cs = [.lst 0 (ints l)] ∧ l.length ≤ 2 ^ 63 - 1 := by
 obtain ⟨l,rfl,hl,_⟩ := slice_dec (c := fun x => [PV.int .i64 x]) (ok := fun _ => True) T.li (fun cs hc => by
  obtain ⟨x,rfl,_⟩ := typed_int (n := n) T.i hc
  exact ⟨x,rfl,trivial⟩) h
 exact ⟨l,rfl,hl⟩
def sysArg (T : SysT P ts tc tl tm ta te le li ti tb) : Arg P ts (Auto × Auto × Int) where
 pv x := .agg [.int .i64 x.1.states,.int .i64 x.1.start,.lst 0 (x.1.edges.map Edge.c),.int .i64 x.2.1.states,.int .i64 x.2.1.start,.lst 0 (x.2.1.edges.map Edge.c),.int .i64 x.2.2]
 ok x := x.1.edges.length ≤ 2 ^ 63 - 1 ∧ x.2.1.edges.length ≤ 2 ^ 63 - 1
 dec cs h := by
  obtain ⟨fs,hu,hts⟩ := T.s
  obtain ⟨r0,q0,rfl,h0,r1,q1,rfl,h1,r2,q2,rfl,h2,rfl⟩ := typed_struct (n := 11) hu hts h
  obtain ⟨a,rfl,ha⟩ := aut_typed T (n := 7) _ h0
  obtain ⟨b,rfl,hb⟩ := aut_typed T (n := 7) _ h1
  obtain ⟨c,rfl,_⟩ := typed_int (n := 10) T.i h2
  exact ⟨⟨a,b,c⟩,⟨ha,hb⟩,by simp only [argPV,isAgg_struct hu,if_true]; rfl⟩
def cfgArg (T : SysT P ts tc tl tm ta te le li ti tb) : Arg P tc Cfg where
 pv x := .agg [.int .i64 x.a,.int .i64 x.b,.lst 0 (ints x.toA),.lst 0 (ints x.toB)]
 ok x := x.toA.length ≤ 2 ^ 63 - 1 ∧ x.toB.length ≤ 2 ^ 63 - 1
 dec cs h := by
  obtain ⟨fs,hu,hts⟩ := T.c
  obtain ⟨r0,q0,rfl,h0,r1,q1,rfl,h1,r2,q2,rfl,h2,r3,q3,rfl,h3,rfl⟩ := typed_struct (n := 11) hu hts h
  obtain ⟨a,rfl,_⟩ := typed_int (n := 10) T.i h0
  obtain ⟨b,rfl,_⟩ := typed_int (n := 10) T.i h1
  obtain ⟨l,rfl,hl⟩ := ints_typed T (n := 9) _ h2
  obtain ⟨m,rfl,hm⟩ := ints_typed T (n := 9) _ h3
  exact ⟨⟨a,b,l,m⟩,⟨hl,hm⟩,by simp only [argPV,isAgg_struct hu,if_true]; rfl⟩
def movArg (T : SysT P ts tc tl tm ta te le li ti tb) : Arg P tm Mov where
 pv x := .agg [.int .i64 x.party,.bool x.send,.int .i64 x.label]
 ok _ := True
 dec cs h := by
  obtain ⟨x,rfl,_⟩ := mov_typed T (n := 10) _ h
  obtain ⟨fs,hu,_⟩ := T.m
  exact ⟨x,trivial,by simp only [argPV,isAgg_struct hu,if_true]; rfl⟩
def mvsArg (T : SysT P ts tc tl tm ta te le li ti tb) : Arg P tl (List Mov) where
 pv l := .lst 0 (l.map Mov.c)
 ok l := l.length ≤ 2 ^ 63 - 1
 dec cs h := by
  obtain ⟨l,rfl,hl,_⟩ := slice_dec T.l (mov_typed T (n := 9)) h
  have : isAggT P tl = some false := by simp [isAggT,T.l]
  exact ⟨l,hl,by simp [argPV,this]⟩
end Go.Pv
namespace Go.Pv
variable {P : Program}
structure PDrT (P : Program) (tp td tl ta tu tb : TypeId) : Prop where
 d : DraftT P td tl ta tu
 p : ∃ fs,P.underlying tp = some (.struct fs) ∧ fs.toList.map (·.type) = [td,tl,tb,tu,tu]
 b : P.underlying tb = some .bool
def pdrArg {tp td tl ta tu tb : TypeId} (T : PDrT P tp td tl ta tu tb) : Arg P tp PDr where
 pv d := .agg [.int .u8 d.n,.lst 0 (arcs d.la),.lst 0 (arcs d.l),.bool d.mirror,.int .u8 d.skip,.int .u8 d.cap]
 ok := PDr.ok
 dec cs h := by
  obtain ⟨fs,hu,hts⟩ := T.p
  obtain ⟨r0,q0,rfl,h0,r1,q1,rfl,h1,r2,q2,rfl,h2,r3,q3,rfl,h3,r4,q4,rfl,h4,rfl⟩ := typed_struct (n := 11) hu hts h
  obtain ⟨a,rfl,ha⟩ := draft_typed (n := 7) T.d _ h0
  obtain ⟨l,rfl,hl,hok⟩ := slice_dec T.d.l (arc_typed T.d (n := 8)) h1
  obtain ⟨m,rfl⟩ := typed_bool (n := 10) T.b h2
  obtain ⟨s,rfl,hs⟩ := typed_int (n := 10) T.d.u h3
  obtain ⟨c,rfl,hc⟩ := typed_int (n := 10) T.d.u h4
  rw [u8_min,u8_max] at hs hc
  exact ⟨⟨a.n,a.arcs,l,m,s,c⟩,⟨ha.1,hs,hc,ha.2.1,hl,ha.2.2,hok⟩,by simp only [argPV,isAgg_struct hu,if_true]; rfl⟩
end Go.Pv
