/-
  What the functions of the law give.
-/
import Derived.Test.YthpgcipmnblhpaaDoorC3
import Derived.Shelf.Strings.Builder1
set_option linter.unusedSimpArgs false
set_option linter.unusedVariables false
/-
  strings.Builder: what its methods leave as it was, exactly.
-/
namespace Go.Pv
open Go.Shelf Go.RowKit Go.Proofs
variable {P : Program} {ρ : Ren}

structure Kept (b : Nat) (v : Value) (w w' : World) : Prop where
  os : w'.os = w.os
  tape : w'.tape = w.tape
  output : w'.output = w.output
  size : w.heap.size ≤ w'.heap.size
  block : ∀ k, k < w.heap.size → k ≠ b → some k ≠ v.ownBlock → w'.heap[k]? = w.heap[k]?
  drawn : w.drawn ≤ w'.drawn

theorem app_drawn {w : World} {base : Nat} {t u ty e : TypeId} {i : TypeInfo} (ht : P.underlying t = some (.slice e)) (hu : P.underlying u = some .string) (hi : P.info? e = some i) (hz : i.zero = some (.int .u8 0))
    (hsize : i.size = 1) (hby : i.bytes = 1) {v : Value} {n : Nat} {xs : List Value} (hown : w.ownsRow base e 1 v n xs) {s : ByteArray} (h63 : n + s.size ≤ maxLen) (hbytes : n + s.size ≤ 140737488355328) {v' : Value} {w' : World}
    (hr : (Builtin.append_ #[t, u] ty #[v, .string s]).run P w = .ok v' w') : w.drawn ≤ w'.drawn := by
  have hsmall : n + s.size ≤ 9223372036854775807 := by simp only [maxLen] at h63; omega
  have hxl : xs.length = n := by simpa using hown.1
  rcases hown.2 with ⟨rfl, rfl⟩ | ⟨g, cap, cur, rfl, _, hg, hnc, _, hcs, _⟩
  · by_cases hm : s.size = 0
    · have hf := Lib.run_firstCells_string (P := P) w 1 s
      rw [hm] at hf
      have h2 : (Builtin.append_ #[t, u] ty #[.slice none 0 0, .string s]).run P w = .ok (.slice none 0 0) w := by
        simp [Builtin.append_, run_underlying ht, run_underlying hu, sizeOf, typeInfo, hi, hsize, Builtin.lenOf, hm, hf]
      rw [h2] at hr
      cases hr
      exact Nat.le_refl _
    · have h2 := run_append_nil_string (P := P) w t u ty e i (.int .u8 0) ht hu hi hz s (by omega) (by omega) (by rw [hby]; omega)
      rw [h2] at hr
      cases hr
      exact Nat.le_succ _
  · by_cases hroom : n + s.size ≤ cap
    · have hcs' : cur.size = cap := by simpa using hcs
      have h2 := Lib.run_append_room_string (P := P) w t u ty e i ht hu hi hsize g n cap cur hg s hroom (by omega)
      rw [h2] at hr
      cases hr
      exact Nat.le_refl _
    · have holds : ∀ j u, xs[j]? = some u → w.cell? ((⟨g, 0, none⟩ : Addr).add j) = some u := hown.cells (g := g) rfl
      have h2 := Lib.run_append_grow_string (P := P) w t u ty e i (.int .u8 0) ht hu hi hz ⟨g, 0, none⟩ n cap xs (by rw [hsize]; simpa using hxl) holds s (by omega) (by omega) (by rw [hby]; exact growslice_fits (by omega) (by omega))
      rw [h2] at hr
      cases hr
      exact Nat.le_succ _

theorem app_block {w : World} {base : Nat} {t u ty e : TypeId} {i : TypeInfo} (ht : P.underlying t = some (.slice e)) (hu : P.underlying u = some .string) (hi : P.info? e = some i) (hz : i.zero = some (.int .u8 0))
    (hsize : i.size = 1) (hby : i.bytes = 1) {v : Value} {n : Nat} {xs : List Value} (hown : w.ownsRow base e 1 v n xs) {s : ByteArray} (h63 : n + s.size ≤ maxLen) (hbytes : n + s.size ≤ 140737488355328) {v' : Value} {w' : World}
    (hr : (Builtin.append_ #[t, u] ty #[v, .string s]).run P w = .ok v' w') : ∀ g, v'.ownBlock = some g → v.ownBlock = some g ∨ w.heap.size ≤ g := by
  have hsmall : n + s.size ≤ 9223372036854775807 := by simp only [maxLen] at h63; omega
  have hxl : xs.length = n := by simpa using hown.1
  rcases hown.2 with ⟨rfl, rfl⟩ | ⟨g, cap, cur, rfl, _, hg, hnc, _, hcs, _⟩
  · by_cases hm : s.size = 0
    · have hf := Lib.run_firstCells_string (P := P) w 1 s
      rw [hm] at hf
      have h2 : (Builtin.append_ #[t, u] ty #[.slice none 0 0, .string s]).run P w = .ok (.slice none 0 0) w := by
        simp [Builtin.append_, run_underlying ht, run_underlying hu, sizeOf, typeInfo, hi, hsize, Builtin.lenOf, hm, hf]
      rw [h2] at hr
      cases hr
      exact fun g h => .inl h
    · have h2 := run_append_nil_string (P := P) w t u ty e i (.int .u8 0) ht hu hi hz s (by omega) (by omega) (by rw [hby]; omega)
      rw [h2] at hr
      cases hr
      exact fun g' h => .inr (by cases h; exact Nat.le_refl _)
  · by_cases hroom : n + s.size ≤ cap
    · have hcs' : cur.size = cap := by simpa using hcs
      have h2 := Lib.run_append_room_string (P := P) w t u ty e i ht hu hi hsize g n cap cur hg s hroom (by omega)
      rw [h2] at hr
      cases hr
      exact fun g' h => .inl h
    · have holds : ∀ j u, xs[j]? = some u → w.cell? ((⟨g, 0, none⟩ : Addr).add j) = some u := hown.cells (g := g) rfl
      have h2 := Lib.run_append_grow_string (P := P) w t u ty e i (.int .u8 0) ht hu hi hz ⟨g, 0, none⟩ n cap xs (by rw [hsize]; simpa using hxl) holds s (by omega) (by omega) (by rw [hby]; exact growslice_fits (by omega) (by omega))
      rw [h2] at hr
      cases hr
      exact fun g' h => .inr (by cases h; exact Nat.le_refl _)

theorem heap_set_ne (w : World) (b k o : Nat) (x : Value) (h : k ≠ b) : (w.setCell ⟨b, o, none⟩ x).heap[k]? = w.heap[k]? := by
  simp only [World.setCell, Array.getElem?_modify]
  rw [if_neg (fun e => h e.symm)]

section
variable {w : World}
theorem wpList_str_own {ops : Array Oper} {rest : List Oper} {o : Oper} {a : Act} {Q : Exit → Act → World → Prop} (hgd : o.guard = none) (sl x : Operand) (t u : TypeId)
    (ho : o.op = .call { callee := .builtin .append, args := #[sl, x], argTypes := #[t, u] })
    (base : Nat) (e : TypeId) (i : TypeInfo) (ht : P.underlying t = some (.slice e)) (hu : P.underlying u = some .string) (hi : P.info? e = some i) (hz : i.zero = some (.int .u8 0))
    (hsize : i.size = 1) (hby : i.bytes = 1)
    (v : Value) (n : Nat) (xs : List Value) (hs : a.eval sl = v) (hown : w.ownsRow base e 1 v n xs) (s : ByteArray) (hx : a.eval x = .string s)
    (h63 : n + s.size ≤ maxLen) (hbytes : n + s.size ≤ 140737488355328) (hbase : base ≤ w.heap.size)
    (h : ∀ v' w', w'.ownsRow base e 1 v' (n + s.size) (xs ++ Lib.strCells s) → w.grownBy w' v.ownBlock → w.drawn ≤ w'.drawn → (∀ g, v'.ownBlock = some g → v.ownBlock = some g ∨ w.heap.size ≤ g) → wpList P ops Q rest (a.put o.dst v') w') : wpList P ops Q (o :: rest) a w := by
  refine wpList_plain hgd fun K hK => ?_
  obtain ⟨v', w', hr, h2, h3, h4⟩ := Lib.run_append_own_string (P := P) w base t u o.type e i ht hu hi hz hsize hby v n xs hown s h63 hbytes hbase
  have hdr := app_drawn ht hu hi hz hsize hby hown h63 hbytes hr
  have hblk := app_block ht hu hi hz hsize hby hown h63 hbytes hr
  unfold Oper.wp execOp
  simp only [ho, resolve, invoke, builtin, Sem.run_bind, Sem.run_pure, Result.andThen_ok, List.map_toArray, List.map_cons, List.map_nil, hs, hx, hr]
  exact hK _ _ (h v' w' h2 h3 hdr hblk)
end
theorem bld_check (L : Lays.n240 P ρ) (X : Builder.X72 P ρ) {b : Nat} {p v : Value} {w : World} (hb : w.heap[b]? = some (.cells #[p, v] (ρ.t 72) (0, 0))) (hp : p = .pointer none ∨ p = .pointer (some ⟨b, 0, none⟩)) :
    Calls P (ρ.f 240) #[.pointer (some ⟨b, 0, none⟩)] w fun e w' => e = .returned (.tuple #[]) ∧ (w'.heap[b]? = some (.cells #[.pointer (some ⟨b, 0, none⟩), v] (ρ.t 72) (0, 0)) ∧ (∀ k, k ≠ b → w'.heap[k]? = w.heap[k]?) ∧ w'.heap.size = w.heap.size ∧ w'.os = w.os ∧ w'.tape = w.tape ∧ w'.output = w.output ∧ w'.drawn = w.drawn) := by
  rcases hp with rfl | rfl
  · refine (Any.Builder_copyCheck_fresh L X b w (by rw [Lib.cell_of_heap hb]; rfl) (by simp [World.shape?, hb]) (Lib.frozen_of_heap hb 0)).mono ?_
    rintro e w' ⟨rfl, rfl⟩
    refine ⟨rfl, ?_, fun k hk => heap_set_ne w b k 0 _ hk, by simp [World.setCell], rfl, rfl, rfl, rfl⟩
    simp [World.setCell, Array.getElem?_modify, hb]
  · refine (Any.Builder_copyCheck_used L X b w (by rw [Lib.cell_of_heap hb]; rfl)).mono ?_
    rintro e w' ⟨rfl, rfl⟩
    exact ⟨rfl, hb, fun k hk => rfl, rfl, rfl, rfl, rfl, rfl⟩

set_option maxHeartbeats 4000000 in
set_option maxRecDepth 100000 in
theorem bld_write (L : Lays.n166 P ρ) (X : Builder.Extra P ρ) {K b : Nat} {bs : List Value} {s : ByteArray} {w : World} {p v : Value} (hb : w.heap[b]? = some (.cells #[p, v] (ρ.t 72) (0, 0))) (hp : p = .pointer none ∨ p = .pointer (some ⟨b, 0, none⟩))
    (hown : w.ownsRow K (ρ.t 5) 1 v bs.length bs) (hne : v.ownBlock ≠ some b) (hlen : bs.length + s.size ≤ 140737488355328) (hK : K ≤ w.heap.size) :
    Calls P (ρ.f 166) #[.pointer (some ⟨b, 0, none⟩), .string s] w fun e w' => e = .returned (.tuple #[.int .i64 s.size, .nilIface]) ∧ (∃ v', (w'.heap[b]? = some (.cells #[.pointer (some ⟨b, 0, none⟩), v'] (ρ.t 72) (0, 0)) ∧ w'.ownsRow K (ρ.t 5) 1 v' (bs ++ Lib.strCells s).length (bs ++ Lib.strCells s) ∧ v'.ownBlock ≠ some b) ∧ (∀ g, v'.ownBlock = some g → v.ownBlock = some g ∨ w.heap.size ≤ g)) ∧ Kept b v w w' := by
  obtain ⟨i0, hi, hz0, hz1, hz2⟩ := info_parts X.infoByte
  have hlt : b < w.heap.size := (Array.getElem?_eq_some_iff.1 hb).1
  have mixed := L.mixed
  have t72 := L.t72; have a72 := L.a72; have z72 := L.z72; have v72 := L.v72; have u72 := run_underlying L.t72
  have t70 := L.t70; have a70 := L.a70; have z70 := L.z70; have v70 := L.v70; have u70 := run_underlying L.t70
  have t37 := L.t37; have a37 := L.a37; have z37 := L.z37; have v37 := L.v37; have u37 := run_underlying L.t37
  have t3 := L.t3; have a3 := L.a3; have z3 := L.z3; have v3 := L.v3; have u3 := run_underlying L.t3
  have t9 := L.t9; have a9 := L.a9; have z9 := L.z9; have v9 := L.v9; have u9 := run_underlying L.t9
  have t4 := L.t4; have a4 := L.a4; have z4 := L.z4; have v4 := L.v4; have u4 := run_underlying L.t4
  have t164 := L.t164; have a164 := L.a164; have z164 := L.z164; have v164 := L.v164; have u164 := run_underlying L.t164
  have t5 := X.t5; have a5 := X.a5; have z5 := X.z5; have v5 := X.v5; have u5 := run_underlying X.t5
  have e240 : ∀ args w, (callFunc (ρ.f 240) args).run P w = .ok (.enter (ρ.f 240) args) w := enters_of L.f240 (by kernel_rfl) rfl
  go_enter L.f166, Body.n166_ntmps ρ
  go_wp2_with (go_at_fn (ρ.f 240); refine (bld_check { L with } X.toX72 hb hp).mono ?_)
  rintro e w1 ⟨rfl, hb1, hk1, hz1', ho1, ht1, hu1, hd1⟩
  have hown1 : w1.ownsRow K (ρ.t 5) 1 v bs.length bs := hown.kept (row := some b) ⟨ho1, ht1, hu1, by omega, fun k _ hk => hk1 k (fun e => hk (by rw [e]))⟩ (Or.inr hne)
  have c0 : w1.cell? ⟨b, 0, none⟩ = some (.pointer (some ⟨b, 0, none⟩)) := by rw [Lib.cell_of_heap hb1]; rfl
  have c1 : w1.cell? ⟨b, 1, none⟩ = some v := by rw [Lib.cell_of_heap hb1]; rfl
  go_wp2_with (at_builtin; refine wpList_str_own rfl _ _ (ρ.t 37) (ρ.t 9) rfl K (ρ.t 5) i0 L.t37 L.t9 hi hz0 hz1 hz2 _ _ _ rfl hown1 s rfl ?c3 ?c4 ?c5 ?_)
  case c3 => unfold maxLen; omega
  case c4 => omega
  case c5 => omega
  intro v' w2 hown' hgrow hdr hblk
  have hb2 : w2.heap[b]? = some (.cells #[.pointer (some ⟨b, 0, none⟩), v] (ρ.t 72) (0, 0)) := by
    rw [hgrow.block b (by omega) (fun e => hne e.symm)]
    exact hb1
  have d0 : w2.cell? ⟨b, 0, none⟩ = some (.pointer (some ⟨b, 0, none⟩)) := by rw [Lib.cell_of_heap hb2]; rfl
  have d1 : w2.cell? ⟨b, 1, none⟩ = some v := by rw [Lib.cell_of_heap hb2]; rfl
  have f1 : w2.frozen? ⟨b, 1, none⟩ = false := Lib.frozen_of_heap hb2 1
  obtain ⟨ao, n', cap, rfl⟩ : ∃ ao n' cap, v' = .slice ao n' cap := by
    rcases hown'.2 with ⟨hv, _⟩ | ⟨g, cap, cur, hv, _⟩
    · exact ⟨_, _, _, hv⟩
    · exact ⟨_, _, _, hv⟩
  go_wp2
  go_ret2
  have hTe : ρ.t 72 ≠ ρ.t 5 := X.neB5
  have hne' := Lib.ownBlock_ne hown' hb2 hTe
  refine ⟨rfl, ⟨.slice ao n' cap, ⟨?_, ?_, hne'⟩, fun g hg => ?_⟩, ⟨?_, ?_, ?_, ?_, fun k hk hkb hkv => ?_, ?_⟩⟩
  · simp [World.setCell, Array.getElem?_modify, hb2]
  · rw [List.length_append, Lib.strCells_length]
    exact hown'.kept (row := some b) ⟨rfl, rfl, rfl, by simp [World.setCell], fun k _ hk => heap_set_ne _ _ _ _ _ (fun e => hk (by rw [e]))⟩ (Or.inr hne')
  · rcases hblk g hg with h | h
    · exact .inl h
    · exact .inr (by omega)
  · exact hgrow.os.trans ho1
  · exact hgrow.tape.trans ht1
  · exact hgrow.output.trans hu1
  · have := hgrow.size
    simp [World.setCell]
    omega
  · rw [heap_set_ne _ _ _ _ _ hkb, hgrow.block k (by omega) hkv, hk1 k hkb]
  · show w.drawn ≤ w2.drawn
    omega

theorem heap_freeze_ne (w : World) (p : Addr) (n k : Nat) (h : k ≠ p.block) : (w.freeze p n).heap[k]? = w.heap[k]? := by
  unfold World.freeze
  split
  · rfl
  · simp only [Array.getElem?_modify]
    rw [if_neg (fun e => h e.symm)]
theorem freeze_size (w : World) (p : Addr) (n : Nat) : w.heap.size ≤ (w.drew.freeze p n).heap.size := by
  unfold World.freeze
  split
  · exact Nat.le_refl _
  · show w.heap.size ≤ (w.heap.modify _ _).size
    rw [Array.size_modify]
    exact Nat.le_refl _
set_option maxHeartbeats 4000000 in
set_option maxRecDepth 100000 in
theorem bld_string (L : Lays.n169 P ρ) (X : Builder.Extra P ρ) {K b : Nat} {l : List UInt8} {w : World} {p v : Value} (hbk : w.heap[b]? = some (.cells #[p, v] (ρ.t 72) (0, 0))) (hown : w.ownsRow K (ρ.t 5) 1 v (Lib.byteCells l).length (Lib.byteCells l)) (h0 : l ≠ []) :
    Calls P (ρ.f 169) #[.pointer (some ⟨b, 0, none⟩)] w fun e w' => e = .returned (.string ⟨l.toArray⟩) ∧ Kept b v w w' := by
  have hl0 : l.length ≠ 0 := by simpa using h0
  rw [Lib.byteCells_length] at hown
  obtain ⟨g, cap, cur, rfl, hbg, hg, hnc, hcm, hcs, htake⟩ : ∃ g cap cur, v = .slice (some ⟨g, 0, none⟩) l.length cap ∧ K ≤ g ∧ w.heap[g]? = some (.cells cur (ρ.t 5) (0, 0)) ∧ l.length ≤ cap ∧ cap ≤ maxLen ∧ cur.size = cap * 1 ∧ cur.toList.take (l.length * 1) = Lib.byteCells l := by
    rcases hown.2 with ⟨_, hz⟩ | ⟨g, cap, cur, hv, r⟩
    · exact absurd hz hl0
    · exact ⟨g, cap, cur, hv, r⟩
  have c1 : w.drew.cell? ⟨b, 1, none⟩ = some (.slice (some ⟨g, 0, none⟩) l.length cap) := by
    have : w.drew.heap[b]? = some (.cells #[p, .slice (some ⟨g, 0, none⟩) l.length cap] (ρ.t 72) (0, 0)) := hbk
    rw [Lib.cell_of_heap this]; rfl
  have hSD : (Builtin.unsafeSliceData_ #[(ρ.t 37)] (ρ.t 127) #[.slice (some ⟨g, 0, none⟩) l.length cap]).run P w.drew = .ok (.pointer (some ⟨g, 0, none⟩)) w.drew :=
    Lib.run_unsafeSliceData_row _ _ _ _ _ _ (by omega)
  have hUS : (Builtin.unsafeString_ #[(ρ.t 127), (ρ.t 3)] (ρ.t 9) #[.pointer (some ⟨g, 0, none⟩), .int .i64 l.length]).run P w.drew = .ok (.string ⟨l.toArray⟩) (w.drew.freeze ⟨g, 0, none⟩ l.length) := by
    refine Lib.run_unsafeString_row w.drew (ρ.t 127) (ρ.t 3) (ρ.t 9) (ρ.t 5) L.t127 X.cellsByte g cur.size (by have hg' : w.drew.heap[g]? = some (.cells cur (ρ.t 5) (0, 0)) := hg; simp [World.shape?, hg']) l h0 (by omega) (by unfold maxLen at hcm; omega) ?_
    intro j x hx
    have := hown.cells (g := g) rfl j (.int .u8 x.toNat) (by simp [Lib.byteCells, hx])
    exact this
  have mixed := L.mixed
  have t72 := L.t72; have a72 := L.a72; have z72 := L.z72; have v72 := L.v72; have u72 := run_underlying L.t72
  have t70 := L.t70; have a70 := L.a70; have z70 := L.z70; have v70 := L.v70; have u70 := run_underlying L.t70
  have t37 := L.t37; have a37 := L.a37; have z37 := L.z37; have v37 := L.v37; have u37 := run_underlying L.t37
  have t127 := L.t127; have a127 := L.a127; have z127 := L.z127; have v127 := L.v127; have u127 := run_underlying L.t127
  have t3 := L.t3; have a3 := L.a3; have z3 := L.z3; have v3 := L.v3; have u3 := run_underlying L.t3
  have t9 := L.t9; have a9 := L.a9; have z9 := L.z9; have v9 := L.v9; have u9 := run_underlying L.t9
  have t5 := X.t5; have a5 := X.a5; have z5 := X.z5; have v5 := X.v5; have u5 := run_underlying X.t5
  go_enter L.f169, Body.n169_ntmps ρ
  go_wp2
  go_region_o
  all_goals (go_wp2; go_ret; exact ⟨rfl, ⟨by simp [World.freeze]; split <;> rfl, by simp [World.freeze]; split <;> rfl, by simp [World.freeze]; split <;> rfl, freeze_size w _ _, fun k _ _ hkv => heap_freeze_ne _ _ _ _ (fun e => hkv (by rw [e]; rfl)), by unfold World.freeze; split <;> exact Nat.le_succ _⟩⟩)
end Go.Pv

/-
  Code that writes to a builder: stretches of it run as the interpreter has it, the builder's calls by their contracts; the builder's blocks are none of the interpreter's.
-/
namespace Go.Pv
variable {P : Program} {N M : Nat → Nat} {W : Nat → Prop} {L L' L0 : Lx} {e e' e0 : Emb} {h : Heap} {w w' w0 : World} {Φ : Nat → List PV → Option (List PV)} {Pr : Prims} {Tk : Nat → Bool} {pb : List Nat} {A : Nat → Option AFunc}

def Wx (W : Nat → Prop) (G : List Nat) : Nat → Prop := fun k => W k ∧ k ∉ G
theorem HR.foreign {G G' : List Nat} (hr : HR N L e (Wx W G) h w) (hLG : ∀ g ∈ G, ∀ t, ¬ L t g) (hk : ∀ k, k < w.heap.size → k ∉ G → w'.heap[k]? = w.heap[k]?) (hz : w.heap.size ≤ w'.heap.size)
    (hn : ∀ g ∈ G', g ∈ G ∨ w.heap.size ≤ g) (_hs : ∀ g ∈ G, g ∈ G') (hlt : ∀ g ∈ G', g < w'.heap.size) : HR N L e (Wx W G') h w' ∧ Ext L e w L e w' := by
  have hT : ∀ b, b ∈ G → ¬ owned e b ∧ (∀ t, ¬ L t b) ∧ ∀ id, id < e.nm → e.mp id ≠ b := fun b hb => by
    refine ⟨fun ho => ?_, hLG b hb, fun id hi he => ?_⟩
    · rcases ho with ⟨s, hs', rfl⟩ | ⟨id, hi, hk', rfl⟩
      · exact (hr.wbx s hs').1.2 hb
      · exact (hr.war id hi hk').1.2 hb
    · subst he
      exact (hr.wmp id hi).1.2 hb
  obtain ⟨h1, h2⟩ := hr.quiet2 (L' := L) (w' := w') (fun b => b ∈ G) hT hk hz (fun _ _ h => h) (fun _ _ h => .inl h)
  refine ⟨{ h1 with wbx := fun s hs' => ⟨⟨(hr.wbx s hs').1.1, fun hg => ?_⟩, (h1.wbx s hs').2⟩, war := fun id hi hk' => ⟨⟨(hr.war id hi hk').1.1, fun hg => ?_⟩, (h1.war id hi hk').2⟩, wmp := fun id hi => ⟨⟨(hr.wmp id hi).1.1, fun hg => ?_⟩, (h1.wmp id hi).2⟩, wide := fun b hb => ⟨(h1.wide b hb).1, fun hg => ?_⟩ }, h2⟩
  · rcases hn _ hg with hg | hg
    · exact (hr.wbx s hs').1.2 hg
    · have := hr.lt_bx hs'
      omega
  · rcases hn _ hg with hg | hg
    · exact (hr.war id hi hk').1.2 hg
    · have := hr.lt_ar hi hk'
      omega
  · rcases hn _ hg with hg | hg
    · exact (hr.wmp id hi).1.2 hg
    · have := hr.lt_mp hi
      omega
  · exact Nat.lt_irrefl _ (Nat.lt_of_lt_of_le (hlt b hg) hb)
def FSp (N : Nat → Nat) (W : Nat → Prop) (G : List Nat) (nt : Nat) (L0 : Lx) (e0 : Emb) (w0 : World) (b : Nat) (s : St) (a : Act) (w : World) : Prop :=
  ∃ L e, SR N (Wx W G) L e nt s a w ∧ Fr W w0 w ∧ (∀ t b, L0 t b → L t b) ∧ (∀ t b, L t b → L0 t b ∨ (t = 0 ∧ W b)) ∧ XExt L0 e0 w0 L e w ∧ (0 < e.na ∧ e.ar 0 = b ∧ e.ad 0 = 0) ∧ ∀ g ∈ G, (∀ t, ¬ L t g) ∧ w0.heap.size ≤ g ∧ g < w.heap.size
def BS (T E : TypeId) (K : Nat) (G : List Nat) (b : Nat) (bs : List Value) (w : World) : Prop :=
  b ∈ G ∧ ∃ p v, w.heap[b]? = some (.cells #[p, v] T (0, 0)) ∧ (p = .pointer none ∨ p = .pointer (some ⟨b, 0, none⟩)) ∧ w.ownsRow K E 1 v bs.length bs ∧ v.ownBlock ≠ some b ∧ ∀ g, v.ownBlock = some g → g ∈ G
theorem ownsRow_same {K : Nat} {E : TypeId} {v : Value} {n : Nat} {xs : List Value} (ho : w.ownsRow K E 1 v n xs) (hg : ∀ g, v.ownBlock = some g → w'.heap[g]? = w.heap[g]?) : w'.ownsRow K E 1 v n xs := by
  refine ⟨ho.1, ?_⟩
  rcases ho.2 with hn | ⟨g, cap, cur, rfl, hb, hgg, rest⟩
  · exact .inl hn
  · exact .inr ⟨g, cap, cur, rfl, hb, by rw [hg g rfl]; exact hgg, rest⟩
theorem BS.same {T E : TypeId} {K b : Nat} {G : List Nat} {bs : List Value} (hb : BS T E K G b bs w) (hk : ∀ g ∈ G, w'.heap[g]? = w.heap[g]?) : BS T E K G b bs w' := by
  obtain ⟨h1, p, v, h2, h3, h4, h5, h6⟩ := hb
  exact ⟨h1, p, v, by rw [hk b h1]; exact h2, h3, ownsRow_same h4 fun g hg => hk g (h6 g hg), h5, h6⟩
def tomb : Arr := ⟨0, 0, .inl []⟩
theorem FSp.next {G : List Nat} {nt b : Nat} {s s' : St} {a a' : Act} {T E : TypeId} {K : Nat} {bs : List Value} (hsr : SR N (Wx W G) L e nt s a w) (hf : Fr W w0 w) (hs1 : ∀ t b, L0 t b → L t b) (hs2 : ∀ t b, L t b → L0 t b ∨ (t = 0 ∧ W b)) (hx : XExt L0 e0 w0 L e w) (hp : 0 < e.na ∧ e.ar 0 = b ∧ e.ad 0 = 0) (hG : ∀ g ∈ G, (∀ t, ¬ L t g) ∧ w0.heap.size ≤ g ∧ g < w.heap.size)
    (hb : BS T E K G b bs w) (h0 : s.h.ar[0]? = some tomb) (h1 : s'.h.ar[0]? = some tomb) (hsr' : SR N (Wx W G) L' e' nt s' a' w') (hf' : Fr (Wx W G) w w') (g1 : ∀ t b, L t b → L' t b) (g2 : ∀ t b, L' t b → L t b ∨ (t = 0 ∧ Wx W G b)) (gx : XExt L e w L' e' w') : FSp N W G nt L0 e0 w0 b s' a' w' ∧ BS T E K G b bs w' := by
  have hfw : Fr W w w' := ⟨hf'.os, hf'.tape, hf'.output, hf'.size, fun k hk hw => hf'.kept k hk fun hc => hw hc.1, hf'.drawn⟩
  have e1 : e.av 0 = 0 := (hsr.hr.ver 0 _ h0).1
  have e2 : e'.av 0 = 0 := (hsr'.hr.ver 0 _ h1).1
  obtain ⟨_, k2⟩ := gx.av 0 hp.1
  obtain ⟨k3, k4, _⟩ := k2 (by omega)
  refine ⟨⟨L', e', hsr', hf.trans hfw, fun t b hb => g1 t b (hs1 t b hb), fun t b hb => ?_, hx.trans gx, ⟨Nat.lt_of_lt_of_le hp.1 gx.na, k3.trans hp.2.1, k4.trans hp.2.2⟩, fun g hg => ⟨fun t ht => ?_, (hG g hg).2.1, Nat.lt_of_lt_of_le (hG g hg).2.2 hf'.size⟩⟩, hb.same fun g hg => hf'.kept g (hG g hg).2.2 fun hc => hc.2 hg⟩
  · rcases g2 t b hb with hb | ⟨hb, hb'⟩
    · exact hs2 t b hb
    · exact .inr ⟨hb, hb'.1⟩
  · rcases g2 t g ht with ht | ⟨_, ht⟩
    · exact (hG g hg).1 t ht
    · exact ht.2 hg
theorem frag_wp {G : List Nat} {nt b n : Nat} {code : Code} {an an' : Ann} {ac : AC} {s s' : St} {ex : Ex} {a : Act} {T E : TypeId} {K : Nat} {bs : List Value} (hc : CodeOk P N M A Pr n) (htr : trCode P N M nt code an = some (ac, an')) (he : exec A Pr n ac s = some (ex, s'))
    (h0 : s.h.ar[0]? = some tomb) (h1 : s'.h.ar[0]? = some tomb) (hs : FSp N W G nt L0 e0 w0 b s a w) (hb : BS T E K G b bs w) :
    code.wp P (fun x a' w' => x = exitOf ex ∧ FSp N W G nt L0 e0 w0 b s' a' w' ∧ BS T E K G b bs w') a w := by
  obtain ⟨L, e, hsr, hf, hs1, hs2, hx, hp, hG⟩ := hs
  refine wp_mono (hc nt code an ac an' htr (Wx W G) L e w s ex s' a w he ⟨L, e, hsr, Fr.refl _ _, fun _ _ h => h, fun _ _ h => .inl h, (Ext.refl _ _ _).x⟩) fun x a' w' hq => ?_
  obtain ⟨rfl, L', e', hsr', hf', g1, g2, gx⟩ := hq
  exact ⟨rfl, FSp.next hsr hf hs1 hs2 hx hp hG hb h0 h1 hsr' hf' g1 g2 gx⟩
theorem ops_then (hΦ : ∀ f ps rs, Φ f ps = some rs → FnR P N f ps rs) (hPr : PrimOk P N Pr) {nt : Nat} {ops : Array Oper} {Q : Exit → Act → World → Prop} {s' : St} (r : Nat) : ∀ (l : List AOper) (j : Nat) (L : Lx) (e : Emb) (s : St) (a : Act) (w : World),
    (∀ (i : Nat) (q : AOper), l[i]? = some q → ∃ o, ops[j + i]? = some o ∧ trOper P N M nt pb ops o = some q) → SR N W L e nt s a w → execOps Φ Pr Tk l s = some s' →
    (∀ a' w' L' e', Nx N W L e w L' e' s'.h w' → SR N W L' e' nt s' a' w' → wpOps P ops Q (List.range' (j + l.length) r) a' w') → wpOps P ops Q (List.range' j (l.length + r)) a w
  | [], j, L, e, s, a, w, _, hs, he, hK => by
    simp [execOps] at he
    subst he
    simpa using hK a w L e (Nx.refl hs.hr) hs
  | q :: l, j, L, e, s, a, w, hl, hs, he, hK => by
    simp only [execOps] at he
    cases hst : stepOp Φ Pr Tk q s with
    | none => simp [hst] at he
    | some st =>
      obtain ⟨s1, t⟩ := st
      simp only [hst] at he
      obtain ⟨o, ho, hq⟩ := hl 0 q rfl
      rw [List.length_cons, show l.length + 1 + r = (l.length + r) + 1 by omega, List.range'_succ, wpOps_cons]
      refine step_wp hs hΦ hPr (by simpa using ho) hq (InsO.refl q) hst fun a1 w1 L1 e1 h1 hs1 => ?_
      refine ops_then hΦ hPr r l (j + 1) L1 e1 s1 a1 w1 (fun i q' hi => ?_) hs1 he (fun a' w' L' e' h2 hs2 => ?_)
      · obtain ⟨o', ho', hq'⟩ := hl (i + 1) q' (by simpa using hi)
        exact ⟨o', by rw [show j + 1 + i = j + (i + 1) by omega]; exact ho', hq'⟩
      · have := hK a' w' L' e' (h1.trans h2) hs2
        rwa [List.length_cons, show j + (l.length + 1) = j + 1 + l.length by omega] at this
theorem prefix_wp {G : List Nat} {nt b : Nat} {s s' : St} {a : Act} {T E : TypeId} {K : Nat} {bs : List Value} (hΦ : ∀ f ps rs, Φ f ps = some rs → FnR P N f ps rs) (hPr : PrimOk P N Pr) {ops : Array Oper} {Q : Exit → Act → World → Prop} (r j : Nat) (l : List AOper)
    (hl : ∀ (i : Nat) (q : AOper), l[i]? = some q → ∃ o, ops[j + i]? = some o ∧ trOper P N M nt pb ops o = some q) (he : execOps Φ Pr Tk l s = some s') (h0 : s.h.ar[0]? = some tomb) (h1 : s'.h.ar[0]? = some tomb)
    (hs : FSp N W G nt L0 e0 w0 b s a w) (hb : BS T E K G b bs w) (hK : ∀ a' w', FSp N W G nt L0 e0 w0 b s' a' w' → BS T E K G b bs w' → wpOps P ops Q (List.range' (j + l.length) r) a' w') : wpOps P ops Q (List.range' j (l.length + r)) a w := by
  obtain ⟨L, e, hsr, hf, hs1, hs2, hx, hp, hG⟩ := hs
  refine ops_then hΦ hPr r l j L e s a w hl hsr he fun a' w' L' e' hn hsr' => ?_
  obtain ⟨k1, k2⟩ := FSp.next hsr hf hs1 hs2 hx hp hG hb h0 h1 hsr' hn.fr hn.ext.sub hn.new hn.ext.x
  exact hK a' w' k1 k2
theorem FSp.ptr {G : List Nat} {nt b t : Nat} {s : St} {a : Act} (hs : FSp N W G nt L0 e0 w0 b s a w) (h0 : s.h.ar[0]? = some tomb) (ht : get s.env t = .aptr 0 0 0 0) : a.tmps.getD t undef = .pointer (some ⟨b, 0, none⟩) := by
  obtain ⟨L, e, hsr, _, _, _, _, hp, _⟩ := hs
  have hv := hsr.env t
  rw [ht] at hv
  generalize a.tmps.getD t undef = vv at hv ⊢
  cases hv with
  | aptr _ _ _ _ ad h1 h2 h3 =>
    have := h3 (hsr.hr.ver 0 _ h0).1.symm
    rw [hp.2.1, hp.2.2] at this
    rw [this]
    simp
theorem FSp.str {G : List Nat} {nt b t : Nat} {s : St} {a : Act} {x : ByteArray} (hs : FSp N W G nt L0 e0 w0 b s a w) (ht : get s.env t = .pv (.str x)) : a.tmps.getD t undef = .string x := by
  obtain ⟨L, e, hsr, _⟩ := hs
  have hv := hsr.env t
  rw [ht] at hv
  generalize a.tmps.getD t undef = vv at hv ⊢
  cases hv with
  | pv _ _ hp =>
    cases hp
    rfl
theorem FSp.built {G G' : List Nat} {nt b : Nat} {s : St} {a : Act} {d : Nat} {v' : Value} {x : V} (hs : FSp N W G nt L0 e0 w0 b s a w) (hd : d < nt) (hk : ∀ k, k < w.heap.size → k ∉ G → w'.heap[k]? = w.heap[k]?) (hz : w.heap.size ≤ w'.heap.size) (ho : w'.os = w.os) (htp : w'.tape = w.tape) (hu : w'.output = w.output) (hdr : w.drawn ≤ w'.drawn)
    (hn : ∀ g ∈ G', g ∈ G ∨ w.heap.size ≤ g) (hsub : ∀ g ∈ G, g ∈ G') (hlt : ∀ g ∈ G', g < w'.heap.size) (hv : ∀ L e, VR N L e w' x v') : FSp N W G' nt L0 e0 w0 b ⟨put s.env (some d) x, s.h⟩ (a.put (some d) v') w' := by
  obtain ⟨L, e, hsr, hf, hs1, hs2, hx, hp, hG⟩ := hs
  obtain ⟨h1, h2⟩ := HR.foreign hsr.hr (fun g hg => (hG g hg).1) hk hz hn hsub hlt
  have hsr1 : SR N (Wx W G') L e nt s a w' := ⟨h1, fun t => (hsr.env t).mono h2, hsr.size, hsr.defers⟩
  have hsr2 := hsr1.put (L' := L) (e' := e) (w' := w') (h' := s.h) (Ext.refl _ _ _) h1 (d := some d) (by simpa using hd) (hv L e)
  have hfw : Fr W w0 w' := ⟨ho.trans hf.os, htp.trans hf.tape, hu.trans hf.output, Nat.le_trans hf.size hz, fun k hk1 hw => by
    rw [hk k (Nat.lt_of_lt_of_le hk1 hf.size) fun hg => by have := (hG k hg).2.1; omega]
    exact hf.kept k hk1 hw, Nat.le_trans hf.drawn hdr⟩
  refine ⟨L, e, hsr2, hfw, hs1, hs2, hx.trans h2.x, hp, fun g hg => ⟨fun t ht => ?_, ?_, hlt g hg⟩⟩
  · rcases hn g hg with hg' | hg'
    · exact (hG g hg').1 t ht
    · have := hsr.hr.lsz t g ht
      omega
  · rcases hn g hg with hg' | hg'
    · exact (hG g hg').2.1
    · have := hf.size
      omega
end Go.Pv

/-
  The builder's calls, in the walk.
-/
namespace Go.Pv
open Go.Shelf Go.RowKit Go.Proofs
variable {P : Program} {N M : Nat → Nat} {W : Nat → Prop} {L L' L0 : Lx} {e e' e0 : Emb} {h : Heap} {w w' w0 : World} {ρ : Ren}

theorem write_wp (LL : Lays.n166 P ρ) (X : Builder.Extra P ρ) (hent : ∀ args w, (callFunc (ρ.f 166) args).run P w = .ok (.enter (ρ.f 166) args) w) {G : List Nat} {nt b i d : Nat} {s : St} {a : Act} {bs : List Value} {str : ByteArray} {ops : Array Oper} {o : Oper} {x : Operand} {ats : Array TypeId} {Q : Exit → Act → World → Prop} {KK : Act → World → Prop}
    (hi : ops[i]? = some o) (hg : o.guard = none) (hop : o.op = .call { callee := .value (.func (ρ.f 166)), args := #[.tmp 3, x], argTypes := ats }) (hd : o.dst = some d) (hdn : d < nt)
    (hs : FSp N W G nt L0 e0 w0 b s a w) (hb : BS (ρ.t 72) (ρ.t 5) w0.heap.size G b bs w) (h0 : s.h.ar[0]? = some tomb) (h3 : get s.env 3 = .aptr 0 0 0 0) (hx : a.eval x = .string str) (hlen : bs.length + str.size ≤ 140737488355328)
    (hK : ∀ a' w' G', FSp N W G' nt L0 e0 w0 b ⟨put s.env (some d) .any, s.h⟩ a' w' → BS (ρ.t 72) (ρ.t 5) w0.heap.size G' b (bs ++ Lib.strCells str) w' → KK a' w') : wpOp P ops Q i KK a w := by
  have hp := hs.ptr h0 h3
  have hsz : w0.heap.size ≤ w.heap.size := by obtain ⟨_, _, _, hf, _⟩ := hs; exact hf.size
  have hGl : ∀ g ∈ G, g < w.heap.size := by obtain ⟨_, _, _, _, _, _, _, _, hG⟩ := hs; exact fun g hg => (hG g hg).2.2
  obtain ⟨hbG, p, v, b1, b2, b3, b4, b5⟩ := hb
  unfold wpOp
  simp only [hi]
  rw [if_pos (by simp [Region.wanted, hg])]
  refine .inl ?_
  unfold Oper.wp
  have hrun : (execOp a.eval o).run P w = (callFunc (ρ.f 166) #[.pointer (some ⟨b, 0, none⟩), .string str]).run P w := by
    have e3 : a.eval (.tmp 3) = .pointer (some ⟨b, 0, none⟩) := hp
    have ef : a.eval (.func (ρ.f 166)) = .func (.func (ρ.f 166)) #[] #[] := rfl
    simp [execOp, hop, resolve, Deferred.ofValue, ef, e3, hx, invoke]
  rw [hrun, hent, Oper.upon_enter]
  refine Calls.mono (bld_write LL X b1 b2 b3 b4 hlen hsz) fun en w' hh => ?_
  obtain ⟨rfl, ⟨v', ⟨c1, c2, c3⟩, c4⟩, kp⟩ := hh
  rw [hd]
  have hkk : ∀ k, k < w.heap.size → k ∉ G → w'.heap[k]? = w.heap[k]? := fun k hk hkG => kp.block k hk (fun e => hkG (e ▸ hbG)) fun e => hkG (b5 k e.symm)
  have hGl' : ∀ g, v'.ownBlock = some g → g < w'.heap.size := fun g hg => by
    rcases c2.2 with ⟨rfl, _⟩ | ⟨g', cap, cur, rfl, _, hgg, _⟩
    · cases hg
    · cases hg
      exact (Array.getElem?_eq_some_iff.1 hgg).1
  cases hv' : v'.ownBlock with
  | none =>
    refine hK _ _ G (hs.built hdn hkk kp.size kp.os kp.tape kp.output kp.drawn (fun g hg => .inl hg) (fun g hg => hg) (fun g hg => Nat.lt_of_lt_of_le (hGl g hg) kp.size) (fun _ _ => .any _)) ⟨hbG, _, _, c1, .inr rfl, c2, c3, fun g hg => by rw [hv'] at hg; cases hg⟩
  | some g0 =>
    refine hK _ _ (g0 :: G) (hs.built hdn hkk kp.size kp.os kp.tape kp.output kp.drawn (fun g hg => ?_) (fun g hg => List.mem_cons_of_mem _ hg) (fun g hg => ?_) (fun _ _ => .any _)) ⟨List.mem_cons_of_mem _ hbG, _, _, c1, .inr rfl, c2, c3, fun g hg => by rw [hv'] at hg; cases hg; exact List.mem_cons_self ..⟩
    · rcases List.mem_cons.1 hg with rfl | hg
      · rcases c4 g hv' with h | h
        · exact .inl (b5 g h)
        · exact .inr h
      · exact .inl hg
    · rcases List.mem_cons.1 hg with rfl | hg
      · exact hGl' g hv'
      · exact Nat.lt_of_lt_of_le (hGl g hg) kp.size
theorem string_wp (LL : Lays.n169 P ρ) (X : Builder.Extra P ρ) (hent : ∀ args w, (callFunc (ρ.f 169) args).run P w = .ok (.enter (ρ.f 169) args) w) {G : List Nat} {nt b i d : Nat} {s : St} {a : Act} {l : List UInt8} {ops : Array Oper} {o : Oper} {ats : Array TypeId} {Q : Exit → Act → World → Prop} {KK : Act → World → Prop}
    (hi : ops[i]? = some o) (hg : o.guard = none) (hop : o.op = .call { callee := .value (.func (ρ.f 169)), args := #[.tmp 3], argTypes := ats }) (hd : o.dst = some d) (hdn : d < nt)
    (hs : FSp N W G nt L0 e0 w0 b s a w) (hb : BS (ρ.t 72) (ρ.t 5) w0.heap.size G b (Lib.byteCells l) w) (hl0 : l ≠ []) (h0 : s.h.ar[0]? = some tomb) (h3 : get s.env 3 = .aptr 0 0 0 0)
    (hK : ∀ a' w', FSp N W G nt L0 e0 w0 b ⟨put s.env (some d) (.pv (.str ⟨l.toArray⟩)), s.h⟩ a' w' → KK a' w') : wpOp P ops Q i KK a w := by
  have hp := hs.ptr h0 h3
  have hGl : ∀ g ∈ G, g < w.heap.size := by obtain ⟨_, _, _, _, _, _, _, _, hG⟩ := hs; exact fun g hg => (hG g hg).2.2
  obtain ⟨hbG, p, v, b1, b2, b3, b4, b5⟩ := hb
  unfold wpOp
  simp only [hi]
  rw [if_pos (by simp [Region.wanted, hg])]
  refine .inl ?_
  unfold Oper.wp
  have hrun : (execOp a.eval o).run P w = (callFunc (ρ.f 169) #[.pointer (some ⟨b, 0, none⟩)]).run P w := by
    have e3 : a.eval (.tmp 3) = .pointer (some ⟨b, 0, none⟩) := hp
    have ef : a.eval (.func (ρ.f 169)) = .func (.func (ρ.f 169)) #[] #[] := rfl
    simp [execOp, hop, resolve, Deferred.ofValue, ef, e3, invoke]
  rw [hrun, hent, Oper.upon_enter]
  refine Calls.mono (bld_string LL X b1 b3 hl0) fun en w' hh => ?_
  obtain ⟨rfl, kp⟩ := hh
  rw [hd]
  have hkk : ∀ k, k < w.heap.size → k ∉ G → w'.heap[k]? = w.heap[k]? := fun k hk hkG => kp.block k hk (fun e => hkG (e ▸ hbG)) fun e => hkG (b5 k e.symm)
  exact hK _ _ (hs.built hdn hkk kp.size kp.os kp.tape kp.output kp.drawn (fun g hg => .inl hg) (fun g hg => hg) (fun g hg => Nat.lt_of_lt_of_le (hGl g hg) kp.size) (fun _ _ => .pv _ _ (.str _)))
theorem new_wp {nt i d : Nat} {s : St} {a : Act} {T E : TypeId} {ops : Array Oper} {o : Oper} {Q : Exit → Act → World → Prop} {KK : Act → World → Prop}
    (hi : ops[i]? = some o) (hg : o.guard = none) (hrun : ∀ w, (execOp a.eval o).run P w = .ok (.value (.pointer (some ⟨w.heap.size, 0, none⟩))) (w.alloc (.cells #[.pointer none, .slice none 0 0] T))) (hd : o.dst = some d) (hdn : d < nt)
    (hs : FrS N W nt L0 e0 w0 s a w) (har : s.h.ar = [])
    (hK : ∀ a' w' b, FSp N W [b] nt L0 e0 w0 b ⟨put s.env (some d) (.aptr 0 0 0 0), { s.h with ar := [tomb] }⟩ a' w' → BS T E w0.heap.size [b] b [] w' → KK a' w') : wpOp P ops Q i KK a w := by
  unfold wpOp
  simp only [hi]
  rw [if_pos (by simp [Region.wanted, hg])]
  refine .inl ?_
  unfold Oper.wp
  rw [hrun w, Oper.upon_value, hd]
  obtain ⟨L, e, hsr, hf, h1, h2, hx⟩ := hs
  have hna : e.na = 0 := by rw [hsr.hr.na, har]; rfl
  have hsz : (w.alloc (.cells #[.pointer none, .slice none 0 0] T)).heap.size = w.heap.size + 1 := by simp
  have hold : ∀ k, k < w.heap.size → (w.alloc (.cells #[.pointer none, .slice none 0 0] T)).heap[k]? = w.heap[k]? := fun k hk => Lib.alloc_old w _ k hk
  have hnew : (w.alloc (.cells #[.pointer none, .slice none 0 0] T)).heap[w.heap.size]? = some (.cells #[.pointer none, .slice none 0 0] T (0, 0)) := heap_alloc_new w _
  have hr0 : HR N L e (Wx W []) s.h w := by
    have hr := hsr.hr
    exact { hr with wbx := fun s hs => ⟨⟨(hr.wbx s hs).1, by simp⟩, (hr.wbx s hs).2⟩, war := fun id hi hk => ⟨⟨(hr.war id hi hk).1, by simp⟩, (hr.war id hi hk).2⟩, wmp := fun id hi => ⟨⟨(hr.wmp id hi).1, by simp⟩, (hr.wmp id hi).2⟩, wide := fun b hb => ⟨hr.wide b hb, by simp⟩ }
  obtain ⟨g1, g2⟩ := hr0.foreign (G' := [w.heap.size]) (w' := w.alloc (.cells #[.pointer none, .slice none 0 0] T)) (fun g hg => by simp at hg) (fun k hk _ => hold k hk) (by omega) (fun g hg => .inr (Nat.le_of_eq (List.mem_singleton.1 hg).symm)) (fun g hg => by simp at hg) (fun g hg => by rw [List.mem_singleton.1 hg]; omega)
  have ho1 : (w.alloc (.cells #[.pointer none, .slice none 0 0] T)).os = w.os := rfl
  have ho2 : (w.alloc (.cells #[.pointer none, .slice none 0 0] T)).tape = w.tape := rfl
  have ho3 : (w.alloc (.cells #[.pointer none, .slice none 0 0] T)).output = w.output := rfl
  have ho4 : (w.alloc (.cells #[.pointer none, .slice none 0 0] T)).drawn = w.drawn := rfl
  generalize w.alloc (.cells #[.pointer none, .slice none 0 0] T) = w1 at *
  have hx1 : Ext L e w1 L { e with ar := fun _ => w.heap.size, ad := fun _ => 0 } w1 := { Ext.refl L e w1 with av := fun id hid => by rw [hna] at hid; omega }
  have hr1 : HR N L { e with ar := fun _ => w.heap.size, ad := fun _ => 0 } (Wx W [w.heap.size]) s.h w1 := by
    refine { g1 with bx := fun s cs hc => ⟨(g1.bx s cs hc).1, fun j c hj => ?_⟩, ar := fun id a ha => ?_, war := fun id hi => ?_, dba := fun s id _ hi => ?_, daa := fun i j hi => ?_ }
    · obtain ⟨k1, v, k2, k3⟩ := (g1.bx s cs hc).2 j c hj
      exact ⟨k1, v, k2, k3.mono hx1⟩
    · rw [har] at ha
      simp at ha
    · have hi : id < e.na := hi
      omega
    · have hi : id < e.na := hi
      omega
    · have hi : i < e.na := hi
      omega
  have nr := Nx.room hr1 1
  have hh : s.h.room 1 = { s.h with ar := [tomb] } := by
    unfold Heap.room
    rw [har]
    rfl
  rw [hh] at nr
  have hpin : 0 < (({ e with ar := fun _ => w.heap.size, ad := fun _ => 0 } : Emb).room 1).na := by
    show 0 < e.na + 1
    omega
  have hav : (({ e with ar := fun _ => w.heap.size, ad := fun _ => 0 } : Emb).room 1).av 0 = 0 := (nr.hr.ver 0 tomb rfl).1
  have hextA : Ext L e w L (({ e with ar := fun _ => w.heap.size, ad := fun _ => 0 } : Emb).room 1) w1 := (g2.trans hx1).trans nr.ext
  have hsr1 : SR N (Wx W [w.heap.size]) L (({ e with ar := fun _ => w.heap.size, ad := fun _ => 0 } : Emb).room 1) nt ⟨s.env, { s.h with ar := [tomb] }⟩ a w1 := ⟨nr.hr, fun t => (hsr.env t).mono hextA, hsr.size, hsr.defers⟩
  have hsr2 := hsr1.put (L' := L) (w' := w1) (h' := { s.h with ar := [tomb] }) (Ext.refl _ _ _) nr.hr (d := some d) (by simpa using hdn) (v := .aptr 0 0 0 0) (v' := .pointer (some ⟨w.heap.size, 0, none⟩)) (.aptr 0 0 0 0 _ hpin (by omega) fun _ => by simp [Emb.room])
  have hw0 := hf.size
  refine hK _ _ w.heap.size ⟨L, _, hsr2, ?_, h1, h2, hx.trans hextA.x, ⟨hpin, rfl, rfl⟩, fun g hg => ?_⟩ ⟨by simp, _, _, hnew, .inl rfl, World.ownsRow_nil _ _ _ _, by simp [Value.ownBlock], fun g hg => by simp [Value.ownBlock] at hg⟩
  · exact ⟨ho1.trans hf.os, ho2.trans hf.tape, ho3.trans hf.output, by omega, fun k hk hw => (hold k (Nat.lt_of_lt_of_le hk hw0)).trans (hf.kept k hk hw), by rw [ho4]; exact hf.drawn⟩
  · rw [List.mem_singleton.1 hg]
    exact ⟨fun t ht => by have := hsr.hr.lsz t _ ht; omega, hw0, by omega⟩
end Go.Pv

/-
  A function that writes the texts of small numbers to a builder: the whole walk, over the pieces of its code.
-/
namespace Go.Pv
open Go.Shelf Go.RowKit Go.Proofs
variable {P : Program} {N M : Nat → Nat} {W : Nat → Prop} {L L' L0 : Lx} {e e' e0 : Emb} {h : Heap} {w w' w0 : World} {ρ : Ren} {A : Nat → Option AFunc} {Pr : Prims}

theorem fnr_of_wp {f : Nat} {go : Func} {code : Code} {fn : AFunc} {ps rs : List PV} {s' : St} (f1 : P.funcs[N f]? = some go) (f2 : go.body = some code) (f3 : (go.name == "runtime.NumGoroutine") = false) (f4 : ps.length ≤ go.ntmps) (f6 : mapO (trRes P) go.results.toList = some fn.results)
    (hw : ∀ (T : Option Nat) (L : Lx) (e : Emb) (w : World) (a : Act), FrS N (Wc w T) go.ntmps L e w ⟨entry 0 ps, entryHeap ps⟩ a w → code.wp P (QQ N (Wc w T) go.ntmps L e w .ret s') a w) (hl : leave fn s' = some rs) : FnR P N f ps rs := by
  intro L w T args hlsz har
  refine .inr ⟨by simp only [beq_eq_false_iff_ne, ne_eq] at f3; simp [callFunc, f1, f2, f3], ?_⟩
  refine calls_of_wp f1 f2 ?_
  obtain ⟨e, e1, e2⟩ := entry_rel hlsz har
  have hlen : args.size = ps.length := by
    have : args.toList.length = ps.length := by
      generalize args.toList = al at har
      cases har with
      | plain _ _ hl _ => exact hl
      | take _ _ _ _ _ _ _ hl _ => simp [hl]
    simpa using this
  have hst : FrS N (Wc w T) go.ntmps L e w ⟨entry 0 ps, entryHeap ps⟩ { tmps := args ++ Array.replicate (go.ntmps - args.size) undef, defers := [] } w := by
    refine ⟨L, e, ⟨e1, fun t => ?_, ?_, rfl⟩, Fr.refl _ _, fun _ _ hb => hb, fun _ _ hb => .inl hb, (Ext.refl _ _ _).x⟩
    · rw [get_entry]
      simp only [Nat.zero_le, if_true, Nat.sub_zero]
      cases hp : ps[t]? with
      | none => exact .any _
      | some p =>
        obtain ⟨v, h1, h2⟩ := e2 t p hp
        have hlt : t < args.size := by rw [hlen]; exact (List.getElem?_eq_some_iff.1 hp).1
        have : (args ++ Array.replicate (go.ntmps - args.size) undef).getD t undef = v := by
          apply arr_getD_toList
          rw [Array.toList_append, List.getElem?_append_left (by simpa using hlt)]
          exact h1
        show VR N L e w (V.ofArg p) _
        rw [this]
        exact h2
    · simp
      omega
  refine wp_mono (hw T L e w _ hst) fun xx a1 w1 hq => ?_
  obtain ⟨rfl, hs1⟩ := hq
  obtain ⟨v, r1, r2⟩ := leave_sound hs1 f6 hl
  exact ⟨hs1.choose_spec.choose_spec.1.defers, v, r1, r2⟩

def FB (N : Nat → Nat) (W : Nat → Prop) (T E : TypeId) (nt : Nat) (L0 : Lx) (e0 : Emb) (w0 : World) (b : Nat) (s : St) (bs : List Value) (a : Act) (w : World) : Prop :=
  ∃ G, FSp N W G nt L0 e0 w0 b s a w ∧ BS T E w0.heap.size G b bs w
def Piece (P : Program) (N M : Nat → Nat) (nt : Nat) (code : Code) (ac : AC) : Prop := ∃ an an', trCode P N M nt code an = some (ac, an')
theorem piece_wp (hc : ∀ n, CodeOk P N M A Pr n) {T E : TypeId} {nt b : Nat} {code : Code} {ac : AC} {s s' : St} {ex : Ex} {bs : List Value} {a : Act} {Q : Exit → Act → World → Prop} (hp : Piece P N M nt code ac) (he : Runs A Pr ac s ex s') (h0 : s.h.ar[0]? = some tomb) (h1 : s'.h.ar[0]? = some tomb)
    (hs : FB N W T E nt L0 e0 w0 b s bs a w) (hK : ∀ a' w', FB N W T E nt L0 e0 w0 b s' bs a' w' → Q (exitOf ex) a' w') : code.wp P Q a w := by
  obtain ⟨an, an', htr⟩ := hp
  obtain ⟨n, he⟩ := he
  obtain ⟨G, h2, h3⟩ := hs
  refine wp_mono (frag_wp (hc n) htr he h0 h1 h2 h3) fun x a' w' hq => ?_
  obtain ⟨rfl, k1, k2⟩ := hq
  exact hK a' w' ⟨G, k1, k2⟩

end Go.Pv

/-
  The text of a configuration: pieces of its code, as they run.
-/
namespace Go.Pv
variable {A : Nat → Option AFunc} {Pr : Prims}

theorem runs_W {c : AC} {s t : St} {x : Ex} (h : W A Pr c s (fun ex s' => ex = x ∧ s' = t)) : Runs A Pr c s x t := by
  obtain ⟨ex, s', h1, rfl, rfl⟩ := h
  exact h1
theorem runs_WO {l : List AOper} {s t : St} (h : WO A Pr l s (fun s' => s' = t)) : RunsOps A Pr l s t := by
  obtain ⟨s', h1, rfl⟩ := h
  exact h1
def key0 : AC := .region [⟨some 1, .box 1 4 (.tmp 0), none⟩, ⟨some 2, .mov (.val (.pv (.str ⟨#[]⟩))), none⟩] [1] [1]
def key2 : AC := .region [⟨some 8, .fld 0 (.tmp 1), none⟩, ⟨some 9, .load 1 false (.tmp 8), none⟩, ⟨some 10, .fld 1 (.tmp 1), none⟩, ⟨some 11, .load 1 false (.tmp 10), none⟩, ⟨some 12, .lit 1 [.pv (.int .i64 0)] 2 [(0, 1, .tmp 9), (1, 1, .tmp 11)], none⟩, ⟨some 13, .fld 2 (.tmp 1), none⟩, ⟨some 14, .load 1 false (.tmp 13), none⟩, ⟨some 15, .fld 3 (.tmp 1), none⟩, ⟨some 16, .load 1 false (.tmp 15), none⟩, ⟨some 17, .lit 1 [.tl []] 3 [(0, 1, .tmp 12), (1, 1, .tmp 14), (2, 1, .tmp 16)], none⟩, ⟨some 18, .len 0 (.tmp 17), none⟩, ⟨some 19, .mov (.val (.pv (.int .i64 0))), none⟩] [3, 17, 18, 19] []
def key3 : AC := .region [⟨some 20, .bin .lss (.tmp 19) (.tmp 18), none⟩] [3, 17, 18, 19, 20] []
def key20 : AC := .cond (.tmp 20) .skip (.exit 0)
def key4 : AC := .region [⟨some 21, .idx 1 (.tmp 17) (.tmp 19), none⟩, ⟨some 22, .load 1 false (.tmp 21), none⟩, ⟨some 5, .mov (.tmp 22), none⟩] [3, 5, 17, 18, 19] []
def key5 : AC := .region [⟨some 23, .mov (.tmp 5), none⟩, ⟨some 24, .len 0 (.tmp 23), none⟩, ⟨some 25, .mov (.val (.pv (.int .i64 0))), none⟩] [3, 17, 18, 19, 23, 24, 25] []
def key6 : AC := .region [⟨some 26, .bin .lss (.tmp 25) (.tmp 24), none⟩] [3, 17, 18, 19, 23, 24, 25, 26] []
def key26 : AC := .cond (.tmp 26) .skip (.exit 2)
def key7 : AC := .region [⟨some 27, .idx 1 (.tmp 23) (.tmp 25), none⟩, ⟨some 28, .load 1 false (.tmp 27), none⟩, ⟨some 7, .mov (.tmp 28), none⟩] [3, 7, 17, 18, 19, 23, 24, 25] []
def key8 : List AOper := [⟨some 29, .mov (.tmp 7), none⟩, ⟨some 30, .call (.val (.func 194 [])) [.tmp 29], none⟩, ⟨some 31, .bin .add (.tmp 30) (.val (.pv (.str ⟨#[44]⟩))), none⟩]
def key9 : AC := .region [⟨some 33, .bin .add (.tmp 25) (.val (.pv (.int .i64 1))), none⟩, ⟨some 25, .mov (.tmp 33), none⟩] [3, 17, 18, 19, 23, 24, 25] []
def key11 : AC := .region [⟨some 35, .bin .add (.tmp 19) (.val (.pv (.int .i64 1))), none⟩, ⟨some 19, .mov (.tmp 35), none⟩] [3, 17, 18, 19] []
def key12 : List AOper := [⟨some 2, .mov (.tmp 36), none⟩]

section
variable (a b : Int) (l m : List Int) (t u : Nat)
def keyX (k : Nat) : V := if k = 0 then .tl (ints [a, b]) else if k = 1 then .pv (.lst t (ints l)) else .pv (.lst u (ints m))
def keyXL (k : Nat) : List Int := if k = 0 then [a, b] else if k = 1 then l else m
def keyH : Heap := ⟨[], [tomb, ⟨0, 1, .inr [[keyX a b l m t u 0], [keyX a b l m t u 1], [keyX a b l m t u 2]]⟩], []⟩
def keyO (k : Nat) : List (Nat × V) := [(3, .aptr 0 0 0 0), (17, .own 1 0 0 3), (18, .pv (.int .i64 3)), (19, .pv (.int .i64 k))]
def keyI (k j : Nat) : List (Nat × V) := [(3, .aptr 0 0 0 0), (17, .own 1 0 0 3), (18, .pv (.int .i64 3)), (19, .pv (.int .i64 k)), (23, keyX a b l m t u k), (24, .pv (.int .i64 (keyXL a b l m k).length)), (25, .pv (.int .i64 j))]
end
variable {a b : Int} {l m : List Int} {t u : Nat}
def keyN (a b : Int) (l m : List Int) (t u : Nat) (k j : Nat) (n : Int) : List (Nat × V) := [(3, .aptr 0 0 0 0), (7, .pv (.int .i64 n)), (17, .own 1 0 0 3), (18, .pv (.int .i64 3)), (19, .pv (.int .i64 k)), (23, keyX a b l m t u k), (24, .pv (.int .i64 (keyXL a b l m k).length)), (25, .pv (.int .i64 j))]
theorem run0 : Runs A Pr key0 ⟨[(0, .agg [.pv (.int .i64 a), .pv (.int .i64 b), .pv (.lst t (ints l)), .pv (.lst u (ints m))])], ⟨[], [], []⟩⟩ .normal ⟨[(1, .ptr 1 0)], ⟨[(1, [.pv (.int .i64 a), .pv (.int .i64 b), .pv (.lst t (ints l)), .pv (.lst u (ints m))])], [], []⟩⟩ := by
  refine runs_W ?_
  unfold key0
  simp (disch := omega) only [go_sem]
  try first | rfl | exact ⟨rfl, rfl⟩ | (constructor <;> rfl)
theorem run2 : Runs A Pr key2 ⟨[(3, .aptr 0 0 0 0), (1, .ptr 1 0)], ⟨[(1, [.pv (.int .i64 a), .pv (.int .i64 b), .pv (.lst t (ints l)), .pv (.lst u (ints m))])], [tomb], []⟩⟩ .normal ⟨keyO 0, keyH a b l m t u⟩ := by
  refine runs_W ?_
  unfold key2
  simp (disch := omega) only [go_sem]
  try first | rfl | exact ⟨rfl, rfl⟩ | (constructor <;> rfl)
theorem run3 {k : Nat} : Runs A Pr key3 ⟨keyO k, keyH a b l m t u⟩ .normal ⟨keyO k ++ [(20, .pv (.bool (decide ((k : Int) < 3))))], keyH a b l m t u⟩ := by
  refine runs_W ?_
  unfold key3 keyO
  simp (disch := omega) only [go_sem]
  try first | rfl | exact ⟨rfl, rfl⟩ | (constructor <;> rfl)
theorem run20t {k : Nat} : Runs A Pr key20 ⟨keyO k ++ [(20, .pv (.bool true))], keyH a b l m t u⟩ .normal ⟨keyO k ++ [(20, .pv (.bool true))], keyH a b l m t u⟩ := by
  refine runs_W ?_
  unfold key20 keyO
  simp (disch := omega) only [go_sem]
  try first | rfl | exact ⟨rfl, rfl⟩ | (constructor <;> rfl)
theorem run20f {k : Nat} : Runs A Pr key20 ⟨keyO k ++ [(20, .pv (.bool false))], keyH a b l m t u⟩ (.exit 0) ⟨keyO k ++ [(20, .pv (.bool false))], keyH a b l m t u⟩ := by
  refine runs_W ?_
  unfold key20 keyO
  simp (disch := omega) only [go_sem]
  try first | rfl | exact ⟨rfl, rfl⟩ | (constructor <;> rfl)
theorem run4 {k : Nat} (hk : k < 3) : Runs A Pr key4 ⟨keyO k ++ [(20, .pv (.bool true))], keyH a b l m t u⟩ .normal ⟨[(3, .aptr 0 0 0 0), (5, keyX a b l m t u k), (17, .own 1 0 0 3), (18, .pv (.int .i64 3)), (19, .pv (.int .i64 k))], keyH a b l m t u⟩ := by
  refine runs_W ?_
  unfold key4 keyO keyH
  obtain rfl | rfl | rfl : k = 0 ∨ k = 1 ∨ k = 2 := by omega
  all_goals
    simp (disch := omega) only [go_sem]
    try first | rfl | exact ⟨rfl, rfl⟩ | (constructor <;> rfl)
theorem run5 {k : Nat} (hk : k < 3) : Runs A Pr key5 ⟨[(3, .aptr 0 0 0 0), (5, keyX a b l m t u k), (17, .own 1 0 0 3), (18, .pv (.int .i64 3)), (19, .pv (.int .i64 k))], keyH a b l m t u⟩ .normal ⟨keyI a b l m t u k 0, keyH a b l m t u⟩ := by
  refine runs_W ?_
  unfold key5 keyI
  obtain rfl | rfl | rfl : k = 0 ∨ k = 1 ∨ k = 2 := by omega
  all_goals
    simp (disch := omega) only [go_sem, keyX, keyXL]
    try first | rfl | exact ⟨rfl, rfl⟩ | (constructor <;> rfl)
theorem run6 {k j : Nat} (hk : k < 3) : Runs A Pr key6 ⟨keyI a b l m t u k j, keyH a b l m t u⟩ .normal ⟨keyI a b l m t u k j ++ [(26, .pv (.bool (decide ((j : Int) < (keyXL a b l m k).length))))], keyH a b l m t u⟩ := by
  refine runs_W ?_
  unfold key6 keyI
  obtain rfl | rfl | rfl : k = 0 ∨ k = 1 ∨ k = 2 := by omega
  all_goals
    simp (disch := omega) only [go_sem, keyX, keyXL]
    try first | rfl | exact ⟨rfl, rfl⟩ | (constructor <;> rfl)
theorem run26t {k j : Nat} : Runs A Pr key26 ⟨keyI a b l m t u k j ++ [(26, .pv (.bool true))], keyH a b l m t u⟩ .normal ⟨keyI a b l m t u k j ++ [(26, .pv (.bool true))], keyH a b l m t u⟩ := by
  refine runs_W ?_
  unfold key26 keyI
  simp (disch := omega) only [go_sem]
  try first | rfl | exact ⟨rfl, rfl⟩ | (constructor <;> rfl)
theorem run26f {k j : Nat} : Runs A Pr key26 ⟨keyI a b l m t u k j ++ [(26, .pv (.bool false))], keyH a b l m t u⟩ (.exit 2) ⟨keyI a b l m t u k j ++ [(26, .pv (.bool false))], keyH a b l m t u⟩ := by
  refine runs_W ?_
  unfold key26 keyI
  simp (disch := omega) only [go_sem]
  try first | rfl | exact ⟨rfl, rfl⟩ | (constructor <;> rfl)
theorem run5x {k : Nat} {x : V} (hk : k < 3) : Runs A Pr key11 ⟨(34, x) :: (keyI a b l m t u k (keyXL a b l m k).length ++ [(26, .pv (.bool false))]), keyH a b l m t u⟩ .normal ⟨keyO (k + 1), keyH a b l m t u⟩ := by
  refine runs_W ?_
  unfold key11 keyI
  obtain rfl | rfl | rfl : k = 0 ∨ k = 1 ∨ k = 2 := by omega
  all_goals
    simp (disch := omega) only [go_sem]
    try first | rfl | exact ⟨rfl, rfl⟩ | (constructor <;> rfl)
theorem run7 {k j : Nat} {n : Int} (hk : k < 3) (hn : (keyXL a b l m k)[j]? = some n) (_hl : l.length ≤ 1000) (_hm : m.length ≤ 1000) : Runs A Pr key7 ⟨keyI a b l m t u k j ++ [(26, .pv (.bool true))], keyH a b l m t u⟩ .normal ⟨keyN a b l m t u k j n, keyH a b l m t u⟩ := by
  refine runs_W ?_
  unfold key7 keyI keyN
  obtain rfl | rfl | rfl : k = 0 ∨ k = 1 ∨ k = 2 := by omega
  · have hn : [a, b][j]? = some n := hn
    simp (disch := omega) only [go_sem, keyX, keyXL]
    simp only [hn, Option.map_some, Option.bind_some, List.length_singleton, if_true, optK]
    refine ⟨_, rfl, ?_⟩
    simp (disch := omega) only [go_sem]
    try first | rfl | exact ⟨rfl, rfl⟩ | (constructor <;> rfl)
  · have hn : l[j]? = some n := hn
    simp (disch := omega) only [go_sem, keyX, keyXL]
    simp only [hn, Option.map_some, Option.bind_some, List.length_singleton, if_true, optK]
    refine ⟨_, rfl, ?_⟩
    simp (disch := omega) only [go_sem]
    try first | rfl | exact ⟨rfl, rfl⟩ | (constructor <;> rfl)
  · have hn : m[j]? = some n := hn
    simp (disch := omega) only [go_sem, keyX, keyXL]
    simp only [hn, Option.map_some, Option.bind_some, List.length_singleton, if_true, optK]
    refine ⟨_, rfl, ?_⟩
    simp (disch := omega) only [go_sem]
    try first | rfl | exact ⟨rfl, rfl⟩ | (constructor <;> rfl)
theorem run9 {k j : Nat} {n : Int} {x y z v : V} (hk : k < 3) (hj : j < 1000) : Runs A Pr key9 ⟨(32, x) :: (31, y) :: (30, z) :: (29, v) :: keyN a b l m t u k j n, keyH a b l m t u⟩ .normal ⟨keyI a b l m t u k (j + 1), keyH a b l m t u⟩ := by
  refine runs_W ?_
  unfold key9 keyI keyN
  obtain rfl | rfl | rfl : k = 0 ∨ k = 1 ∨ k = 2 := by omega
  all_goals
    simp (disch := omega) only [go_sem, keyX]
    try first | rfl | exact ⟨rfl, rfl⟩ | (constructor <;> rfl)
theorem run8 {k j : Nat} {n : Int} {x : ByteArray} (hI : res A Pr 194 [.int .i64 n] = some [.str x]) (h1 : inls A 194 = false) (h2 : Pr 194 = none) (h3 : takes A 194 = false) (hz : x.size ≤ 100) : RunsOps A Pr key8 ⟨keyN a b l m t u k j n, keyH a b l m t u⟩ ⟨(31, .pv (.str (x ++ ⟨#[44]⟩))) :: (30, .pv (.str x)) :: (29, .pv (.int .i64 n)) :: keyN a b l m t u k j n, keyH a b l m t u⟩ := by
  refine runs_WO ?_
  unfold key8 keyN
  simp (disch := omega) only [go_sem]
  rw [CW_CN h1 h2 h3]
  simp (disch := omega) only [go_sem, hI]
  rw [binV_sadd (by simp only [ByteArray.size, List.size_toArray, List.length_cons, List.length_nil] at hz ⊢; omega)]
  simp (disch := omega) only [go_sem]
  try first | rfl | exact ⟨rfl, rfl⟩ | (constructor <;> rfl)
theorem run12 {x : V} {h : Heap} {env : List (Nat × V)} : RunsOps A Pr key12 ⟨(36, x) :: env, h⟩ ⟨(2, x) :: (36, x) :: env, h⟩ := by
  refine runs_WO ?_
  unfold key12
  simp (disch := omega) only [go_sem]
  try first | rfl | exact ⟨rfl, rfl⟩ | (constructor <;> rfl)
end Go.Pv

/-
  The text of a configuration: the whole walk, over the pieces of its code.
-/
namespace Go.Pv
open Go.Shelf Go.RowKit Go.Proofs
variable {P : Program} {N M : Nat → Nat} {W : Nat → Prop} {L0 : Lx} {e0 : Emb} {w w0 : World} {ρ ρ' : Ren} {A : Nat → Option AFunc} {Pr : Prims}

theorem FSp.toFS {G : List Nat} {nt b : Nat} {s : St} {a : Act} (hs : FSp N W G nt L0 e0 w0 b s a w) : FrS N W nt L0 e0 w0 s a w := by
  obtain ⟨L, e, hsr, hf, h1, h2, hx, _⟩ := hs
  have hr := hsr.hr
  exact ⟨L, e, ⟨{ hr with wbx := fun s hs => ⟨(hr.wbx s hs).1.1, (hr.wbx s hs).2⟩, war := fun id hi hk => ⟨(hr.war id hi hk).1.1, (hr.war id hi hk).2⟩, wmp := fun id hi => ⟨(hr.wmp id hi).1.1, (hr.wmp id hi).2⟩, wide := fun b hb => (hr.wide b hb).1 }, hsr.env, hsr.size, hsr.defers⟩, hf, h1, h2, hx⟩
structure KCode (P : Program) (N M : Nat → Nat) (A : Nat → Option AFunc) (ρ ρ' : Ren) (nt : Nat) (c : Nat → Code) (o : Nat → Array Oper) : Prop where
  codes : ∀ n, CodeOk P N M A (fun _ => none) n
  fns : ∀ n, FnsOk P N A (fun _ => none) n
  nopr : PrimOk P N (fun _ => none)
  fn : ∀ f fn, A f = some fn → ∃ an, FnOk P N M (N f) an fn
  lw : Lays.n166 P ρ
  ls : Lays.n169 P ρ'
  ex : Builder.Extra P ρ
  ex' : Builder.Extra P ρ'
  e72 : ρ'.t 72 = ρ.t 72
  e5 : ρ'.t 5 = ρ.t 5
  entw : ∀ args w, (callFunc (ρ.f 166) args).run P w = .ok (.enter (ρ.f 166) args) w
  ents : ∀ args w, (callFunc (ρ'.f 169) args).run P w = .ok (.enter (ρ'.f 169) args) w
  big : 36 < nt
  itoa : ∀ n, smallI n = true → res A (fun _ => none) 194 [.int .i64 n] = some [.str ⟨(encN n).toArray⟩]
  inl : inls A 194 = false
  tk : takes A 194 = false
  p0 : Piece P N M nt (c 0) key0
  p2 : Piece P N M nt (c 2) key2
  p3 : Piece P N M nt (c 3) key3
  p20 : Piece P N M nt (c 20) key20
  p4 : Piece P N M nt (c 4) key4
  p5 : Piece P N M nt (c 5) key5
  p6 : Piece P N M nt (c 6) key6
  p26 : Piece P N M nt (c 26) key26
  p7 : Piece P N M nt (c 7) key7
  p9 : Piece P N M nt (c 9) key9
  p11 : Piece P N M nt (c 11) key11
  o8 : ∃ pb, mapO (trOper P N M nt pb (o 8)) ((o 8).toList.take 3) = some key8
  z8 : (o 8).size = 4
  w8 : ∃ ot ats, (o 8)[3]? = some ot ∧ ot.guard = .none ∧ ot.op = .call { callee := .value (.func (ρ.f 166)), args := #[.tmp 3, .tmp 31], argTypes := ats } ∧ ot.dst = some 32
  z10 : (o 10).size = 1
  w10 : ∃ ot ats x, (o 10)[0]? = some ot ∧ ot.guard = .none ∧ ot.op = .call { callee := .value (.func (ρ.f 166)), args := #[.tmp 3, x], argTypes := ats } ∧ ot.dst = some 34 ∧ ∀ a : Act, a.eval x = .string ⟨#[59]⟩
  z12 : (o 12).size = 2
  w12 : ∃ ot ats, (o 12)[0]? = some ot ∧ ot.guard = .none ∧ ot.op = .call { callee := .value (.func (ρ'.f 169)), args := #[.tmp 3], argTypes := ats } ∧ ot.dst = some 36
  o12 : ∃ pb ot, (o 12)[1]? = some ot ∧ trOper P N M nt pb (o 12) ot = some ⟨some 2, .mov (.tmp 36), .none⟩
  z1 : (o 1).size = 1
  w1 : ∃ ot, (o 1)[0]? = some ot ∧ ot.guard = .none ∧ ot.dst = some 3 ∧ ∀ (a : Act) (w : World), (execOp a.eval ot).run P w = .ok (.value (.pointer (some ⟨w.heap.size, 0, .none⟩))) (w.alloc (.cells #[.pointer .none, .slice .none 0 0] (ρ.t 72)))
variable {nt : Nat} {c : Nat → Code} {o : Nat → Array Oper}
def keyB (c : Nat → Code) (o : Nat → Array Oper) (i : Nat → Nat) : Code :=
  .seq (c 6) (.seq (c 26) (.seq (.block 3 (.seq (c 7) (.region (i 8) (o 8) false))) (c 9)))
def keyC (c : Nat → Code) (o : Nat → Array Oper) (i : Nat → Nat) : Code :=
  .seq (c 3) (.seq (c 20) (.seq (.block 1 (.seq (c 4) (.seq (.seq (c 5) (.block 2 (.loop (keyB c o i)))) (.region (i 10) (o 10) false)))) (c 11)))
def keyD (c : Nat → Code) (o : Nat → Array Oper) (i : Nat → Nat) : Code :=
  .seq (c 0) (.seq (.region (i 1) (o 1) false) (.seq (.seq (c 2) (.block 0 (.loop (keyC c o i)))) (.seq (.region (i 12) (o 12) false) .ret)))
section
variable {a b : Int} {l m : List Int} {t u : Nat}
theorem strCells_enc (xs ys : List UInt8) : Lib.strCells (⟨xs.toArray⟩ ++ ⟨ys.toArray⟩ : ByteArray) = Lib.byteCells (xs ++ ys) := by
  simp [Lib.strCells, Lib.byteCells, ByteArray.data_append]
theorem KCode.write8 (K : KCode P N M A ρ ρ' nt c o) {i : Nat} {bb k j : Nat} {n : Int} {bs : List UInt8} {aa : Act} {Q : Exit → Act → World → Prop} (hn : smallI n = true) (hl : bs.length ≤ 100000000)
    (hs : FB N W (ρ.t 72) (ρ.t 5) nt L0 e0 w0 bb ⟨keyN a b l m t u k j n, keyH a b l m t u⟩ (Lib.byteCells bs) aa w)
    (hK : ∀ a' w' x y z v, FB N W (ρ.t 72) (ρ.t 5) nt L0 e0 w0 bb ⟨(32, x) :: (31, y) :: (30, z) :: (29, v) :: keyN a b l m t u k j n, keyH a b l m t u⟩ (Lib.byteCells (bs ++ (encN n ++ [44]))) a' w' → Q .normal a' w') :
    (Code.region i (o 8) false).wp P Q aa w := by
  obtain ⟨n0, he⟩ := run8 (A := A) (Pr := fun _ => none) (a := a) (b := b) (l := l) (m := m) (t := t) (u := u) (k := k) (j := j) (K.itoa n hn) K.inl rfl K.tk (by unfold encN; split <;> simp [ByteArray.size])
  obtain ⟨pb, ho⟩ := K.o8
  obtain ⟨ot, ats, h1, h2, h3, h4⟩ := K.w8
  obtain ⟨G, g1, g2⟩ := hs
  refine wp_region ?_
  rw [List.range_eq_range', K.z8]
  refine prefix_wp (pb := pb) (M := M) (K.fns n0) (withInl_ok K.nopr (K.codes n0) K.fn) 1 0 key8 (fun i q hi => ?_) he rfl rfl g1 g2 fun a' w' k1 k2 => ?_
  · obtain ⟨oo, q1, q2⟩ := mapO_get ho i q hi
    refine ⟨oo, ?_, q2⟩
    rw [List.getElem?_take] at q1
    split at q1
    · simpa using q1
    · cases q1
  · rw [List.range'_succ, wpOps_cons]
    have hx : a'.eval (.tmp 31) = .string (⟨(encN n).toArray⟩ ++ ⟨#[44]⟩) := k1.str rfl
    have hsz : (⟨(encN n).toArray⟩ ++ ⟨#[44]⟩ : ByteArray).size ≤ 3 := by
      unfold encN
      split <;> simp [ByteArray.size]
    refine write_wp K.lw K.ex K.entw h1 h2 h3 h4 (by have := K.big; omega) k1 k2 rfl rfl hx (by rw [show (Lib.byteCells bs).length = bs.length by simp [Lib.byteCells]]; omega) fun a2 w2 G' r1 r2 => ?_
    refine hK a2 w2 _ _ _ _ ⟨G', r1, ?_⟩
    rw [strCells_enc] at r2
    rw [show Lib.byteCells (bs ++ (encN n ++ [44])) = Lib.byteCells bs ++ Lib.byteCells (encN n ++ [44]) by simp [Lib.byteCells]]
    exact r2
theorem KCode.write10 (K : KCode P N M A ρ ρ' nt c o) {i : Nat} {bb k : Nat} {bs : List UInt8} {aa : Act} {Q : Exit → Act → World → Prop} (hl : bs.length ≤ 100000000)
    (hs : FB N W (ρ.t 72) (ρ.t 5) nt L0 e0 w0 bb ⟨keyI a b l m t u k (keyXL a b l m k).length ++ [(26, .pv (.bool false))], keyH a b l m t u⟩ (Lib.byteCells bs) aa w)
    (hK : ∀ a' w' x, FB N W (ρ.t 72) (ρ.t 5) nt L0 e0 w0 bb ⟨(34, x) :: (keyI a b l m t u k (keyXL a b l m k).length ++ [(26, .pv (.bool false))]), keyH a b l m t u⟩ (Lib.byteCells (bs ++ [59])) a' w' → Q .normal a' w') :
    (Code.region i (o 10) false).wp P Q aa w := by
  obtain ⟨ot, ats, x, h1, h2, h3, h4, h5⟩ := K.w10
  obtain ⟨G, g1, g2⟩ := hs
  refine wp_region ?_
  rw [List.range_eq_range', K.z10, List.range'_succ, wpOps_cons]
  refine write_wp K.lw K.ex K.entw h1 h2 h3 h4 (by have := K.big; omega) g1 g2 rfl rfl (h5 aa) (by rw [show (Lib.byteCells bs).length = bs.length by simp [Lib.byteCells]]; simp [ByteArray.size]; omega) fun a2 w2 G' r1 r2 => ?_
  refine hK a2 w2 _ ⟨G', r1, ?_⟩
  have := strCells_enc [59] []
  rw [show Lib.byteCells (bs ++ [59]) = Lib.byteCells bs ++ Lib.strCells ⟨#[59]⟩ by simp [Lib.byteCells, Lib.strCells]]
  exact r2
theorem enc_len (l : List Int) : (l.flatMap fun n => encN n ++ [44]).length ≤ 3 * l.length := by
  induction l with
  | nil => simp
  | cons x l ih =>
    rw [List.flatMap_cons, List.length_append, List.length_cons]
    have : (encN x ++ [44]).length ≤ 3 := by
      unfold encN
      split <;> simp
    omega
theorem KCode.inner (K : KCode P N M A ρ ρ' nt c o) {i : Nat → Nat} {bb k : Nat} {Q : Exit → Act → World → Prop} (hk : k < 3) (hl : l.length ≤ 1000) (hm : m.length ≤ 1000) (ha : (keyXL a b l m k).all smallI = true) : ∀ (n j : Nat), j + n = (keyXL a b l m k).length → ∀ (bs : List UInt8) (aa : Act) (w : World), bs.length + 3 * n ≤ 100000000 →
    FB N W (ρ.t 72) (ρ.t 5) nt L0 e0 w0 bb ⟨keyI a b l m t u k j, keyH a b l m t u⟩ (Lib.byteCells bs) aa w →
    (∀ a' w', FB N W (ρ.t 72) (ρ.t 5) nt L0 e0 w0 bb ⟨keyI a b l m t u k (keyXL a b l m k).length ++ [(26, .pv (.bool false))], keyH a b l m t u⟩ (Lib.byteCells (bs ++ ((keyXL a b l m k).drop j).flatMap fun n => encN n ++ [44])) a' w' → Q (.exit 2) a' w') → Code.rounds P (keyB c o i) Q (n + 1) aa w := by
  intro n
  induction n with
  | zero =>
    intro j hj bs aa w hb hs hK
    rw [rounds_succ]
    refine wp_seq (piece_wp K.codes K.p6 (run6 hk) rfl rfl hs fun a1 w1 h1 => ?_)
    have hd : decide ((j : Int) < (keyXL a b l m k).length) = false := by rw [decide_eq_false_iff_not]; omega
    rw [hd] at h1
    refine wp_seq (piece_wp K.codes K.p26 run26f rfl rfl h1 fun a2 w2 h2 => ?_)
    obtain rfl : j = (keyXL a b l m k).length := by omega
    rw [List.drop_length, List.flatMap_nil, List.append_nil] at hK
    exact hK a2 w2 h2
  | succ n ih =>
    intro j hj bs aa w hb hs hK
    have hlt : j < (keyXL a b l m k).length := by omega
    have hlen : (keyXL a b l m k).length ≤ 1000 := by
      unfold keyXL
      split
      · simp
      · split
        · exact hl
        · exact hm
    rw [rounds_succ]
    refine wp_seq (piece_wp K.codes K.p6 (run6 hk) rfl rfl hs fun a1 w1 h1 => ?_)
    have hd : decide ((j : Int) < (keyXL a b l m k).length) = true := by rw [decide_eq_true_iff]; omega
    rw [hd] at h1
    refine wp_seq (piece_wp K.codes K.p26 run26t rfl rfl h1 fun a2 w2 h2 => ?_)
    have hget := List.getElem?_eq_getElem hlt
    have hsm : smallI (keyXL a b l m k)[j] = true := List.all_eq_true.1 ha _ (List.getElem_mem hlt)
    refine wp_seq (wp_block (wp_seq (piece_wp K.codes K.p7 (run7 hk hget hl hm) rfl rfl h2 fun a3 w3 h3 => ?_)))
    refine K.write8 hsm (by omega) h3 fun a4 w4 x y z v h4 => ?_
    refine piece_wp K.codes K.p9 (run9 hk (by omega)) rfl rfl h4 fun a5 w5 h5 => ?_
    refine ih (j + 1) (by omega) _ a5 w5 ?_ h5 fun a6 w6 h6 => hK a6 w6 ?_
    · rw [List.length_append]
      have : (encN (keyXL a b l m k)[j] ++ [44]).length ≤ 3 := by
        unfold encN
        split <;> simp
      omega
    · rw [List.drop_eq_getElem_cons hlt, List.flatMap_cons, ← List.append_assoc]
      exact h6
theorem KCode.outer (K : KCode P N M A ρ ρ' nt c o) {i : Nat → Nat} {bb : Nat} {Q : Exit → Act → World → Prop} (hl : l.length ≤ 1000) (hm : m.length ≤ 1000) (ha : ∀ k, k < 3 → (keyXL a b l m k).all smallI = true) : ∀ (n k : Nat), k + n = 3 → ∀ (bs : List UInt8) (aa : Act) (w : World), bs.length + 3001 * n ≤ 100000 →
    FB N W (ρ.t 72) (ρ.t 5) nt L0 e0 w0 bb ⟨keyO k, keyH a b l m t u⟩ (Lib.byteCells bs) aa w →
    (∀ a' w', FB N W (ρ.t 72) (ρ.t 5) nt L0 e0 w0 bb ⟨keyO 3 ++ [(20, .pv (.bool false))], keyH a b l m t u⟩ (Lib.byteCells (bs ++ ((List.range 3).drop k).flatMap fun k => encL (keyXL a b l m k))) a' w' → Q (.exit 0) a' w') → Code.rounds P (keyC c o i) Q (n + 1) aa w := by
  intro n
  induction n with
  | zero =>
    intro k hk bs aa w hb hs hK
    obtain rfl : k = 3 := by omega
    rw [rounds_succ]
    refine wp_seq (piece_wp K.codes K.p3 run3 rfl rfl hs fun a1 w1 h1 => ?_)
    refine wp_seq (piece_wp K.codes K.p20 run20f rfl rfl h1 fun a2 w2 h2 => ?_)
    rw [show (List.range 3).drop 3 = [] from rfl, List.flatMap_nil, List.append_nil] at hK
    exact hK a2 w2 h2
  | succ n ih =>
    intro k hk bs aa w hb hs hK
    have hk3 : k < 3 := by omega
    have hlen : (keyXL a b l m k).length ≤ 1000 := by
      unfold keyXL
      split
      · simp
      · split
        · exact hl
        · exact hm
    rw [rounds_succ]
    refine wp_seq (piece_wp K.codes K.p3 run3 rfl rfl hs fun a1 w1 h1 => ?_)
    have hd : decide ((k : Int) < 3) = true := by rw [decide_eq_true_iff]; omega
    rw [hd] at h1
    refine wp_seq (piece_wp K.codes K.p20 run20t rfl rfl h1 fun a2 w2 h2 => ?_)
    refine wp_seq (wp_block (wp_seq (piece_wp K.codes K.p4 (run4 hk3) rfl rfl h2 fun a3 w3 h3 => ?_)))
    refine wp_seq (wp_seq (piece_wp K.codes K.p5 (run5 hk3) rfl rfl h3 fun a4 w4 h4 => ?_))
    refine wp_block (wp_loop_rounds ((keyXL a b l m k).length + 1) ?_)
    have hel := enc_len (keyXL a b l m k)
    refine K.inner hk3 hl hm (ha k hk3) (keyXL a b l m k).length 0 (by omega) bs a4 w4 (by omega) h4 fun a5 w5 h5 => ?_
    rw [List.drop_zero] at h5
    refine K.write10 (by rw [List.length_append]; omega) h5 fun a6 w6 x h6 => ?_
    refine piece_wp K.codes K.p11 (run5x hk3) rfl rfl h6 fun a7 w7 h7 => ?_
    refine ih (k + 1) (by omega) _ a7 w7 ?_ h7 fun a8 w8 h8 => hK a8 w8 ?_
    · rw [List.length_append, List.length_append, List.length_singleton]
      omega
    · have : (List.range 3).drop k = k :: (List.range 3).drop (k + 1) := by
        obtain rfl | rfl | rfl : k = 0 ∨ k = 1 ∨ k = 2 := by omega
        all_goals rfl
      rw [this, List.flatMap_cons]
      rw [show encL (keyXL a b l m k) = ((keyXL a b l m k).flatMap fun n => encN n ++ [44]) ++ [59] from rfl]
      simpa [List.append_assoc] using h8
theorem KCode.walk (K : KCode P N M A ρ ρ' nt c o) {i : Nat → Nat} {aa : Act} (h1 : smallI a = true) (h2 : smallI b = true) (h3 : l.all smallI = true) (h4 : m.all smallI = true) (hl : l.length ≤ 1000) (hm : m.length ≤ 1000)
    (hs : FrS N W nt L0 e0 w0 ⟨[(0, .agg [.pv (.int .i64 a), .pv (.int .i64 b), .pv (.lst t (ints l)), .pv (.lst u (ints m))])], ⟨[], [], []⟩⟩ aa w) :
    (keyD c o i).wp P (QQ N W nt L0 e0 w0 .ret ⟨(2, .pv (.str (keyS a b l m))) :: (36, .pv (.str (keyS a b l m))) :: (keyO 3 ++ [(20, .pv (.bool false))]), keyH a b l m t u⟩) aa w := by
  obtain ⟨n0, he0⟩ := run0 (A := A) (Pr := fun _ => none) (a := a) (b := b) (l := l) (m := m) (t := t) (u := u)
  obtain ⟨an, an', htr⟩ := K.p0
  refine wp_seq (wp_mono (K.codes n0 nt _ an _ an' htr W L0 e0 w0 _ _ _ aa w he0 hs) fun x a1 w1 hq => ?_)
  obtain ⟨rfl, hs1⟩ := hq
  refine wp_seq (wp_region ?_)
  obtain ⟨ot, q1, q2, q3, q4⟩ := K.w1
  rw [List.range_eq_range', K.z1, List.range'_succ, wpOps_cons]
  refine new_wp (E := ρ.t 5) q1 q2 (q4 a1) q3 (by have := K.big; omega) hs1 rfl fun a2 w2 bb hs2 hb2 => ?_
  refine wp_seq (wp_seq (piece_wp K.codes K.p2 run2 rfl rfl ⟨[bb], hs2, hb2⟩ fun a3 w3 h3' => ?_))
  refine wp_block (wp_loop_rounds 4 ?_)
  refine K.outer hl hm (fun k hk => ?_) 3 0 rfl [] a3 w3 (by simp) h3' fun a4 w4 h4' => ?_
  · obtain rfl | rfl | rfl : k = 0 ∨ k = 1 ∨ k = 2 := by omega
    · simp [keyXL, h1, h2]
    · exact h3
    · exact h4
  have hkl : ([] ++ ((List.range 3).drop 0).flatMap fun k => encL (keyXL a b l m k)) = keyL a b l m := by
    simp [keyL, keyXL, List.range_succ]
  rw [hkl] at h4'
  obtain ⟨G, g1, g2⟩ := h4'
  refine wp_seq (wp_region ?_)
  obtain ⟨ot, ats, q1, q2, q3, q4⟩ := K.w12
  rw [List.range_eq_range', K.z12, List.range'_succ, wpOps_cons]
  refine string_wp K.ls K.ex' K.ents q1 q2 q3 q4 (by have := K.big; omega) g1 (by rw [K.e72, K.e5]; exact g2) (by simp [keyL, encL]) rfl rfl fun a5 w5 hs5 => ?_
  obtain ⟨n1, he1⟩ := run12 (A := A) (Pr := fun _ => none) (x := .pv (.str (keyS a b l m))) (h := keyH a b l m t u) (env := keyO 3 ++ [(20, .pv (.bool false))])
  obtain ⟨pb, ot, r1, r2⟩ := K.o12
  obtain ⟨L, e, hsr, hf, f1, f2, hx⟩ := hs5.toFS
  refine ops_wp (M := M) (pb := pb) (K.fns n1) (withInl_ok K.nopr (K.codes n1) K.fn) key12 1 L e _ a5 w5 (fun i q hi => ?_) hsr he1 fun a6 w6 L' e' hn hsr' => ?_
  · match i, hi with
    | 0, hi =>
      cases hi
      exact ⟨ot, r1, r2⟩
  · refine wp_ret ⟨rfl, L', e', hsr', hf.trans hn.fr, fun t b hb => hn.ext.sub t b (f1 t b hb), fun t b hb => ?_, hx.trans hn.ext.x⟩
    rcases hn.new t b hb with hb | hb
    · exact f2 t b hb
    · exact .inr hb
theorem KCode.fnr (K : KCode P N M A ρ ρ' nt c o) {i : Nat → Nat} {f : Nat} {go : Func} (f1 : P.funcs[N f]? = some go) (f2 : go.body = some (keyD c o i)) (f3 : (go.name == "runtime.NumGoroutine") = false) (f4 : go.ntmps = nt) (f6 : mapO (trRes P) go.results.toList = some [.tmp 2])
    (h1 : smallI a = true) (h2 : smallI b = true) (h3 : l.all smallI = true) (h4 : m.all smallI = true) (hl : l.length ≤ 1000) (hm : m.length ≤ 1000) :
    FnR P N f [.agg [.int .i64 a, .int .i64 b, .lst t (ints l), .lst u (ints m)]] [.str (keyS a b l m)] := by
  subst f4
  refine fnr_of_wp (fn := ⟨1, .skip, [.tmp 2], false, false, false⟩) f1 f2 f3 (by have := K.big; simp; omega) f6 (fun T L e w a hs => K.walk h1 h2 h3 h4 hl hm hs) ?_
  rfl
end
end Go.Pv

/-
  The text of a configuration: what is said of it is so.
-/
namespace Go.Pv
variable {P : Program} {N M : Nat → Nat}

theorem ints_of_dec : ∀ {rows : List (List PV)} {l : List Int}, mapO intDec rows = some l → rows = ints l
  | [], l, h => by
    simp only [mapO] at h
    cases h
    rfl
  | r :: rows, l, h => by
    simp only [mapO] at h
    split at h <;> first | (cases h; done) | skip
    rename_i x xs hx hxs
    cases h
    have := ints_of_dec hxs
    subst this
    unfold intDec at hx
    split at hx
    · cases hx
      rfl
    · cases hx
theorem keyP_ok {fn : Nat} (hF : ∀ (a b : Int) (l m : List Int) (t u : Nat), smallI a = true → smallI b = true → l.all smallI = true → m.all smallI = true → l.length ≤ 1000 → m.length ≤ 1000 → FnR P N fn [.agg [.int .i64 a, .int .i64 b, .lst t (ints l), .lst u (ints m)]] [.str (keyS a b l m)]) : Prim.Ok P N fn keyP := by
  intro L e W h w vs args v tn hp hr hs hv
  unfold keyP at hp
  split at hp <;> first | (cases hp; done) | skip
  rename_i a b t ra u rb
  split at hp <;> first | (cases hp; done) | skip
  rename_i l m h1 h2
  split at hp <;> first | (cases hp; done) | skip
  rename_i hc
  injection hp with hp
  injection hp with e1 e2
  subst e1
  subst e2
  obtain ⟨c1, c2, c3, c4, c5, c6⟩ := hc
  obtain rfl := ints_of_dec h1
  obtain rfl := ints_of_dec h2
  exact call_sound hr hs hv (tk := false) (ps := [.agg [.int .i64 a, .int .i64 b, .lst t (ints l), .lst u (ints m)]]) (a := none) rfl (hF a b l m t u c1 c2 c3 c4 c5 c6) false 0
end Go.Pv

