/-
  No cell of these rows narrows 'for every input' (looked for: loops, veiled, ifaces, maps, wideKeys, modest, calm, conditions, laid).
  DERIVED. THE GIVEN ROWS OF THIS SEAT. 8 by the template 'for every input the law returns true; each argument reads behind the call as it read before'; 0 by the template 'total and deterministic' (their statements: YtcgkhjdkachckaaTotals.lean).
  GIVEN WITH THE SEED: the statements are not yours to turn. If you find one false, say at which input.
  Laid BY PROGRAM, IN A SANDBOX (cutbox-rows.mjs): the forced cells as the released guide's own fill.sh prints them over the translation 24dfa88eeaa081bf… (all of the seat's roots in one cut). By AI agents, Wed Nov 11 2026. No macro, syntax, notation, axiom, sorry.
-/
import Derived.Test.YtcgkhjdkachckaaChecked
import GoSem.Claim
import GoSem.ClaimJoined
import GoSem.ClaimMapViews
import Derived.JoinedTies
import Derived.KernelRfl
namespace Go.Proofs.Ytcgkhjdkachckaa
/- THE CELL 'sum', in the pinned program and in every row, IS THE sha256 OF THE DUMP (.gsa) THAT YtcgkhjdkachckaaProg.lean LOADS. Nothing in Lean hashes anything: it is a label: what it is worth is what the hold of that sum in a sandbox is worth. -/
noncomputable def Try.pinned : Pinned := { name := "ytcgkhjdkachckaa", sum := "24dfa88eeaa081bf8877e2f463434fff425a33912fabf62f39750a8b7fbd02e6", checked := Try.checked }
namespace Rows
def none {H : Type} : Left H := { results := [], args := [] }

/-- 'sheavelaw28.MinimalClasses': WHATEVER THE INPUT: true; the input reads as it did. -/
def minimalClassesSpec : ChangeSpec := { name := "minimalClasses", fn := fun _ => fun
  | [d] => { results := [.lit (.bool true)], args := [d] }
  | _ => none }
def minimalClassesRow : OpenClaim := { program := "ytcgkhjdkachckaa", sum := "24dfa88eeaa081bf8877e2f463434fff425a33912fabf62f39750a8b7fbd02e6", func := "sheave/sheavelaw28.MinimalClasses", spec := "minimalClasses", unfollowed := true, recurses := true, plainKeys := false, apart := false }
def MinimalClassesSaid : Prop := minimalClassesRow.holds Try.pinned (OpenSpec.ofChange minimalClassesSpec)

/-- ITS FALSE NEIGHBOUR: 'it returns false'. Refute it at one input. -/
def minimalClassesWrong : ChangeSpec := { name := "minimalClasses", fn := fun _ => fun
  | [d] => { results := [.lit (.bool false)], args := [d] }
  | _ => none }
def MinimalClassesWrongFalsely : Prop := minimalClassesRow.holds Try.pinned (OpenSpec.ofChange minimalClassesWrong)

/-- 'sheavelaw28.MinimalEquivalent': WHATEVER THE INPUT: true; the input reads as it did. -/
def minimalEquivalentSpec : ChangeSpec := { name := "minimalEquivalent", fn := fun _ => fun
  | [d1, d2] => { results := [.lit (.bool true)], args := [d1, d2] }
  | _ => none }
def minimalEquivalentRow : OpenClaim := { program := "ytcgkhjdkachckaa", sum := "24dfa88eeaa081bf8877e2f463434fff425a33912fabf62f39750a8b7fbd02e6", func := "sheave/sheavelaw28.MinimalEquivalent", spec := "minimalEquivalent", unfollowed := true, recurses := true, plainKeys := false, apart := false }
def MinimalEquivalentSaid : Prop := minimalEquivalentRow.holds Try.pinned (OpenSpec.ofChange minimalEquivalentSpec)

/-- ITS FALSE NEIGHBOUR: 'it returns false'. Refute it at one input. -/
def minimalEquivalentWrong : ChangeSpec := { name := "minimalEquivalent", fn := fun _ => fun
  | [d1, d2] => { results := [.lit (.bool false)], args := [d1, d2] }
  | _ => none }
def MinimalEquivalentWrongFalsely : Prop := minimalEquivalentRow.holds Try.pinned (OpenSpec.ofChange minimalEquivalentWrong)

/-- 'sheavelaw28.MinimalDistinguish': WHATEVER THE INPUT: true; the input reads as it did. -/
def minimalDistinguishSpec : ChangeSpec := { name := "minimalDistinguish", fn := fun _ => fun
  | [d1, d2] => { results := [.lit (.bool true)], args := [d1, d2] }
  | _ => none }
def minimalDistinguishRow : OpenClaim := { program := "ytcgkhjdkachckaa", sum := "24dfa88eeaa081bf8877e2f463434fff425a33912fabf62f39750a8b7fbd02e6", func := "sheave/sheavelaw28.MinimalDistinguish", spec := "minimalDistinguish", unfollowed := true, recurses := true, plainKeys := false, apart := false }
def MinimalDistinguishSaid : Prop := minimalDistinguishRow.holds Try.pinned (OpenSpec.ofChange minimalDistinguishSpec)

/-- ITS FALSE NEIGHBOUR: 'it returns false'. Refute it at one input. -/
def minimalDistinguishWrong : ChangeSpec := { name := "minimalDistinguish", fn := fun _ => fun
  | [d1, d2] => { results := [.lit (.bool false)], args := [d1, d2] }
  | _ => none }
def MinimalDistinguishWrongFalsely : Prop := minimalDistinguishRow.holds Try.pinned (OpenSpec.ofChange minimalDistinguishWrong)

/-- 'sheavelaw28.MinimalCount': WHATEVER THE INPUT: true; the input reads as it did. -/
def minimalCountSpec : ChangeSpec := { name := "minimalCount", fn := fun _ => fun
  | [d1, d2] => { results := [.lit (.bool true)], args := [d1, d2] }
  | _ => none }
def minimalCountRow : OpenClaim := { program := "ytcgkhjdkachckaa", sum := "24dfa88eeaa081bf8877e2f463434fff425a33912fabf62f39750a8b7fbd02e6", func := "sheave/sheavelaw28.MinimalCount", spec := "minimalCount", unfollowed := true, recurses := true, plainKeys := false, apart := false }
def MinimalCountSaid : Prop := minimalCountRow.holds Try.pinned (OpenSpec.ofChange minimalCountSpec)

/-- ITS FALSE NEIGHBOUR: 'it returns false'. Refute it at one input. -/
def minimalCountWrong : ChangeSpec := { name := "minimalCount", fn := fun _ => fun
  | [d1, d2] => { results := [.lit (.bool false)], args := [d1, d2] }
  | _ => none }
def MinimalCountWrongFalsely : Prop := minimalCountRow.holds Try.pinned (OpenSpec.ofChange minimalCountWrong)

/-- 'sheavelaw28.MinimalLeast': WHATEVER THE INPUT: true; the input reads as it did. -/
def minimalLeastSpec : ChangeSpec := { name := "minimalLeast", fn := fun _ => fun
  | [d] => { results := [.lit (.bool true)], args := [d] }
  | _ => none }
def minimalLeastRow : OpenClaim := { program := "ytcgkhjdkachckaa", sum := "24dfa88eeaa081bf8877e2f463434fff425a33912fabf62f39750a8b7fbd02e6", func := "sheave/sheavelaw28.MinimalLeast", spec := "minimalLeast", unfollowed := true, recurses := true, plainKeys := false, apart := false }
def MinimalLeastSaid : Prop := minimalLeastRow.holds Try.pinned (OpenSpec.ofChange minimalLeastSpec)

/-- ITS FALSE NEIGHBOUR: 'it returns false'. Refute it at one input. -/
def minimalLeastWrong : ChangeSpec := { name := "minimalLeast", fn := fun _ => fun
  | [d] => { results := [.lit (.bool false)], args := [d] }
  | _ => none }
def MinimalLeastWrongFalsely : Prop := minimalLeastRow.holds Try.pinned (OpenSpec.ofChange minimalLeastWrong)

/-- 'sheavelaw28.MinimalBoth': WHATEVER THE INPUT: true; the input reads as it did. -/
def minimalBothSpec : ChangeSpec := { name := "minimalBoth", fn := fun _ => fun
  | [d1, d2] => { results := [.lit (.bool true)], args := [d1, d2] }
  | _ => none }
def minimalBothRow : OpenClaim := { program := "ytcgkhjdkachckaa", sum := "24dfa88eeaa081bf8877e2f463434fff425a33912fabf62f39750a8b7fbd02e6", func := "sheave/sheavelaw28.MinimalBoth", spec := "minimalBoth", unfollowed := true, recurses := true, plainKeys := false, apart := false }
def MinimalBothSaid : Prop := minimalBothRow.holds Try.pinned (OpenSpec.ofChange minimalBothSpec)

/-- ITS FALSE NEIGHBOUR: 'it returns false'. Refute it at one input. -/
def minimalBothWrong : ChangeSpec := { name := "minimalBoth", fn := fun _ => fun
  | [d1, d2] => { results := [.lit (.bool false)], args := [d1, d2] }
  | _ => none }
def MinimalBothWrongFalsely : Prop := minimalBothRow.holds Try.pinned (OpenSpec.ofChange minimalBothWrong)

/-- 'sheavelaw28.MinimalFewer': WHATEVER THE INPUT: true; the input reads as it did. -/
def minimalFewerSpec : ChangeSpec := { name := "minimalFewer", fn := fun _ => fun
  | [d1, d2, d3] => { results := [.lit (.bool true)], args := [d1, d2, d3] }
  | _ => none }
def minimalFewerRow : OpenClaim := { program := "ytcgkhjdkachckaa", sum := "24dfa88eeaa081bf8877e2f463434fff425a33912fabf62f39750a8b7fbd02e6", func := "sheave/sheavelaw28.MinimalFewer", spec := "minimalFewer", unfollowed := true, recurses := true, plainKeys := false, apart := false }
def MinimalFewerSaid : Prop := minimalFewerRow.holds Try.pinned (OpenSpec.ofChange minimalFewerSpec)

/-- ITS FALSE NEIGHBOUR: 'it returns false'. Refute it at one input. -/
def minimalFewerWrong : ChangeSpec := { name := "minimalFewer", fn := fun _ => fun
  | [d1, d2, d3] => { results := [.lit (.bool false)], args := [d1, d2, d3] }
  | _ => none }
def MinimalFewerWrongFalsely : Prop := minimalFewerRow.holds Try.pinned (OpenSpec.ofChange minimalFewerWrong)

/-- 'sheavelaw28.MinimalShown': WHATEVER THE INPUT: true; the input reads as it did. -/
def minimalShownSpec : ChangeSpec := { name := "minimalShown", fn := fun _ => fun
  | [d1, d2] => { results := [.lit (.bool true)], args := [d1, d2] }
  | _ => none }
def minimalShownRow : OpenClaim := { program := "ytcgkhjdkachckaa", sum := "24dfa88eeaa081bf8877e2f463434fff425a33912fabf62f39750a8b7fbd02e6", func := "sheave/sheavelaw28.MinimalShown", spec := "minimalShown", unfollowed := true, recurses := true, plainKeys := false, apart := false }
def MinimalShownSaid : Prop := minimalShownRow.holds Try.pinned (OpenSpec.ofChange minimalShownSpec)

/-- ITS FALSE NEIGHBOUR: 'it returns false'. Refute it at one input. -/
def minimalShownWrong : ChangeSpec := { name := "minimalShown", fn := fun _ => fun
  | [d1, d2] => { results := [.lit (.bool false)], args := [d1, d2] }
  | _ => none }
def MinimalShownWrongFalsely : Prop := minimalShownRow.holds Try.pinned (OpenSpec.ofChange minimalShownWrong)

/- THE SECOND FORM. 'bulk': how many values and letters a reading holds, each counted each time it is reached (what is shared counts as often as it is met; a slice's spare places count too). A statement '..UptoSaid' is the law's where the arguments, and the package variables that the reading takes, are together of bulk at most 1048576: NARROWER than '..Said'. Prove '..Said' where nothing that the law and all that it calls make is longer than what came in: it says more and counts as full. Else prove '..UptoSaid'. A law counts once. -/
mutual
def uptoBulk {H : Type} : DataW H → Nat
  | .lit (.string bytes) => bytes.length + 1
  | .lit _ => 1
  | .nil => 1
  | .ptr d => uptoBulk d + 1
  | .slice elems spare => uptoBulkAll elems + uptoBulkAll spare + 1
  | .agg parts => uptoBulkAll parts + 1
  | .iface _ d => uptoBulk d + 1
  | .map entries => uptoBulkEntries entries + 1
  | .held _ => 1
def uptoBulkAll {H : Type} : List (DataW H) → Nat
  | [] => 0
  | d :: r => uptoBulk d + uptoBulkAll r
def uptoBulkEntries {H : Type} : List (Lit × DataW H) → Nat
  | [] => 0
  | x :: r => uptoBulkEntry x + uptoBulkEntries r
def uptoBulkEntry {H : Type} : Lit × DataW H → Nat
  | (.string bytes, d) => bytes.length + uptoBulk d + 1
  | (_, d) => uptoBulk d + 1
 end
def uptoSmall : (H : Type) → List (DataW H) → Bool := fun _ ds => decide (uptoBulkAll ds ≤ 1048576)
def OpenSpec.upto (s : _root_.Go.ChangeSpec) : _root_.Go.OpenSpec := { _root_.Go.OpenSpec.ofChange s with cond := some uptoSmall }

/-- 'sheavelaw28.MinimalClasses', WHERE WHAT IT READS IS OF BULK AT MOST 1048576: true; the input reads as it did. -/
def minimalClassesUptoRow : OpenClaim := { program := "ytcgkhjdkachckaa", sum := "24dfa88eeaa081bf8877e2f463434fff425a33912fabf62f39750a8b7fbd02e6", func := "sheave/sheavelaw28.MinimalClasses", spec := "minimalClasses", unfollowed := true, recurses := true, plainKeys := false, apart := false, narrowed := true }
def MinimalClassesUptoSaid : Prop := minimalClassesUptoRow.holds Try.pinned (OpenSpec.upto minimalClassesSpec)

/-- 'sheavelaw28.MinimalEquivalent', WHERE WHAT IT READS IS OF BULK AT MOST 1048576: true; the input reads as it did. -/
def minimalEquivalentUptoRow : OpenClaim := { program := "ytcgkhjdkachckaa", sum := "24dfa88eeaa081bf8877e2f463434fff425a33912fabf62f39750a8b7fbd02e6", func := "sheave/sheavelaw28.MinimalEquivalent", spec := "minimalEquivalent", unfollowed := true, recurses := true, plainKeys := false, apart := false, narrowed := true }
def MinimalEquivalentUptoSaid : Prop := minimalEquivalentUptoRow.holds Try.pinned (OpenSpec.upto minimalEquivalentSpec)

/-- 'sheavelaw28.MinimalDistinguish', WHERE WHAT IT READS IS OF BULK AT MOST 1048576: true; the input reads as it did. -/
def minimalDistinguishUptoRow : OpenClaim := { program := "ytcgkhjdkachckaa", sum := "24dfa88eeaa081bf8877e2f463434fff425a33912fabf62f39750a8b7fbd02e6", func := "sheave/sheavelaw28.MinimalDistinguish", spec := "minimalDistinguish", unfollowed := true, recurses := true, plainKeys := false, apart := false, narrowed := true }
def MinimalDistinguishUptoSaid : Prop := minimalDistinguishUptoRow.holds Try.pinned (OpenSpec.upto minimalDistinguishSpec)

/-- 'sheavelaw28.MinimalCount', WHERE WHAT IT READS IS OF BULK AT MOST 1048576: true; the input reads as it did. -/
def minimalCountUptoRow : OpenClaim := { program := "ytcgkhjdkachckaa", sum := "24dfa88eeaa081bf8877e2f463434fff425a33912fabf62f39750a8b7fbd02e6", func := "sheave/sheavelaw28.MinimalCount", spec := "minimalCount", unfollowed := true, recurses := true, plainKeys := false, apart := false, narrowed := true }
def MinimalCountUptoSaid : Prop := minimalCountUptoRow.holds Try.pinned (OpenSpec.upto minimalCountSpec)

/-- 'sheavelaw28.MinimalLeast', WHERE WHAT IT READS IS OF BULK AT MOST 1048576: true; the input reads as it did. -/
def minimalLeastUptoRow : OpenClaim := { program := "ytcgkhjdkachckaa", sum := "24dfa88eeaa081bf8877e2f463434fff425a33912fabf62f39750a8b7fbd02e6", func := "sheave/sheavelaw28.MinimalLeast", spec := "minimalLeast", unfollowed := true, recurses := true, plainKeys := false, apart := false, narrowed := true }
def MinimalLeastUptoSaid : Prop := minimalLeastUptoRow.holds Try.pinned (OpenSpec.upto minimalLeastSpec)

/-- 'sheavelaw28.MinimalBoth', WHERE WHAT IT READS IS OF BULK AT MOST 1048576: true; the input reads as it did. -/
def minimalBothUptoRow : OpenClaim := { program := "ytcgkhjdkachckaa", sum := "24dfa88eeaa081bf8877e2f463434fff425a33912fabf62f39750a8b7fbd02e6", func := "sheave/sheavelaw28.MinimalBoth", spec := "minimalBoth", unfollowed := true, recurses := true, plainKeys := false, apart := false, narrowed := true }
def MinimalBothUptoSaid : Prop := minimalBothUptoRow.holds Try.pinned (OpenSpec.upto minimalBothSpec)

/-- 'sheavelaw28.MinimalFewer', WHERE WHAT IT READS IS OF BULK AT MOST 1048576: true; the input reads as it did. -/
def minimalFewerUptoRow : OpenClaim := { program := "ytcgkhjdkachckaa", sum := "24dfa88eeaa081bf8877e2f463434fff425a33912fabf62f39750a8b7fbd02e6", func := "sheave/sheavelaw28.MinimalFewer", spec := "minimalFewer", unfollowed := true, recurses := true, plainKeys := false, apart := false, narrowed := true }
def MinimalFewerUptoSaid : Prop := minimalFewerUptoRow.holds Try.pinned (OpenSpec.upto minimalFewerSpec)

/-- 'sheavelaw28.MinimalShown', WHERE WHAT IT READS IS OF BULK AT MOST 1048576: true; the input reads as it did. -/
def minimalShownUptoRow : OpenClaim := { program := "ytcgkhjdkachckaa", sum := "24dfa88eeaa081bf8877e2f463434fff425a33912fabf62f39750a8b7fbd02e6", func := "sheave/sheavelaw28.MinimalShown", spec := "minimalShown", unfollowed := true, recurses := true, plainKeys := false, apart := false, narrowed := true }
def MinimalShownUptoSaid : Prop := minimalShownUptoRow.holds Try.pinned (OpenSpec.upto minimalShownSpec)

end Rows
end Go.Proofs.Ytcgkhjdkachckaa
