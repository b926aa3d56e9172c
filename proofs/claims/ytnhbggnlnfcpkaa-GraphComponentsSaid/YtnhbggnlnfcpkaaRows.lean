/-
  No cell of these rows narrows 'for every input' (looked for: loops, veiled, ifaces, maps, wideKeys, modest, calm, conditions, laid).
  DERIVED. THE GIVEN ROWS OF THIS SEAT. 8 by the template 'for every input the law returns true; each argument reads behind the call as it read before'; 0 by the template 'total and deterministic' (their statements: YtnhbggnlnfcpkaaTotals.lean).
  GIVEN WITH THE SEED: the statements are not yours to turn. If you find one false, say at which input.
  Laid BY PROGRAM, IN A SANDBOX (cutbox-rows.mjs): the forced cells as the released guide's own fill.sh prints them over the translation 23bb0d610c749ef9… (all of the seat's roots in one cut). By AI agents, Wed Nov 11 2026. No macro, syntax, notation, axiom, sorry.
-/
import Derived.Test.YtnhbggnlnfcpkaaChecked
import GoSem.Claim
import GoSem.ClaimJoined
import GoSem.ClaimMapViews
import Derived.JoinedTies
import Derived.KernelRfl
namespace Go.Proofs.Ytnhbggnlnfcpkaa
/- THE CELL 'sum', in the pinned program and in every row, IS THE sha256 OF THE DUMP (.gsa) THAT YtnhbggnlnfcpkaaProg.lean LOADS. Nothing in Lean hashes anything: it is a label: what it is worth is what the hold of that sum in a sandbox is worth. -/
noncomputable def Try.pinned : Pinned := { name := "ytnhbggnlnfcpkaa", sum := "23bb0d610c749ef9ce9ba5ff03360115b887da2030cdb0e39958df01425d145b", checked := Try.checked }
namespace Rows
def none {H : Type} : Left H := { results := [], args := [] }

/-- 'sheavelaw05.GraphValid': WHATEVER THE INPUT: true; the input reads as it did. -/
def graphValidSpec : ChangeSpec := { name := "graphValid", fn := fun _ => fun
  | [d1, d2] => { results := [.lit (.bool true)], args := [d1, d2] }
  | _ => none }
def graphValidRow : OpenClaim := { program := "ytnhbggnlnfcpkaa", sum := "23bb0d610c749ef9ce9ba5ff03360115b887da2030cdb0e39958df01425d145b", func := "sheave/sheavelaw05.GraphValid", spec := "graphValid", unfollowed := true, recurses := true, apart := false }
def GraphValidSaid : Prop := graphValidRow.holds Try.pinned (OpenSpec.ofChange graphValidSpec)

/-- ITS FALSE NEIGHBOUR: 'it returns false'. Refute it at one input. -/
def graphValidWrong : ChangeSpec := { name := "graphValid", fn := fun _ => fun
  | [d1, d2] => { results := [.lit (.bool false)], args := [d1, d2] }
  | _ => none }
def GraphValidWrongFalsely : Prop := graphValidRow.holds Try.pinned (OpenSpec.ofChange graphValidWrong)

/-- 'sheavelaw05.GraphDistances': WHATEVER THE INPUT: true; the input reads as it did. -/
def graphDistancesSpec : ChangeSpec := { name := "graphDistances", fn := fun _ => fun
  | [d1, d2, d3] => { results := [.lit (.bool true)], args := [d1, d2, d3] }
  | _ => none }
def graphDistancesRow : OpenClaim := { program := "ytnhbggnlnfcpkaa", sum := "23bb0d610c749ef9ce9ba5ff03360115b887da2030cdb0e39958df01425d145b", func := "sheave/sheavelaw05.GraphDistances", spec := "graphDistances", unfollowed := true, recurses := true, apart := false }
def GraphDistancesSaid : Prop := graphDistancesRow.holds Try.pinned (OpenSpec.ofChange graphDistancesSpec)

/-- ITS FALSE NEIGHBOUR: 'it returns false'. Refute it at one input. -/
def graphDistancesWrong : ChangeSpec := { name := "graphDistances", fn := fun _ => fun
  | [d1, d2, d3] => { results := [.lit (.bool false)], args := [d1, d2, d3] }
  | _ => none }
def GraphDistancesWrongFalsely : Prop := graphDistancesRow.holds Try.pinned (OpenSpec.ofChange graphDistancesWrong)

/-- 'sheavelaw05.GraphPath': WHATEVER THE INPUT: true; the input reads as it did. -/
def graphPathSpec : ChangeSpec := { name := "graphPath", fn := fun _ => fun
  | [d1, d2, d3] => { results := [.lit (.bool true)], args := [d1, d2, d3] }
  | _ => none }
def graphPathRow : OpenClaim := { program := "ytnhbggnlnfcpkaa", sum := "23bb0d610c749ef9ce9ba5ff03360115b887da2030cdb0e39958df01425d145b", func := "sheave/sheavelaw05.GraphPath", spec := "graphPath", unfollowed := true, recurses := true, apart := false }
def GraphPathSaid : Prop := graphPathRow.holds Try.pinned (OpenSpec.ofChange graphPathSpec)

/-- ITS FALSE NEIGHBOUR: 'it returns false'. Refute it at one input. -/
def graphPathWrong : ChangeSpec := { name := "graphPath", fn := fun _ => fun
  | [d1, d2, d3] => { results := [.lit (.bool false)], args := [d1, d2, d3] }
  | _ => none }
def GraphPathWrongFalsely : Prop := graphPathRow.holds Try.pinned (OpenSpec.ofChange graphPathWrong)

/-- 'sheavelaw05.GraphStrong': WHATEVER THE INPUT: true; the input reads as it did. -/
def graphStrongSpec : ChangeSpec := { name := "graphStrong", fn := fun _ => fun
  | [d1, d2] => { results := [.lit (.bool true)], args := [d1, d2] }
  | _ => none }
def graphStrongRow : OpenClaim := { program := "ytnhbggnlnfcpkaa", sum := "23bb0d610c749ef9ce9ba5ff03360115b887da2030cdb0e39958df01425d145b", func := "sheave/sheavelaw05.GraphStrong", spec := "graphStrong", unfollowed := true, recurses := true, apart := false }
def GraphStrongSaid : Prop := graphStrongRow.holds Try.pinned (OpenSpec.ofChange graphStrongSpec)

/-- ITS FALSE NEIGHBOUR: 'it returns false'. Refute it at one input. -/
def graphStrongWrong : ChangeSpec := { name := "graphStrong", fn := fun _ => fun
  | [d1, d2] => { results := [.lit (.bool false)], args := [d1, d2] }
  | _ => none }
def GraphStrongWrongFalsely : Prop := graphStrongRow.holds Try.pinned (OpenSpec.ofChange graphStrongWrong)

/-- 'sheavelaw05.GraphTopological': WHATEVER THE INPUT: true; the input reads as it did. -/
def graphTopologicalSpec : ChangeSpec := { name := "graphTopological", fn := fun _ => fun
  | [d1, d2] => { results := [.lit (.bool true)], args := [d1, d2] }
  | _ => none }
def graphTopologicalRow : OpenClaim := { program := "ytnhbggnlnfcpkaa", sum := "23bb0d610c749ef9ce9ba5ff03360115b887da2030cdb0e39958df01425d145b", func := "sheave/sheavelaw05.GraphTopological", spec := "graphTopological", unfollowed := true, recurses := true, apart := false }
def GraphTopologicalSaid : Prop := graphTopologicalRow.holds Try.pinned (OpenSpec.ofChange graphTopologicalSpec)

/-- ITS FALSE NEIGHBOUR: 'it returns false'. Refute it at one input. -/
def graphTopologicalWrong : ChangeSpec := { name := "graphTopological", fn := fun _ => fun
  | [d1, d2] => { results := [.lit (.bool false)], args := [d1, d2] }
  | _ => none }
def GraphTopologicalWrongFalsely : Prop := graphTopologicalRow.holds Try.pinned (OpenSpec.ofChange graphTopologicalWrong)

/-- 'sheavelaw05.GraphCycle': WHATEVER THE INPUT: true; the input reads as it did. -/
def graphCycleSpec : ChangeSpec := { name := "graphCycle", fn := fun _ => fun
  | [d1, d2] => { results := [.lit (.bool true)], args := [d1, d2] }
  | _ => none }
def graphCycleRow : OpenClaim := { program := "ytnhbggnlnfcpkaa", sum := "23bb0d610c749ef9ce9ba5ff03360115b887da2030cdb0e39958df01425d145b", func := "sheave/sheavelaw05.GraphCycle", spec := "graphCycle", unfollowed := true, recurses := true, apart := false }
def GraphCycleSaid : Prop := graphCycleRow.holds Try.pinned (OpenSpec.ofChange graphCycleSpec)

/-- ITS FALSE NEIGHBOUR: 'it returns false'. Refute it at one input. -/
def graphCycleWrong : ChangeSpec := { name := "graphCycle", fn := fun _ => fun
  | [d1, d2] => { results := [.lit (.bool false)], args := [d1, d2] }
  | _ => none }
def GraphCycleWrongFalsely : Prop := graphCycleRow.holds Try.pinned (OpenSpec.ofChange graphCycleWrong)

/-- 'sheavelaw05.GraphComponents': WHATEVER THE INPUT: true; the input reads as it did. -/
def graphComponentsSpec : ChangeSpec := { name := "graphComponents", fn := fun _ => fun
  | [d] => { results := [.lit (.bool true)], args := [d] }
  | _ => none }
def graphComponentsRow : OpenClaim := { program := "ytnhbggnlnfcpkaa", sum := "23bb0d610c749ef9ce9ba5ff03360115b887da2030cdb0e39958df01425d145b", func := "sheave/sheavelaw05.GraphComponents", spec := "graphComponents", unfollowed := true, recurses := true, apart := false }
def GraphComponentsSaid : Prop := graphComponentsRow.holds Try.pinned (OpenSpec.ofChange graphComponentsSpec)

/-- ITS FALSE NEIGHBOUR: 'it returns false'. Refute it at one input. -/
def graphComponentsWrong : ChangeSpec := { name := "graphComponents", fn := fun _ => fun
  | [d] => { results := [.lit (.bool false)], args := [d] }
  | _ => none }
def GraphComponentsWrongFalsely : Prop := graphComponentsRow.holds Try.pinned (OpenSpec.ofChange graphComponentsWrong)

/-- 'sheavelaw05.GraphReach': WHATEVER THE INPUT: true; the input reads as it did. -/
def graphReachSpec : ChangeSpec := { name := "graphReach", fn := fun _ => fun
  | [d1, d2, d3] => { results := [.lit (.bool true)], args := [d1, d2, d3] }
  | _ => none }
def graphReachRow : OpenClaim := { program := "ytnhbggnlnfcpkaa", sum := "23bb0d610c749ef9ce9ba5ff03360115b887da2030cdb0e39958df01425d145b", func := "sheave/sheavelaw05.GraphReach", spec := "graphReach", unfollowed := true, recurses := true, apart := false }
def GraphReachSaid : Prop := graphReachRow.holds Try.pinned (OpenSpec.ofChange graphReachSpec)

/-- ITS FALSE NEIGHBOUR: 'it returns false'. Refute it at one input. -/
def graphReachWrong : ChangeSpec := { name := "graphReach", fn := fun _ => fun
  | [d1, d2, d3] => { results := [.lit (.bool false)], args := [d1, d2, d3] }
  | _ => none }
def GraphReachWrongFalsely : Prop := graphReachRow.holds Try.pinned (OpenSpec.ofChange graphReachWrong)

/- THE SECOND FORM. 'bulk': how many values and letters a reading holds, each counted each time it is reached (what is shared counts as often as it is met; a slice's spare places count too). A statement '..UptoSaid' is the law's where the arguments, and the package variables that the reading takes, are together of bulk at most 1048576: NARROWER than '..Said'. Prove '..Said' where nothing that the law and all that it calls make is longer than what came in: it says more and counts as full. Else prove '..UptoSaid'. A law counts once. -/
mutual
def uptoBulk {H : Type} : DataW H → Nat
  | .lit (.string bytes) => bytes.length + 1
  | .lit _ => 1
  | .nil => 1
  | .ptr d => uptoBulk d + 1
  | .slice elems spare => uptoBulkAll elems + uptoBulkAll spare + 1
  | .agg parts => uptoBulkAll parts + 1
  | .iface _ d => uptoBulk d + 1
  | .map entries => uptoBulkEntries entries + 1
  | .held _ => 1
def uptoBulkAll {H : Type} : List (DataW H) → Nat
  | [] => 0
  | d :: r => uptoBulk d + uptoBulkAll r
def uptoBulkEntries {H : Type} : List (Lit × DataW H) → Nat
  | [] => 0
  | x :: r => uptoBulkEntry x + uptoBulkEntries r
def uptoBulkEntry {H : Type} : Lit × DataW H → Nat
  | (.string bytes, d) => bytes.length + uptoBulk d + 1
  | (_, d) => uptoBulk d + 1
 end
def uptoSmall : (H : Type) → List (DataW H) → Bool := fun _ ds => decide (uptoBulkAll ds ≤ 1048576)
def OpenSpec.upto (s : _root_.Go.ChangeSpec) : _root_.Go.OpenSpec := { _root_.Go.OpenSpec.ofChange s with cond := some uptoSmall }

/-- 'sheavelaw05.GraphValid', WHERE WHAT IT READS IS OF BULK AT MOST 1048576: true; the input reads as it did. -/
def graphValidUptoRow : OpenClaim := { program := "ytnhbggnlnfcpkaa", sum := "23bb0d610c749ef9ce9ba5ff03360115b887da2030cdb0e39958df01425d145b", func := "sheave/sheavelaw05.GraphValid", spec := "graphValid", unfollowed := true, recurses := true, apart := false, narrowed := true }
def GraphValidUptoSaid : Prop := graphValidUptoRow.holds Try.pinned (OpenSpec.upto graphValidSpec)

/-- 'sheavelaw05.GraphDistances', WHERE WHAT IT READS IS OF BULK AT MOST 1048576: true; the input reads as it did. -/
def graphDistancesUptoRow : OpenClaim := { program := "ytnhbggnlnfcpkaa", sum := "23bb0d610c749ef9ce9ba5ff03360115b887da2030cdb0e39958df01425d145b", func := "sheave/sheavelaw05.GraphDistances", spec := "graphDistances", unfollowed := true, recurses := true, apart := false, narrowed := true }
def GraphDistancesUptoSaid : Prop := graphDistancesUptoRow.holds Try.pinned (OpenSpec.upto graphDistancesSpec)

/-- 'sheavelaw05.GraphPath', WHERE WHAT IT READS IS OF BULK AT MOST 1048576: true; the input reads as it did. -/
def graphPathUptoRow : OpenClaim := { program := "ytnhbggnlnfcpkaa", sum := "23bb0d610c749ef9ce9ba5ff03360115b887da2030cdb0e39958df01425d145b", func := "sheave/sheavelaw05.GraphPath", spec := "graphPath", unfollowed := true, recurses := true, apart := false, narrowed := true }
def GraphPathUptoSaid : Prop := graphPathUptoRow.holds Try.pinned (OpenSpec.upto graphPathSpec)

/-- 'sheavelaw05.GraphStrong', WHERE WHAT IT READS IS OF BULK AT MOST 1048576: true; the input reads as it did. -/
def graphStrongUptoRow : OpenClaim := { program := "ytnhbggnlnfcpkaa", sum := "23bb0d610c749ef9ce9ba5ff03360115b887da2030cdb0e39958df01425d145b", func := "sheave/sheavelaw05.GraphStrong", spec := "graphStrong", unfollowed := true, recurses := true, apart := false, narrowed := true }
def GraphStrongUptoSaid : Prop := graphStrongUptoRow.holds Try.pinned (OpenSpec.upto graphStrongSpec)

/-- 'sheavelaw05.GraphTopological', WHERE WHAT IT READS IS OF BULK AT MOST 1048576: true; the input reads as it did. -/
def graphTopologicalUptoRow : OpenClaim := { program := "ytnhbggnlnfcpkaa", sum := "23bb0d610c749ef9ce9ba5ff03360115b887da2030cdb0e39958df01425d145b", func := "sheave/sheavelaw05.GraphTopological", spec := "graphTopological", unfollowed := true, recurses := true, apart := false, narrowed := true }
def GraphTopologicalUptoSaid : Prop := graphTopologicalUptoRow.holds Try.pinned (OpenSpec.upto graphTopologicalSpec)

/-- 'sheavelaw05.GraphCycle', WHERE WHAT IT READS IS OF BULK AT MOST 1048576: true; the input reads as it did. -/
def graphCycleUptoRow : OpenClaim := { program := "ytnhbggnlnfcpkaa", sum := "23bb0d610c749ef9ce9ba5ff03360115b887da2030cdb0e39958df01425d145b", func := "sheave/sheavelaw05.GraphCycle", spec := "graphCycle", unfollowed := true, recurses := true, apart := false, narrowed := true }
def GraphCycleUptoSaid : Prop := graphCycleUptoRow.holds Try.pinned (OpenSpec.upto graphCycleSpec)

/-- 'sheavelaw05.GraphComponents', WHERE WHAT IT READS IS OF BULK AT MOST 1048576: true; the input reads as it did. -/
def graphComponentsUptoRow : OpenClaim := { program := "ytnhbggnlnfcpkaa", sum := "23bb0d610c749ef9ce9ba5ff03360115b887da2030cdb0e39958df01425d145b", func := "sheave/sheavelaw05.GraphComponents", spec := "graphComponents", unfollowed := true, recurses := true, apart := false, narrowed := true }
def GraphComponentsUptoSaid : Prop := graphComponentsUptoRow.holds Try.pinned (OpenSpec.upto graphComponentsSpec)

/-- 'sheavelaw05.GraphReach', WHERE WHAT IT READS IS OF BULK AT MOST 1048576: true; the input reads as it did. -/
def graphReachUptoRow : OpenClaim := { program := "ytnhbggnlnfcpkaa", sum := "23bb0d610c749ef9ce9ba5ff03360115b887da2030cdb0e39958df01425d145b", func := "sheave/sheavelaw05.GraphReach", spec := "graphReach", unfollowed := true, recurses := true, apart := false, narrowed := true }
def GraphReachUptoSaid : Prop := graphReachUptoRow.holds Try.pinned (OpenSpec.upto graphReachSpec)

end Rows
end Go.Proofs.Ytnhbggnlnfcpkaa
