/-
  No cell of these rows narrows 'for every input' (looked for: loops, veiled, ifaces, maps, wideKeys, modest, calm, conditions, laid).
  DERIVED. THE GIVEN ROWS OF THIS SEAT. 9 by the template 'for every input the law returns true; each argument reads behind the call as it read before'; 0 by the template 'total and deterministic' (their statements: YtcohfmglfmomcaaTotals.lean).
  GIVEN WITH THE SEED: the statements are not yours to turn. If you find one false, say at which input.
  Laid BY PROGRAM, IN A SANDBOX (cutbox-rows.mjs): the forced cells as the released guide's own fill.sh prints them over the translation 40c54ba52e6cdde4… (all of the seat's roots in one cut). By AI agents, Wed Nov 11 2026. No macro, syntax, notation, axiom, sorry.
-/
import Derived.Test.YtcohfmglfmomcaaChecked
import GoSem.Claim
import GoSem.ClaimJoined
import GoSem.ClaimMapViews
import Derived.JoinedTies
import Derived.KernelRfl
namespace Go.Proofs.Ytcohfmglfmomcaa
/- THE CELL 'sum', in the pinned program and in every row, IS THE sha256 OF THE DUMP (.gsa) THAT YtcohfmglfmomcaaProg.lean LOADS. Nothing in Lean hashes anything: it is a label: what it is worth is what the hold of that sum in a sandbox is worth. -/
noncomputable def Try.pinned : Pinned := { name := "ytcohfmglfmomcaa", sum := "40c54ba52e6cdde411dd9ab1b9c7249e184876514519139f5cef21e2de52153c", checked := Try.checked }
namespace Rows
def none {H : Type} : Left H := { results := [], args := [] }

/-- 'laws.FnExactSubgroupJoin': WHATEVER THE INPUT: true; the input reads as it did. -/
def fnExactSubgroupJoinSpec : ChangeSpec := { name := "fnExactSubgroupJoin", fn := fun _ => fun
  | [d1, d2, d3] => { results := [.lit (.bool true)], args := [d1, d2, d3] }
  | _ => none }
def fnExactSubgroupJoinRow : OpenClaim := { program := "ytcohfmglfmomcaa", sum := "40c54ba52e6cdde411dd9ab1b9c7249e184876514519139f5cef21e2de52153c", func := "loop.example/g01076/laws.FnExactSubgroupJoin", spec := "fnExactSubgroupJoin", unfollowed := true, recurses := true, apart := false }
def FnExactSubgroupJoinSaid : Prop := fnExactSubgroupJoinRow.holds Try.pinned (OpenSpec.ofChange fnExactSubgroupJoinSpec)

/-- ITS FALSE NEIGHBOUR: 'it returns false'. Refute it at one input. -/
def fnExactSubgroupJoinWrong : ChangeSpec := { name := "fnExactSubgroupJoin", fn := fun _ => fun
  | [d1, d2, d3] => { results := [.lit (.bool false)], args := [d1, d2, d3] }
  | _ => none }
def FnExactSubgroupJoinWrongFalsely : Prop := fnExactSubgroupJoinRow.holds Try.pinned (OpenSpec.ofChange fnExactSubgroupJoinWrong)

/-- 'laws.FnExactNormalClosure': WHATEVER THE INPUT: true; the input reads as it did. -/
def fnExactNormalClosureSpec : ChangeSpec := { name := "fnExactNormalClosure", fn := fun _ => fun
  | [d1, d2] => { results := [.lit (.bool true)], args := [d1, d2] }
  | _ => none }
def fnExactNormalClosureRow : OpenClaim := { program := "ytcohfmglfmomcaa", sum := "40c54ba52e6cdde411dd9ab1b9c7249e184876514519139f5cef21e2de52153c", func := "loop.example/g01076/laws.FnExactNormalClosure", spec := "fnExactNormalClosure", unfollowed := true, recurses := true, apart := false }
def FnExactNormalClosureSaid : Prop := fnExactNormalClosureRow.holds Try.pinned (OpenSpec.ofChange fnExactNormalClosureSpec)

/-- ITS FALSE NEIGHBOUR: 'it returns false'. Refute it at one input. -/
def fnExactNormalClosureWrong : ChangeSpec := { name := "fnExactNormalClosure", fn := fun _ => fun
  | [d1, d2] => { results := [.lit (.bool false)], args := [d1, d2] }
  | _ => none }
def FnExactNormalClosureWrongFalsely : Prop := fnExactNormalClosureRow.holds Try.pinned (OpenSpec.ofChange fnExactNormalClosureWrong)

/-- 'laws.FnExactCommutatorSubgroup': WHATEVER THE INPUT: true; the input reads as it did. -/
def fnExactCommutatorSubgroupSpec : ChangeSpec := { name := "fnExactCommutatorSubgroup", fn := fun _ => fun
  | [d1, d2, d3] => { results := [.lit (.bool true)], args := [d1, d2, d3] }
  | _ => none }
def fnExactCommutatorSubgroupRow : OpenClaim := { program := "ytcohfmglfmomcaa", sum := "40c54ba52e6cdde411dd9ab1b9c7249e184876514519139f5cef21e2de52153c", func := "loop.example/g01076/laws.FnExactCommutatorSubgroup", spec := "fnExactCommutatorSubgroup", unfollowed := true, recurses := true, apart := false }
def FnExactCommutatorSubgroupSaid : Prop := fnExactCommutatorSubgroupRow.holds Try.pinned (OpenSpec.ofChange fnExactCommutatorSubgroupSpec)

/-- ITS FALSE NEIGHBOUR: 'it returns false'. Refute it at one input. -/
def fnExactCommutatorSubgroupWrong : ChangeSpec := { name := "fnExactCommutatorSubgroup", fn := fun _ => fun
  | [d1, d2, d3] => { results := [.lit (.bool false)], args := [d1, d2, d3] }
  | _ => none }
def FnExactCommutatorSubgroupWrongFalsely : Prop := fnExactCommutatorSubgroupRow.holds Try.pinned (OpenSpec.ofChange fnExactCommutatorSubgroupWrong)

/-- 'laws.FnExactDerivedSeries': WHATEVER THE INPUT: true; the input reads as it did. -/
def fnExactDerivedSeriesSpec : ChangeSpec := { name := "fnExactDerivedSeries", fn := fun _ => fun
  | [d] => { results := [.lit (.bool true)], args := [d] }
  | _ => none }
def fnExactDerivedSeriesRow : OpenClaim := { program := "ytcohfmglfmomcaa", sum := "40c54ba52e6cdde411dd9ab1b9c7249e184876514519139f5cef21e2de52153c", func := "loop.example/g01076/laws.FnExactDerivedSeries", spec := "fnExactDerivedSeries", unfollowed := true, recurses := true, apart := false }
def FnExactDerivedSeriesSaid : Prop := fnExactDerivedSeriesRow.holds Try.pinned (OpenSpec.ofChange fnExactDerivedSeriesSpec)

/-- ITS FALSE NEIGHBOUR: 'it returns false'. Refute it at one input. -/
def fnExactDerivedSeriesWrong : ChangeSpec := { name := "fnExactDerivedSeries", fn := fun _ => fun
  | [d] => { results := [.lit (.bool false)], args := [d] }
  | _ => none }
def FnExactDerivedSeriesWrongFalsely : Prop := fnExactDerivedSeriesRow.holds Try.pinned (OpenSpec.ofChange fnExactDerivedSeriesWrong)

/-- 'laws.FnExactLowerCentralSeries': WHATEVER THE INPUT: true; the input reads as it did. -/
def fnExactLowerCentralSeriesSpec : ChangeSpec := { name := "fnExactLowerCentralSeries", fn := fun _ => fun
  | [d] => { results := [.lit (.bool true)], args := [d] }
  | _ => none }
def fnExactLowerCentralSeriesRow : OpenClaim := { program := "ytcohfmglfmomcaa", sum := "40c54ba52e6cdde411dd9ab1b9c7249e184876514519139f5cef21e2de52153c", func := "loop.example/g01076/laws.FnExactLowerCentralSeries", spec := "fnExactLowerCentralSeries", unfollowed := true, recurses := true, apart := false }
def FnExactLowerCentralSeriesSaid : Prop := fnExactLowerCentralSeriesRow.holds Try.pinned (OpenSpec.ofChange fnExactLowerCentralSeriesSpec)

/-- ITS FALSE NEIGHBOUR: 'it returns false'. Refute it at one input. -/
def fnExactLowerCentralSeriesWrong : ChangeSpec := { name := "fnExactLowerCentralSeries", fn := fun _ => fun
  | [d] => { results := [.lit (.bool false)], args := [d] }
  | _ => none }
def FnExactLowerCentralSeriesWrongFalsely : Prop := fnExactLowerCentralSeriesRow.holds Try.pinned (OpenSpec.ofChange fnExactLowerCentralSeriesWrong)

/-- 'laws.FnExactNilpotencyClass': WHATEVER THE INPUT: true; the input reads as it did. -/
def fnExactNilpotencyClassSpec : ChangeSpec := { name := "fnExactNilpotencyClass", fn := fun _ => fun
  | [d] => { results := [.lit (.bool true)], args := [d] }
  | _ => none }
def fnExactNilpotencyClassRow : OpenClaim := { program := "ytcohfmglfmomcaa", sum := "40c54ba52e6cdde411dd9ab1b9c7249e184876514519139f5cef21e2de52153c", func := "loop.example/g01076/laws.FnExactNilpotencyClass", spec := "fnExactNilpotencyClass", unfollowed := true, recurses := true, apart := false }
def FnExactNilpotencyClassSaid : Prop := fnExactNilpotencyClassRow.holds Try.pinned (OpenSpec.ofChange fnExactNilpotencyClassSpec)

/-- ITS FALSE NEIGHBOUR: 'it returns false'. Refute it at one input. -/
def fnExactNilpotencyClassWrong : ChangeSpec := { name := "fnExactNilpotencyClass", fn := fun _ => fun
  | [d] => { results := [.lit (.bool false)], args := [d] }
  | _ => none }
def FnExactNilpotencyClassWrongFalsely : Prop := fnExactNilpotencyClassRow.holds Try.pinned (OpenSpec.ofChange fnExactNilpotencyClassWrong)

/-- 'laws.FnExactPowerSubgroup': WHATEVER THE INPUT: true; the input reads as it did. -/
def fnExactPowerSubgroupSpec : ChangeSpec := { name := "fnExactPowerSubgroup", fn := fun _ => fun
  | [d1, d2] => { results := [.lit (.bool true)], args := [d1, d2] }
  | _ => none }
def fnExactPowerSubgroupRow : OpenClaim := { program := "ytcohfmglfmomcaa", sum := "40c54ba52e6cdde411dd9ab1b9c7249e184876514519139f5cef21e2de52153c", func := "loop.example/g01076/laws.FnExactPowerSubgroup", spec := "fnExactPowerSubgroup", unfollowed := true, recurses := true, apart := false }
def FnExactPowerSubgroupSaid : Prop := fnExactPowerSubgroupRow.holds Try.pinned (OpenSpec.ofChange fnExactPowerSubgroupSpec)

/-- ITS FALSE NEIGHBOUR: 'it returns false'. Refute it at one input. -/
def fnExactPowerSubgroupWrong : ChangeSpec := { name := "fnExactPowerSubgroup", fn := fun _ => fun
  | [d1, d2] => { results := [.lit (.bool false)], args := [d1, d2] }
  | _ => none }
def FnExactPowerSubgroupWrongFalsely : Prop := fnExactPowerSubgroupRow.holds Try.pinned (OpenSpec.ofChange fnExactPowerSubgroupWrong)

/-- 'laws.FnExactOrderSubgroup': WHATEVER THE INPUT: true; the input reads as it did. -/
def fnExactOrderSubgroupSpec : ChangeSpec := { name := "fnExactOrderSubgroup", fn := fun _ => fun
  | [d1, d2] => { results := [.lit (.bool true)], args := [d1, d2] }
  | _ => none }
def fnExactOrderSubgroupRow : OpenClaim := { program := "ytcohfmglfmomcaa", sum := "40c54ba52e6cdde411dd9ab1b9c7249e184876514519139f5cef21e2de52153c", func := "loop.example/g01076/laws.FnExactOrderSubgroup", spec := "fnExactOrderSubgroup", unfollowed := true, recurses := true, apart := false }
def FnExactOrderSubgroupSaid : Prop := fnExactOrderSubgroupRow.holds Try.pinned (OpenSpec.ofChange fnExactOrderSubgroupSpec)

/-- ITS FALSE NEIGHBOUR: 'it returns false'. Refute it at one input. -/
def fnExactOrderSubgroupWrong : ChangeSpec := { name := "fnExactOrderSubgroup", fn := fun _ => fun
  | [d1, d2] => { results := [.lit (.bool false)], args := [d1, d2] }
  | _ => none }
def FnExactOrderSubgroupWrongFalsely : Prop := fnExactOrderSubgroupRow.holds Try.pinned (OpenSpec.ofChange fnExactOrderSubgroupWrong)

/-- 'laws.FnExactCenter': WHATEVER THE INPUT: true; the input reads as it did. -/
def fnExactCenterSpec : ChangeSpec := { name := "fnExactCenter", fn := fun _ => fun
  | [d] => { results := [.lit (.bool true)], args := [d] }
  | _ => none }
def fnExactCenterRow : OpenClaim := { program := "ytcohfmglfmomcaa", sum := "40c54ba52e6cdde411dd9ab1b9c7249e184876514519139f5cef21e2de52153c", func := "loop.example/g01076/laws.FnExactCenter", spec := "fnExactCenter", unfollowed := true, recurses := true, apart := false }
def FnExactCenterSaid : Prop := fnExactCenterRow.holds Try.pinned (OpenSpec.ofChange fnExactCenterSpec)

/-- ITS FALSE NEIGHBOUR: 'it returns false'. Refute it at one input. -/
def fnExactCenterWrong : ChangeSpec := { name := "fnExactCenter", fn := fun _ => fun
  | [d] => { results := [.lit (.bool false)], args := [d] }
  | _ => none }
def FnExactCenterWrongFalsely : Prop := fnExactCenterRow.holds Try.pinned (OpenSpec.ofChange fnExactCenterWrong)

/- THE SECOND FORM. 'bulk': how many values and letters a reading holds, each counted each time it is reached (what is shared counts as often as it is met; a slice's spare places count too). A statement '..UptoSaid' is the law's where the arguments, and the package variables that the reading takes, are together of bulk at most 1048576: NARROWER than '..Said'. Prove '..Said' where nothing that the law and all that it calls make is longer than what came in: it says more and counts as full. Else prove '..UptoSaid'. A law counts once. -/
mutual
def uptoBulk {H : Type} : DataW H → Nat
  | .lit (.string bytes) => bytes.length + 1
  | .lit _ => 1
  | .nil => 1
  | .ptr d => uptoBulk d + 1
  | .slice elems spare => uptoBulkAll elems + uptoBulkAll spare + 1
  | .agg parts => uptoBulkAll parts + 1
  | .iface _ d => uptoBulk d + 1
  | .map entries => uptoBulkEntries entries + 1
  | .held _ => 1
def uptoBulkAll {H : Type} : List (DataW H) → Nat
  | [] => 0
  | d :: r => uptoBulk d + uptoBulkAll r
def uptoBulkEntries {H : Type} : List (Lit × DataW H) → Nat
  | [] => 0
  | x :: r => uptoBulkEntry x + uptoBulkEntries r
def uptoBulkEntry {H : Type} : Lit × DataW H → Nat
  | (.string bytes, d) => bytes.length + uptoBulk d + 1
  | (_, d) => uptoBulk d + 1
 end
def uptoSmall : (H : Type) → List (DataW H) → Bool := fun _ ds => decide (uptoBulkAll ds ≤ 1048576)
def OpenSpec.upto (s : _root_.Go.ChangeSpec) : _root_.Go.OpenSpec := { _root_.Go.OpenSpec.ofChange s with cond := some uptoSmall }

/-- 'laws.FnExactSubgroupJoin', WHERE WHAT IT READS IS OF BULK AT MOST 1048576: true; the input reads as it did. -/
def fnExactSubgroupJoinUptoRow : OpenClaim := { program := "ytcohfmglfmomcaa", sum := "40c54ba52e6cdde411dd9ab1b9c7249e184876514519139f5cef21e2de52153c", func := "loop.example/g01076/laws.FnExactSubgroupJoin", spec := "fnExactSubgroupJoin", unfollowed := true, recurses := true, apart := false, narrowed := true }
def FnExactSubgroupJoinUptoSaid : Prop := fnExactSubgroupJoinUptoRow.holds Try.pinned (OpenSpec.upto fnExactSubgroupJoinSpec)

/-- 'laws.FnExactNormalClosure', WHERE WHAT IT READS IS OF BULK AT MOST 1048576: true; the input reads as it did. -/
def fnExactNormalClosureUptoRow : OpenClaim := { program := "ytcohfmglfmomcaa", sum := "40c54ba52e6cdde411dd9ab1b9c7249e184876514519139f5cef21e2de52153c", func := "loop.example/g01076/laws.FnExactNormalClosure", spec := "fnExactNormalClosure", unfollowed := true, recurses := true, apart := false, narrowed := true }
def FnExactNormalClosureUptoSaid : Prop := fnExactNormalClosureUptoRow.holds Try.pinned (OpenSpec.upto fnExactNormalClosureSpec)

/-- 'laws.FnExactCommutatorSubgroup', WHERE WHAT IT READS IS OF BULK AT MOST 1048576: true; the input reads as it did. -/
def fnExactCommutatorSubgroupUptoRow : OpenClaim := { program := "ytcohfmglfmomcaa", sum := "40c54ba52e6cdde411dd9ab1b9c7249e184876514519139f5cef21e2de52153c", func := "loop.example/g01076/laws.FnExactCommutatorSubgroup", spec := "fnExactCommutatorSubgroup", unfollowed := true, recurses := true, apart := false, narrowed := true }
def FnExactCommutatorSubgroupUptoSaid : Prop := fnExactCommutatorSubgroupUptoRow.holds Try.pinned (OpenSpec.upto fnExactCommutatorSubgroupSpec)

/-- 'laws.FnExactDerivedSeries', WHERE WHAT IT READS IS OF BULK AT MOST 1048576: true; the input reads as it did. -/
def fnExactDerivedSeriesUptoRow : OpenClaim := { program := "ytcohfmglfmomcaa", sum := "40c54ba52e6cdde411dd9ab1b9c7249e184876514519139f5cef21e2de52153c", func := "loop.example/g01076/laws.FnExactDerivedSeries", spec := "fnExactDerivedSeries", unfollowed := true, recurses := true, apart := false, narrowed := true }
def FnExactDerivedSeriesUptoSaid : Prop := fnExactDerivedSeriesUptoRow.holds Try.pinned (OpenSpec.upto fnExactDerivedSeriesSpec)

/-- 'laws.FnExactLowerCentralSeries', WHERE WHAT IT READS IS OF BULK AT MOST 1048576: true; the input reads as it did. -/
def fnExactLowerCentralSeriesUptoRow : OpenClaim := { program := "ytcohfmglfmomcaa", sum := "40c54ba52e6cdde411dd9ab1b9c7249e184876514519139f5cef21e2de52153c", func := "loop.example/g01076/laws.FnExactLowerCentralSeries", spec := "fnExactLowerCentralSeries", unfollowed := true, recurses := true, apart := false, narrowed := true }
def FnExactLowerCentralSeriesUptoSaid : Prop := fnExactLowerCentralSeriesUptoRow.holds Try.pinned (OpenSpec.upto fnExactLowerCentralSeriesSpec)

/-- 'laws.FnExactNilpotencyClass', WHERE WHAT IT READS IS OF BULK AT MOST 1048576: true; the input reads as it did. -/
def fnExactNilpotencyClassUptoRow : OpenClaim := { program := "ytcohfmglfmomcaa", sum := "40c54ba52e6cdde411dd9ab1b9c7249e184876514519139f5cef21e2de52153c", func := "loop.example/g01076/laws.FnExactNilpotencyClass", spec := "fnExactNilpotencyClass", unfollowed := true, recurses := true, apart := false, narrowed := true }
def FnExactNilpotencyClassUptoSaid : Prop := fnExactNilpotencyClassUptoRow.holds Try.pinned (OpenSpec.upto fnExactNilpotencyClassSpec)

/-- 'laws.FnExactPowerSubgroup', WHERE WHAT IT READS IS OF BULK AT MOST 1048576: true; the input reads as it did. -/
def fnExactPowerSubgroupUptoRow : OpenClaim := { program := "ytcohfmglfmomcaa", sum := "40c54ba52e6cdde411dd9ab1b9c7249e184876514519139f5cef21e2de52153c", func := "loop.example/g01076/laws.FnExactPowerSubgroup", spec := "fnExactPowerSubgroup", unfollowed := true, recurses := true, apart := false, narrowed := true }
def FnExactPowerSubgroupUptoSaid : Prop := fnExactPowerSubgroupUptoRow.holds Try.pinned (OpenSpec.upto fnExactPowerSubgroupSpec)

/-- 'laws.FnExactOrderSubgroup', WHERE WHAT IT READS IS OF BULK AT MOST 1048576: true; the input reads as it did. -/
def fnExactOrderSubgroupUptoRow : OpenClaim := { program := "ytcohfmglfmomcaa", sum := "40c54ba52e6cdde411dd9ab1b9c7249e184876514519139f5cef21e2de52153c", func := "loop.example/g01076/laws.FnExactOrderSubgroup", spec := "fnExactOrderSubgroup", unfollowed := true, recurses := true, apart := false, narrowed := true }
def FnExactOrderSubgroupUptoSaid : Prop := fnExactOrderSubgroupUptoRow.holds Try.pinned (OpenSpec.upto fnExactOrderSubgroupSpec)

/-- 'laws.FnExactCenter', WHERE WHAT IT READS IS OF BULK AT MOST 1048576: true; the input reads as it did. -/
def fnExactCenterUptoRow : OpenClaim := { program := "ytcohfmglfmomcaa", sum := "40c54ba52e6cdde411dd9ab1b9c7249e184876514519139f5cef21e2de52153c", func := "loop.example/g01076/laws.FnExactCenter", spec := "fnExactCenter", unfollowed := true, recurses := true, apart := false, narrowed := true }
def FnExactCenterUptoSaid : Prop := fnExactCenterUptoRow.holds Try.pinned (OpenSpec.upto fnExactCenterSpec)

end Rows
end Go.Proofs.Ytcohfmglfmomcaa
