/-
  No cell of these rows narrows 'for every input' (looked for: loops, veiled, ifaces, maps, wideKeys, modest, calm, conditions, laid).
  DERIVED. THE GIVEN ROWS OF THIS SEAT. 8 by the template 'for every input the law returns true; each argument reads behind the call as it read before'; 0 by the template 'total and deterministic' (their statements: YtjljbfcdpdckeaaTotals.lean).
  GIVEN WITH THE SEED: the statements are not yours to turn. If you find one false, say at which input.
  Laid BY PROGRAM, IN A SANDBOX (cutbox-rows.mjs): the forced cells as the released guide's own fill.sh prints them over the translation 6b2b1788c20aec2e… (all of the seat's roots in one cut). By AI agents, Wed Nov 11 2026. No macro, syntax, notation, axiom, sorry.
-/
import Derived.Test.YtjljbfcdpdckeaaChecked
import GoSem.Claim
import GoSem.ClaimJoined
import GoSem.ClaimMapViews
import Derived.JoinedTies
import Derived.KernelRfl
namespace Go.Proofs.Ytjljbfcdpdckeaa
/- THE CELL 'sum', in the pinned program and in every row, IS THE sha256 OF THE DUMP (.gsa) THAT YtjljbfcdpdckeaaProg.lean LOADS. Nothing in Lean hashes anything: it is a label: what it is worth is what the hold of that sum in a sandbox is worth. -/
noncomputable def Try.pinned : Pinned := { name := "ytjljbfcdpdckeaa", sum := "6b2b1788c20aec2ebcbf1ce18480913809914efe190347f72f14b3e1bc0e106e", checked := Try.checked }
namespace Rows
def none {H : Type} : Left H := { results := [], args := [] }

/-- 'laws.FnExactClassNumber': WHATEVER THE INPUT: true; the input reads as it did. -/
def fnExactClassNumberSpec : ChangeSpec := { name := "fnExactClassNumber", fn := fun _ => fun
  | [d1, d2] => { results := [.lit (.bool true)], args := [d1, d2] }
  | _ => none }
def fnExactClassNumberRow : OpenClaim := { program := "ytjljbfcdpdckeaa", sum := "6b2b1788c20aec2ebcbf1ce18480913809914efe190347f72f14b3e1bc0e106e", func := "loop.example/g01076/laws.FnExactClassNumber", spec := "fnExactClassNumber", unfollowed := true, recurses := true, apart := false }
def FnExactClassNumberSaid : Prop := fnExactClassNumberRow.holds Try.pinned (OpenSpec.ofChange fnExactClassNumberSpec)

/-- ITS FALSE NEIGHBOUR: 'it returns false'. Refute it at one input. -/
def fnExactClassNumberWrong : ChangeSpec := { name := "fnExactClassNumber", fn := fun _ => fun
  | [d1, d2] => { results := [.lit (.bool false)], args := [d1, d2] }
  | _ => none }
def FnExactClassNumberWrongFalsely : Prop := fnExactClassNumberRow.holds Try.pinned (OpenSpec.ofChange fnExactClassNumberWrong)

/-- 'laws.FnProductsCollected': WHATEVER THE INPUT: true; the input reads as it did. -/
def fnProductsCollectedSpec : ChangeSpec := { name := "fnProductsCollected", fn := fun _ => fun
  | [d] => { results := [.lit (.bool true)], args := [d] }
  | _ => none }
def fnProductsCollectedRow : OpenClaim := { program := "ytjljbfcdpdckeaa", sum := "6b2b1788c20aec2ebcbf1ce18480913809914efe190347f72f14b3e1bc0e106e", func := "loop.example/g01076/laws.FnProductsCollected", spec := "fnProductsCollected", recurses := true, apart := false }
def FnProductsCollectedSaid : Prop := fnProductsCollectedRow.holds Try.pinned (OpenSpec.ofChange fnProductsCollectedSpec)

/-- ITS FALSE NEIGHBOUR: 'it returns false'. Refute it at one input. -/
def fnProductsCollectedWrong : ChangeSpec := { name := "fnProductsCollected", fn := fun _ => fun
  | [d] => { results := [.lit (.bool false)], args := [d] }
  | _ => none }
def FnProductsCollectedWrongFalsely : Prop := fnProductsCollectedRow.holds Try.pinned (OpenSpec.ofChange fnProductsCollectedWrong)

/-- 'laws.FnFaults': WHATEVER THE INPUT: true; the input reads as it did. -/
def fnFaultsSpec : ChangeSpec := { name := "fnFaults", fn := fun _ => fun
  | [d] => { results := [.lit (.bool true)], args := [d] }
  | _ => none }
def fnFaultsRow : OpenClaim := { program := "ytjljbfcdpdckeaa", sum := "6b2b1788c20aec2ebcbf1ce18480913809914efe190347f72f14b3e1bc0e106e", func := "loop.example/g01076/laws.FnFaults", spec := "fnFaults", recurses := true, apart := false }
def FnFaultsSaid : Prop := fnFaultsRow.holds Try.pinned (OpenSpec.ofChange fnFaultsSpec)

/-- ITS FALSE NEIGHBOUR: 'it returns false'. Refute it at one input. -/
def fnFaultsWrong : ChangeSpec := { name := "fnFaults", fn := fun _ => fun
  | [d] => { results := [.lit (.bool false)], args := [d] }
  | _ => none }
def FnFaultsWrongFalsely : Prop := fnFaultsRow.holds Try.pinned (OpenSpec.ofChange fnFaultsWrong)

/-- 'laws.FnConjugation': WHATEVER THE INPUT: true; the input reads as it did. -/
def fnConjugationSpec : ChangeSpec := { name := "fnConjugation", fn := fun _ => fun
  | [d] => { results := [.lit (.bool true)], args := [d] }
  | _ => none }
def fnConjugationRow : OpenClaim := { program := "ytjljbfcdpdckeaa", sum := "6b2b1788c20aec2ebcbf1ce18480913809914efe190347f72f14b3e1bc0e106e", func := "loop.example/g01076/laws.FnConjugation", spec := "fnConjugation", recurses := true, apart := false }
def FnConjugationSaid : Prop := fnConjugationRow.holds Try.pinned (OpenSpec.ofChange fnConjugationSpec)

/-- ITS FALSE NEIGHBOUR: 'it returns false'. Refute it at one input. -/
def fnConjugationWrong : ChangeSpec := { name := "fnConjugation", fn := fun _ => fun
  | [d] => { results := [.lit (.bool false)], args := [d] }
  | _ => none }
def FnConjugationWrongFalsely : Prop := fnConjugationRow.holds Try.pinned (OpenSpec.ofChange fnConjugationWrong)

/-- 'laws.FnExactCommutingPairs': WHATEVER THE INPUT: true; the input reads as it did. -/
def fnExactCommutingPairsSpec : ChangeSpec := { name := "fnExactCommutingPairs", fn := fun _ => fun
  | [d] => { results := [.lit (.bool true)], args := [d] }
  | _ => none }
def fnExactCommutingPairsRow : OpenClaim := { program := "ytjljbfcdpdckeaa", sum := "6b2b1788c20aec2ebcbf1ce18480913809914efe190347f72f14b3e1bc0e106e", func := "loop.example/g01076/laws.FnExactCommutingPairs", spec := "fnExactCommutingPairs", unfollowed := true, recurses := true, apart := false }
def FnExactCommutingPairsSaid : Prop := fnExactCommutingPairsRow.holds Try.pinned (OpenSpec.ofChange fnExactCommutingPairsSpec)

/-- ITS FALSE NEIGHBOUR: 'it returns false'. Refute it at one input. -/
def fnExactCommutingPairsWrong : ChangeSpec := { name := "fnExactCommutingPairs", fn := fun _ => fun
  | [d] => { results := [.lit (.bool false)], args := [d] }
  | _ => none }
def FnExactCommutingPairsWrongFalsely : Prop := fnExactCommutingPairsRow.holds Try.pinned (OpenSpec.ofChange fnExactCommutingPairsWrong)

/-- 'laws.FnExactOrderCounts': WHATEVER THE INPUT: true; the input reads as it did. -/
def fnExactOrderCountsSpec : ChangeSpec := { name := "fnExactOrderCounts", fn := fun _ => fun
  | [d] => { results := [.lit (.bool true)], args := [d] }
  | _ => none }
def fnExactOrderCountsRow : OpenClaim := { program := "ytjljbfcdpdckeaa", sum := "6b2b1788c20aec2ebcbf1ce18480913809914efe190347f72f14b3e1bc0e106e", func := "loop.example/g01076/laws.FnExactOrderCounts", spec := "fnExactOrderCounts", unfollowed := true, recurses := true, apart := false }
def FnExactOrderCountsSaid : Prop := fnExactOrderCountsRow.holds Try.pinned (OpenSpec.ofChange fnExactOrderCountsSpec)

/-- ITS FALSE NEIGHBOUR: 'it returns false'. Refute it at one input. -/
def fnExactOrderCountsWrong : ChangeSpec := { name := "fnExactOrderCounts", fn := fun _ => fun
  | [d] => { results := [.lit (.bool false)], args := [d] }
  | _ => none }
def FnExactOrderCountsWrongFalsely : Prop := fnExactOrderCountsRow.holds Try.pinned (OpenSpec.ofChange fnExactOrderCountsWrong)

/-- 'laws.FnPowersAndOrders': WHATEVER THE INPUT: true; the input reads as it did. -/
def fnPowersAndOrdersSpec : ChangeSpec := { name := "fnPowersAndOrders", fn := fun _ => fun
  | [d] => { results := [.lit (.bool true)], args := [d] }
  | _ => none }
def fnPowersAndOrdersRow : OpenClaim := { program := "ytjljbfcdpdckeaa", sum := "6b2b1788c20aec2ebcbf1ce18480913809914efe190347f72f14b3e1bc0e106e", func := "loop.example/g01076/laws.FnPowersAndOrders", spec := "fnPowersAndOrders", recurses := true, apart := false }
def FnPowersAndOrdersSaid : Prop := fnPowersAndOrdersRow.holds Try.pinned (OpenSpec.ofChange fnPowersAndOrdersSpec)

/-- ITS FALSE NEIGHBOUR: 'it returns false'. Refute it at one input. -/
def fnPowersAndOrdersWrong : ChangeSpec := { name := "fnPowersAndOrders", fn := fun _ => fun
  | [d] => { results := [.lit (.bool false)], args := [d] }
  | _ => none }
def FnPowersAndOrdersWrongFalsely : Prop := fnPowersAndOrdersRow.holds Try.pinned (OpenSpec.ofChange fnPowersAndOrdersWrong)

/-- 'laws.FnExactConjugacyClass': WHATEVER THE INPUT: true; the input reads as it did. -/
def fnExactConjugacyClassSpec : ChangeSpec := { name := "fnExactConjugacyClass", fn := fun _ => fun
  | [d1, d2] => { results := [.lit (.bool true)], args := [d1, d2] }
  | _ => none }
def fnExactConjugacyClassRow : OpenClaim := { program := "ytjljbfcdpdckeaa", sum := "6b2b1788c20aec2ebcbf1ce18480913809914efe190347f72f14b3e1bc0e106e", func := "loop.example/g01076/laws.FnExactConjugacyClass", spec := "fnExactConjugacyClass", unfollowed := true, recurses := true, apart := false }
def FnExactConjugacyClassSaid : Prop := fnExactConjugacyClassRow.holds Try.pinned (OpenSpec.ofChange fnExactConjugacyClassSpec)

/-- ITS FALSE NEIGHBOUR: 'it returns false'. Refute it at one input. -/
def fnExactConjugacyClassWrong : ChangeSpec := { name := "fnExactConjugacyClass", fn := fun _ => fun
  | [d1, d2] => { results := [.lit (.bool false)], args := [d1, d2] }
  | _ => none }
def FnExactConjugacyClassWrongFalsely : Prop := fnExactConjugacyClassRow.holds Try.pinned (OpenSpec.ofChange fnExactConjugacyClassWrong)

/- THE SECOND FORM. 'bulk': how many values and letters a reading holds, each counted each time it is reached (what is shared counts as often as it is met; a slice's spare places count too). A statement '..UptoSaid' is the law's where the arguments, and the package variables that the reading takes, are together of bulk at most 1048576: NARROWER than '..Said'. Prove '..Said' where nothing that the law and all that it calls make is longer than what came in: it says more and counts as full. Else prove '..UptoSaid'. A law counts once. -/
mutual
def uptoBulk {H : Type} : DataW H → Nat
  | .lit (.string bytes) => bytes.length + 1
  | .lit _ => 1
  | .nil => 1
  | .ptr d => uptoBulk d + 1
  | .slice elems spare => uptoBulkAll elems + uptoBulkAll spare + 1
  | .agg parts => uptoBulkAll parts + 1
  | .iface _ d => uptoBulk d + 1
  | .map entries => uptoBulkEntries entries + 1
  | .held _ => 1
def uptoBulkAll {H : Type} : List (DataW H) → Nat
  | [] => 0
  | d :: r => uptoBulk d + uptoBulkAll r
def uptoBulkEntries {H : Type} : List (Lit × DataW H) → Nat
  | [] => 0
  | x :: r => uptoBulkEntry x + uptoBulkEntries r
def uptoBulkEntry {H : Type} : Lit × DataW H → Nat
  | (.string bytes, d) => bytes.length + uptoBulk d + 1
  | (_, d) => uptoBulk d + 1
 end
def uptoSmall : (H : Type) → List (DataW H) → Bool := fun _ ds => decide (uptoBulkAll ds ≤ 1048576)
def OpenSpec.upto (s : _root_.Go.ChangeSpec) : _root_.Go.OpenSpec := { _root_.Go.OpenSpec.ofChange s with cond := some uptoSmall }

/-- 'laws.FnExactClassNumber', WHERE WHAT IT READS IS OF BULK AT MOST 1048576: true; the input reads as it did. -/
def fnExactClassNumberUptoRow : OpenClaim := { program := "ytjljbfcdpdckeaa", sum := "6b2b1788c20aec2ebcbf1ce18480913809914efe190347f72f14b3e1bc0e106e", func := "loop.example/g01076/laws.FnExactClassNumber", spec := "fnExactClassNumber", unfollowed := true, recurses := true, apart := false, narrowed := true }
def FnExactClassNumberUptoSaid : Prop := fnExactClassNumberUptoRow.holds Try.pinned (OpenSpec.upto fnExactClassNumberSpec)

/-- 'laws.FnProductsCollected', WHERE WHAT IT READS IS OF BULK AT MOST 1048576: true; the input reads as it did. -/
def fnProductsCollectedUptoRow : OpenClaim := { program := "ytjljbfcdpdckeaa", sum := "6b2b1788c20aec2ebcbf1ce18480913809914efe190347f72f14b3e1bc0e106e", func := "loop.example/g01076/laws.FnProductsCollected", spec := "fnProductsCollected", recurses := true, apart := false, narrowed := true }
def FnProductsCollectedUptoSaid : Prop := fnProductsCollectedUptoRow.holds Try.pinned (OpenSpec.upto fnProductsCollectedSpec)

/-- 'laws.FnFaults', WHERE WHAT IT READS IS OF BULK AT MOST 1048576: true; the input reads as it did. -/
def fnFaultsUptoRow : OpenClaim := { program := "ytjljbfcdpdckeaa", sum := "6b2b1788c20aec2ebcbf1ce18480913809914efe190347f72f14b3e1bc0e106e", func := "loop.example/g01076/laws.FnFaults", spec := "fnFaults", recurses := true, apart := false, narrowed := true }
def FnFaultsUptoSaid : Prop := fnFaultsUptoRow.holds Try.pinned (OpenSpec.upto fnFaultsSpec)

/-- 'laws.FnConjugation', WHERE WHAT IT READS IS OF BULK AT MOST 1048576: true; the input reads as it did. -/
def fnConjugationUptoRow : OpenClaim := { program := "ytjljbfcdpdckeaa", sum := "6b2b1788c20aec2ebcbf1ce18480913809914efe190347f72f14b3e1bc0e106e", func := "loop.example/g01076/laws.FnConjugation", spec := "fnConjugation", recurses := true, apart := false, narrowed := true }
def FnConjugationUptoSaid : Prop := fnConjugationUptoRow.holds Try.pinned (OpenSpec.upto fnConjugationSpec)

/-- 'laws.FnExactCommutingPairs', WHERE WHAT IT READS IS OF BULK AT MOST 1048576: true; the input reads as it did. -/
def fnExactCommutingPairsUptoRow : OpenClaim := { program := "ytjljbfcdpdckeaa", sum := "6b2b1788c20aec2ebcbf1ce18480913809914efe190347f72f14b3e1bc0e106e", func := "loop.example/g01076/laws.FnExactCommutingPairs", spec := "fnExactCommutingPairs", unfollowed := true, recurses := true, apart := false, narrowed := true }
def FnExactCommutingPairsUptoSaid : Prop := fnExactCommutingPairsUptoRow.holds Try.pinned (OpenSpec.upto fnExactCommutingPairsSpec)

/-- 'laws.FnExactOrderCounts', WHERE WHAT IT READS IS OF BULK AT MOST 1048576: true; the input reads as it did. -/
def fnExactOrderCountsUptoRow : OpenClaim := { program := "ytjljbfcdpdckeaa", sum := "6b2b1788c20aec2ebcbf1ce18480913809914efe190347f72f14b3e1bc0e106e", func := "loop.example/g01076/laws.FnExactOrderCounts", spec := "fnExactOrderCounts", unfollowed := true, recurses := true, apart := false, narrowed := true }
def FnExactOrderCountsUptoSaid : Prop := fnExactOrderCountsUptoRow.holds Try.pinned (OpenSpec.upto fnExactOrderCountsSpec)

/-- 'laws.FnPowersAndOrders', WHERE WHAT IT READS IS OF BULK AT MOST 1048576: true; the input reads as it did. -/
def fnPowersAndOrdersUptoRow : OpenClaim := { program := "ytjljbfcdpdckeaa", sum := "6b2b1788c20aec2ebcbf1ce18480913809914efe190347f72f14b3e1bc0e106e", func := "loop.example/g01076/laws.FnPowersAndOrders", spec := "fnPowersAndOrders", recurses := true, apart := false, narrowed := true }
def FnPowersAndOrdersUptoSaid : Prop := fnPowersAndOrdersUptoRow.holds Try.pinned (OpenSpec.upto fnPowersAndOrdersSpec)

/-- 'laws.FnExactConjugacyClass', WHERE WHAT IT READS IS OF BULK AT MOST 1048576: true; the input reads as it did. -/
def fnExactConjugacyClassUptoRow : OpenClaim := { program := "ytjljbfcdpdckeaa", sum := "6b2b1788c20aec2ebcbf1ce18480913809914efe190347f72f14b3e1bc0e106e", func := "loop.example/g01076/laws.FnExactConjugacyClass", spec := "fnExactConjugacyClass", unfollowed := true, recurses := true, apart := false, narrowed := true }
def FnExactConjugacyClassUptoSaid : Prop := fnExactConjugacyClassUptoRow.holds Try.pinned (OpenSpec.upto fnExactConjugacyClassSpec)

end Rows
end Go.Proofs.Ytjljbfcdpdckeaa
