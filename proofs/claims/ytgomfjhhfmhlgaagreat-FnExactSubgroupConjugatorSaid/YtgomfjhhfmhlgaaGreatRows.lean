/-
  No cell of these rows narrows 'for every input' (looked for: loops, veiled, ifaces, maps, wideKeys, modest, calm, conditions, laid).
  DERIVED. THE GIVEN ROWS OF THIS SEAT. 3 by the template 'for every input the law returns true; each argument reads behind the call as it read before'; 0 by the template 'total and deterministic' (their statements: YtgomfjhhfmhlgaaGreatTotals.lean).
  GIVEN WITH THE SEED: the statements are not yours to turn. If you find one false, say at which input.
  Laid BY PROGRAM, IN A SANDBOX (cutbox-rows.mjs): the forced cells as the released guide's own fill.sh prints them over the translation 6fee695b4b9cdf7e… (all of the seat's roots in one cut). By AI agents, Wed Nov 11 2026. No macro, syntax, notation, axiom, sorry.
-/
import Derived.Test.YtgomfjhhfmhlgaaGreatChecked
import GoSem.Claim
import GoSem.ClaimJoined
import GoSem.ClaimMapViews
import Derived.JoinedTies
import Derived.KernelRfl
namespace Go.Proofs.YtgomfjhhfmhlgaaGreat
/- THE CELL 'sum', in the pinned program and in every row, IS THE sha256 OF THE DUMP (.gsa) THAT YtgomfjhhfmhlgaaGreatProg.lean LOADS. Nothing in Lean hashes anything: it is a label: what it is worth is what the hold of that sum in a sandbox is worth. -/
noncomputable def Tryz.pinned : Pinned := { name := "ytgomfjhhfmhlgaagreat", sum := "6fee695b4b9cdf7e7b444c8e5ad98dcf7588073a56ee3c9a36df5e4cd78e6b67", checked := Tryz.checked }
namespace Rows
def none {H : Type} : Left H := { results := [], args := [] }

/-- 'laws.FnExactUpperCentralSeries': WHATEVER THE INPUT: true; the input reads as it did. -/
def fnExactUpperCentralSeriesSpec : ChangeSpec := { name := "fnExactUpperCentralSeries", fn := fun _ => fun
  | [d] => { results := [.lit (.bool true)], args := [d] }
  | _ => none }
def fnExactUpperCentralSeriesRow : OpenClaim := { program := "ytgomfjhhfmhlgaagreat", sum := "6fee695b4b9cdf7e7b444c8e5ad98dcf7588073a56ee3c9a36df5e4cd78e6b67", func := "loop.example/g01076/laws.FnExactUpperCentralSeries", spec := "fnExactUpperCentralSeries", unfollowed := true, recurses := true, apart := false }
def FnExactUpperCentralSeriesSaid : Prop := fnExactUpperCentralSeriesRow.holds Tryz.pinned (OpenSpec.ofChange fnExactUpperCentralSeriesSpec)

/-- ITS FALSE NEIGHBOUR: 'it returns false'. Refute it at one input. -/
def fnExactUpperCentralSeriesWrong : ChangeSpec := { name := "fnExactUpperCentralSeries", fn := fun _ => fun
  | [d] => { results := [.lit (.bool false)], args := [d] }
  | _ => none }
def FnExactUpperCentralSeriesWrongFalsely : Prop := fnExactUpperCentralSeriesRow.holds Tryz.pinned (OpenSpec.ofChange fnExactUpperCentralSeriesWrong)

/-- 'laws.FnExactSubgroupNormalizer': WHATEVER THE INPUT: true; the input reads as it did. -/
def fnExactSubgroupNormalizerSpec : ChangeSpec := { name := "fnExactSubgroupNormalizer", fn := fun _ => fun
  | [d1, d2] => { results := [.lit (.bool true)], args := [d1, d2] }
  | _ => none }
def fnExactSubgroupNormalizerRow : OpenClaim := { program := "ytgomfjhhfmhlgaagreat", sum := "6fee695b4b9cdf7e7b444c8e5ad98dcf7588073a56ee3c9a36df5e4cd78e6b67", func := "loop.example/g01076/laws.FnExactSubgroupNormalizer", spec := "fnExactSubgroupNormalizer", unfollowed := true, recurses := true, apart := false }
def FnExactSubgroupNormalizerSaid : Prop := fnExactSubgroupNormalizerRow.holds Tryz.pinned (OpenSpec.ofChange fnExactSubgroupNormalizerSpec)

/-- ITS FALSE NEIGHBOUR: 'it returns false'. Refute it at one input. -/
def fnExactSubgroupNormalizerWrong : ChangeSpec := { name := "fnExactSubgroupNormalizer", fn := fun _ => fun
  | [d1, d2] => { results := [.lit (.bool false)], args := [d1, d2] }
  | _ => none }
def FnExactSubgroupNormalizerWrongFalsely : Prop := fnExactSubgroupNormalizerRow.holds Tryz.pinned (OpenSpec.ofChange fnExactSubgroupNormalizerWrong)

/-- 'laws.FnExactSubgroupConjugator': WHATEVER THE INPUT: true; the input reads as it did. -/
def fnExactSubgroupConjugatorSpec : ChangeSpec := { name := "fnExactSubgroupConjugator", fn := fun _ => fun
  | [d1, d2, d3] => { results := [.lit (.bool true)], args := [d1, d2, d3] }
  | _ => none }
def fnExactSubgroupConjugatorRow : OpenClaim := { program := "ytgomfjhhfmhlgaagreat", sum := "6fee695b4b9cdf7e7b444c8e5ad98dcf7588073a56ee3c9a36df5e4cd78e6b67", func := "loop.example/g01076/laws.FnExactSubgroupConjugator", spec := "fnExactSubgroupConjugator", unfollowed := true, recurses := true, apart := false }
def FnExactSubgroupConjugatorSaid : Prop := fnExactSubgroupConjugatorRow.holds Tryz.pinned (OpenSpec.ofChange fnExactSubgroupConjugatorSpec)

/-- ITS FALSE NEIGHBOUR: 'it returns false'. Refute it at one input. -/
def fnExactSubgroupConjugatorWrong : ChangeSpec := { name := "fnExactSubgroupConjugator", fn := fun _ => fun
  | [d1, d2, d3] => { results := [.lit (.bool false)], args := [d1, d2, d3] }
  | _ => none }
def FnExactSubgroupConjugatorWrongFalsely : Prop := fnExactSubgroupConjugatorRow.holds Tryz.pinned (OpenSpec.ofChange fnExactSubgroupConjugatorWrong)

/- THE SECOND FORM. 'bulk': how many values and letters a reading holds, each counted each time it is reached (what is shared counts as often as it is met; a slice's spare places count too). A statement '..UptoSaid' is the law's where the arguments, and the package variables that the reading takes, are together of bulk at most 1048576: NARROWER than '..Said'. Prove '..Said' where nothing that the law and all that it calls make is longer than what came in: it says more and counts as full. Else prove '..UptoSaid'. A law counts once. -/
mutual
def uptoBulk {H : Type} : DataW H → Nat
  | .lit (.string bytes) => bytes.length + 1
  | .lit _ => 1
  | .nil => 1
  | .ptr d => uptoBulk d + 1
  | .slice elems spare => uptoBulkAll elems + uptoBulkAll spare + 1
  | .agg parts => uptoBulkAll parts + 1
  | .iface _ d => uptoBulk d + 1
  | .map entries => uptoBulkEntries entries + 1
  | .held _ => 1
def uptoBulkAll {H : Type} : List (DataW H) → Nat
  | [] => 0
  | d :: r => uptoBulk d + uptoBulkAll r
def uptoBulkEntries {H : Type} : List (Lit × DataW H) → Nat
  | [] => 0
  | x :: r => uptoBulkEntry x + uptoBulkEntries r
def uptoBulkEntry {H : Type} : Lit × DataW H → Nat
  | (.string bytes, d) => bytes.length + uptoBulk d + 1
  | (_, d) => uptoBulk d + 1
 end
def uptoSmall : (H : Type) → List (DataW H) → Bool := fun _ ds => decide (uptoBulkAll ds ≤ 1048576)
def OpenSpec.upto (s : _root_.Go.ChangeSpec) : _root_.Go.OpenSpec := { _root_.Go.OpenSpec.ofChange s with cond := some uptoSmall }

/-- 'laws.FnExactUpperCentralSeries', WHERE WHAT IT READS IS OF BULK AT MOST 1048576: true; the input reads as it did. -/
def fnExactUpperCentralSeriesUptoRow : OpenClaim := { program := "ytgomfjhhfmhlgaagreat", sum := "6fee695b4b9cdf7e7b444c8e5ad98dcf7588073a56ee3c9a36df5e4cd78e6b67", func := "loop.example/g01076/laws.FnExactUpperCentralSeries", spec := "fnExactUpperCentralSeries", unfollowed := true, recurses := true, apart := false, narrowed := true }
def FnExactUpperCentralSeriesUptoSaid : Prop := fnExactUpperCentralSeriesUptoRow.holds Tryz.pinned (OpenSpec.upto fnExactUpperCentralSeriesSpec)

/-- 'laws.FnExactSubgroupNormalizer', WHERE WHAT IT READS IS OF BULK AT MOST 1048576: true; the input reads as it did. -/
def fnExactSubgroupNormalizerUptoRow : OpenClaim := { program := "ytgomfjhhfmhlgaagreat", sum := "6fee695b4b9cdf7e7b444c8e5ad98dcf7588073a56ee3c9a36df5e4cd78e6b67", func := "loop.example/g01076/laws.FnExactSubgroupNormalizer", spec := "fnExactSubgroupNormalizer", unfollowed := true, recurses := true, apart := false, narrowed := true }
def FnExactSubgroupNormalizerUptoSaid : Prop := fnExactSubgroupNormalizerUptoRow.holds Tryz.pinned (OpenSpec.upto fnExactSubgroupNormalizerSpec)

/-- 'laws.FnExactSubgroupConjugator', WHERE WHAT IT READS IS OF BULK AT MOST 1048576: true; the input reads as it did. -/
def fnExactSubgroupConjugatorUptoRow : OpenClaim := { program := "ytgomfjhhfmhlgaagreat", sum := "6fee695b4b9cdf7e7b444c8e5ad98dcf7588073a56ee3c9a36df5e4cd78e6b67", func := "loop.example/g01076/laws.FnExactSubgroupConjugator", spec := "fnExactSubgroupConjugator", unfollowed := true, recurses := true, apart := false, narrowed := true }
def FnExactSubgroupConjugatorUptoSaid : Prop := fnExactSubgroupConjugatorUptoRow.holds Tryz.pinned (OpenSpec.upto fnExactSubgroupConjugatorSpec)

end Rows
end Go.Proofs.YtgomfjhhfmhlgaaGreat
