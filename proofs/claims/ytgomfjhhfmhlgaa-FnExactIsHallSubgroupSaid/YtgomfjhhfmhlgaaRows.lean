/-
  No cell of these rows narrows 'for every input' (looked for: loops, veiled, ifaces, maps, wideKeys, modest, calm, conditions, laid).
  DERIVED. THE GIVEN ROWS OF THIS SEAT. 9 by the template 'for every input the law returns true; each argument reads behind the call as it read before'; 0 by the template 'total and deterministic' (their statements: YtgomfjhhfmhlgaaTotals.lean).
  GIVEN WITH THE SEED: the statements are not yours to turn. If you find one false, say at which input.
  Laid BY PROGRAM, IN A SANDBOX (cutbox-rows.mjs): the forced cells as the released guide's own fill.sh prints them over the translation ebe974af6b5d33c2… (all of the seat's roots in one cut). By AI agents, Wed Nov 11 2026. No macro, syntax, notation, axiom, sorry.
-/
import Derived.Test.YtgomfjhhfmhlgaaChecked
import GoSem.Claim
import GoSem.ClaimJoined
import GoSem.ClaimMapViews
import Derived.JoinedTies
import Derived.KernelRfl
namespace Go.Proofs.Ytgomfjhhfmhlgaa
/- THE CELL 'sum', in the pinned program and in every row, IS THE sha256 OF THE DUMP (.gsa) THAT YtgomfjhhfmhlgaaProg.lean LOADS. Nothing in Lean hashes anything: it is a label: what it is worth is what the hold of that sum in a sandbox is worth. -/
noncomputable def Try.pinned : Pinned := { name := "ytgomfjhhfmhlgaa", sum := "ebe974af6b5d33c2721cfb11b77a5d20ace30aa1053413d219f16963c7563255", checked := Try.checked }
namespace Rows
def none {H : Type} : Left H := { results := [], args := [] }

/-- 'laws.FnExactNilpotencyClass': WHATEVER THE INPUT: true; the input reads as it did. -/
def fnExactNilpotencyClassSpec : ChangeSpec := { name := "fnExactNilpotencyClass", fn := fun _ => fun
  | [d] => { results := [.lit (.bool true)], args := [d] }
  | _ => none }
def fnExactNilpotencyClassRow : OpenClaim := { program := "ytgomfjhhfmhlgaa", sum := "ebe974af6b5d33c2721cfb11b77a5d20ace30aa1053413d219f16963c7563255", func := "loop.example/g01076/laws.FnExactNilpotencyClass", spec := "fnExactNilpotencyClass", unfollowed := true, recurses := true, apart := false }
def FnExactNilpotencyClassSaid : Prop := fnExactNilpotencyClassRow.holds Try.pinned (OpenSpec.ofChange fnExactNilpotencyClassSpec)

/-- ITS FALSE NEIGHBOUR: 'it returns false'. Refute it at one input. -/
def fnExactNilpotencyClassWrong : ChangeSpec := { name := "fnExactNilpotencyClass", fn := fun _ => fun
  | [d] => { results := [.lit (.bool false)], args := [d] }
  | _ => none }
def FnExactNilpotencyClassWrongFalsely : Prop := fnExactNilpotencyClassRow.holds Try.pinned (OpenSpec.ofChange fnExactNilpotencyClassWrong)

/-- 'laws.FnExactDerivedSeries': WHATEVER THE INPUT: true; the input reads as it did. -/
def fnExactDerivedSeriesSpec : ChangeSpec := { name := "fnExactDerivedSeries", fn := fun _ => fun
  | [d] => { results := [.lit (.bool true)], args := [d] }
  | _ => none }
def fnExactDerivedSeriesRow : OpenClaim := { program := "ytgomfjhhfmhlgaa", sum := "ebe974af6b5d33c2721cfb11b77a5d20ace30aa1053413d219f16963c7563255", func := "loop.example/g01076/laws.FnExactDerivedSeries", spec := "fnExactDerivedSeries", unfollowed := true, recurses := true, apart := false }
def FnExactDerivedSeriesSaid : Prop := fnExactDerivedSeriesRow.holds Try.pinned (OpenSpec.ofChange fnExactDerivedSeriesSpec)

/-- ITS FALSE NEIGHBOUR: 'it returns false'. Refute it at one input. -/
def fnExactDerivedSeriesWrong : ChangeSpec := { name := "fnExactDerivedSeries", fn := fun _ => fun
  | [d] => { results := [.lit (.bool false)], args := [d] }
  | _ => none }
def FnExactDerivedSeriesWrongFalsely : Prop := fnExactDerivedSeriesRow.holds Try.pinned (OpenSpec.ofChange fnExactDerivedSeriesWrong)

/-- 'laws.FnExactLowerCentralSeries': WHATEVER THE INPUT: true; the input reads as it did. -/
def fnExactLowerCentralSeriesSpec : ChangeSpec := { name := "fnExactLowerCentralSeries", fn := fun _ => fun
  | [d] => { results := [.lit (.bool true)], args := [d] }
  | _ => none }
def fnExactLowerCentralSeriesRow : OpenClaim := { program := "ytgomfjhhfmhlgaa", sum := "ebe974af6b5d33c2721cfb11b77a5d20ace30aa1053413d219f16963c7563255", func := "loop.example/g01076/laws.FnExactLowerCentralSeries", spec := "fnExactLowerCentralSeries", unfollowed := true, recurses := true, apart := false }
def FnExactLowerCentralSeriesSaid : Prop := fnExactLowerCentralSeriesRow.holds Try.pinned (OpenSpec.ofChange fnExactLowerCentralSeriesSpec)

/-- ITS FALSE NEIGHBOUR: 'it returns false'. Refute it at one input. -/
def fnExactLowerCentralSeriesWrong : ChangeSpec := { name := "fnExactLowerCentralSeries", fn := fun _ => fun
  | [d] => { results := [.lit (.bool false)], args := [d] }
  | _ => none }
def FnExactLowerCentralSeriesWrongFalsely : Prop := fnExactLowerCentralSeriesRow.holds Try.pinned (OpenSpec.ofChange fnExactLowerCentralSeriesWrong)

/-- 'laws.FnExactLowerExponentSeries': WHATEVER THE INPUT: true; the input reads as it did. -/
def fnExactLowerExponentSeriesSpec : ChangeSpec := { name := "fnExactLowerExponentSeries", fn := fun _ => fun
  | [d1, d2] => { results := [.lit (.bool true)], args := [d1, d2] }
  | _ => none }
def fnExactLowerExponentSeriesRow : OpenClaim := { program := "ytgomfjhhfmhlgaa", sum := "ebe974af6b5d33c2721cfb11b77a5d20ace30aa1053413d219f16963c7563255", func := "loop.example/g01076/laws.FnExactLowerExponentSeries", spec := "fnExactLowerExponentSeries", unfollowed := true, recurses := true, apart := false }
def FnExactLowerExponentSeriesSaid : Prop := fnExactLowerExponentSeriesRow.holds Try.pinned (OpenSpec.ofChange fnExactLowerExponentSeriesSpec)

/-- ITS FALSE NEIGHBOUR: 'it returns false'. Refute it at one input. -/
def fnExactLowerExponentSeriesWrong : ChangeSpec := { name := "fnExactLowerExponentSeries", fn := fun _ => fun
  | [d1, d2] => { results := [.lit (.bool false)], args := [d1, d2] }
  | _ => none }
def FnExactLowerExponentSeriesWrongFalsely : Prop := fnExactLowerExponentSeriesRow.holds Try.pinned (OpenSpec.ofChange fnExactLowerExponentSeriesWrong)

/-- 'laws.FnExactElementCentralizer': WHATEVER THE INPUT: true; the input reads as it did. -/
def fnExactElementCentralizerSpec : ChangeSpec := { name := "fnExactElementCentralizer", fn := fun _ => fun
  | [d1, d2] => { results := [.lit (.bool true)], args := [d1, d2] }
  | _ => none }
def fnExactElementCentralizerRow : OpenClaim := { program := "ytgomfjhhfmhlgaa", sum := "ebe974af6b5d33c2721cfb11b77a5d20ace30aa1053413d219f16963c7563255", func := "loop.example/g01076/laws.FnExactElementCentralizer", spec := "fnExactElementCentralizer", unfollowed := true, recurses := true, apart := false }
def FnExactElementCentralizerSaid : Prop := fnExactElementCentralizerRow.holds Try.pinned (OpenSpec.ofChange fnExactElementCentralizerSpec)

/-- ITS FALSE NEIGHBOUR: 'it returns false'. Refute it at one input. -/
def fnExactElementCentralizerWrong : ChangeSpec := { name := "fnExactElementCentralizer", fn := fun _ => fun
  | [d1, d2] => { results := [.lit (.bool false)], args := [d1, d2] }
  | _ => none }
def FnExactElementCentralizerWrongFalsely : Prop := fnExactElementCentralizerRow.holds Try.pinned (OpenSpec.ofChange fnExactElementCentralizerWrong)

/-- 'laws.FnExactSubgroupCentralizer': WHATEVER THE INPUT: true; the input reads as it did. -/
def fnExactSubgroupCentralizerSpec : ChangeSpec := { name := "fnExactSubgroupCentralizer", fn := fun _ => fun
  | [d1, d2] => { results := [.lit (.bool true)], args := [d1, d2] }
  | _ => none }
def fnExactSubgroupCentralizerRow : OpenClaim := { program := "ytgomfjhhfmhlgaa", sum := "ebe974af6b5d33c2721cfb11b77a5d20ace30aa1053413d219f16963c7563255", func := "loop.example/g01076/laws.FnExactSubgroupCentralizer", spec := "fnExactSubgroupCentralizer", unfollowed := true, recurses := true, apart := false }
def FnExactSubgroupCentralizerSaid : Prop := fnExactSubgroupCentralizerRow.holds Try.pinned (OpenSpec.ofChange fnExactSubgroupCentralizerSpec)

/-- ITS FALSE NEIGHBOUR: 'it returns false'. Refute it at one input. -/
def fnExactSubgroupCentralizerWrong : ChangeSpec := { name := "fnExactSubgroupCentralizer", fn := fun _ => fun
  | [d1, d2] => { results := [.lit (.bool false)], args := [d1, d2] }
  | _ => none }
def FnExactSubgroupCentralizerWrongFalsely : Prop := fnExactSubgroupCentralizerRow.holds Try.pinned (OpenSpec.ofChange fnExactSubgroupCentralizerWrong)

/-- 'laws.FnExactCountInner': WHATEVER THE INPUT: true; the input reads as it did. -/
def fnExactCountInnerSpec : ChangeSpec := { name := "fnExactCountInner", fn := fun _ => fun
  | [d] => { results := [.lit (.bool true)], args := [d] }
  | _ => none }
def fnExactCountInnerRow : OpenClaim := { program := "ytgomfjhhfmhlgaa", sum := "ebe974af6b5d33c2721cfb11b77a5d20ace30aa1053413d219f16963c7563255", func := "loop.example/g01076/laws.FnExactCountInner", spec := "fnExactCountInner", unfollowed := true, recurses := true, apart := false }
def FnExactCountInnerSaid : Prop := fnExactCountInnerRow.holds Try.pinned (OpenSpec.ofChange fnExactCountInnerSpec)

/-- ITS FALSE NEIGHBOUR: 'it returns false'. Refute it at one input. -/
def fnExactCountInnerWrong : ChangeSpec := { name := "fnExactCountInner", fn := fun _ => fun
  | [d] => { results := [.lit (.bool false)], args := [d] }
  | _ => none }
def FnExactCountInnerWrongFalsely : Prop := fnExactCountInnerRow.holds Try.pinned (OpenSpec.ofChange fnExactCountInnerWrong)

/-- 'laws.FnExactIsHallSubgroup': WHATEVER THE INPUT: true; the input reads as it did. -/
def fnExactIsHallSubgroupSpec : ChangeSpec := { name := "fnExactIsHallSubgroup", fn := fun _ => fun
  | [d1, d2, d3] => { results := [.lit (.bool true)], args := [d1, d2, d3] }
  | _ => none }
def fnExactIsHallSubgroupRow : OpenClaim := { program := "ytgomfjhhfmhlgaa", sum := "ebe974af6b5d33c2721cfb11b77a5d20ace30aa1053413d219f16963c7563255", func := "loop.example/g01076/laws.FnExactIsHallSubgroup", spec := "fnExactIsHallSubgroup", unfollowed := true, recurses := true, apart := false }
def FnExactIsHallSubgroupSaid : Prop := fnExactIsHallSubgroupRow.holds Try.pinned (OpenSpec.ofChange fnExactIsHallSubgroupSpec)

/-- ITS FALSE NEIGHBOUR: 'it returns false'. Refute it at one input. -/
def fnExactIsHallSubgroupWrong : ChangeSpec := { name := "fnExactIsHallSubgroup", fn := fun _ => fun
  | [d1, d2, d3] => { results := [.lit (.bool false)], args := [d1, d2, d3] }
  | _ => none }
def FnExactIsHallSubgroupWrongFalsely : Prop := fnExactIsHallSubgroupRow.holds Try.pinned (OpenSpec.ofChange fnExactIsHallSubgroupWrong)

/-- 'laws.FnExactApplyHom': WHATEVER THE INPUT: true; the input reads as it did. -/
def fnExactApplyHomSpec : ChangeSpec := { name := "fnExactApplyHom", fn := fun _ => fun
  | [d1, d2] => { results := [.lit (.bool true)], args := [d1, d2] }
  | _ => none }
def fnExactApplyHomRow : OpenClaim := { program := "ytgomfjhhfmhlgaa", sum := "ebe974af6b5d33c2721cfb11b77a5d20ace30aa1053413d219f16963c7563255", func := "loop.example/g01076/laws.FnExactApplyHom", spec := "fnExactApplyHom", recurses := true, apart := false }
def FnExactApplyHomSaid : Prop := fnExactApplyHomRow.holds Try.pinned (OpenSpec.ofChange fnExactApplyHomSpec)

/-- ITS FALSE NEIGHBOUR: 'it returns false'. Refute it at one input. -/
def fnExactApplyHomWrong : ChangeSpec := { name := "fnExactApplyHom", fn := fun _ => fun
  | [d1, d2] => { results := [.lit (.bool false)], args := [d1, d2] }
  | _ => none }
def FnExactApplyHomWrongFalsely : Prop := fnExactApplyHomRow.holds Try.pinned (OpenSpec.ofChange fnExactApplyHomWrong)

/- THE SECOND FORM. 'bulk': how many values and letters a reading holds, each counted each time it is reached (what is shared counts as often as it is met; a slice's spare places count too). A statement '..UptoSaid' is the law's where the arguments, and the package variables that the reading takes, are together of bulk at most 1048576: NARROWER than '..Said'. Prove '..Said' where nothing that the law and all that it calls make is longer than what came in: it says more and counts as full. Else prove '..UptoSaid'. A law counts once. -/
mutual
def uptoBulk {H : Type} : DataW H → Nat
  | .lit (.string bytes) => bytes.length + 1
  | .lit _ => 1
  | .nil => 1
  | .ptr d => uptoBulk d + 1
  | .slice elems spare => uptoBulkAll elems + uptoBulkAll spare + 1
  | .agg parts => uptoBulkAll parts + 1
  | .iface _ d => uptoBulk d + 1
  | .map entries => uptoBulkEntries entries + 1
  | .held _ => 1
def uptoBulkAll {H : Type} : List (DataW H) → Nat
  | [] => 0
  | d :: r => uptoBulk d + uptoBulkAll r
def uptoBulkEntries {H : Type} : List (Lit × DataW H) → Nat
  | [] => 0
  | x :: r => uptoBulkEntry x + uptoBulkEntries r
def uptoBulkEntry {H : Type} : Lit × DataW H → Nat
  | (.string bytes, d) => bytes.length + uptoBulk d + 1
  | (_, d) => uptoBulk d + 1
 end
def uptoSmall : (H : Type) → List (DataW H) → Bool := fun _ ds => decide (uptoBulkAll ds ≤ 1048576)
def OpenSpec.upto (s : _root_.Go.ChangeSpec) : _root_.Go.OpenSpec := { _root_.Go.OpenSpec.ofChange s with cond := some uptoSmall }

/-- 'laws.FnExactNilpotencyClass', WHERE WHAT IT READS IS OF BULK AT MOST 1048576: true; the input reads as it did. -/
def fnExactNilpotencyClassUptoRow : OpenClaim := { program := "ytgomfjhhfmhlgaa", sum := "ebe974af6b5d33c2721cfb11b77a5d20ace30aa1053413d219f16963c7563255", func := "loop.example/g01076/laws.FnExactNilpotencyClass", spec := "fnExactNilpotencyClass", unfollowed := true, recurses := true, apart := false, narrowed := true }
def FnExactNilpotencyClassUptoSaid : Prop := fnExactNilpotencyClassUptoRow.holds Try.pinned (OpenSpec.upto fnExactNilpotencyClassSpec)

/-- 'laws.FnExactDerivedSeries', WHERE WHAT IT READS IS OF BULK AT MOST 1048576: true; the input reads as it did. -/
def fnExactDerivedSeriesUptoRow : OpenClaim := { program := "ytgomfjhhfmhlgaa", sum := "ebe974af6b5d33c2721cfb11b77a5d20ace30aa1053413d219f16963c7563255", func := "loop.example/g01076/laws.FnExactDerivedSeries", spec := "fnExactDerivedSeries", unfollowed := true, recurses := true, apart := false, narrowed := true }
def FnExactDerivedSeriesUptoSaid : Prop := fnExactDerivedSeriesUptoRow.holds Try.pinned (OpenSpec.upto fnExactDerivedSeriesSpec)

/-- 'laws.FnExactLowerCentralSeries', WHERE WHAT IT READS IS OF BULK AT MOST 1048576: true; the input reads as it did. -/
def fnExactLowerCentralSeriesUptoRow : OpenClaim := { program := "ytgomfjhhfmhlgaa", sum := "ebe974af6b5d33c2721cfb11b77a5d20ace30aa1053413d219f16963c7563255", func := "loop.example/g01076/laws.FnExactLowerCentralSeries", spec := "fnExactLowerCentralSeries", unfollowed := true, recurses := true, apart := false, narrowed := true }
def FnExactLowerCentralSeriesUptoSaid : Prop := fnExactLowerCentralSeriesUptoRow.holds Try.pinned (OpenSpec.upto fnExactLowerCentralSeriesSpec)

/-- 'laws.FnExactLowerExponentSeries', WHERE WHAT IT READS IS OF BULK AT MOST 1048576: true; the input reads as it did. -/
def fnExactLowerExponentSeriesUptoRow : OpenClaim := { program := "ytgomfjhhfmhlgaa", sum := "ebe974af6b5d33c2721cfb11b77a5d20ace30aa1053413d219f16963c7563255", func := "loop.example/g01076/laws.FnExactLowerExponentSeries", spec := "fnExactLowerExponentSeries", unfollowed := true, recurses := true, apart := false, narrowed := true }
def FnExactLowerExponentSeriesUptoSaid : Prop := fnExactLowerExponentSeriesUptoRow.holds Try.pinned (OpenSpec.upto fnExactLowerExponentSeriesSpec)

/-- 'laws.FnExactElementCentralizer', WHERE WHAT IT READS IS OF BULK AT MOST 1048576: true; the input reads as it did. -/
def fnExactElementCentralizerUptoRow : OpenClaim := { program := "ytgomfjhhfmhlgaa", sum := "ebe974af6b5d33c2721cfb11b77a5d20ace30aa1053413d219f16963c7563255", func := "loop.example/g01076/laws.FnExactElementCentralizer", spec := "fnExactElementCentralizer", unfollowed := true, recurses := true, apart := false, narrowed := true }
def FnExactElementCentralizerUptoSaid : Prop := fnExactElementCentralizerUptoRow.holds Try.pinned (OpenSpec.upto fnExactElementCentralizerSpec)

/-- 'laws.FnExactSubgroupCentralizer', WHERE WHAT IT READS IS OF BULK AT MOST 1048576: true; the input reads as it did. -/
def fnExactSubgroupCentralizerUptoRow : OpenClaim := { program := "ytgomfjhhfmhlgaa", sum := "ebe974af6b5d33c2721cfb11b77a5d20ace30aa1053413d219f16963c7563255", func := "loop.example/g01076/laws.FnExactSubgroupCentralizer", spec := "fnExactSubgroupCentralizer", unfollowed := true, recurses := true, apart := false, narrowed := true }
def FnExactSubgroupCentralizerUptoSaid : Prop := fnExactSubgroupCentralizerUptoRow.holds Try.pinned (OpenSpec.upto fnExactSubgroupCentralizerSpec)

/-- 'laws.FnExactCountInner', WHERE WHAT IT READS IS OF BULK AT MOST 1048576: true; the input reads as it did. -/
def fnExactCountInnerUptoRow : OpenClaim := { program := "ytgomfjhhfmhlgaa", sum := "ebe974af6b5d33c2721cfb11b77a5d20ace30aa1053413d219f16963c7563255", func := "loop.example/g01076/laws.FnExactCountInner", spec := "fnExactCountInner", unfollowed := true, recurses := true, apart := false, narrowed := true }
def FnExactCountInnerUptoSaid : Prop := fnExactCountInnerUptoRow.holds Try.pinned (OpenSpec.upto fnExactCountInnerSpec)

/-- 'laws.FnExactIsHallSubgroup', WHERE WHAT IT READS IS OF BULK AT MOST 1048576: true; the input reads as it did. -/
def fnExactIsHallSubgroupUptoRow : OpenClaim := { program := "ytgomfjhhfmhlgaa", sum := "ebe974af6b5d33c2721cfb11b77a5d20ace30aa1053413d219f16963c7563255", func := "loop.example/g01076/laws.FnExactIsHallSubgroup", spec := "fnExactIsHallSubgroup", unfollowed := true, recurses := true, apart := false, narrowed := true }
def FnExactIsHallSubgroupUptoSaid : Prop := fnExactIsHallSubgroupUptoRow.holds Try.pinned (OpenSpec.upto fnExactIsHallSubgroupSpec)

/-- 'laws.FnExactApplyHom', WHERE WHAT IT READS IS OF BULK AT MOST 1048576: true; the input reads as it did. -/
def fnExactApplyHomUptoRow : OpenClaim := { program := "ytgomfjhhfmhlgaa", sum := "ebe974af6b5d33c2721cfb11b77a5d20ace30aa1053413d219f16963c7563255", func := "loop.example/g01076/laws.FnExactApplyHom", spec := "fnExactApplyHom", recurses := true, apart := false, narrowed := true }
def FnExactApplyHomUptoSaid : Prop := fnExactApplyHomUptoRow.holds Try.pinned (OpenSpec.upto fnExactApplyHomSpec)

end Rows
end Go.Proofs.Ytgomfjhhfmhlgaa
