/-
  No cell of these rows narrows 'for every input' (looked for: loops, veiled, ifaces, maps, wideKeys, modest, calm, conditions, laid).
  DERIVED. THE GIVEN ROWS OF THIS SEAT. 12 by the template 'for every input the law returns true; each argument reads behind the call as it read before'; 0 by the template 'total and deterministic' (their statements: YtjbhjbmobhhabaaTotals.lean).
  GIVEN WITH THE SEED: the statements are not yours to turn. If you find one false, say at which input.
  Laid BY PROGRAM, IN A SANDBOX (cutbox-rows.mjs): the forced cells as the released guide's own fill.sh prints them over the translation 7d662771183ed675… (all of the seat's roots in one cut). By AI agents, Wed Nov 11 2026. No macro, syntax, notation, axiom, sorry.
-/
import Derived.Test.YtjbhjbmobhhabaaChecked
import GoSem.Claim
import GoSem.ClaimJoined
import GoSem.ClaimMapViews
import Derived.JoinedTies
import Derived.KernelRfl
namespace Go.Proofs.Ytjbhjbmobhhabaa
/- THE CELL 'sum', in the pinned program and in every row, IS THE sha256 OF THE DUMP (.gsa) THAT YtjbhjbmobhhabaaProg.lean LOADS. Nothing in Lean hashes anything: it is a label: what it is worth is what the hold of that sum in a sandbox is worth. -/
noncomputable def Try.pinned : Pinned := { name := "ytjbhjbmobhhabaa", sum := "7d662771183ed675416579bd5ed4181a8a032933e0d0f8e120b0a0d204da802b", checked := Try.checked }
namespace Rows
def none {H : Type} : Left H := { results := [], args := [] }

/-- 'laws.FnExactSubgroupOrder': WHATEVER THE INPUT: true; the input reads as it did. -/
def fnExactSubgroupOrderSpec : ChangeSpec := { name := "fnExactSubgroupOrder", fn := fun _ => fun
  | [d1, d2] => { results := [.lit (.bool true)], args := [d1, d2] }
  | _ => none }
def fnExactSubgroupOrderRow : OpenClaim := { program := "ytjbhjbmobhhabaa", sum := "7d662771183ed675416579bd5ed4181a8a032933e0d0f8e120b0a0d204da802b", func := "loop.example/g01076/laws.FnExactSubgroupOrder", spec := "fnExactSubgroupOrder", unfollowed := true, recurses := true, apart := false }
def FnExactSubgroupOrderSaid : Prop := fnExactSubgroupOrderRow.holds Try.pinned (OpenSpec.ofChange fnExactSubgroupOrderSpec)

/-- ITS FALSE NEIGHBOUR: 'it returns false'. Refute it at one input. -/
def fnExactSubgroupOrderWrong : ChangeSpec := { name := "fnExactSubgroupOrder", fn := fun _ => fun
  | [d1, d2] => { results := [.lit (.bool false)], args := [d1, d2] }
  | _ => none }
def FnExactSubgroupOrderWrongFalsely : Prop := fnExactSubgroupOrderRow.holds Try.pinned (OpenSpec.ofChange fnExactSubgroupOrderWrong)

/-- 'laws.FnExactIsMember': WHATEVER THE INPUT: true; the input reads as it did. -/
def fnExactIsMemberSpec : ChangeSpec := { name := "fnExactIsMember", fn := fun _ => fun
  | [d1, d2, d3] => { results := [.lit (.bool true)], args := [d1, d2, d3] }
  | _ => none }
def fnExactIsMemberRow : OpenClaim := { program := "ytjbhjbmobhhabaa", sum := "7d662771183ed675416579bd5ed4181a8a032933e0d0f8e120b0a0d204da802b", func := "loop.example/g01076/laws.FnExactIsMember", spec := "fnExactIsMember", unfollowed := true, recurses := true, apart := false }
def FnExactIsMemberSaid : Prop := fnExactIsMemberRow.holds Try.pinned (OpenSpec.ofChange fnExactIsMemberSpec)

/-- ITS FALSE NEIGHBOUR: 'it returns false'. Refute it at one input. -/
def fnExactIsMemberWrong : ChangeSpec := { name := "fnExactIsMember", fn := fun _ => fun
  | [d1, d2, d3] => { results := [.lit (.bool false)], args := [d1, d2, d3] }
  | _ => none }
def FnExactIsMemberWrongFalsely : Prop := fnExactIsMemberRow.holds Try.pinned (OpenSpec.ofChange fnExactIsMemberWrong)

/-- 'laws.FnExactIsSubset': WHATEVER THE INPUT: true; the input reads as it did. -/
def fnExactIsSubsetSpec : ChangeSpec := { name := "fnExactIsSubset", fn := fun _ => fun
  | [d1, d2, d3] => { results := [.lit (.bool true)], args := [d1, d2, d3] }
  | _ => none }
def fnExactIsSubsetRow : OpenClaim := { program := "ytjbhjbmobhhabaa", sum := "7d662771183ed675416579bd5ed4181a8a032933e0d0f8e120b0a0d204da802b", func := "loop.example/g01076/laws.FnExactIsSubset", spec := "fnExactIsSubset", unfollowed := true, recurses := true, apart := false }
def FnExactIsSubsetSaid : Prop := fnExactIsSubsetRow.holds Try.pinned (OpenSpec.ofChange fnExactIsSubsetSpec)

/-- ITS FALSE NEIGHBOUR: 'it returns false'. Refute it at one input. -/
def fnExactIsSubsetWrong : ChangeSpec := { name := "fnExactIsSubset", fn := fun _ => fun
  | [d1, d2, d3] => { results := [.lit (.bool false)], args := [d1, d2, d3] }
  | _ => none }
def FnExactIsSubsetWrongFalsely : Prop := fnExactIsSubsetRow.holds Try.pinned (OpenSpec.ofChange fnExactIsSubsetWrong)

/-- 'laws.FnExactIsNormalSubgroup': WHATEVER THE INPUT: true; the input reads as it did. -/
def fnExactIsNormalSubgroupSpec : ChangeSpec := { name := "fnExactIsNormalSubgroup", fn := fun _ => fun
  | [d1, d2] => { results := [.lit (.bool true)], args := [d1, d2] }
  | _ => none }
def fnExactIsNormalSubgroupRow : OpenClaim := { program := "ytjbhjbmobhhabaa", sum := "7d662771183ed675416579bd5ed4181a8a032933e0d0f8e120b0a0d204da802b", func := "loop.example/g01076/laws.FnExactIsNormalSubgroup", spec := "fnExactIsNormalSubgroup", unfollowed := true, recurses := true, apart := false }
def FnExactIsNormalSubgroupSaid : Prop := fnExactIsNormalSubgroupRow.holds Try.pinned (OpenSpec.ofChange fnExactIsNormalSubgroupSpec)

/-- ITS FALSE NEIGHBOUR: 'it returns false'. Refute it at one input. -/
def fnExactIsNormalSubgroupWrong : ChangeSpec := { name := "fnExactIsNormalSubgroup", fn := fun _ => fun
  | [d1, d2] => { results := [.lit (.bool false)], args := [d1, d2] }
  | _ => none }
def FnExactIsNormalSubgroupWrongFalsely : Prop := fnExactIsNormalSubgroupRow.holds Try.pinned (OpenSpec.ofChange fnExactIsNormalSubgroupWrong)

/-- 'laws.FnExactCosetNumber': WHATEVER THE INPUT: true; the input reads as it did. -/
def fnExactCosetNumberSpec : ChangeSpec := { name := "fnExactCosetNumber", fn := fun _ => fun
  | [d1, d2, d3] => { results := [.lit (.bool true)], args := [d1, d2, d3] }
  | _ => none }
def fnExactCosetNumberRow : OpenClaim := { program := "ytjbhjbmobhhabaa", sum := "7d662771183ed675416579bd5ed4181a8a032933e0d0f8e120b0a0d204da802b", func := "loop.example/g01076/laws.FnExactCosetNumber", spec := "fnExactCosetNumber", unfollowed := true, recurses := true, apart := false }
def FnExactCosetNumberSaid : Prop := fnExactCosetNumberRow.holds Try.pinned (OpenSpec.ofChange fnExactCosetNumberSpec)

/-- ITS FALSE NEIGHBOUR: 'it returns false'. Refute it at one input. -/
def fnExactCosetNumberWrong : ChangeSpec := { name := "fnExactCosetNumber", fn := fun _ => fun
  | [d1, d2, d3] => { results := [.lit (.bool false)], args := [d1, d2, d3] }
  | _ => none }
def FnExactCosetNumberWrongFalsely : Prop := fnExactCosetNumberRow.holds Try.pinned (OpenSpec.ofChange fnExactCosetNumberWrong)

/-- 'laws.FnExactSubgroupIndex': WHATEVER THE INPUT: true; the input reads as it did. -/
def fnExactSubgroupIndexSpec : ChangeSpec := { name := "fnExactSubgroupIndex", fn := fun _ => fun
  | [d1, d2, d3] => { results := [.lit (.bool true)], args := [d1, d2, d3] }
  | _ => none }
def fnExactSubgroupIndexRow : OpenClaim := { program := "ytjbhjbmobhhabaa", sum := "7d662771183ed675416579bd5ed4181a8a032933e0d0f8e120b0a0d204da802b", func := "loop.example/g01076/laws.FnExactSubgroupIndex", spec := "fnExactSubgroupIndex", unfollowed := true, recurses := true, apart := false }
def FnExactSubgroupIndexSaid : Prop := fnExactSubgroupIndexRow.holds Try.pinned (OpenSpec.ofChange fnExactSubgroupIndexSpec)

/-- ITS FALSE NEIGHBOUR: 'it returns false'. Refute it at one input. -/
def fnExactSubgroupIndexWrong : ChangeSpec := { name := "fnExactSubgroupIndex", fn := fun _ => fun
  | [d1, d2, d3] => { results := [.lit (.bool false)], args := [d1, d2, d3] }
  | _ => none }
def FnExactSubgroupIndexWrongFalsely : Prop := fnExactSubgroupIndexRow.holds Try.pinned (OpenSpec.ofChange fnExactSubgroupIndexWrong)

/-- 'laws.FnExactSubgroupDepths': WHATEVER THE INPUT: true; the input reads as it did. -/
def fnExactSubgroupDepthsSpec : ChangeSpec := { name := "fnExactSubgroupDepths", fn := fun _ => fun
  | [d1, d2] => { results := [.lit (.bool true)], args := [d1, d2] }
  | _ => none }
def fnExactSubgroupDepthsRow : OpenClaim := { program := "ytjbhjbmobhhabaa", sum := "7d662771183ed675416579bd5ed4181a8a032933e0d0f8e120b0a0d204da802b", func := "loop.example/g01076/laws.FnExactSubgroupDepths", spec := "fnExactSubgroupDepths", unfollowed := true, recurses := true, apart := false }
def FnExactSubgroupDepthsSaid : Prop := fnExactSubgroupDepthsRow.holds Try.pinned (OpenSpec.ofChange fnExactSubgroupDepthsSpec)

/-- ITS FALSE NEIGHBOUR: 'it returns false'. Refute it at one input. -/
def fnExactSubgroupDepthsWrong : ChangeSpec := { name := "fnExactSubgroupDepths", fn := fun _ => fun
  | [d1, d2] => { results := [.lit (.bool false)], args := [d1, d2] }
  | _ => none }
def FnExactSubgroupDepthsWrongFalsely : Prop := fnExactSubgroupDepthsRow.holds Try.pinned (OpenSpec.ofChange fnExactSubgroupDepthsWrong)

/-- 'laws.FnExactCosetRepresentative': WHATEVER THE INPUT: true; the input reads as it did. -/
def fnExactCosetRepresentativeSpec : ChangeSpec := { name := "fnExactCosetRepresentative", fn := fun _ => fun
  | [d1, d2, d3] => { results := [.lit (.bool true)], args := [d1, d2, d3] }
  | _ => none }
def fnExactCosetRepresentativeRow : OpenClaim := { program := "ytjbhjbmobhhabaa", sum := "7d662771183ed675416579bd5ed4181a8a032933e0d0f8e120b0a0d204da802b", func := "loop.example/g01076/laws.FnExactCosetRepresentative", spec := "fnExactCosetRepresentative", unfollowed := true, recurses := true, apart := false }
def FnExactCosetRepresentativeSaid : Prop := fnExactCosetRepresentativeRow.holds Try.pinned (OpenSpec.ofChange fnExactCosetRepresentativeSpec)

/-- ITS FALSE NEIGHBOUR: 'it returns false'. Refute it at one input. -/
def fnExactCosetRepresentativeWrong : ChangeSpec := { name := "fnExactCosetRepresentative", fn := fun _ => fun
  | [d1, d2, d3] => { results := [.lit (.bool false)], args := [d1, d2, d3] }
  | _ => none }
def FnExactCosetRepresentativeWrongFalsely : Prop := fnExactCosetRepresentativeRow.holds Try.pinned (OpenSpec.ofChange fnExactCosetRepresentativeWrong)

/-- 'laws.FnExactMemberExponents': WHATEVER THE INPUT: true; the input reads as it did. -/
def fnExactMemberExponentsSpec : ChangeSpec := { name := "fnExactMemberExponents", fn := fun _ => fun
  | [d1, d2, d3] => { results := [.lit (.bool true)], args := [d1, d2, d3] }
  | _ => none }
def fnExactMemberExponentsRow : OpenClaim := { program := "ytjbhjbmobhhabaa", sum := "7d662771183ed675416579bd5ed4181a8a032933e0d0f8e120b0a0d204da802b", func := "loop.example/g01076/laws.FnExactMemberExponents", spec := "fnExactMemberExponents", unfollowed := true, recurses := true, apart := false }
def FnExactMemberExponentsSaid : Prop := fnExactMemberExponentsRow.holds Try.pinned (OpenSpec.ofChange fnExactMemberExponentsSpec)

/-- ITS FALSE NEIGHBOUR: 'it returns false'. Refute it at one input. -/
def fnExactMemberExponentsWrong : ChangeSpec := { name := "fnExactMemberExponents", fn := fun _ => fun
  | [d1, d2, d3] => { results := [.lit (.bool false)], args := [d1, d2, d3] }
  | _ => none }
def FnExactMemberExponentsWrongFalsely : Prop := fnExactMemberExponentsRow.holds Try.pinned (OpenSpec.ofChange fnExactMemberExponentsWrong)

/-- 'laws.FnExactMemberElement': WHATEVER THE INPUT: true; the input reads as it did. -/
def fnExactMemberElementSpec : ChangeSpec := { name := "fnExactMemberElement", fn := fun _ => fun
  | [d1, d2, d3] => { results := [.lit (.bool true)], args := [d1, d2, d3] }
  | _ => none }
def fnExactMemberElementRow : OpenClaim := { program := "ytjbhjbmobhhabaa", sum := "7d662771183ed675416579bd5ed4181a8a032933e0d0f8e120b0a0d204da802b", func := "loop.example/g01076/laws.FnExactMemberElement", spec := "fnExactMemberElement", unfollowed := true, recurses := true, apart := false }
def FnExactMemberElementSaid : Prop := fnExactMemberElementRow.holds Try.pinned (OpenSpec.ofChange fnExactMemberElementSpec)

/-- ITS FALSE NEIGHBOUR: 'it returns false'. Refute it at one input. -/
def fnExactMemberElementWrong : ChangeSpec := { name := "fnExactMemberElement", fn := fun _ => fun
  | [d1, d2, d3] => { results := [.lit (.bool false)], args := [d1, d2, d3] }
  | _ => none }
def FnExactMemberElementWrongFalsely : Prop := fnExactMemberElementRow.holds Try.pinned (OpenSpec.ofChange fnExactMemberElementWrong)

/-- 'laws.FnExactGeneratedSubgroup': WHATEVER THE INPUT: true; the input reads as it did. -/
def fnExactGeneratedSubgroupSpec : ChangeSpec := { name := "fnExactGeneratedSubgroup", fn := fun _ => fun
  | [d1, d2] => { results := [.lit (.bool true)], args := [d1, d2] }
  | _ => none }
def fnExactGeneratedSubgroupRow : OpenClaim := { program := "ytjbhjbmobhhabaa", sum := "7d662771183ed675416579bd5ed4181a8a032933e0d0f8e120b0a0d204da802b", func := "loop.example/g01076/laws.FnExactGeneratedSubgroup", spec := "fnExactGeneratedSubgroup", unfollowed := true, recurses := true, apart := false }
def FnExactGeneratedSubgroupSaid : Prop := fnExactGeneratedSubgroupRow.holds Try.pinned (OpenSpec.ofChange fnExactGeneratedSubgroupSpec)

/-- ITS FALSE NEIGHBOUR: 'it returns false'. Refute it at one input. -/
def fnExactGeneratedSubgroupWrong : ChangeSpec := { name := "fnExactGeneratedSubgroup", fn := fun _ => fun
  | [d1, d2] => { results := [.lit (.bool false)], args := [d1, d2] }
  | _ => none }
def FnExactGeneratedSubgroupWrongFalsely : Prop := fnExactGeneratedSubgroupRow.holds Try.pinned (OpenSpec.ofChange fnExactGeneratedSubgroupWrong)

/-- 'laws.FnExactConjugateSubgroup': WHATEVER THE INPUT: true; the input reads as it did. -/
def fnExactConjugateSubgroupSpec : ChangeSpec := { name := "fnExactConjugateSubgroup", fn := fun _ => fun
  | [d1, d2, d3] => { results := [.lit (.bool true)], args := [d1, d2, d3] }
  | _ => none }
def fnExactConjugateSubgroupRow : OpenClaim := { program := "ytjbhjbmobhhabaa", sum := "7d662771183ed675416579bd5ed4181a8a032933e0d0f8e120b0a0d204da802b", func := "loop.example/g01076/laws.FnExactConjugateSubgroup", spec := "fnExactConjugateSubgroup", unfollowed := true, recurses := true, apart := false }
def FnExactConjugateSubgroupSaid : Prop := fnExactConjugateSubgroupRow.holds Try.pinned (OpenSpec.ofChange fnExactConjugateSubgroupSpec)

/-- ITS FALSE NEIGHBOUR: 'it returns false'. Refute it at one input. -/
def fnExactConjugateSubgroupWrong : ChangeSpec := { name := "fnExactConjugateSubgroup", fn := fun _ => fun
  | [d1, d2, d3] => { results := [.lit (.bool false)], args := [d1, d2, d3] }
  | _ => none }
def FnExactConjugateSubgroupWrongFalsely : Prop := fnExactConjugateSubgroupRow.holds Try.pinned (OpenSpec.ofChange fnExactConjugateSubgroupWrong)

/- THE SECOND FORM. 'bulk': how many values and letters a reading holds, each counted each time it is reached (what is shared counts as often as it is met; a slice's spare places count too). A statement '..UptoSaid' is the law's where the arguments, and the package variables that the reading takes, are together of bulk at most 1048576: NARROWER than '..Said'. Prove '..Said' where nothing that the law and all that it calls make is longer than what came in: it says more and counts as full. Else prove '..UptoSaid'. A law counts once. -/
mutual
def uptoBulk {H : Type} : DataW H → Nat
  | .lit (.string bytes) => bytes.length + 1
  | .lit _ => 1
  | .nil => 1
  | .ptr d => uptoBulk d + 1
  | .slice elems spare => uptoBulkAll elems + uptoBulkAll spare + 1
  | .agg parts => uptoBulkAll parts + 1
  | .iface _ d => uptoBulk d + 1
  | .map entries => uptoBulkEntries entries + 1
  | .held _ => 1
def uptoBulkAll {H : Type} : List (DataW H) → Nat
  | [] => 0
  | d :: r => uptoBulk d + uptoBulkAll r
def uptoBulkEntries {H : Type} : List (Lit × DataW H) → Nat
  | [] => 0
  | x :: r => uptoBulkEntry x + uptoBulkEntries r
def uptoBulkEntry {H : Type} : Lit × DataW H → Nat
  | (.string bytes, d) => bytes.length + uptoBulk d + 1
  | (_, d) => uptoBulk d + 1
 end
def uptoSmall : (H : Type) → List (DataW H) → Bool := fun _ ds => decide (uptoBulkAll ds ≤ 1048576)
def OpenSpec.upto (s : _root_.Go.ChangeSpec) : _root_.Go.OpenSpec := { _root_.Go.OpenSpec.ofChange s with cond := some uptoSmall }

/-- 'laws.FnExactSubgroupOrder', WHERE WHAT IT READS IS OF BULK AT MOST 1048576: true; the input reads as it did. -/
def fnExactSubgroupOrderUptoRow : OpenClaim := { program := "ytjbhjbmobhhabaa", sum := "7d662771183ed675416579bd5ed4181a8a032933e0d0f8e120b0a0d204da802b", func := "loop.example/g01076/laws.FnExactSubgroupOrder", spec := "fnExactSubgroupOrder", unfollowed := true, recurses := true, apart := false, narrowed := true }
def FnExactSubgroupOrderUptoSaid : Prop := fnExactSubgroupOrderUptoRow.holds Try.pinned (OpenSpec.upto fnExactSubgroupOrderSpec)

/-- 'laws.FnExactIsMember', WHERE WHAT IT READS IS OF BULK AT MOST 1048576: true; the input reads as it did. -/
def fnExactIsMemberUptoRow : OpenClaim := { program := "ytjbhjbmobhhabaa", sum := "7d662771183ed675416579bd5ed4181a8a032933e0d0f8e120b0a0d204da802b", func := "loop.example/g01076/laws.FnExactIsMember", spec := "fnExactIsMember", unfollowed := true, recurses := true, apart := false, narrowed := true }
def FnExactIsMemberUptoSaid : Prop := fnExactIsMemberUptoRow.holds Try.pinned (OpenSpec.upto fnExactIsMemberSpec)

/-- 'laws.FnExactIsSubset', WHERE WHAT IT READS IS OF BULK AT MOST 1048576: true; the input reads as it did. -/
def fnExactIsSubsetUptoRow : OpenClaim := { program := "ytjbhjbmobhhabaa", sum := "7d662771183ed675416579bd5ed4181a8a032933e0d0f8e120b0a0d204da802b", func := "loop.example/g01076/laws.FnExactIsSubset", spec := "fnExactIsSubset", unfollowed := true, recurses := true, apart := false, narrowed := true }
def FnExactIsSubsetUptoSaid : Prop := fnExactIsSubsetUptoRow.holds Try.pinned (OpenSpec.upto fnExactIsSubsetSpec)

/-- 'laws.FnExactIsNormalSubgroup', WHERE WHAT IT READS IS OF BULK AT MOST 1048576: true; the input reads as it did. -/
def fnExactIsNormalSubgroupUptoRow : OpenClaim := { program := "ytjbhjbmobhhabaa", sum := "7d662771183ed675416579bd5ed4181a8a032933e0d0f8e120b0a0d204da802b", func := "loop.example/g01076/laws.FnExactIsNormalSubgroup", spec := "fnExactIsNormalSubgroup", unfollowed := true, recurses := true, apart := false, narrowed := true }
def FnExactIsNormalSubgroupUptoSaid : Prop := fnExactIsNormalSubgroupUptoRow.holds Try.pinned (OpenSpec.upto fnExactIsNormalSubgroupSpec)

/-- 'laws.FnExactCosetNumber', WHERE WHAT IT READS IS OF BULK AT MOST 1048576: true; the input reads as it did. -/
def fnExactCosetNumberUptoRow : OpenClaim := { program := "ytjbhjbmobhhabaa", sum := "7d662771183ed675416579bd5ed4181a8a032933e0d0f8e120b0a0d204da802b", func := "loop.example/g01076/laws.FnExactCosetNumber", spec := "fnExactCosetNumber", unfollowed := true, recurses := true, apart := false, narrowed := true }
def FnExactCosetNumberUptoSaid : Prop := fnExactCosetNumberUptoRow.holds Try.pinned (OpenSpec.upto fnExactCosetNumberSpec)

/-- 'laws.FnExactSubgroupIndex', WHERE WHAT IT READS IS OF BULK AT MOST 1048576: true; the input reads as it did. -/
def fnExactSubgroupIndexUptoRow : OpenClaim := { program := "ytjbhjbmobhhabaa", sum := "7d662771183ed675416579bd5ed4181a8a032933e0d0f8e120b0a0d204da802b", func := "loop.example/g01076/laws.FnExactSubgroupIndex", spec := "fnExactSubgroupIndex", unfollowed := true, recurses := true, apart := false, narrowed := true }
def FnExactSubgroupIndexUptoSaid : Prop := fnExactSubgroupIndexUptoRow.holds Try.pinned (OpenSpec.upto fnExactSubgroupIndexSpec)

/-- 'laws.FnExactSubgroupDepths', WHERE WHAT IT READS IS OF BULK AT MOST 1048576: true; the input reads as it did. -/
def fnExactSubgroupDepthsUptoRow : OpenClaim := { program := "ytjbhjbmobhhabaa", sum := "7d662771183ed675416579bd5ed4181a8a032933e0d0f8e120b0a0d204da802b", func := "loop.example/g01076/laws.FnExactSubgroupDepths", spec := "fnExactSubgroupDepths", unfollowed := true, recurses := true, apart := false, narrowed := true }
def FnExactSubgroupDepthsUptoSaid : Prop := fnExactSubgroupDepthsUptoRow.holds Try.pinned (OpenSpec.upto fnExactSubgroupDepthsSpec)

/-- 'laws.FnExactCosetRepresentative', WHERE WHAT IT READS IS OF BULK AT MOST 1048576: true; the input reads as it did. -/
def fnExactCosetRepresentativeUptoRow : OpenClaim := { program := "ytjbhjbmobhhabaa", sum := "7d662771183ed675416579bd5ed4181a8a032933e0d0f8e120b0a0d204da802b", func := "loop.example/g01076/laws.FnExactCosetRepresentative", spec := "fnExactCosetRepresentative", unfollowed := true, recurses := true, apart := false, narrowed := true }
def FnExactCosetRepresentativeUptoSaid : Prop := fnExactCosetRepresentativeUptoRow.holds Try.pinned (OpenSpec.upto fnExactCosetRepresentativeSpec)

/-- 'laws.FnExactMemberExponents', WHERE WHAT IT READS IS OF BULK AT MOST 1048576: true; the input reads as it did. -/
def fnExactMemberExponentsUptoRow : OpenClaim := { program := "ytjbhjbmobhhabaa", sum := "7d662771183ed675416579bd5ed4181a8a032933e0d0f8e120b0a0d204da802b", func := "loop.example/g01076/laws.FnExactMemberExponents", spec := "fnExactMemberExponents", unfollowed := true, recurses := true, apart := false, narrowed := true }
def FnExactMemberExponentsUptoSaid : Prop := fnExactMemberExponentsUptoRow.holds Try.pinned (OpenSpec.upto fnExactMemberExponentsSpec)

/-- 'laws.FnExactMemberElement', WHERE WHAT IT READS IS OF BULK AT MOST 1048576: true; the input reads as it did. -/
def fnExactMemberElementUptoRow : OpenClaim := { program := "ytjbhjbmobhhabaa", sum := "7d662771183ed675416579bd5ed4181a8a032933e0d0f8e120b0a0d204da802b", func := "loop.example/g01076/laws.FnExactMemberElement", spec := "fnExactMemberElement", unfollowed := true, recurses := true, apart := false, narrowed := true }
def FnExactMemberElementUptoSaid : Prop := fnExactMemberElementUptoRow.holds Try.pinned (OpenSpec.upto fnExactMemberElementSpec)

/-- 'laws.FnExactGeneratedSubgroup', WHERE WHAT IT READS IS OF BULK AT MOST 1048576: true; the input reads as it did. -/
def fnExactGeneratedSubgroupUptoRow : OpenClaim := { program := "ytjbhjbmobhhabaa", sum := "7d662771183ed675416579bd5ed4181a8a032933e0d0f8e120b0a0d204da802b", func := "loop.example/g01076/laws.FnExactGeneratedSubgroup", spec := "fnExactGeneratedSubgroup", unfollowed := true, recurses := true, apart := false, narrowed := true }
def FnExactGeneratedSubgroupUptoSaid : Prop := fnExactGeneratedSubgroupUptoRow.holds Try.pinned (OpenSpec.upto fnExactGeneratedSubgroupSpec)

/-- 'laws.FnExactConjugateSubgroup', WHERE WHAT IT READS IS OF BULK AT MOST 1048576: true; the input reads as it did. -/
def fnExactConjugateSubgroupUptoRow : OpenClaim := { program := "ytjbhjbmobhhabaa", sum := "7d662771183ed675416579bd5ed4181a8a032933e0d0f8e120b0a0d204da802b", func := "loop.example/g01076/laws.FnExactConjugateSubgroup", spec := "fnExactConjugateSubgroup", unfollowed := true, recurses := true, apart := false, narrowed := true }
def FnExactConjugateSubgroupUptoSaid : Prop := fnExactConjugateSubgroupUptoRow.holds Try.pinned (OpenSpec.upto fnExactConjugateSubgroupSpec)

end Rows
end Go.Proofs.Ytjbhjbmobhhabaa
