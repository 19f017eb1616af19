/-
  No cell of these rows narrows 'for every input' (looked for: loops, veiled, ifaces, maps, wideKeys, modest, calm, conditions, laid).
  DERIVED. THE GIVEN ROWS OF THIS SEAT. 3 by the template 'for every input the law returns true; each argument reads behind the call as it read before'; 0 by the template 'total and deterministic' (their statements: YtcohfmglfmomcaaGreatTotals.lean).
  GIVEN WITH THE SEED: the statements are not yours to turn. If you find one false, say at which input.
  Laid BY PROGRAM, IN A SANDBOX (cutbox-rows.mjs): the forced cells as the released guide's own fill.sh prints them over the translation ae8742ea626af291… (all of the seat's roots in one cut). By AI agents, Wed Nov 11 2026. No macro, syntax, notation, axiom, sorry.
-/
import Derived.Test.YtcohfmglfmomcaaGreatChecked
import GoSem.Claim
import GoSem.ClaimJoined
import GoSem.ClaimMapViews
import Derived.JoinedTies
import Derived.KernelRfl
namespace Go.Proofs.YtcohfmglfmomcaaGreat
/- THE CELL 'sum', in the pinned program and in every row, IS THE sha256 OF THE DUMP (.gsa) THAT YtcohfmglfmomcaaGreatProg.lean LOADS. Nothing in Lean hashes anything: it is a label: what it is worth is what the hold of that sum in a sandbox is worth. -/
noncomputable def Tryz.pinned : Pinned := { name := "ytcohfmglfmomcaagreat", sum := "ae8742ea626af2918aba2e61d1d8f8b58d2e26a6966bd4c7719a215c04f1fc6f", checked := Tryz.checked }
namespace Rows
def none {H : Type} : Left H := { results := [], args := [] }

/-- 'laws.FnExactTransversal': WHATEVER THE INPUT: true; the input reads as it did. -/
def fnExactTransversalSpec : ChangeSpec := { name := "fnExactTransversal", fn := fun _ => fun
  | [d1, d2] => { results := [.lit (.bool true)], args := [d1, d2] }
  | _ => none }
def fnExactTransversalRow : OpenClaim := { program := "ytcohfmglfmomcaagreat", sum := "ae8742ea626af2918aba2e61d1d8f8b58d2e26a6966bd4c7719a215c04f1fc6f", func := "loop.example/g01076/laws.FnExactTransversal", spec := "fnExactTransversal", unfollowed := true, recurses := true, apart := false }
def FnExactTransversalSaid : Prop := fnExactTransversalRow.holds Tryz.pinned (OpenSpec.ofChange fnExactTransversalSpec)

/-- ITS FALSE NEIGHBOUR: 'it returns false'. Refute it at one input. -/
def fnExactTransversalWrong : ChangeSpec := { name := "fnExactTransversal", fn := fun _ => fun
  | [d1, d2] => { results := [.lit (.bool false)], args := [d1, d2] }
  | _ => none }
def FnExactTransversalWrongFalsely : Prop := fnExactTransversalRow.holds Tryz.pinned (OpenSpec.ofChange fnExactTransversalWrong)

/-- 'laws.FnExactCosetAction': WHATEVER THE INPUT: true; the input reads as it did. -/
def fnExactCosetActionSpec : ChangeSpec := { name := "fnExactCosetAction", fn := fun _ => fun
  | [d1, d2, d3] => { results := [.lit (.bool true)], args := [d1, d2, d3] }
  | _ => none }
def fnExactCosetActionRow : OpenClaim := { program := "ytcohfmglfmomcaagreat", sum := "ae8742ea626af2918aba2e61d1d8f8b58d2e26a6966bd4c7719a215c04f1fc6f", func := "loop.example/g01076/laws.FnExactCosetAction", spec := "fnExactCosetAction", unfollowed := true, recurses := true, apart := false }
def FnExactCosetActionSaid : Prop := fnExactCosetActionRow.holds Tryz.pinned (OpenSpec.ofChange fnExactCosetActionSpec)

/-- ITS FALSE NEIGHBOUR: 'it returns false'. Refute it at one input. -/
def fnExactCosetActionWrong : ChangeSpec := { name := "fnExactCosetAction", fn := fun _ => fun
  | [d1, d2, d3] => { results := [.lit (.bool false)], args := [d1, d2, d3] }
  | _ => none }
def FnExactCosetActionWrongFalsely : Prop := fnExactCosetActionRow.holds Tryz.pinned (OpenSpec.ofChange fnExactCosetActionWrong)

/-- 'laws.FnExactFixedCosets': WHATEVER THE INPUT: true; the input reads as it did. -/
def fnExactFixedCosetsSpec : ChangeSpec := { name := "fnExactFixedCosets", fn := fun _ => fun
  | [d1, d2, d3] => { results := [.lit (.bool true)], args := [d1, d2, d3] }
  | _ => none }
def fnExactFixedCosetsRow : OpenClaim := { program := "ytcohfmglfmomcaagreat", sum := "ae8742ea626af2918aba2e61d1d8f8b58d2e26a6966bd4c7719a215c04f1fc6f", func := "loop.example/g01076/laws.FnExactFixedCosets", spec := "fnExactFixedCosets", unfollowed := true, recurses := true, apart := false }
def FnExactFixedCosetsSaid : Prop := fnExactFixedCosetsRow.holds Tryz.pinned (OpenSpec.ofChange fnExactFixedCosetsSpec)

/-- ITS FALSE NEIGHBOUR: 'it returns false'. Refute it at one input. -/
def fnExactFixedCosetsWrong : ChangeSpec := { name := "fnExactFixedCosets", fn := fun _ => fun
  | [d1, d2, d3] => { results := [.lit (.bool false)], args := [d1, d2, d3] }
  | _ => none }
def FnExactFixedCosetsWrongFalsely : Prop := fnExactFixedCosetsRow.holds Tryz.pinned (OpenSpec.ofChange fnExactFixedCosetsWrong)

/- THE SECOND FORM. 'bulk': how many values and letters a reading holds, each counted each time it is reached (what is shared counts as often as it is met; a slice's spare places count too). A statement '..UptoSaid' is the law's where the arguments, and the package variables that the reading takes, are together of bulk at most 1048576: NARROWER than '..Said'. Prove '..Said' where nothing that the law and all that it calls make is longer than what came in: it says more and counts as full. Else prove '..UptoSaid'. A law counts once. -/
mutual
def uptoBulk {H : Type} : DataW H → Nat
  | .lit (.string bytes) => bytes.length + 1
  | .lit _ => 1
  | .nil => 1
  | .ptr d => uptoBulk d + 1
  | .slice elems spare => uptoBulkAll elems + uptoBulkAll spare + 1
  | .agg parts => uptoBulkAll parts + 1
  | .iface _ d => uptoBulk d + 1
  | .map entries => uptoBulkEntries entries + 1
  | .held _ => 1
def uptoBulkAll {H : Type} : List (DataW H) → Nat
  | [] => 0
  | d :: r => uptoBulk d + uptoBulkAll r
def uptoBulkEntries {H : Type} : List (Lit × DataW H) → Nat
  | [] => 0
  | x :: r => uptoBulkEntry x + uptoBulkEntries r
def uptoBulkEntry {H : Type} : Lit × DataW H → Nat
  | (.string bytes, d) => bytes.length + uptoBulk d + 1
  | (_, d) => uptoBulk d + 1
 end
def uptoSmall : (H : Type) → List (DataW H) → Bool := fun _ ds => decide (uptoBulkAll ds ≤ 1048576)
def OpenSpec.upto (s : _root_.Go.ChangeSpec) : _root_.Go.OpenSpec := { _root_.Go.OpenSpec.ofChange s with cond := some uptoSmall }

/-- 'laws.FnExactTransversal', WHERE WHAT IT READS IS OF BULK AT MOST 1048576: true; the input reads as it did. -/
def fnExactTransversalUptoRow : OpenClaim := { program := "ytcohfmglfmomcaagreat", sum := "ae8742ea626af2918aba2e61d1d8f8b58d2e26a6966bd4c7719a215c04f1fc6f", func := "loop.example/g01076/laws.FnExactTransversal", spec := "fnExactTransversal", unfollowed := true, recurses := true, apart := false, narrowed := true }
def FnExactTransversalUptoSaid : Prop := fnExactTransversalUptoRow.holds Tryz.pinned (OpenSpec.upto fnExactTransversalSpec)

/-- 'laws.FnExactCosetAction', WHERE WHAT IT READS IS OF BULK AT MOST 1048576: true; the input reads as it did. -/
def fnExactCosetActionUptoRow : OpenClaim := { program := "ytcohfmglfmomcaagreat", sum := "ae8742ea626af2918aba2e61d1d8f8b58d2e26a6966bd4c7719a215c04f1fc6f", func := "loop.example/g01076/laws.FnExactCosetAction", spec := "fnExactCosetAction", unfollowed := true, recurses := true, apart := false, narrowed := true }
def FnExactCosetActionUptoSaid : Prop := fnExactCosetActionUptoRow.holds Tryz.pinned (OpenSpec.upto fnExactCosetActionSpec)

/-- 'laws.FnExactFixedCosets', WHERE WHAT IT READS IS OF BULK AT MOST 1048576: true; the input reads as it did. -/
def fnExactFixedCosetsUptoRow : OpenClaim := { program := "ytcohfmglfmomcaagreat", sum := "ae8742ea626af2918aba2e61d1d8f8b58d2e26a6966bd4c7719a215c04f1fc6f", func := "loop.example/g01076/laws.FnExactFixedCosets", spec := "fnExactFixedCosets", unfollowed := true, recurses := true, apart := false, narrowed := true }
def FnExactFixedCosetsUptoSaid : Prop := fnExactFixedCosetsUptoRow.holds Tryz.pinned (OpenSpec.upto fnExactFixedCosetsSpec)

end Rows
end Go.Proofs.YtcohfmglfmomcaaGreat
