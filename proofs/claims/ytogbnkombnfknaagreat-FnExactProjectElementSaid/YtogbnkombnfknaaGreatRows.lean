/-
  No cell of these rows narrows 'for every input' (looked for: loops, veiled, ifaces, maps, wideKeys, modest, calm, conditions, laid).
  DERIVED. THE GIVEN ROWS OF THIS SEAT. 5 by the template 'for every input the law returns true; each argument reads behind the call as it read before'; 0 by the template 'total and deterministic' (their statements: YtogbnkombnfknaaGreatTotals.lean).
  GIVEN WITH THE SEED: the statements are not yours to turn. If you find one false, say at which input.
  Laid BY PROGRAM, IN A SANDBOX (cutbox-rows.mjs): the forced cells as the released guide's own fill.sh prints them over the translation 8bbb1830b3a2fb05… (all of the seat's roots in one cut). By AI agents, Wed Nov 11 2026. No macro, syntax, notation, axiom, sorry.
-/
import Derived.Test.YtogbnkombnfknaaGreatChecked
import GoSem.Claim
import GoSem.ClaimJoined
import GoSem.ClaimMapViews
import Derived.JoinedTies
import Derived.KernelRfl
namespace Go.Proofs.YtogbnkombnfknaaGreat
/- THE CELL 'sum', in the pinned program and in every row, IS THE sha256 OF THE DUMP (.gsa) THAT YtogbnkombnfknaaGreatProg.lean LOADS. Nothing in Lean hashes anything: it is a label: what it is worth is what the hold of that sum in a sandbox is worth. -/
noncomputable def Tryz.pinned : Pinned := { name := "ytogbnkombnfknaagreat", sum := "8bbb1830b3a2fb05830a0ffe8a019ea2879a9c58edb87ec5cca21cb2ac796e0a", checked := Tryz.checked }
namespace Rows
def none {H : Type} : Left H := { results := [], args := [] }

/-- 'laws.FnExactApplyAutomorphism': WHATEVER THE INPUT: true; the input reads as it did. -/
def fnExactApplyAutomorphismSpec : ChangeSpec := { name := "fnExactApplyAutomorphism", fn := fun _ => fun
  | [d1, d2, d3] => { results := [.lit (.bool true)], args := [d1, d2, d3] }
  | _ => none }
def fnExactApplyAutomorphismRow : OpenClaim := { program := "ytogbnkombnfknaagreat", sum := "8bbb1830b3a2fb05830a0ffe8a019ea2879a9c58edb87ec5cca21cb2ac796e0a", func := "loop.example/g01076/laws.FnExactApplyAutomorphism", spec := "fnExactApplyAutomorphism", unfollowed := true, recurses := true, apart := false }
def FnExactApplyAutomorphismSaid : Prop := fnExactApplyAutomorphismRow.holds Tryz.pinned (OpenSpec.ofChange fnExactApplyAutomorphismSpec)

/-- ITS FALSE NEIGHBOUR: 'it returns false'. Refute it at one input. -/
def fnExactApplyAutomorphismWrong : ChangeSpec := { name := "fnExactApplyAutomorphism", fn := fun _ => fun
  | [d1, d2, d3] => { results := [.lit (.bool false)], args := [d1, d2, d3] }
  | _ => none }
def FnExactApplyAutomorphismWrongFalsely : Prop := fnExactApplyAutomorphismRow.holds Tryz.pinned (OpenSpec.ofChange fnExactApplyAutomorphismWrong)

/-- 'laws.FnExactComposeAutomorphisms': WHATEVER THE INPUT: true; the input reads as it did. -/
def fnExactComposeAutomorphismsSpec : ChangeSpec := { name := "fnExactComposeAutomorphisms", fn := fun _ => fun
  | [d1, d2, d3] => { results := [.lit (.bool true)], args := [d1, d2, d3] }
  | _ => none }
def fnExactComposeAutomorphismsRow : OpenClaim := { program := "ytogbnkombnfknaagreat", sum := "8bbb1830b3a2fb05830a0ffe8a019ea2879a9c58edb87ec5cca21cb2ac796e0a", func := "loop.example/g01076/laws.FnExactComposeAutomorphisms", spec := "fnExactComposeAutomorphisms", unfollowed := true, recurses := true, apart := false }
def FnExactComposeAutomorphismsSaid : Prop := fnExactComposeAutomorphismsRow.holds Tryz.pinned (OpenSpec.ofChange fnExactComposeAutomorphismsSpec)

/-- ITS FALSE NEIGHBOUR: 'it returns false'. Refute it at one input. -/
def fnExactComposeAutomorphismsWrong : ChangeSpec := { name := "fnExactComposeAutomorphisms", fn := fun _ => fun
  | [d1, d2, d3] => { results := [.lit (.bool false)], args := [d1, d2, d3] }
  | _ => none }
def FnExactComposeAutomorphismsWrongFalsely : Prop := fnExactComposeAutomorphismsRow.holds Tryz.pinned (OpenSpec.ofChange fnExactComposeAutomorphismsWrong)

/-- 'laws.FnExactAutomorphismOrder': WHATEVER THE INPUT: true; the input reads as it did. -/
def fnExactAutomorphismOrderSpec : ChangeSpec := { name := "fnExactAutomorphismOrder", fn := fun _ => fun
  | [d1, d2] => { results := [.lit (.bool true)], args := [d1, d2] }
  | _ => none }
def fnExactAutomorphismOrderRow : OpenClaim := { program := "ytogbnkombnfknaagreat", sum := "8bbb1830b3a2fb05830a0ffe8a019ea2879a9c58edb87ec5cca21cb2ac796e0a", func := "loop.example/g01076/laws.FnExactAutomorphismOrder", spec := "fnExactAutomorphismOrder", unfollowed := true, recurses := true, apart := false }
def FnExactAutomorphismOrderSaid : Prop := fnExactAutomorphismOrderRow.holds Tryz.pinned (OpenSpec.ofChange fnExactAutomorphismOrderSpec)

/-- ITS FALSE NEIGHBOUR: 'it returns false'. Refute it at one input. -/
def fnExactAutomorphismOrderWrong : ChangeSpec := { name := "fnExactAutomorphismOrder", fn := fun _ => fun
  | [d1, d2] => { results := [.lit (.bool false)], args := [d1, d2] }
  | _ => none }
def FnExactAutomorphismOrderWrongFalsely : Prop := fnExactAutomorphismOrderRow.holds Tryz.pinned (OpenSpec.ofChange fnExactAutomorphismOrderWrong)

/-- 'laws.FnExactInvertAutomorphism': WHATEVER THE INPUT: true; the input reads as it did. -/
def fnExactInvertAutomorphismSpec : ChangeSpec := { name := "fnExactInvertAutomorphism", fn := fun _ => fun
  | [d1, d2] => { results := [.lit (.bool true)], args := [d1, d2] }
  | _ => none }
def fnExactInvertAutomorphismRow : OpenClaim := { program := "ytogbnkombnfknaagreat", sum := "8bbb1830b3a2fb05830a0ffe8a019ea2879a9c58edb87ec5cca21cb2ac796e0a", func := "loop.example/g01076/laws.FnExactInvertAutomorphism", spec := "fnExactInvertAutomorphism", unfollowed := true, recurses := true, apart := false }
def FnExactInvertAutomorphismSaid : Prop := fnExactInvertAutomorphismRow.holds Tryz.pinned (OpenSpec.ofChange fnExactInvertAutomorphismSpec)

/-- ITS FALSE NEIGHBOUR: 'it returns false'. Refute it at one input. -/
def fnExactInvertAutomorphismWrong : ChangeSpec := { name := "fnExactInvertAutomorphism", fn := fun _ => fun
  | [d1, d2] => { results := [.lit (.bool false)], args := [d1, d2] }
  | _ => none }
def FnExactInvertAutomorphismWrongFalsely : Prop := fnExactInvertAutomorphismRow.holds Tryz.pinned (OpenSpec.ofChange fnExactInvertAutomorphismWrong)

/-- 'laws.FnExactProjectElement': WHATEVER THE INPUT: true; the input reads as it did. -/
def fnExactProjectElementSpec : ChangeSpec := { name := "fnExactProjectElement", fn := fun _ => fun
  | [d1, d2, d3] => { results := [.lit (.bool true)], args := [d1, d2, d3] }
  | _ => none }
def fnExactProjectElementRow : OpenClaim := { program := "ytogbnkombnfknaagreat", sum := "8bbb1830b3a2fb05830a0ffe8a019ea2879a9c58edb87ec5cca21cb2ac796e0a", func := "loop.example/g01076/laws.FnExactProjectElement", spec := "fnExactProjectElement", unfollowed := true, recurses := true, apart := false }
def FnExactProjectElementSaid : Prop := fnExactProjectElementRow.holds Tryz.pinned (OpenSpec.ofChange fnExactProjectElementSpec)

/-- ITS FALSE NEIGHBOUR: 'it returns false'. Refute it at one input. -/
def fnExactProjectElementWrong : ChangeSpec := { name := "fnExactProjectElement", fn := fun _ => fun
  | [d1, d2, d3] => { results := [.lit (.bool false)], args := [d1, d2, d3] }
  | _ => none }
def FnExactProjectElementWrongFalsely : Prop := fnExactProjectElementRow.holds Tryz.pinned (OpenSpec.ofChange fnExactProjectElementWrong)

/- THE SECOND FORM. 'bulk': how many values and letters a reading holds, each counted each time it is reached (what is shared counts as often as it is met; a slice's spare places count too). A statement '..UptoSaid' is the law's where the arguments, and the package variables that the reading takes, are together of bulk at most 1048576: NARROWER than '..Said'. Prove '..Said' where nothing that the law and all that it calls make is longer than what came in: it says more and counts as full. Else prove '..UptoSaid'. A law counts once. -/
mutual
def uptoBulk {H : Type} : DataW H → Nat
  | .lit (.string bytes) => bytes.length + 1
  | .lit _ => 1
  | .nil => 1
  | .ptr d => uptoBulk d + 1
  | .slice elems spare => uptoBulkAll elems + uptoBulkAll spare + 1
  | .agg parts => uptoBulkAll parts + 1
  | .iface _ d => uptoBulk d + 1
  | .map entries => uptoBulkEntries entries + 1
  | .held _ => 1
def uptoBulkAll {H : Type} : List (DataW H) → Nat
  | [] => 0
  | d :: r => uptoBulk d + uptoBulkAll r
def uptoBulkEntries {H : Type} : List (Lit × DataW H) → Nat
  | [] => 0
  | x :: r => uptoBulkEntry x + uptoBulkEntries r
def uptoBulkEntry {H : Type} : Lit × DataW H → Nat
  | (.string bytes, d) => bytes.length + uptoBulk d + 1
  | (_, d) => uptoBulk d + 1
 end
def uptoSmall : (H : Type) → List (DataW H) → Bool := fun _ ds => decide (uptoBulkAll ds ≤ 1048576)
def OpenSpec.upto (s : _root_.Go.ChangeSpec) : _root_.Go.OpenSpec := { _root_.Go.OpenSpec.ofChange s with cond := some uptoSmall }

/-- 'laws.FnExactApplyAutomorphism', WHERE WHAT IT READS IS OF BULK AT MOST 1048576: true; the input reads as it did. -/
def fnExactApplyAutomorphismUptoRow : OpenClaim := { program := "ytogbnkombnfknaagreat", sum := "8bbb1830b3a2fb05830a0ffe8a019ea2879a9c58edb87ec5cca21cb2ac796e0a", func := "loop.example/g01076/laws.FnExactApplyAutomorphism", spec := "fnExactApplyAutomorphism", unfollowed := true, recurses := true, apart := false, narrowed := true }
def FnExactApplyAutomorphismUptoSaid : Prop := fnExactApplyAutomorphismUptoRow.holds Tryz.pinned (OpenSpec.upto fnExactApplyAutomorphismSpec)

/-- 'laws.FnExactComposeAutomorphisms', WHERE WHAT IT READS IS OF BULK AT MOST 1048576: true; the input reads as it did. -/
def fnExactComposeAutomorphismsUptoRow : OpenClaim := { program := "ytogbnkombnfknaagreat", sum := "8bbb1830b3a2fb05830a0ffe8a019ea2879a9c58edb87ec5cca21cb2ac796e0a", func := "loop.example/g01076/laws.FnExactComposeAutomorphisms", spec := "fnExactComposeAutomorphisms", unfollowed := true, recurses := true, apart := false, narrowed := true }
def FnExactComposeAutomorphismsUptoSaid : Prop := fnExactComposeAutomorphismsUptoRow.holds Tryz.pinned (OpenSpec.upto fnExactComposeAutomorphismsSpec)

/-- 'laws.FnExactAutomorphismOrder', WHERE WHAT IT READS IS OF BULK AT MOST 1048576: true; the input reads as it did. -/
def fnExactAutomorphismOrderUptoRow : OpenClaim := { program := "ytogbnkombnfknaagreat", sum := "8bbb1830b3a2fb05830a0ffe8a019ea2879a9c58edb87ec5cca21cb2ac796e0a", func := "loop.example/g01076/laws.FnExactAutomorphismOrder", spec := "fnExactAutomorphismOrder", unfollowed := true, recurses := true, apart := false, narrowed := true }
def FnExactAutomorphismOrderUptoSaid : Prop := fnExactAutomorphismOrderUptoRow.holds Tryz.pinned (OpenSpec.upto fnExactAutomorphismOrderSpec)

/-- 'laws.FnExactInvertAutomorphism', WHERE WHAT IT READS IS OF BULK AT MOST 1048576: true; the input reads as it did. -/
def fnExactInvertAutomorphismUptoRow : OpenClaim := { program := "ytogbnkombnfknaagreat", sum := "8bbb1830b3a2fb05830a0ffe8a019ea2879a9c58edb87ec5cca21cb2ac796e0a", func := "loop.example/g01076/laws.FnExactInvertAutomorphism", spec := "fnExactInvertAutomorphism", unfollowed := true, recurses := true, apart := false, narrowed := true }
def FnExactInvertAutomorphismUptoSaid : Prop := fnExactInvertAutomorphismUptoRow.holds Tryz.pinned (OpenSpec.upto fnExactInvertAutomorphismSpec)

/-- 'laws.FnExactProjectElement', WHERE WHAT IT READS IS OF BULK AT MOST 1048576: true; the input reads as it did. -/
def fnExactProjectElementUptoRow : OpenClaim := { program := "ytogbnkombnfknaagreat", sum := "8bbb1830b3a2fb05830a0ffe8a019ea2879a9c58edb87ec5cca21cb2ac796e0a", func := "loop.example/g01076/laws.FnExactProjectElement", spec := "fnExactProjectElement", unfollowed := true, recurses := true, apart := false, narrowed := true }
def FnExactProjectElementUptoSaid : Prop := fnExactProjectElementUptoRow.holds Tryz.pinned (OpenSpec.upto fnExactProjectElementSpec)

end Rows
end Go.Proofs.YtogbnkombnfknaaGreat
