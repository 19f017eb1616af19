/-
  No cell of these rows narrows 'for every input' (looked for: loops, veiled, ifaces, maps, wideKeys, modest, calm, conditions, laid).
  DERIVED. THE GIVEN ROWS OF THIS SEAT. 10 by the template 'for every input the law returns true; each argument reads behind the call as it read before'; 0 by the template 'total and deterministic' (their statements: YtnphljflkpekmaaGreatTotals.lean).
  GIVEN WITH THE SEED: the statements are not yours to turn. If you find one false, say at which input.
  Laid BY PROGRAM, IN A SANDBOX (cutbox-rows.mjs): the forced cells as the released guide's own fill.sh prints them over the translation cc841274c6f35965… (all of the seat's roots in one cut). By AI agents, Wed Nov 11 2026. No macro, syntax, notation, axiom, sorry.
-/
import Derived.Test.YtnphljflkpekmaaGreatChecked
import GoSem.Claim
import GoSem.ClaimJoined
import GoSem.ClaimMapViews
import Derived.JoinedTies
import Derived.KernelRfl
namespace Go.Proofs.YtnphljflkpekmaaGreat
/- THE CELL 'sum', in the pinned program and in every row, IS THE sha256 OF THE DUMP (.gsa) THAT YtnphljflkpekmaaGreatProg.lean LOADS. Nothing in Lean hashes anything: it is a label: what it is worth is what the hold of that sum in a sandbox is worth. -/
noncomputable def Tryz.pinned : Pinned := { name := "ytnphljflkpekmaagreat", sum := "cc841274c6f359658cf2f2d9a6c14c4a34d2bf1d2bf443d4a8e43ff80cf69c85", checked := Tryz.checked }
namespace Rows
def none {H : Type} : Left H := { results := [], args := [] }

/-- 'laws.FnExactNaturalHom': WHATEVER THE INPUT: true; the input reads as it did. -/
def fnExactNaturalHomSpec : ChangeSpec := { name := "fnExactNaturalHom", fn := fun _ => fun
  | [d1, d2] => { results := [.lit (.bool true)], args := [d1, d2] }
  | _ => none }
def fnExactNaturalHomRow : OpenClaim := { program := "ytnphljflkpekmaagreat", sum := "cc841274c6f359658cf2f2d9a6c14c4a34d2bf1d2bf443d4a8e43ff80cf69c85", func := "loop.example/g01076/laws.FnExactNaturalHom", spec := "fnExactNaturalHom", unfollowed := true, recurses := true, apart := false }
def FnExactNaturalHomSaid : Prop := fnExactNaturalHomRow.holds Tryz.pinned (OpenSpec.ofChange fnExactNaturalHomSpec)

/-- ITS FALSE NEIGHBOUR: 'it returns false'. Refute it at one input. -/
def fnExactNaturalHomWrong : ChangeSpec := { name := "fnExactNaturalHom", fn := fun _ => fun
  | [d1, d2] => { results := [.lit (.bool false)], args := [d1, d2] }
  | _ => none }
def FnExactNaturalHomWrongFalsely : Prop := fnExactNaturalHomRow.holds Tryz.pinned (OpenSpec.ofChange fnExactNaturalHomWrong)

/-- 'laws.FnExactInclusionHom': WHATEVER THE INPUT: true; the input reads as it did. -/
def fnExactInclusionHomSpec : ChangeSpec := { name := "fnExactInclusionHom", fn := fun _ => fun
  | [d1, d2] => { results := [.lit (.bool true)], args := [d1, d2] }
  | _ => none }
def fnExactInclusionHomRow : OpenClaim := { program := "ytnphljflkpekmaagreat", sum := "cc841274c6f359658cf2f2d9a6c14c4a34d2bf1d2bf443d4a8e43ff80cf69c85", func := "loop.example/g01076/laws.FnExactInclusionHom", spec := "fnExactInclusionHom", unfollowed := true, recurses := true, apart := false }
def FnExactInclusionHomSaid : Prop := fnExactInclusionHomRow.holds Tryz.pinned (OpenSpec.ofChange fnExactInclusionHomSpec)

/-- ITS FALSE NEIGHBOUR: 'it returns false'. Refute it at one input. -/
def fnExactInclusionHomWrong : ChangeSpec := { name := "fnExactInclusionHom", fn := fun _ => fun
  | [d1, d2] => { results := [.lit (.bool false)], args := [d1, d2] }
  | _ => none }
def FnExactInclusionHomWrongFalsely : Prop := fnExactInclusionHomRow.holds Tryz.pinned (OpenSpec.ofChange fnExactInclusionHomWrong)

/-- 'laws.FnExactComposeHoms': WHATEVER THE INPUT: true; the input reads as it did. -/
def fnExactComposeHomsSpec : ChangeSpec := { name := "fnExactComposeHoms", fn := fun _ => fun
  | [d1, d2] => { results := [.lit (.bool true)], args := [d1, d2] }
  | _ => none }
def fnExactComposeHomsRow : OpenClaim := { program := "ytnphljflkpekmaagreat", sum := "cc841274c6f359658cf2f2d9a6c14c4a34d2bf1d2bf443d4a8e43ff80cf69c85", func := "loop.example/g01076/laws.FnExactComposeHoms", spec := "fnExactComposeHoms", unfollowed := true, recurses := true, apart := false }
def FnExactComposeHomsSaid : Prop := fnExactComposeHomsRow.holds Tryz.pinned (OpenSpec.ofChange fnExactComposeHomsSpec)

/-- ITS FALSE NEIGHBOUR: 'it returns false'. Refute it at one input. -/
def fnExactComposeHomsWrong : ChangeSpec := { name := "fnExactComposeHoms", fn := fun _ => fun
  | [d1, d2] => { results := [.lit (.bool false)], args := [d1, d2] }
  | _ => none }
def FnExactComposeHomsWrongFalsely : Prop := fnExactComposeHomsRow.holds Tryz.pinned (OpenSpec.ofChange fnExactComposeHomsWrong)

/-- 'laws.FnExactProjectSubgroup': WHATEVER THE INPUT: true; the input reads as it did. -/
def fnExactProjectSubgroupSpec : ChangeSpec := { name := "fnExactProjectSubgroup", fn := fun _ => fun
  | [d1, d2, d3] => { results := [.lit (.bool true)], args := [d1, d2, d3] }
  | _ => none }
def fnExactProjectSubgroupRow : OpenClaim := { program := "ytnphljflkpekmaagreat", sum := "cc841274c6f359658cf2f2d9a6c14c4a34d2bf1d2bf443d4a8e43ff80cf69c85", func := "loop.example/g01076/laws.FnExactProjectSubgroup", spec := "fnExactProjectSubgroup", unfollowed := true, recurses := true, apart := false }
def FnExactProjectSubgroupSaid : Prop := fnExactProjectSubgroupRow.holds Tryz.pinned (OpenSpec.ofChange fnExactProjectSubgroupSpec)

/-- ITS FALSE NEIGHBOUR: 'it returns false'. Refute it at one input. -/
def fnExactProjectSubgroupWrong : ChangeSpec := { name := "fnExactProjectSubgroup", fn := fun _ => fun
  | [d1, d2, d3] => { results := [.lit (.bool false)], args := [d1, d2, d3] }
  | _ => none }
def FnExactProjectSubgroupWrongFalsely : Prop := fnExactProjectSubgroupRow.holds Tryz.pinned (OpenSpec.ofChange fnExactProjectSubgroupWrong)

/-- 'laws.FnExactHomImage': WHATEVER THE INPUT: true; the input reads as it did. -/
def fnExactHomImageSpec : ChangeSpec := { name := "fnExactHomImage", fn := fun _ => fun
  | [d] => { results := [.lit (.bool true)], args := [d] }
  | _ => none }
def fnExactHomImageRow : OpenClaim := { program := "ytnphljflkpekmaagreat", sum := "cc841274c6f359658cf2f2d9a6c14c4a34d2bf1d2bf443d4a8e43ff80cf69c85", func := "loop.example/g01076/laws.FnExactHomImage", spec := "fnExactHomImage", unfollowed := true, recurses := true, apart := false }
def FnExactHomImageSaid : Prop := fnExactHomImageRow.holds Tryz.pinned (OpenSpec.ofChange fnExactHomImageSpec)

/-- ITS FALSE NEIGHBOUR: 'it returns false'. Refute it at one input. -/
def fnExactHomImageWrong : ChangeSpec := { name := "fnExactHomImage", fn := fun _ => fun
  | [d] => { results := [.lit (.bool false)], args := [d] }
  | _ => none }
def FnExactHomImageWrongFalsely : Prop := fnExactHomImageRow.holds Tryz.pinned (OpenSpec.ofChange fnExactHomImageWrong)

/-- 'laws.FnExactLiftElement': WHATEVER THE INPUT: true; the input reads as it did. -/
def fnExactLiftElementSpec : ChangeSpec := { name := "fnExactLiftElement", fn := fun _ => fun
  | [d1, d2, d3] => { results := [.lit (.bool true)], args := [d1, d2, d3] }
  | _ => none }
def fnExactLiftElementRow : OpenClaim := { program := "ytnphljflkpekmaagreat", sum := "cc841274c6f359658cf2f2d9a6c14c4a34d2bf1d2bf443d4a8e43ff80cf69c85", func := "loop.example/g01076/laws.FnExactLiftElement", spec := "fnExactLiftElement", unfollowed := true, recurses := true, apart := false }
def FnExactLiftElementSaid : Prop := fnExactLiftElementRow.holds Tryz.pinned (OpenSpec.ofChange fnExactLiftElementSpec)

/-- ITS FALSE NEIGHBOUR: 'it returns false'. Refute it at one input. -/
def fnExactLiftElementWrong : ChangeSpec := { name := "fnExactLiftElement", fn := fun _ => fun
  | [d1, d2, d3] => { results := [.lit (.bool false)], args := [d1, d2, d3] }
  | _ => none }
def FnExactLiftElementWrongFalsely : Prop := fnExactLiftElementRow.holds Tryz.pinned (OpenSpec.ofChange fnExactLiftElementWrong)

/-- 'laws.FnExactQuotientPresentation': WHATEVER THE INPUT: true; the input reads as it did. -/
def fnExactQuotientPresentationSpec : ChangeSpec := { name := "fnExactQuotientPresentation", fn := fun _ => fun
  | [d1, d2] => { results := [.lit (.bool true)], args := [d1, d2] }
  | _ => none }
def fnExactQuotientPresentationRow : OpenClaim := { program := "ytnphljflkpekmaagreat", sum := "cc841274c6f359658cf2f2d9a6c14c4a34d2bf1d2bf443d4a8e43ff80cf69c85", func := "loop.example/g01076/laws.FnExactQuotientPresentation", spec := "fnExactQuotientPresentation", unfollowed := true, recurses := true, apart := false }
def FnExactQuotientPresentationSaid : Prop := fnExactQuotientPresentationRow.holds Tryz.pinned (OpenSpec.ofChange fnExactQuotientPresentationSpec)

/-- ITS FALSE NEIGHBOUR: 'it returns false'. Refute it at one input. -/
def fnExactQuotientPresentationWrong : ChangeSpec := { name := "fnExactQuotientPresentation", fn := fun _ => fun
  | [d1, d2] => { results := [.lit (.bool false)], args := [d1, d2] }
  | _ => none }
def FnExactQuotientPresentationWrongFalsely : Prop := fnExactQuotientPresentationRow.holds Tryz.pinned (OpenSpec.ofChange fnExactQuotientPresentationWrong)

/-- 'laws.FnExactLiftSubgroup': WHATEVER THE INPUT: true; the input reads as it did. -/
def fnExactLiftSubgroupSpec : ChangeSpec := { name := "fnExactLiftSubgroup", fn := fun _ => fun
  | [d1, d2, d3] => { results := [.lit (.bool true)], args := [d1, d2, d3] }
  | _ => none }
def fnExactLiftSubgroupRow : OpenClaim := { program := "ytnphljflkpekmaagreat", sum := "cc841274c6f359658cf2f2d9a6c14c4a34d2bf1d2bf443d4a8e43ff80cf69c85", func := "loop.example/g01076/laws.FnExactLiftSubgroup", spec := "fnExactLiftSubgroup", unfollowed := true, recurses := true, apart := false }
def FnExactLiftSubgroupSaid : Prop := fnExactLiftSubgroupRow.holds Tryz.pinned (OpenSpec.ofChange fnExactLiftSubgroupSpec)

/-- ITS FALSE NEIGHBOUR: 'it returns false'. Refute it at one input. -/
def fnExactLiftSubgroupWrong : ChangeSpec := { name := "fnExactLiftSubgroup", fn := fun _ => fun
  | [d1, d2, d3] => { results := [.lit (.bool false)], args := [d1, d2, d3] }
  | _ => none }
def FnExactLiftSubgroupWrongFalsely : Prop := fnExactLiftSubgroupRow.holds Tryz.pinned (OpenSpec.ofChange fnExactLiftSubgroupWrong)

/-- 'laws.FnExactInvertAutomorphism': WHATEVER THE INPUT: true; the input reads as it did. -/
def fnExactInvertAutomorphismSpec : ChangeSpec := { name := "fnExactInvertAutomorphism", fn := fun _ => fun
  | [d1, d2] => { results := [.lit (.bool true)], args := [d1, d2] }
  | _ => none }
def fnExactInvertAutomorphismRow : OpenClaim := { program := "ytnphljflkpekmaagreat", sum := "cc841274c6f359658cf2f2d9a6c14c4a34d2bf1d2bf443d4a8e43ff80cf69c85", func := "loop.example/g01076/laws.FnExactInvertAutomorphism", spec := "fnExactInvertAutomorphism", unfollowed := true, recurses := true, apart := false }
def FnExactInvertAutomorphismSaid : Prop := fnExactInvertAutomorphismRow.holds Tryz.pinned (OpenSpec.ofChange fnExactInvertAutomorphismSpec)

/-- ITS FALSE NEIGHBOUR: 'it returns false'. Refute it at one input. -/
def fnExactInvertAutomorphismWrong : ChangeSpec := { name := "fnExactInvertAutomorphism", fn := fun _ => fun
  | [d1, d2] => { results := [.lit (.bool false)], args := [d1, d2] }
  | _ => none }
def FnExactInvertAutomorphismWrongFalsely : Prop := fnExactInvertAutomorphismRow.holds Tryz.pinned (OpenSpec.ofChange fnExactInvertAutomorphismWrong)

/-- 'laws.FnExactSubgroupImage': WHATEVER THE INPUT: true; the input reads as it did. -/
def fnExactSubgroupImageSpec : ChangeSpec := { name := "fnExactSubgroupImage", fn := fun _ => fun
  | [d1, d2] => { results := [.lit (.bool true)], args := [d1, d2] }
  | _ => none }
def fnExactSubgroupImageRow : OpenClaim := { program := "ytnphljflkpekmaagreat", sum := "cc841274c6f359658cf2f2d9a6c14c4a34d2bf1d2bf443d4a8e43ff80cf69c85", func := "loop.example/g01076/laws.FnExactSubgroupImage", spec := "fnExactSubgroupImage", unfollowed := true, recurses := true, apart := false }
def FnExactSubgroupImageSaid : Prop := fnExactSubgroupImageRow.holds Tryz.pinned (OpenSpec.ofChange fnExactSubgroupImageSpec)

/-- ITS FALSE NEIGHBOUR: 'it returns false'. Refute it at one input. -/
def fnExactSubgroupImageWrong : ChangeSpec := { name := "fnExactSubgroupImage", fn := fun _ => fun
  | [d1, d2] => { results := [.lit (.bool false)], args := [d1, d2] }
  | _ => none }
def FnExactSubgroupImageWrongFalsely : Prop := fnExactSubgroupImageRow.holds Tryz.pinned (OpenSpec.ofChange fnExactSubgroupImageWrong)

/- THE SECOND FORM. 'bulk': how many values and letters a reading holds, each counted each time it is reached (what is shared counts as often as it is met; a slice's spare places count too). A statement '..UptoSaid' is the law's where the arguments, and the package variables that the reading takes, are together of bulk at most 1048576: NARROWER than '..Said'. Prove '..Said' where nothing that the law and all that it calls make is longer than what came in: it says more and counts as full. Else prove '..UptoSaid'. A law counts once. -/
mutual
def uptoBulk {H : Type} : DataW H → Nat
  | .lit (.string bytes) => bytes.length + 1
  | .lit _ => 1
  | .nil => 1
  | .ptr d => uptoBulk d + 1
  | .slice elems spare => uptoBulkAll elems + uptoBulkAll spare + 1
  | .agg parts => uptoBulkAll parts + 1
  | .iface _ d => uptoBulk d + 1
  | .map entries => uptoBulkEntries entries + 1
  | .held _ => 1
def uptoBulkAll {H : Type} : List (DataW H) → Nat
  | [] => 0
  | d :: r => uptoBulk d + uptoBulkAll r
def uptoBulkEntries {H : Type} : List (Lit × DataW H) → Nat
  | [] => 0
  | x :: r => uptoBulkEntry x + uptoBulkEntries r
def uptoBulkEntry {H : Type} : Lit × DataW H → Nat
  | (.string bytes, d) => bytes.length + uptoBulk d + 1
  | (_, d) => uptoBulk d + 1
 end
def uptoSmall : (H : Type) → List (DataW H) → Bool := fun _ ds => decide (uptoBulkAll ds ≤ 1048576)
def OpenSpec.upto (s : _root_.Go.ChangeSpec) : _root_.Go.OpenSpec := { _root_.Go.OpenSpec.ofChange s with cond := some uptoSmall }

/-- 'laws.FnExactNaturalHom', WHERE WHAT IT READS IS OF BULK AT MOST 1048576: true; the input reads as it did. -/
def fnExactNaturalHomUptoRow : OpenClaim := { program := "ytnphljflkpekmaagreat", sum := "cc841274c6f359658cf2f2d9a6c14c4a34d2bf1d2bf443d4a8e43ff80cf69c85", func := "loop.example/g01076/laws.FnExactNaturalHom", spec := "fnExactNaturalHom", unfollowed := true, recurses := true, apart := false, narrowed := true }
def FnExactNaturalHomUptoSaid : Prop := fnExactNaturalHomUptoRow.holds Tryz.pinned (OpenSpec.upto fnExactNaturalHomSpec)

/-- 'laws.FnExactInclusionHom', WHERE WHAT IT READS IS OF BULK AT MOST 1048576: true; the input reads as it did. -/
def fnExactInclusionHomUptoRow : OpenClaim := { program := "ytnphljflkpekmaagreat", sum := "cc841274c6f359658cf2f2d9a6c14c4a34d2bf1d2bf443d4a8e43ff80cf69c85", func := "loop.example/g01076/laws.FnExactInclusionHom", spec := "fnExactInclusionHom", unfollowed := true, recurses := true, apart := false, narrowed := true }
def FnExactInclusionHomUptoSaid : Prop := fnExactInclusionHomUptoRow.holds Tryz.pinned (OpenSpec.upto fnExactInclusionHomSpec)

/-- 'laws.FnExactComposeHoms', WHERE WHAT IT READS IS OF BULK AT MOST 1048576: true; the input reads as it did. -/
def fnExactComposeHomsUptoRow : OpenClaim := { program := "ytnphljflkpekmaagreat", sum := "cc841274c6f359658cf2f2d9a6c14c4a34d2bf1d2bf443d4a8e43ff80cf69c85", func := "loop.example/g01076/laws.FnExactComposeHoms", spec := "fnExactComposeHoms", unfollowed := true, recurses := true, apart := false, narrowed := true }
def FnExactComposeHomsUptoSaid : Prop := fnExactComposeHomsUptoRow.holds Tryz.pinned (OpenSpec.upto fnExactComposeHomsSpec)

/-- 'laws.FnExactProjectSubgroup', WHERE WHAT IT READS IS OF BULK AT MOST 1048576: true; the input reads as it did. -/
def fnExactProjectSubgroupUptoRow : OpenClaim := { program := "ytnphljflkpekmaagreat", sum := "cc841274c6f359658cf2f2d9a6c14c4a34d2bf1d2bf443d4a8e43ff80cf69c85", func := "loop.example/g01076/laws.FnExactProjectSubgroup", spec := "fnExactProjectSubgroup", unfollowed := true, recurses := true, apart := false, narrowed := true }
def FnExactProjectSubgroupUptoSaid : Prop := fnExactProjectSubgroupUptoRow.holds Tryz.pinned (OpenSpec.upto fnExactProjectSubgroupSpec)

/-- 'laws.FnExactHomImage', WHERE WHAT IT READS IS OF BULK AT MOST 1048576: true; the input reads as it did. -/
def fnExactHomImageUptoRow : OpenClaim := { program := "ytnphljflkpekmaagreat", sum := "cc841274c6f359658cf2f2d9a6c14c4a34d2bf1d2bf443d4a8e43ff80cf69c85", func := "loop.example/g01076/laws.FnExactHomImage", spec := "fnExactHomImage", unfollowed := true, recurses := true, apart := false, narrowed := true }
def FnExactHomImageUptoSaid : Prop := fnExactHomImageUptoRow.holds Tryz.pinned (OpenSpec.upto fnExactHomImageSpec)

/-- 'laws.FnExactLiftElement', WHERE WHAT IT READS IS OF BULK AT MOST 1048576: true; the input reads as it did. -/
def fnExactLiftElementUptoRow : OpenClaim := { program := "ytnphljflkpekmaagreat", sum := "cc841274c6f359658cf2f2d9a6c14c4a34d2bf1d2bf443d4a8e43ff80cf69c85", func := "loop.example/g01076/laws.FnExactLiftElement", spec := "fnExactLiftElement", unfollowed := true, recurses := true, apart := false, narrowed := true }
def FnExactLiftElementUptoSaid : Prop := fnExactLiftElementUptoRow.holds Tryz.pinned (OpenSpec.upto fnExactLiftElementSpec)

/-- 'laws.FnExactQuotientPresentation', WHERE WHAT IT READS IS OF BULK AT MOST 1048576: true; the input reads as it did. -/
def fnExactQuotientPresentationUptoRow : OpenClaim := { program := "ytnphljflkpekmaagreat", sum := "cc841274c6f359658cf2f2d9a6c14c4a34d2bf1d2bf443d4a8e43ff80cf69c85", func := "loop.example/g01076/laws.FnExactQuotientPresentation", spec := "fnExactQuotientPresentation", unfollowed := true, recurses := true, apart := false, narrowed := true }
def FnExactQuotientPresentationUptoSaid : Prop := fnExactQuotientPresentationUptoRow.holds Tryz.pinned (OpenSpec.upto fnExactQuotientPresentationSpec)

/-- 'laws.FnExactLiftSubgroup', WHERE WHAT IT READS IS OF BULK AT MOST 1048576: true; the input reads as it did. -/
def fnExactLiftSubgroupUptoRow : OpenClaim := { program := "ytnphljflkpekmaagreat", sum := "cc841274c6f359658cf2f2d9a6c14c4a34d2bf1d2bf443d4a8e43ff80cf69c85", func := "loop.example/g01076/laws.FnExactLiftSubgroup", spec := "fnExactLiftSubgroup", unfollowed := true, recurses := true, apart := false, narrowed := true }
def FnExactLiftSubgroupUptoSaid : Prop := fnExactLiftSubgroupUptoRow.holds Tryz.pinned (OpenSpec.upto fnExactLiftSubgroupSpec)

/-- 'laws.FnExactInvertAutomorphism', WHERE WHAT IT READS IS OF BULK AT MOST 1048576: true; the input reads as it did. -/
def fnExactInvertAutomorphismUptoRow : OpenClaim := { program := "ytnphljflkpekmaagreat", sum := "cc841274c6f359658cf2f2d9a6c14c4a34d2bf1d2bf443d4a8e43ff80cf69c85", func := "loop.example/g01076/laws.FnExactInvertAutomorphism", spec := "fnExactInvertAutomorphism", unfollowed := true, recurses := true, apart := false, narrowed := true }
def FnExactInvertAutomorphismUptoSaid : Prop := fnExactInvertAutomorphismUptoRow.holds Tryz.pinned (OpenSpec.upto fnExactInvertAutomorphismSpec)

/-- 'laws.FnExactSubgroupImage', WHERE WHAT IT READS IS OF BULK AT MOST 1048576: true; the input reads as it did. -/
def fnExactSubgroupImageUptoRow : OpenClaim := { program := "ytnphljflkpekmaagreat", sum := "cc841274c6f359658cf2f2d9a6c14c4a34d2bf1d2bf443d4a8e43ff80cf69c85", func := "loop.example/g01076/laws.FnExactSubgroupImage", spec := "fnExactSubgroupImage", unfollowed := true, recurses := true, apart := false, narrowed := true }
def FnExactSubgroupImageUptoSaid : Prop := fnExactSubgroupImageUptoRow.holds Tryz.pinned (OpenSpec.upto fnExactSubgroupImageSpec)

end Rows
end Go.Proofs.YtnphljflkpekmaaGreat
