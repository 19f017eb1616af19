/-
  The statement FnExactOrderCounts is proved: for all arguments the program returns what the reference returns.
  Conditions: none.
-/
import Derived.Test.YtjljbfcdpdckeaaYOrderCounts
import Derived.Test.YtjljbfcdpdckeaaRows
import Derived.WalkKit
import Derived.ProofKit
import Derived.OpenShut
import Derived.ShutString
import Derived.ChangeOld
import Derived.Below
import Derived.Lib.SmallJoins
set_option linter.unusedVariables false
set_option linter.unusedSimpArgs false
set_option linter.unusedSectionVars false
set_option linter.constructorNameAsVariable false
set_option linter.unnecessarySimpa false
set_option linter.deprecated false
/-
  The statement FnExactOrderCounts is proved: for all arguments the program returns what the reference returns.
  Conditions: none.
-/
namespace Go.Proofs.Ytjljbfcdpdckeaa.pfOrderCounts
open Go.ChangeShapes Go.WideShapes Go.ChangeAt Go.RowKit Go.Pc
set_option linter.unusedVariables false
theorem own : ownKnob Try.prog.godebug = none := by kernel_rfl
theorem laidOut : laidOutB Try.prog = true := by kernel_rfl
theorem walk {w : World} {p0 : Pr} {a0 : Value} {lo0 hi0 : Nat} (hp0 : Pres lo0 hi0 w a0 p0) :
    Calls Try.prog 8 #[a0] w fun e w' => e = .returned (.bool true) ∧ Below w.heap.size w w' := by
  refine (lwOrderCounts_ok (p0 := p0)).mono fun e w' he => ?_
  cases e with
  | returned v => obtain ⟨rfl, he⟩ := he; exact ⟨rfl, he.below⟩
  | _ => exact he.elim
set_option maxRecDepth 100000 in
theorem lifted (os : Os) (started : os.Started) (H : Type) (enc : TypeId × Value → H) :
    ReturnsInHanded {} Try.checked os 8 .any (Rows.fnExactOrderCountsSpec.pre6 enc Try.prog Try.f8 Rows.fnExactOrderCountsRow.domain false) (Rows.fnExactOrderCountsSpec.post enc Try.prog Try.f8 false true false false) := by
  refine returnsInHanded_of_change (C := Try.checked) own started (by kernel_rfl) Try.func8
    (ChangeSpec.witness6 (enc := enc) (C := Try.checked) false ⟨#[], #[.agg #[.slice none 0 0, .slice none 0 0, .slice none 0 0]], []⟩ 8 (by kernel_rfl) (by kernel_rfl) (by kernel_rfl) (by kernel_rfl)) ?_
  intro W base args ds gs before hval0 hW hcnd _
  have hval : ∀ (j : Nat) t v, Try.f8.params[j]? = some t → args[j]? = some v → Value.okWide Try.prog W .any base t v := hval0
  have hW' := hW
  obtain ⟨p, q, hA0, hV, rfl, hfz, hnd⟩ := hW
  have hA : DataW.TrodAll enc Try.prog W 0 (fun _ => true) true Try.f8.params.toList args.toList ds p := hA0
  rw [Try.params8] at hA hval
  obtain ⟨v0, vs0, d0, ds0, p0, q0, hargs, rfl, rfl, h0, r0⟩ := trodAll_cons hA
  obtain ⟨rfl, rfl, rfl⟩ := trodAll_nil r0
  obtain rfl : args = #[v0] := by cases args; simp_all
  obtain ⟨rfl, rfl⟩ := trodVars_none hV
  have k0 := h0
  have lt0 : ∀ x ∈ p0, x.block < W.heap.size := by obtain ⟨m, hm⟩ := k0; exact DataW.trod_lt m _ _ _ hm
  obtain ⟨pp0, hp0⟩ : ∃ pp, Pres 0 W.heap.size W v0 pp := by
    obtain ⟨c0, c1, c2, y0, y1, y2, n, rfl, _, _, t0, t1, t2⟩ := Go.Joins.open_agg3 Try.underlying26 (by kernel_rfl) (by kernel_rfl) (hval 0 26 v0 rfl rfl) h0
    obtain ⟨xs, hx⟩ := ints_of_trod Try.underlying22 Try.underlying2 (by kernel_rfl) t0
    obtain ⟨us1, xss1, hx1⟩ := rows_of_trod Try.underlying23 Try.underlying22 Try.underlying2 (by kernel_rfl) (by kernel_rfl) t1
    obtain ⟨us2, uss2, xsss2, hx2⟩ := rowss_of_trod Try.underlying24 Try.underlying23 Try.underlying22 Try.underlying2 (by kernel_rfl) (by kernel_rfl) (by kernel_rfl) t2
    exact ⟨⟨xs, xss1, xsss2⟩, ⟨⟨c0, c1, c2, us1, us2, uss2, rfl, hx, hx1, hx2⟩⟩⟩
  clear hA0 hval0
  refine (walk hp0).mono fun e W' ⟨he, bel⟩ => ?_
  subst he
  exact ⟨_, rfl, _, _, _, [], _, [], hW', trodAll_mk1 (shut_bool Try.underlying4 _), (trodAll_cons_mk (Below.trod laidOut (by kernel_rfl) (of_decide_eq_true (by kernel_rfl)) k0 bel lt0) trodAll_mk0), rfl, bel.frame _, fun h => by cases h⟩
theorem over : Rows.fnExactOrderCountsRow.holds Try.pinned (OpenSpec.ofChange Rows.fnExactOrderCountsSpec) :=
  OpenClaim.holds_of_wide 8 Try.f8 rfl rfl rfl rfl rfl rfl rfl ⟨rfl, rfl, rfl, rfl, rfl⟩ rfl rfl rfl rfl rfl (by kernel_rfl) Try.func8 (by kernel_rfl)
    (of_decide_eq_true (by kernel_rfl)) (by unfold Func.isWrapper; first | (rw [if_pos (by decide +kernel)]; kernel_rfl) | (rw [if_neg (by decide +kernel)]; exact ⟨rfl, rfl⟩))
    (fun os started H enc _ => lifted os started H enc)
/-- The statement. -/
theorem proved : Rows.FnExactOrderCountsSaid := over
end Go.Proofs.Ytjljbfcdpdckeaa.pfOrderCounts
