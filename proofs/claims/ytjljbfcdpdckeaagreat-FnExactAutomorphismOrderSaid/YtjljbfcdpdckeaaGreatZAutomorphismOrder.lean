/-
  The statement FnExactAutomorphismOrder is proved: for all arguments the program returns what the reference returns.
  Conditions: none.
-/
import Derived.Test.YtjljbfcdpdckeaaGreatYAutomorphismOrder
import Derived.Test.YtjljbfcdpdckeaaGreatRows
import Derived.WalkKit
import Derived.ProofKit
import Derived.OpenShut
import Derived.ShutString
import Derived.ChangeOld
import Derived.Below
import Derived.Lib.SmallJoins
set_option linter.unusedVariables false
set_option linter.unusedSimpArgs false
set_option linter.unusedSectionVars false
set_option linter.constructorNameAsVariable false
set_option linter.unnecessarySimpa false
set_option linter.deprecated false
/-
  The statement FnExactAutomorphismOrder is proved: for all arguments the program returns what the reference returns.
  Conditions: none.
-/
namespace Go.Proofs.YtjljbfcdpdckeaaGreat.pfAutomorphismOrder
open Go.ChangeShapes Go.WideShapes Go.ChangeAt Go.RowKit Go.Pc
set_option linter.unusedVariables false
theorem own : ownKnob Tryz.prog.godebug = none := by kernel_rfl
theorem laidOut : laidOutB Tryz.prog = true := by kernel_rfl
theorem walk {w : World} {p0 : Pr} {a0 : Value} {lo0 hi0 : Nat} (hp0 : Pres lo0 hi0 w a0 p0) {a1 : Value} {us1 : List Value} {xss1 : List (List Int)} {lo1 hi1 : Nat} (hp1 : Pc.Rows lo1 hi1 w a1 us1 xss1) :
    Calls Tryz.prog 3 #[a0, a1] w fun e w' => e = .returned (.bool true) ∧ Below w.heap.size w w' := by
  refine (lwAutomorphismOrder_ok (p0 := p0) (xss1 := xss1)).mono fun e w' he => ?_
  cases e with
  | returned v => obtain ⟨rfl, he⟩ := he; exact ⟨rfl, he.below⟩
  | _ => exact he.elim
set_option maxRecDepth 100000 in
theorem lifted (os : Os) (started : os.Started) (H : Type) (enc : TypeId × Value → H) :
    ReturnsInHanded {} Tryz.checked os 3 .any (Rows.fnExactAutomorphismOrderSpec.pre6 enc Tryz.prog Tryz.f3 Rows.fnExactAutomorphismOrderRow.domain false) (Rows.fnExactAutomorphismOrderSpec.post enc Tryz.prog Tryz.f3 false true false false) := by
  refine returnsInHanded_of_change (C := Tryz.checked) own started (by kernel_rfl) Tryz.func3
    (ChangeSpec.witness6 (enc := enc) (C := Tryz.checked) false ⟨#[], #[.agg #[.slice none 0 0, .slice none 0 0, .slice none 0 0], .slice none 0 0], []⟩ 8 (by kernel_rfl) (by kernel_rfl) (by kernel_rfl) (by kernel_rfl)) ?_
  intro W base args ds gs before hval0 hW hcnd _
  have hval : ∀ (j : Nat) t v, Tryz.f3.params[j]? = some t → args[j]? = some v → Value.okWide Tryz.prog W .any base t v := hval0
  have hW' := hW
  obtain ⟨p, q, hA0, hV, rfl, hfz, hnd⟩ := hW
  have hA : DataW.TrodAll enc Tryz.prog W 0 (fun _ => true) true Tryz.f3.params.toList args.toList ds p := hA0
  rw [Tryz.params3] at hA hval
  obtain ⟨v0, vs0, d0, ds0, p0, q0, hargs, rfl, rfl, h0, r0⟩ := trodAll_cons hA
  obtain ⟨v1, vs1, d1, ds1, p1, q1, rfl, rfl, rfl, h1, r1⟩ := trodAll_cons r0
  obtain ⟨rfl, rfl, rfl⟩ := trodAll_nil r1
  obtain rfl : args = #[v0, v1] := by cases args; simp_all
  obtain ⟨rfl, rfl⟩ := trodVars_none hV
  have k0 := h0
  have k1 := h1
  have lt0 : ∀ x ∈ p0, x.block < W.heap.size := by obtain ⟨m, hm⟩ := k0; exact DataW.trod_lt m _ _ _ hm
  have lt1 : ∀ x ∈ p1, x.block < W.heap.size := by obtain ⟨m, hm⟩ := k1; exact DataW.trod_lt m _ _ _ hm
  obtain ⟨pp0, hp0⟩ : ∃ pp, Pres 0 W.heap.size W v0 pp := by
    obtain ⟨c0, c1, c2, y0, y1, y2, n, rfl, _, _, t0, t1, t2⟩ := Go.Joins.open_agg3 Tryz.underlying26 (by kernel_rfl) (by kernel_rfl) (hval 0 26 v0 rfl rfl) h0
    obtain ⟨xs, hx⟩ := ints_of_trod Tryz.underlying22 Tryz.underlying2 (by kernel_rfl) t0
    obtain ⟨us1, xss1, hx1⟩ := rows_of_trod Tryz.underlying23 Tryz.underlying22 Tryz.underlying2 (by kernel_rfl) (by kernel_rfl) t1
    obtain ⟨us2, uss2, xsss2, hx2⟩ := rowss_of_trod Tryz.underlying24 Tryz.underlying23 Tryz.underlying22 Tryz.underlying2 (by kernel_rfl) (by kernel_rfl) (by kernel_rfl) t2
    exact ⟨⟨xs, xss1, xsss2⟩, ⟨⟨c0, c1, c2, us1, us2, uss2, rfl, hx, hx1, hx2⟩⟩⟩
  obtain ⟨us1, xss1, hp1⟩ : ∃ us xss, Pc.Rows 0 W.heap.size W v1 us xss := by
    obtain ⟨a, len, cap, rfl⟩ := okWide_slice Tryz.underlying23 (hval 1 23 v1 rfl rfl)
    obtain ⟨fuel, hf⟩ := h1
    exact rows_of_trod Tryz.underlying23 Tryz.underlying22 Tryz.underlying2 (by kernel_rfl) (by kernel_rfl) (by simpa [Value.cells] using hf)
  clear hA0 hval0
  refine (walk hp0 hp1).mono fun e W' ⟨he, bel⟩ => ?_
  subst he
  exact ⟨_, rfl, _, _, _, [], _, [], hW', trodAll_mk1 (shut_bool Tryz.underlying4 _), (trodAll_cons_mk (Below.trod laidOut (by kernel_rfl) (of_decide_eq_true (by kernel_rfl)) k0 bel lt0) (trodAll_cons_mk (Below.trod laidOut (by kernel_rfl) (of_decide_eq_true (by kernel_rfl)) k1 bel lt1) trodAll_mk0)), rfl, bel.frame _, fun h => by cases h⟩
theorem over : Rows.fnExactAutomorphismOrderRow.holds Tryz.pinned (OpenSpec.ofChange Rows.fnExactAutomorphismOrderSpec) :=
  OpenClaim.holds_of_wide 3 Tryz.f3 rfl rfl rfl rfl rfl rfl rfl ⟨rfl, rfl, rfl, rfl, rfl⟩ rfl rfl rfl rfl rfl (by kernel_rfl) Tryz.func3 (by kernel_rfl)
    (of_decide_eq_true (by kernel_rfl)) (by unfold Func.isWrapper; first | (rw [if_pos (by decide +kernel)]; kernel_rfl) | (rw [if_neg (by decide +kernel)]; exact ⟨rfl, rfl⟩))
    (fun os started H enc _ => lifted os started H enc)
/-- The statement. -/
theorem proved : Rows.FnExactAutomorphismOrderSaid := over
end Go.Proofs.YtjljbfcdpdckeaaGreat.pfAutomorphismOrder
