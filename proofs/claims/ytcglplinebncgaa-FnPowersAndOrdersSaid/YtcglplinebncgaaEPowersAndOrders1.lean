/-
  Texts of one proof, put together by program: Pod.
  Conditions: those told at each part.
-/
import Derived.Test.YtcglplinebncgaaB7
set_option linter.unusedVariables false
set_option linter.unusedSimpArgs false
set_option linter.unusedSectionVars false
set_option linter.constructorNameAsVariable false
set_option linter.unnecessarySimpa false
set_option linter.deprecated false
/-
  Plain mathematics: the order of an element divides the order of the group; powers add their exponents.
  Conditions: the tails at all levels are groups.
-/
namespace Go.Proofs.Ytcglplinebncgaa
open Go Go.Pc
section
variable {p : Pr} [hc : ConAll p]
theorem perI_dvd (x : El p) : ∀ d, d ≤ p.n → ∃ (y : El p) (K : Nat), PerI x y d K ∧ ∃ m : Nat, (K : Int) * m = ordL p (List.range d)
  | 0, _ => ⟨x, 1, PerI.start x, 1, rfl⟩
  | d + 1, hd => by
    obtain ⟨y, K, hP, m, hm⟩ := perI_dvd x d (by omega)
    have ho := hc.valid.opos (show d < p.n by omega)
    have e : ordL p (List.range (d + 1)) = ordL p (List.range d) * p.o d := by rw [List.range_succ, ordL_app]
    by_cases h0 : co y d = 0
    · refine ⟨y, K, hP.skip h0, m * (p.o d).toNat, ?_⟩
      rw [e, ← hm, Int.natCast_mul, Int.toNat_of_nonneg (by omega), Int.mul_assoc]
    · refine ⟨_, _, hP.step (by omega) h0, m, ?_⟩
      rw [e, ← hm, Int.natCast_mul, Int.toNat_of_nonneg (by omega), Int.mul_assoc, Int.mul_assoc, Int.mul_comm (p.o d)]
theorem per_dvd {x : El p} {K : Nat} (h : Per x K) : ∃ m : Nat, K * m = ordN p := by
  obtain ⟨y, K', hP, m, hm⟩ := perI_dvd x p.n (Nat.le_refl _)
  have hy : y = 1 := Tl.end_ hP.1
  have hx : Grp.pw x K' = 1 := by rw [← hP.2.1, hy]
  obtain ⟨j, rfl⟩ := h.2.2.2 K' hx
  refine ⟨j * m, ?_⟩
  have ho := (ordN_rng p).1
  rw [ho] at hm
  have : ((K * (j * m) : Nat) : Int) = (ordN p : Int) := by rw [← hm]; push_cast; rw [Int.mul_assoc]
  exact Int.ofNat.inj this
theorem per_rem {x : El p} {K : Nat} (h : Per x K) (k : Int) : Grp.pwz x (k.tmod K) = Grp.pwz x k := by
  rw [← h.pwz, ← h.pwz k]
  congr 2
  have h1 := Int.tmod_add_mul_tdiv k (K : Int)
  conv => rhs; rw [← h1]
  rw [Int.add_mul_emod_self_left]
theorem pwz_succ (x : El p) (k : Int) : Grp.pwz x (k + 1) = Grp.pwz x k * x := by
  by_cases hk : 0 ≤ k
  · obtain ⟨m, rfl⟩ : ∃ m : Nat, k = m := ⟨k.toNat, by omega⟩
    have := Grp.pwz_nat x (m + 1)
    rw [Grp.pwz_nat]
    rw [show ((m : Int) + 1) = ((m + 1 : Nat) : Int) by push_cast; rfl, this]
    rfl
  · obtain ⟨m, hm⟩ : ∃ m : Nat, k = -((m + 1 : Nat) : Int) := ⟨(-k).toNat - 1, by omega⟩
    subst hm
    rw [Grp.pwz_neg, show -((m + 1 : Nat) : Int) + 1 = -(m : Int) by push_cast; omega, Grp.pwz_neg, Grp.pw_succ']
    rw [Grp.mul_inv_rev, Grp.inv_mul_cancel_right]
theorem foldl_range9 (p : Pr) : ∀ k, k ≤ p.ord.length → (List.range k).foldl (fun a d => a * p.o d) 1 = (p.ord.take k).foldl (· * ·) 1
  | 0, _ => rfl
  | k + 1, hk => by
    rw [List.range_succ, List.foldl_append, foldl_range9 p k (by omega), List.take_succ_eq_append_getElem (by omega), List.foldl_append]
    simp [Pr.o, show k < p.ord.length by omega]
theorem size_ordN : p.ord.foldl (· * ·) 1 = (ordN p : Int) := by
  have h2 := foldl_range9 p p.ord.length (Nat.le_refl _)
  rw [List.take_length] at h2
  rw [← h2]
  exact (ordN_rng p).1
end
end Go.Proofs.Ytcglplinebncgaa
