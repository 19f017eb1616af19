/-
  Texts of one proof, put together by program: W07b, W08, W08b, W08c, W08d, W10, W10b, W10c, W12.
  Conditions: those told at each part.
-/
import Derived.Test.YtjcmdmjlhngjcaaB2
set_option linter.unusedVariables false
set_option linter.unusedSimpArgs false
set_option linter.unusedSectionVars false
set_option linter.constructorNameAsVariable false
set_option linter.unnecessarySimpa false
set_option linter.deprecated false
/-
  Walk: the reference's IsPresentation.
  Conditions: the presentation reads as three lists, the first of at most a million entries.
-/
namespace Go.Proofs.Ytjcmdmjlhngjcaa
open Go Go.Pc
theorem exp_iff {p : Pr} {v : List Int} {i : Nat} : ExpP p.ord v (i : Int) ↔ InR p v ∧ ZU (i + 1) v := by
  constructor
  · rintro ⟨h1, h2⟩
    refine ⟨⟨h1, fun k hk => ?_⟩, fun k hk => ?_⟩
    · have := (h2 k (by rw [h1]; exact hk)).1
      unfold Pr.o; omega
    · by_cases hl : k < v.length
      · exact (h2 k hl).2 (by omega)
      · rw [List.getD_eq_getElem?_getD, List.getElem?_eq_none (by omega)]; rfl
  · rintro ⟨h1, h2⟩
    refine ⟨h1.len, fun k hk => ⟨?_, fun h => h2 k (by omega)⟩⟩
    have := h1.rng k (by rw [← h1.len]; exact hk)
    unfold Pr.o at this; omega
/-- What is asked of one generator's row. -/
def RowOk (p : Pr) (q : Nat) : Prop := ExpP p.ord (p.pow.getD q []) q ∧ ((p.cnj.getD q []).length : Int) = p.n - 1 - q ∧ ∀ j, j < (p.cnj.getD q []).length → ExpP p.ord ((p.cnj.getD q []).getD j []) q
theorem valid_iff {p : Pr} : Valid p ↔ p.n ≤ 6 ∧ p.pow.length = p.n ∧ p.cnj.length = p.n ∧ (∀ i, i < p.n → p.ord.getD i 0 = 2 ∨ p.ord.getD i 0 = 3 ∨ p.ord.getD i 0 = 5 ∨ p.ord.getD i 0 = 7) ∧ p.ord.foldl (· * ·) 1 ≤ 729 ∧ ∀ q, q < p.n → RowOk p q := by
  constructor
  · intro h
    refine ⟨h.n6, h.lenw, h.lenc, h.prime, h.prod, fun q hq => ⟨exp_iff.2 ⟨h.w_in q hq, h.w_zu q hq⟩, ?_, fun j hj => ?_⟩⟩
    · have := h.lenci q hq; omega
    · have hl := h.lenci q hq
      have h1 := h.c_in q (q + 1 + j) (by omega) (by omega)
      have h2 := h.c_zu q (q + 1 + j) (by omega) (by omega)
      unfold Pr.c at h1 h2
      rw [show q + 1 + j - q - 1 = j by omega] at h1 h2
      exact exp_iff.2 ⟨h1, h2⟩
  · rintro ⟨h1, h2, h3, h4, h5, h6⟩
    have hc : ∀ i j, i < j → j < p.n → InR p (p.c i j) ∧ ZU (i + 1) (p.c i j) := fun i j hij hj => by
      have := h6 i (by omega)
      exact exp_iff.1 (this.2.2 (j - i - 1) (by have := this.2.1; omega))
    refine ⟨h1, h2, h3, fun i hi => by have := (h6 i hi).2.1; omega, h4, h5, fun i hi => (exp_iff.1 (h6 i hi).1).1, fun i hi => (exp_iff.1 (h6 i hi).1).2, fun i j a b => (hc i j a b).1, fun i j a b => (hc i j a b).2⟩
theorem primes_bd {p : Pr} (h4 : ∀ i, i < p.n → p.ord.getD i 0 = 2 ∨ p.ord.getD i 0 = 3 ∨ p.ord.getD i 0 = 5 ∨ p.ord.getD i 0 = 7) : ∀ o ∈ p.ord, 1 ≤ o ∧ o ≤ 7 := by
  intro o ho
  obtain ⟨i, hi, rfl⟩ := List.getElem_of_mem ho
  have := h4 i hi
  simp [List.getD_eq_getElem?_getD, hi] at this
  omega
set_option maxHeartbeats 2000000 in
theorem spec_IsPresentation_ok {w : World} {v : Value} {p : Pr} {lo hi : Nat} [hp : Pres lo hi w v p] (hl : p.ord.length ≤ 2000000) :
    Calls Try.prog 21 #[v] w (Ret fun v' w' => ∃ b, v' = .bool b ∧ (b = true ↔ Valid p) ∧ Ext w w') := by
  have hol : p.ord.length = p.n := rfl
  obtain ⟨vo, vpw, vc, ps, cs, css, rfl, h1, h2, h3⟩ := hp.ex
  refine enter (args := [.agg #[vo, vpw, vc]]) (l := [.tmp 2]) Try.func21 rfl rfl Try.ntmps21 (by simp) ?_
  repeat (first | (show rops _ _ _ _ (_ :: _) _ _; first | refine ra (next := ?_) | refine rk (next := ?_) | refine rku (next := ?_)) | refine st_end ?_ | refine thn_normal ?_ | refine r_seq ?_ | refine r_region rfl ?_ | refine thn_exit ?_ | refine thn_ret ?_ | refine inBlk_normal ?_ | refine inBlk_ret ?_ | refine inBlk_hit ?_ | refine inBlk_miss (by decide) ?_ | refine forQ_exit ?_ | refine forQ_ret ?_ | refine loopQ_exit ?_ | refine loopQ_ret ?_ | refine r_block ?_ | refine r_skip ?_ | refine r_exit ?_ | refine r_ret ?_ | (show rwp _ _ (.cond _ _ _) _ _ _; first | refine c_t (h := ?_) | refine c_f (h := ?_)))
  refine st_box3 (by ((try simp only [ev_tmp, ev_const, ev_func, get_put, get_args, get_putL, get_putL_nil, Nat.reduceEqDiff, reduceIte, List.getD_cons_zero, List.getD_cons_succ, List.getD_nil]); first | done | with_reducible rfl)) (by first | exact True.intro | exact ⟨_, rfl, by ((try simp only [ev_tmp, ev_const, ev_func, get_put, get_args, get_putL, get_putL_nil, Nat.reduceEqDiff, reduceIte, List.getD_cons_zero, List.getD_cons_succ, List.getD_nil, Bool.not_true, Bool.not_false]); first | done | with_reducible rfl)⟩) fun w1 b he1 hb1 hs1 hc0 hc1 hc2 => ?_
  have no : ∀ {w' : World}, ¬ Valid p → Ext w w' → ∃ b, Value.bool false = .bool b ∧ (b = true ↔ Valid p) ∧ Ext w w' := fun h he => ⟨_, rfl, by simp [h], he⟩
  repeat (first | (show rops _ _ _ _ (_ :: _) _ _; first | refine ra (next := ?_) | refine rk (next := ?_) | refine rku (next := ?_)) | refine st_end ?_ | refine thn_normal ?_ | refine r_seq ?_ | refine r_region rfl ?_ | refine thn_exit ?_ | refine thn_ret ?_ | refine inBlk_normal ?_ | refine inBlk_ret ?_ | refine inBlk_hit ?_ | refine inBlk_miss (by decide) ?_ | refine forQ_exit ?_ | refine forQ_ret ?_ | refine loopQ_exit ?_ | refine loopQ_ret ?_ | refine r_block ?_ | refine r_skip ?_ | refine r_exit ?_ | refine r_ret ?_ | (show rwp _ _ (.cond _ _ _) _ _ _; first | refine c_t (h := ?_) | refine c_f (h := ?_)))
  refine spd (fun hn => ?_) (fun hn => ?_)
  · repeat (first | (show rops _ _ _ _ (_ :: _) _ _; first | refine ra (next := ?_) | refine rk (next := ?_) | refine rku (next := ?_)) | refine st_end ?_ | refine thn_normal ?_ | refine r_seq ?_ | refine r_region rfl ?_ | refine thn_exit ?_ | refine thn_ret ?_ | refine inBlk_normal ?_ | refine inBlk_ret ?_ | refine inBlk_hit ?_ | refine inBlk_miss (by decide) ?_ | refine forQ_exit ?_ | refine forQ_ret ?_ | refine loopQ_exit ?_ | refine loopQ_ret ?_ | refine r_block ?_ | refine r_skip ?_ | refine r_exit ?_ | refine r_ret ?_ | (show rwp _ _ (.cond _ _ _) _ _ _; first | refine c_t (h := ?_) | refine c_f (h := ?_)))
    exact ret1 (no (fun h => by have := h.n6; omega) he1)
  repeat (first | (show rops _ _ _ _ (_ :: _) _ _; first | refine ra (next := ?_) | refine rk (next := ?_) | refine rku (next := ?_)) | refine st_end ?_ | refine thn_normal ?_ | refine r_seq ?_ | refine r_region rfl ?_ | refine thn_exit ?_ | refine thn_ret ?_ | refine inBlk_normal ?_ | refine inBlk_ret ?_ | refine inBlk_hit ?_ | refine inBlk_miss (by decide) ?_ | refine forQ_exit ?_ | refine forQ_ret ?_ | refine loopQ_exit ?_ | refine loopQ_ret ?_ | refine r_block ?_ | refine r_skip ?_ | refine r_exit ?_ | refine r_ret ?_ | (show rwp _ _ (.cond _ _ _) _ _ _; first | refine c_t (h := ?_) | refine c_f (h := ?_)))
  refine spd (fun hn2 => ?_) (fun hn2 => ?_)
  · repeat (first | (show rops _ _ _ _ (_ :: _) _ _; first | refine ra (next := ?_) | refine rk (next := ?_) | refine rku (next := ?_)) | refine st_end ?_ | refine thn_normal ?_ | refine r_seq ?_ | refine r_region rfl ?_ | refine thn_exit ?_ | refine thn_ret ?_ | refine inBlk_normal ?_ | refine inBlk_ret ?_ | refine inBlk_hit ?_ | refine inBlk_miss (by decide) ?_ | refine forQ_exit ?_ | refine forQ_ret ?_ | refine loopQ_exit ?_ | refine loopQ_ret ?_ | refine r_block ?_ | refine r_skip ?_ | refine r_exit ?_ | refine r_ret ?_ | (show rwp _ _ (.cond _ _ _) _ _ _; first | refine c_t (h := ?_) | refine c_f (h := ?_)))
    exact ret1 (no (fun h => by have := h.lenw; omega) he1)
  repeat (first | (show rops _ _ _ _ (_ :: _) _ _; first | refine ra (next := ?_) | refine rk (next := ?_) | refine rku (next := ?_)) | refine st_end ?_ | refine thn_normal ?_ | refine r_seq ?_ | refine r_region rfl ?_ | refine thn_exit ?_ | refine thn_ret ?_ | refine inBlk_normal ?_ | refine inBlk_ret ?_ | refine inBlk_hit ?_ | refine inBlk_miss (by decide) ?_ | refine forQ_exit ?_ | refine forQ_ret ?_ | refine loopQ_exit ?_ | refine loopQ_ret ?_ | refine r_block ?_ | refine r_skip ?_ | refine r_exit ?_ | refine r_ret ?_ | (show rwp _ _ (.cond _ _ _) _ _ _; first | refine c_t (h := ?_) | refine c_f (h := ?_)))
  refine c_if (fun hn3 => ?_) (fun hn3 => ?_)
  · repeat (first | (show rops _ _ _ _ (_ :: _) _ _; first | refine ra (next := ?_) | refine rk (next := ?_) | refine rku (next := ?_)) | refine st_end ?_ | refine thn_normal ?_ | refine r_seq ?_ | refine r_region rfl ?_ | refine thn_exit ?_ | refine thn_ret ?_ | refine inBlk_normal ?_ | refine inBlk_ret ?_ | refine inBlk_hit ?_ | refine inBlk_miss (by decide) ?_ | refine forQ_exit ?_ | refine forQ_ret ?_ | refine loopQ_exit ?_ | refine loopQ_ret ?_ | refine r_block ?_ | refine r_skip ?_ | refine r_exit ?_ | refine r_ret ?_ | (show rwp _ _ (.cond _ _ _) _ _ _; first | refine c_t (h := ?_) | refine c_f (h := ?_)))
    exact ret1 (no (fun h => by have := h.lenc; omega) he1)
  repeat (first | (show rops _ _ _ _ (_ :: _) _ _; first | refine ra (next := ?_) | refine rk (next := ?_) | refine rku (next := ?_)) | refine st_end ?_ | refine thn_normal ?_ | refine r_seq ?_ | refine r_region rfl ?_ | refine thn_exit ?_ | refine thn_ret ?_ | refine inBlk_normal ?_ | refine inBlk_ret ?_ | refine inBlk_hit ?_ | refine inBlk_miss (by decide) ?_ | refine forQ_exit ?_ | refine forQ_ret ?_ | refine loopQ_exit ?_ | refine loopQ_ret ?_ | refine r_block ?_ | refine r_skip ?_ | refine r_exit ?_ | refine r_ret ?_ | (show rwp _ _ (.cond _ _ _) _ _ _; first | refine c_t (h := ?_) | refine c_f (h := ?_)))
  refine r_for p.n (fun k ρ w' => Has ρ [(1, .pointer (some ⟨b, 0, none⟩)), (3, .int .i64 p.n), (4, .int .i64 k)] ∧ Ext w1 w' ∧ ∀ i, i < k → p.ord.getD i 0 = 2 ∨ p.ord.getD i 0 = 3 ∨ p.ord.getD i 0 = 5 ∨ p.ord.getD i 0 = 7) ?_ ?_
  · refine ⟨?_, Ext.refl _, fun i hi => by omega⟩
    ((try simp only [Has, ev_tmp, ev_const, ev_func, get_put, get_args, get_putL, get_putL_nil, Nat.reduceEqDiff, reduceIte, List.getD_cons_zero, List.getD_cons_succ, List.getD_nil]); repeat' (first | exact True.intro | apply And.intro | with_reducible rfl | exact int_congr (by first | omega | rfl)))
  · rintro k ρ w2 hk ⟨hH, he2, hpre⟩
    refine rwp_has hH fun ρ0 => ?_
    repeat (first | (show rops _ _ _ _ (_ :: _) _ _; first | refine ra (next := ?_) | refine rk (next := ?_) | refine rku (next := ?_)) | refine st_end ?_ | refine thn_normal ?_ | refine r_seq ?_ | refine r_region rfl ?_ | refine thn_exit ?_ | refine thn_ret ?_ | refine inBlk_normal ?_ | refine inBlk_ret ?_ | refine inBlk_hit ?_ | refine inBlk_miss (by decide) ?_ | refine forQ_exit ?_ | refine forQ_ret ?_ | refine loopQ_exit ?_ | refine loopQ_ret ?_ | refine r_block ?_ | refine r_skip ?_ | refine r_exit ?_ | refine r_ret ?_ | (show rwp _ _ (.cond _ _ _) _ _ _; first | refine c_t (h := ?_) | refine c_f (h := ?_)))
    refine c_if (fun hk1 => ?_) (fun hk1 => ?_)
    · repeat (first | (show rops _ _ _ _ (_ :: _) _ _; first | refine ra (next := ?_) | refine rk (next := ?_) | refine rku (next := ?_)) | refine st_end ?_ | refine thn_normal ?_ | refine r_seq ?_ | refine r_region rfl ?_ | refine thn_exit ?_ | refine thn_ret ?_ | refine inBlk_normal ?_ | refine inBlk_ret ?_ | refine inBlk_hit ?_ | refine inBlk_miss (by decide) ?_ | refine forQ_exit ?_ | refine forQ_ret ?_ | refine loopQ_exit ?_ | refine loopQ_ret ?_ | refine r_block ?_ | refine r_skip ?_ | refine r_exit ?_ | refine r_ret ?_ | (show rwp _ _ (.cond _ _ _) _ _ _; first | refine c_t (h := ?_) | refine c_f (h := ?_)))
      refine rc l01Prime_ok (next := fun v3 w3 h3 => ?_)
      obtain ⟨b3, rfl, hb3, he3⟩ := h3
      repeat (first | (show rops _ _ _ _ (_ :: _) _ _; first | refine ra (next := ?_) | refine rk (next := ?_) | refine rku (next := ?_)) | refine st_end ?_ | refine thn_normal ?_ | refine r_seq ?_ | refine r_region rfl ?_ | refine thn_exit ?_ | refine thn_ret ?_ | refine inBlk_normal ?_ | refine inBlk_ret ?_ | refine inBlk_hit ?_ | refine inBlk_miss (by decide) ?_ | refine forQ_exit ?_ | refine forQ_ret ?_ | refine loopQ_exit ?_ | refine loopQ_ret ?_ | refine r_block ?_ | refine r_skip ?_ | refine r_exit ?_ | refine r_ret ?_ | (show rwp _ _ (.cond _ _ _) _ _ _; first | refine c_t (h := ?_) | refine c_f (h := ?_)))
      refine c_b (fun h4 => ?_) (fun h4 => ?_)
      · repeat (first | (show rops _ _ _ _ (_ :: _) _ _; first | refine ra (next := ?_) | refine rk (next := ?_) | refine rku (next := ?_)) | refine st_end ?_ | refine thn_normal ?_ | refine r_seq ?_ | refine r_region rfl ?_ | refine thn_exit ?_ | refine thn_ret ?_ | refine inBlk_normal ?_ | refine inBlk_ret ?_ | refine inBlk_hit ?_ | refine inBlk_miss (by decide) ?_ | refine forQ_exit ?_ | refine forQ_ret ?_ | refine loopQ_exit ?_ | refine loopQ_ret ?_ | refine r_block ?_ | refine r_skip ?_ | refine r_exit ?_ | refine r_ret ?_ | (show rwp _ _ (.cond _ _ _) _ _ _; first | refine c_t (h := ?_) | refine c_f (h := ?_)))
        refine ret1 (no (fun h => ?_) ((he1.trans he2).trans he3))
        have := hb3.2 (h.prime k (by omega))
        rw [this] at h4; cases h4
      · repeat (first | (show rops _ _ _ _ (_ :: _) _ _; first | refine ra (next := ?_) | refine rk (next := ?_) | refine rku (next := ?_)) | refine st_end ?_ | refine thn_normal ?_ | refine r_seq ?_ | refine r_region rfl ?_ | refine thn_exit ?_ | refine thn_ret ?_ | refine inBlk_normal ?_ | refine inBlk_ret ?_ | refine inBlk_hit ?_ | refine inBlk_miss (by decide) ?_ | refine forQ_exit ?_ | refine forQ_ret ?_ | refine loopQ_exit ?_ | refine loopQ_ret ?_ | refine r_block ?_ | refine r_skip ?_ | refine r_exit ?_ | refine r_ret ?_ | (show rwp _ _ (.cond _ _ _) _ _ _; first | refine c_t (h := ?_) | refine c_f (h := ?_)))
        have h5 := hb3.1 (by simpa using h4)
        refine forQ_normal (by omega) ⟨?_, he2.trans he3, fun i hi => ?_⟩
        · ((try simp only [Has, ev_tmp, ev_const, ev_func, get_put, get_args, get_putL, get_putL_nil, Nat.reduceEqDiff, reduceIte, List.getD_cons_zero, List.getD_cons_succ, List.getD_nil]); repeat' (first | exact True.intro | apply And.intro | with_reducible rfl | exact int_congr (by first | omega | rfl)))
        · by_cases e : i = k
          · subst e; exact h5
          · exact hpre i (by omega)
    · repeat (first | (show rops _ _ _ _ (_ :: _) _ _; first | refine ra (next := ?_) | refine rk (next := ?_) | refine rku (next := ?_)) | refine st_end ?_ | refine thn_normal ?_ | refine r_seq ?_ | refine r_region rfl ?_ | refine thn_exit ?_ | refine thn_ret ?_ | refine inBlk_normal ?_ | refine inBlk_ret ?_ | refine inBlk_hit ?_ | refine inBlk_miss (by decide) ?_ | refine forQ_exit ?_ | refine forQ_ret ?_ | refine loopQ_exit ?_ | refine loopQ_ret ?_ | refine r_block ?_ | refine r_skip ?_ | refine r_exit ?_ | refine r_ret ?_ | (show rwp _ _ (.cond _ _ _) _ _ _; first | refine c_t (h := ?_) | refine c_f (h := ?_)))
      have hkn : k = p.n := by omega
      subst hkn
      have hbd := primes_bd hpre
      refine rc (l07Product_ok (xs := p.ord) hbd hl) (next := fun v3 w3 h3 => ?_)
      obtain ⟨rfl, he3⟩ := h3
      have hcap := capMul_foldl p.ord 1 (fun o ho => (hbd o ho).1) (by omega)
      have hcb := capMul_bd p.ord 1 hbd (by omega) (by omega)
      repeat (first | (show rops _ _ _ _ (_ :: _) _ _; first | refine ra (next := ?_) | refine rk (next := ?_) | refine rku (next := ?_)) | refine st_end ?_ | refine thn_normal ?_ | refine r_seq ?_ | refine r_region rfl ?_ | refine thn_exit ?_ | refine thn_ret ?_ | refine inBlk_normal ?_ | refine inBlk_ret ?_ | refine inBlk_hit ?_ | refine inBlk_miss (by decide) ?_ | refine forQ_exit ?_ | refine forQ_ret ?_ | refine loopQ_exit ?_ | refine loopQ_ret ?_ | refine r_block ?_ | refine r_skip ?_ | refine r_exit ?_ | refine r_ret ?_ | (show rwp _ _ (.cond _ _ _) _ _ _; first | refine c_t (h := ?_) | refine c_f (h := ?_)))
      refine c_if (fun h4 => ?_) (fun h4 => ?_)
      · repeat (first | (show rops _ _ _ _ (_ :: _) _ _; first | refine ra (next := ?_) | refine rk (next := ?_) | refine rku (next := ?_)) | refine st_end ?_ | refine thn_normal ?_ | refine r_seq ?_ | refine r_region rfl ?_ | refine thn_exit ?_ | refine thn_ret ?_ | refine inBlk_normal ?_ | refine inBlk_ret ?_ | refine inBlk_hit ?_ | refine inBlk_miss (by decide) ?_ | refine forQ_exit ?_ | refine forQ_ret ?_ | refine loopQ_exit ?_ | refine loopQ_ret ?_ | refine r_block ?_ | refine r_skip ?_ | refine r_exit ?_ | refine r_ret ?_ | (show rwp _ _ (.cond _ _ _) _ _ _; first | refine c_t (h := ?_) | refine c_f (h := ?_)))
        refine ret1 (no (fun h => ?_) ((he1.trans he2).trans he3))
        have := hcap.1.2 h.prod
        omega
      · have hprod := hcap.1.1 (by omega)
        have hbd' : ∀ i, i < p.ord.length → 0 ≤ p.ord.getD i 0 ∧ p.ord.getD i 0 ≤ 2000000 := fun i hi => by have := hpre i hi; omega
        clear hcap hcb
        repeat (first | (show rops _ _ _ _ (_ :: _) _ _; first | refine ra (next := ?_) | refine rk (next := ?_) | refine rku (next := ?_)) | refine st_end ?_ | refine thn_normal ?_ | refine r_seq ?_ | refine r_region rfl ?_ | refine thn_exit ?_ | refine thn_ret ?_ | refine inBlk_normal ?_ | refine inBlk_ret ?_ | refine inBlk_hit ?_ | refine inBlk_miss (by decide) ?_ | refine forQ_exit ?_ | refine forQ_ret ?_ | refine loopQ_exit ?_ | refine loopQ_ret ?_ | refine r_block ?_ | refine r_skip ?_ | refine r_exit ?_ | refine r_ret ?_ | (show rwp _ _ (.cond _ _ _) _ _ _; first | refine c_t (h := ?_) | refine c_f (h := ?_)))
        have he13 : Ext w1 w3 := he2.trans he3
        refine r_for p.n (fun k ρ w' => Has ρ [(1, .pointer (some ⟨b, 0, none⟩)), (3, .int .i64 p.n), (5, .int .i64 k)] ∧ Ext w1 w' ∧ ∀ q, q < k → RowOk p q) ?_ ?_
        · refine ⟨?_, he13, fun i hi => by omega⟩
          ((try simp only [Has, ev_tmp, ev_const, ev_func, get_put, get_args, get_putL, get_putL_nil, Nat.reduceEqDiff, reduceIte, List.getD_cons_zero, List.getD_cons_succ, List.getD_nil]); repeat' (first | exact True.intro | apply And.intro | with_reducible rfl | exact int_congr (by first | omega | rfl)))
        · clear he3 he13
          rintro k ρ w4 hk ⟨hH, he4, hrow⟩
          refine rwp_has hH fun ρ1 => ?_
          repeat (first | (show rops _ _ _ _ (_ :: _) _ _; first | refine ra (next := ?_) | refine rk (next := ?_) | refine rku (next := ?_)) | refine st_end ?_ | refine thn_normal ?_ | refine r_seq ?_ | refine r_region rfl ?_ | refine thn_exit ?_ | refine thn_ret ?_ | refine inBlk_normal ?_ | refine inBlk_ret ?_ | refine inBlk_hit ?_ | refine inBlk_miss (by decide) ?_ | refine forQ_exit ?_ | refine forQ_ret ?_ | refine loopQ_exit ?_ | refine loopQ_ret ?_ | refine r_block ?_ | refine r_skip ?_ | refine r_exit ?_ | refine r_ret ?_ | (show rwp _ _ (.cond _ _ _) _ _ _; first | refine c_t (h := ?_) | refine c_f (h := ?_)))
          refine c_if (fun hk2 => ?_) (fun hk2 => ?_)
          · repeat (first | (show rops _ _ _ _ (_ :: _) _ _; first | refine ra (next := ?_) | refine rk (next := ?_) | refine rku (next := ?_)) | refine st_end ?_ | refine thn_normal ?_ | refine r_seq ?_ | refine r_region rfl ?_ | refine thn_exit ?_ | refine thn_ret ?_ | refine inBlk_normal ?_ | refine inBlk_ret ?_ | refine inBlk_hit ?_ | refine inBlk_miss (by decide) ?_ | refine forQ_exit ?_ | refine forQ_ret ?_ | refine loopQ_exit ?_ | refine loopQ_ret ?_ | refine r_block ?_ | refine r_skip ?_ | refine r_exit ?_ | refine r_ret ?_ | (show rwp _ _ (.cond _ _ _) _ _ _; first | refine c_t (h := ?_) | refine c_f (h := ?_)))
            refine d_region fun w5 he5 _ => ?_
            repeat (first | refine da (next := ?_) | refine dsk (next := ?_) | refine dsku (next := ?_))
            refine dc (l07Exponents_ok (xs := p.pow.getD k []) hbd' hl) (next := fun v6 w6 h6 => ?_)
            obtain ⟨b6, rfl, hb6, he6⟩ := h6
            refine ⟨fun h => h.trans he6, ?_⟩
            have he16 := (he4.trans he5).trans he6
            refine da (next := ?_)
            refine da (next := ?_)
            refine dsp (fun h7 => ?_) (fun h7 => ?_)
            · repeat (first | refine da (next := ?_) | refine dsk (next := ?_) | refine dsku (next := ?_))
              refine d_end (h := ?_)
              repeat (first | (show rops _ _ _ _ (_ :: _) _ _; first | refine ra (next := ?_) | refine rk (next := ?_) | refine rku (next := ?_)) | refine st_end ?_ | refine thn_normal ?_ | refine r_seq ?_ | refine r_region rfl ?_ | refine thn_exit ?_ | refine thn_ret ?_ | refine inBlk_normal ?_ | refine inBlk_ret ?_ | refine inBlk_hit ?_ | refine inBlk_miss (by decide) ?_ | refine forQ_exit ?_ | refine forQ_ret ?_ | refine loopQ_exit ?_ | refine loopQ_ret ?_ | refine r_block ?_ | refine r_skip ?_ | refine r_exit ?_ | refine r_ret ?_ | (show rwp _ _ (.cond _ _ _) _ _ _; first | refine c_t (h := ?_) | refine c_f (h := ?_)))
              refine ret1 (no (fun h => ?_) (he1.trans he16))
              have := hb6.2 ((valid_iff.1 h).2.2.2.2.2 k (by omega)).1
              rw [this] at h7; cases h7
            · have h8 := hb6.1 (by simpa using h7)
              repeat (first | refine da (next := ?_) | refine dsk (next := ?_) | refine dsku (next := ?_))
              refine d_end (h := ?_)
              repeat (first | (show rops _ _ _ _ (_ :: _) _ _; first | refine ra (next := ?_) | refine rk (next := ?_) | refine rku (next := ?_)) | refine st_end ?_ | refine thn_normal ?_ | refine r_seq ?_ | refine r_region rfl ?_ | refine thn_exit ?_ | refine thn_ret ?_ | refine inBlk_normal ?_ | refine inBlk_ret ?_ | refine inBlk_hit ?_ | refine inBlk_miss (by decide) ?_ | refine forQ_exit ?_ | refine forQ_ret ?_ | refine loopQ_exit ?_ | refine loopQ_ret ?_ | refine r_block ?_ | refine r_skip ?_ | refine r_exit ?_ | refine r_ret ?_ | (show rwp _ _ (.cond _ _ _) _ _ _; first | refine c_t (h := ?_) | refine c_f (h := ?_)))
              refine c_if (fun h9 => ?_) (fun h9 => ?_)
              · repeat (first | (show rops _ _ _ _ (_ :: _) _ _; first | refine ra (next := ?_) | refine rk (next := ?_) | refine rku (next := ?_)) | refine st_end ?_ | refine thn_normal ?_ | refine r_seq ?_ | refine r_region rfl ?_ | refine thn_exit ?_ | refine thn_ret ?_ | refine inBlk_normal ?_ | refine inBlk_ret ?_ | refine inBlk_hit ?_ | refine inBlk_miss (by decide) ?_ | refine forQ_exit ?_ | refine forQ_ret ?_ | refine loopQ_exit ?_ | refine loopQ_ret ?_ | refine r_block ?_ | refine r_skip ?_ | refine r_exit ?_ | refine r_ret ?_ | (show rwp _ _ (.cond _ _ _) _ _ _; first | refine c_t (h := ?_) | refine c_f (h := ?_)))
                refine ret1 (no (fun h => ?_) (he1.trans he16))
                have := ((valid_iff.1 h).2.2.2.2.2 k (by omega)).2.1
                omega
              · repeat (first | (show rops _ _ _ _ (_ :: _) _ _; first | refine ra (next := ?_) | refine rk (next := ?_) | refine rku (next := ?_)) | refine st_end ?_ | refine thn_normal ?_ | refine r_seq ?_ | refine r_region rfl ?_ | refine thn_exit ?_ | refine thn_ret ?_ | refine inBlk_normal ?_ | refine inBlk_ret ?_ | refine inBlk_hit ?_ | refine inBlk_miss (by decide) ?_ | refine forQ_exit ?_ | refine forQ_ret ?_ | refine loopQ_exit ?_ | refine loopQ_ret ?_ | refine r_block ?_ | refine r_skip ?_ | refine r_exit ?_ | refine r_ret ?_ | (show rwp _ _ (.cond _ _ _) _ _ _; first | refine c_t (h := ?_) | refine c_f (h := ?_)))
                refine r_for (p.cnj.getD k []).length (fun m ρ w' => Has ρ [(1, .pointer (some ⟨b, 0, none⟩)), (3, .int .i64 p.n), (5, .int .i64 k), (6, .int .i64 m)] ∧ Ext w1 w' ∧ ∀ j, j < m → ExpP p.ord ((p.cnj.getD k []).getD j []) k) ?_ ?_
                · refine ⟨?_, he16, fun i hi => by omega⟩
                  ((try simp only [Has, ev_tmp, ev_const, ev_func, get_put, get_args, get_putL, get_putL_nil, Nat.reduceEqDiff, reduceIte, List.getD_cons_zero, List.getD_cons_succ, List.getD_nil]); repeat' (first | exact True.intro | apply And.intro | with_reducible rfl | exact int_congr (by first | omega | rfl)))
                · clear he4 he5 he6 he16
                  rintro m ρ w7 hm ⟨hH, he7, hin⟩
                  refine rwp_has hH fun ρ2 => ?_
                  repeat (first | (show rops _ _ _ _ (_ :: _) _ _; first | refine ra (next := ?_) | refine rk (next := ?_) | refine rku (next := ?_)) | refine st_end ?_ | refine thn_normal ?_ | refine r_seq ?_ | refine r_region rfl ?_ | refine thn_exit ?_ | refine thn_ret ?_ | refine inBlk_normal ?_ | refine inBlk_ret ?_ | refine inBlk_hit ?_ | refine inBlk_miss (by decide) ?_ | refine forQ_exit ?_ | refine forQ_ret ?_ | refine loopQ_exit ?_ | refine loopQ_ret ?_ | refine r_block ?_ | refine r_skip ?_ | refine r_exit ?_ | refine r_ret ?_ | (show rwp _ _ (.cond _ _ _) _ _ _; first | refine c_t (h := ?_) | refine c_f (h := ?_)))
                  refine c_if (fun hm2 => ?_) (fun hm2 => ?_)
                  · repeat (first | (show rops _ _ _ _ (_ :: _) _ _; first | refine ra (next := ?_) | refine rk (next := ?_) | refine rku (next := ?_)) | refine st_end ?_ | refine thn_normal ?_ | refine r_seq ?_ | refine r_region rfl ?_ | refine thn_exit ?_ | refine thn_ret ?_ | refine inBlk_normal ?_ | refine inBlk_ret ?_ | refine inBlk_hit ?_ | refine inBlk_miss (by decide) ?_ | refine forQ_exit ?_ | refine forQ_ret ?_ | refine loopQ_exit ?_ | refine loopQ_ret ?_ | refine r_block ?_ | refine r_skip ?_ | refine r_exit ?_ | refine r_ret ?_ | (show rwp _ _ (.cond _ _ _) _ _ _; first | refine c_t (h := ?_) | refine c_f (h := ?_)))
                    refine d_region fun w8 he8 _ => ?_
                    repeat (first | refine da (next := ?_) | refine dsk (next := ?_) | refine dsku (next := ?_))
                    refine dc (l07Exponents_ok (xs := (p.cnj.getD k []).getD m []) hbd' hl) (next := fun v9 w9 h9 => ?_)
                    obtain ⟨b9, rfl, hb9, he9⟩ := h9
                    refine ⟨fun h => h.trans he9, ?_⟩
                    repeat (first | refine da (next := ?_) | refine dsk (next := ?_) | refine dsku (next := ?_))
                    refine d_end (h := ?_)
                    repeat (first | (show rops _ _ _ _ (_ :: _) _ _; first | refine ra (next := ?_) | refine rk (next := ?_) | refine rku (next := ?_)) | refine st_end ?_ | refine thn_normal ?_ | refine r_seq ?_ | refine r_region rfl ?_ | refine thn_exit ?_ | refine thn_ret ?_ | refine inBlk_normal ?_ | refine inBlk_ret ?_ | refine inBlk_hit ?_ | refine inBlk_miss (by decide) ?_ | refine forQ_exit ?_ | refine forQ_ret ?_ | refine loopQ_exit ?_ | refine loopQ_ret ?_ | refine r_block ?_ | refine r_skip ?_ | refine r_exit ?_ | refine r_ret ?_ | (show rwp _ _ (.cond _ _ _) _ _ _; first | refine c_t (h := ?_) | refine c_f (h := ?_)))
                    refine c_b (fun h10 => ?_) (fun h10 => ?_)
                    · repeat (first | (show rops _ _ _ _ (_ :: _) _ _; first | refine ra (next := ?_) | refine rk (next := ?_) | refine rku (next := ?_)) | refine st_end ?_ | refine thn_normal ?_ | refine r_seq ?_ | refine r_region rfl ?_ | refine thn_exit ?_ | refine thn_ret ?_ | refine inBlk_normal ?_ | refine inBlk_ret ?_ | refine inBlk_hit ?_ | refine inBlk_miss (by decide) ?_ | refine forQ_exit ?_ | refine forQ_ret ?_ | refine loopQ_exit ?_ | refine loopQ_ret ?_ | refine r_block ?_ | refine r_skip ?_ | refine r_exit ?_ | refine r_ret ?_ | (show rwp _ _ (.cond _ _ _) _ _ _; first | refine c_t (h := ?_) | refine c_f (h := ?_)))
                      refine ret1 (no (fun h => ?_) (he1.trans ((he7.trans he8).trans he9)))
                      have := hb9.2 (((valid_iff.1 h).2.2.2.2.2 k (by omega)).2.2 m (by omega))
                      rw [this] at h10; cases h10
                    · have h11 := hb9.1 (by simpa using h10)
                      repeat (first | (show rops _ _ _ _ (_ :: _) _ _; first | refine ra (next := ?_) | refine rk (next := ?_) | refine rku (next := ?_)) | refine st_end ?_ | refine thn_normal ?_ | refine r_seq ?_ | refine r_region rfl ?_ | refine thn_exit ?_ | refine thn_ret ?_ | refine inBlk_normal ?_ | refine inBlk_ret ?_ | refine inBlk_hit ?_ | refine inBlk_miss (by decide) ?_ | refine forQ_exit ?_ | refine forQ_ret ?_ | refine loopQ_exit ?_ | refine loopQ_ret ?_ | refine r_block ?_ | refine r_skip ?_ | refine r_exit ?_ | refine r_ret ?_ | (show rwp _ _ (.cond _ _ _) _ _ _; first | refine c_t (h := ?_) | refine c_f (h := ?_)))
                      refine forQ_normal (by omega) ⟨?_, (he7.trans he8).trans he9, fun j hj => ?_⟩
                      · ((try simp only [Has, ev_tmp, ev_const, ev_func, get_put, get_args, get_putL, get_putL_nil, Nat.reduceEqDiff, reduceIte, List.getD_cons_zero, List.getD_cons_succ, List.getD_nil]); repeat' (first | exact True.intro | apply And.intro | with_reducible rfl | exact int_congr (by first | omega | rfl)))
                      · by_cases e : j = m
                        · subst e; exact h11
                        · exact hin j (by omega)
                  · repeat (first | (show rops _ _ _ _ (_ :: _) _ _; first | refine ra (next := ?_) | refine rk (next := ?_) | refine rku (next := ?_)) | refine st_end ?_ | refine thn_normal ?_ | refine r_seq ?_ | refine r_region rfl ?_ | refine thn_exit ?_ | refine thn_ret ?_ | refine inBlk_normal ?_ | refine inBlk_ret ?_ | refine inBlk_hit ?_ | refine inBlk_miss (by decide) ?_ | refine forQ_exit ?_ | refine forQ_ret ?_ | refine loopQ_exit ?_ | refine loopQ_ret ?_ | refine r_block ?_ | refine r_skip ?_ | refine r_exit ?_ | refine r_ret ?_ | (show rwp _ _ (.cond _ _ _) _ _ _; first | refine c_t (h := ?_) | refine c_f (h := ?_)))
                    refine forQ_normal (by omega) ⟨?_, he7, fun q hq => ?_⟩
                    · ((try simp only [Has, ev_tmp, ev_const, ev_func, get_put, get_args, get_putL, get_putL_nil, Nat.reduceEqDiff, reduceIte, List.getD_cons_zero, List.getD_cons_succ, List.getD_nil]); repeat' (first | exact True.intro | apply And.intro | with_reducible rfl | exact int_congr (by first | omega | rfl)))
                    · by_cases e : q = k
                      · subst e
                        exact ⟨h8, by omega, fun j hj => hin j (by omega)⟩
                      · exact hrow q (by omega)
          · repeat (first | (show rops _ _ _ _ (_ :: _) _ _; first | refine ra (next := ?_) | refine rk (next := ?_) | refine rku (next := ?_)) | refine st_end ?_ | refine thn_normal ?_ | refine r_seq ?_ | refine r_region rfl ?_ | refine thn_exit ?_ | refine thn_ret ?_ | refine inBlk_normal ?_ | refine inBlk_ret ?_ | refine inBlk_hit ?_ | refine inBlk_miss (by decide) ?_ | refine forQ_exit ?_ | refine forQ_ret ?_ | refine loopQ_exit ?_ | refine loopQ_ret ?_ | refine r_block ?_ | refine r_skip ?_ | refine r_exit ?_ | refine r_ret ?_ | (show rwp _ _ (.cond _ _ _) _ _ _; first | refine c_t (h := ?_) | refine c_f (h := ?_)))
            refine ret1 ⟨_, rfl, ?_, he1.trans he4⟩
            simp only [true_iff]
            exact valid_iff.2 ⟨by omega, by omega, by omega, hpre, hprod, fun q hq => hrow q (by omega)⟩
end Go.Proofs.Ytjcmdmjlhngjcaa

/-
  Walks: the reference's product by descent (l08Image, l08At).
  Conditions: the presentation is valid, the vectors are exponent vectors with zeros ahead of the level.
-/
namespace Go.Proofs.Ytjcmdmjlhngjcaa
open Go Go.Pc
def AtSpec (p : Pr) (i : Nat) : Prop := ∀ {w : World} {vp va vb : Value} {k : Int} {x y : List Int} {lo hi lo1 hi1 lo2 hi2 : Nat} [Pres lo hi w vp p] [Ints lo1 hi1 w va x] [Ints lo2 hi2 w vb y],
  k = i → InR p x → InR p y → ZU i x → ZU i y →
  Calls Try.prog 68 #[vp, .int .i64 k, va, vb] w (Ret fun v w' => Ext w w' ∧ Fr w.heap.size w' v (atv p i x y))
def ImgSpec (p : Pr) (i : Nat) : Prop := ∀ {w : World} {vp va : Value} {k : Int} {x : List Int} {lo hi lo1 hi1 : Nat} [Pres lo hi w vp p] [Ints lo1 hi1 w va x],
  k = i → InR p x →
  Calls Try.prog 67 #[vp, .int .i64 k, va] w (Ret fun v w' => Ext w w' ∧ Fr w.heap.size w' v (img p i x))
set_option maxHeartbeats 1000000 in
theorem img_of_at {p : Pr} (hv : Valid p) {i : Nat} (hi : i < p.n) (hat : AtSpec p (i + 1)) : ImgSpec p i := by
  intro w vp va k0 x lo hi' lo1 hi1 hp hx hk0 hxr
  subst hk0
  have hn6 := hv.n6
  have hol : p.ord.length = p.n := rfl
  have hcl : p.cnj.length = p.n := hv.lenc
  have hci := hv.lenci i hi
  obtain ⟨vo, vpw, vc, ps, cs, css, rfl, h1, h2, h3⟩ := hp.ex
  refine enter (args := [.agg #[vo, vpw, vc], .int .i64 i, va]) (l := [.tmp 6]) Try.func67 rfl rfl Try.ntmps67 (by simp) ?_
  repeat (first | (show rops _ _ _ _ (_ :: _) _ _; first | refine ra (next := ?_) | refine rk (next := ?_) | refine rku (next := ?_)) | refine st_end ?_ | refine thn_normal ?_ | refine r_seq ?_ | refine r_region rfl ?_ | refine thn_exit ?_ | refine thn_ret ?_ | refine inBlk_normal ?_ | refine inBlk_ret ?_ | refine inBlk_hit ?_ | refine inBlk_miss (by decide) ?_ | refine forQ_exit ?_ | refine forQ_ret ?_ | refine loopQ_exit ?_ | refine loopQ_ret ?_ | refine r_block ?_ | refine r_skip ?_ | refine r_exit ?_ | refine r_ret ?_ | (show rwp _ _ (.cond _ _ _) _ _ _; first | refine c_t (h := ?_) | refine c_f (h := ?_)))
  refine st_box3 (by ((try simp only [ev_tmp, ev_const, ev_func, get_put, get_args, get_putL, get_putL_nil, Nat.reduceEqDiff, reduceIte, List.getD_cons_zero, List.getD_cons_succ, List.getD_nil]); first | done | with_reducible rfl)) (by first | exact True.intro | exact ⟨_, rfl, by ((try simp only [ev_tmp, ev_const, ev_func, get_put, get_args, get_putL, get_putL_nil, Nat.reduceEqDiff, reduceIte, List.getD_cons_zero, List.getD_cons_succ, List.getD_nil, Bool.not_true, Bool.not_false]); first | done | with_reducible rfl)⟩) fun w1 b he1 hb1 hs1 hc0 hc1 hc2 => ?_
  repeat (first | (show rops _ _ _ _ (_ :: _) _ _; first | refine ra (next := ?_) | refine rk (next := ?_) | refine rku (next := ?_)) | refine st_end ?_ | refine thn_normal ?_ | refine r_seq ?_ | refine r_region rfl ?_ | refine thn_exit ?_ | refine thn_ret ?_ | refine inBlk_normal ?_ | refine inBlk_ret ?_ | refine inBlk_hit ?_ | refine inBlk_miss (by decide) ?_ | refine forQ_exit ?_ | refine forQ_ret ?_ | refine loopQ_exit ?_ | refine loopQ_ret ?_ | refine r_block ?_ | refine r_skip ?_ | refine r_exit ?_ | refine r_ret ?_ | (show rwp _ _ (.cond _ _ _) _ _ _; first | refine c_t (h := ?_) | refine c_f (h := ?_)))
  refine st_make_int (by ((try simp only [ev_tmp, ev_const, ev_func, get_put, get_args, get_putL, get_putL_nil, Nat.reduceEqDiff, reduceIte, List.getD_cons_zero, List.getD_cons_succ, List.getD_nil]); first | done | with_reducible rfl)) (by ((try simp only [ev_tmp, ev_const, ev_func, get_put, get_args, get_putL, get_putL_nil, Nat.reduceEqDiff, reduceIte, List.getD_cons_zero, List.getD_cons_succ, List.getD_nil]); first | done | with_reducible rfl)) (by omega) (by omega) (by first | exact True.intro | exact ⟨_, rfl, by ((try simp only [ev_tmp, ev_const, ev_func, get_put, get_args, get_putL, get_putL_nil, Nat.reduceEqDiff, reduceIte, List.getD_cons_zero, List.getD_cons_succ, List.getD_nil, Bool.not_true, Bool.not_false]); first | done | with_reducible rfl)⟩) fun w2 v2 he2 hs2 ho2 => ?_
  have hz : Fr w.heap.size w2 v2 (zeros p.n) := ho2.toFr (by omega)
  repeat (first | (show rops _ _ _ _ (_ :: _) _ _; first | refine ra (next := ?_) | refine rk (next := ?_) | refine rku (next := ?_)) | refine st_end ?_ | refine thn_normal ?_ | refine r_seq ?_ | refine r_region rfl ?_ | refine thn_exit ?_ | refine thn_ret ?_ | refine inBlk_normal ?_ | refine inBlk_ret ?_ | refine inBlk_hit ?_ | refine inBlk_miss (by decide) ?_ | refine forQ_exit ?_ | refine forQ_ret ?_ | refine loopQ_exit ?_ | refine loopQ_ret ?_ | refine r_block ?_ | refine r_skip ?_ | refine r_exit ?_ | refine r_ret ?_ | (show rwp _ _ (.cond _ _ _) _ _ _; first | refine c_t (h := ?_) | refine c_f (h := ?_)))
  refine r_for (p.n - (i + 1)) (fun k ρ w' => ∃ vo', Has ρ [(1, .int .i64 i), (2, va), (3, .pointer (some ⟨b, 0, none⟩)), (7, .int .i64 p.n), (8, vo'), (9, .int .i64 (i + 1 + k : Nat))] ∧ Ext w1 w' ∧ Fr w.heap.size w' vo' (imgTo p i x k)) ?_ ?_
  · refine ⟨v2, ?_, he2, hz⟩
    ((try simp only [Has, ev_tmp, ev_const, ev_func, get_put, get_args, get_putL, get_putL_nil, Nat.reduceEqDiff, reduceIte, List.getD_cons_zero, List.getD_cons_succ, List.getD_nil]); repeat' (first | exact True.intro | apply And.intro | with_reducible rfl | exact int_congr (by first | omega | rfl)))
  · rintro k ρ w3 hk ⟨vo', hH, he3, hf3⟩
    refine rwp_has hH fun ρ0 => ?_
    repeat (first | (show rops _ _ _ _ (_ :: _) _ _; first | refine ra (next := ?_) | refine rk (next := ?_) | refine rku (next := ?_)) | refine st_end ?_ | refine thn_normal ?_ | refine r_seq ?_ | refine r_region rfl ?_ | refine thn_exit ?_ | refine thn_ret ?_ | refine inBlk_normal ?_ | refine inBlk_ret ?_ | refine inBlk_hit ?_ | refine inBlk_miss (by decide) ?_ | refine forQ_exit ?_ | refine forQ_ret ?_ | refine loopQ_exit ?_ | refine loopQ_ret ?_ | refine r_block ?_ | refine r_skip ?_ | refine r_exit ?_ | refine r_ret ?_ | (show rwp _ _ (.cond _ _ _) _ _ _; first | refine c_t (h := ?_) | refine c_f (h := ?_)))
    refine c_if (fun h4 => ?_) (fun h4 => ?_)
    · repeat (first | (show rops _ _ _ _ (_ :: _) _ _; first | refine ra (next := ?_) | refine rk (next := ?_) | refine rku (next := ?_)) | refine st_end ?_ | refine thn_normal ?_ | refine r_seq ?_ | refine r_region rfl ?_ | refine thn_exit ?_ | refine thn_ret ?_ | refine inBlk_normal ?_ | refine inBlk_ret ?_ | refine inBlk_hit ?_ | refine inBlk_miss (by decide) ?_ | refine forQ_exit ?_ | refine forQ_ret ?_ | refine loopQ_exit ?_ | refine loopQ_ret ?_ | refine r_block ?_ | refine r_skip ?_ | refine r_exit ?_ | refine r_ret ?_ | (show rwp _ _ (.cond _ _ _) _ _ _; first | refine c_t (h := ?_) | refine c_f (h := ?_)))
      have hxj := hxr.rng (i + 1 + k) (by omega)
      have hoj := hv.opos (i := i + 1 + k) (by omega)
      have hxl := hxr.len
      refine r_for (x.getD (i + 1 + k) 0).toNat (fun q ρ w' => ∃ vo', Has ρ [(1, .int .i64 i), (2, va), (3, .pointer (some ⟨b, 0, none⟩)), (7, .int .i64 p.n), (8, vo'), (9, .int .i64 (i + 1 + k : Nat)), (10, .int .i64 q)] ∧ Ext w1 w' ∧
        Fr w.heap.size w' vo' (rep q (fun o => atv p (i + 1) o (p.c i (i + 1 + k))) (imgTo p i x k))) ?_ ?_
      · refine ⟨vo', ?_, he3, hf3⟩
        ((try simp only [Has, ev_tmp, ev_const, ev_func, get_put, get_args, get_putL, get_putL_nil, Nat.reduceEqDiff, reduceIte, List.getD_cons_zero, List.getD_cons_succ, List.getD_nil]); repeat' (first | exact True.intro | apply And.intro | with_reducible rfl | exact int_congr (by first | omega | rfl)))
      · rintro q ρ w4 hq ⟨vo2, hH2, he4, hf4⟩
        refine rwp_has hH2 fun ρ1 => ?_
        repeat (first | (show rops _ _ _ _ (_ :: _) _ _; first | refine ra (next := ?_) | refine rk (next := ?_) | refine rku (next := ?_)) | refine st_end ?_ | refine thn_normal ?_ | refine r_seq ?_ | refine r_region rfl ?_ | refine thn_exit ?_ | refine thn_ret ?_ | refine inBlk_normal ?_ | refine inBlk_ret ?_ | refine inBlk_hit ?_ | refine inBlk_miss (by decide) ?_ | refine forQ_exit ?_ | refine forQ_ret ?_ | refine loopQ_exit ?_ | refine loopQ_ret ?_ | refine r_block ?_ | refine r_skip ?_ | refine r_exit ?_ | refine r_ret ?_ | (show rwp _ _ (.cond _ _ _) _ _ _; first | refine c_t (h := ?_) | refine c_f (h := ?_)))
        refine c_if (fun h5 => ?_) (fun h5 => ?_)
        · repeat (first | (show rops _ _ _ _ (_ :: _) _ _; first | refine ra (next := ?_) | refine rk (next := ?_) | refine rku (next := ?_)) | refine st_end ?_ | refine thn_normal ?_ | refine r_seq ?_ | refine r_region rfl ?_ | refine thn_exit ?_ | refine thn_ret ?_ | refine inBlk_normal ?_ | refine inBlk_ret ?_ | refine inBlk_hit ?_ | refine inBlk_miss (by decide) ?_ | refine forQ_exit ?_ | refine forQ_ret ?_ | refine loopQ_exit ?_ | refine loopQ_ret ?_ | refine r_block ?_ | refine r_skip ?_ | refine r_exit ?_ | refine r_ret ?_ | (show rwp _ _ (.cond _ _ _) _ _ _; first | refine c_t (h := ?_) | refine c_f (h := ?_)))
          refine d_region fun w5 he5 _ => ?_
          repeat (first | refine da (next := ?_) | refine dsk (next := ?_) | refine dsku (next := ?_))
          have hin := rep_inv (fun v => InR p v ∧ ZU (i + 1) v) (f := fun o => atv p (i + 1) o (p.c i (i + 1 + k))) (fun o ho => atv_in hv _ _ rfl _ _ ho.1 (hv.c_in _ _ (by omega) (by omega)) ho.2 (hv.c_zu _ _ (by omega) (by omega))) (imgTo_in hv (atv_in hv _ (i + 1) rfl) x k hk) q
          have hcin : InR p (p.c i (i + 1 + k)) := hv.c_in _ _ (by omega) (by omega)
          have hczu : ZU (i + 1) (p.c i (i + 1 + k)) := hv.c_zu _ _ (by omega) (by omega)
          refine dc (hat ?_ hin.1 hcin hin.2 hczu) (next := fun v6 w6 ⟨he6, hf6⟩ => ⟨fun h => h.trans he6, ?_⟩)
          · omega
          repeat (first | refine da (next := ?_) | refine dsk (next := ?_) | refine dsku (next := ?_))
          refine d_end (h := ?_)
          repeat (first | (show rops _ _ _ _ (_ :: _) _ _; first | refine ra (next := ?_) | refine rk (next := ?_) | refine rku (next := ?_)) | refine st_end ?_ | refine thn_normal ?_ | refine r_seq ?_ | refine r_region rfl ?_ | refine thn_exit ?_ | refine thn_ret ?_ | refine inBlk_normal ?_ | refine inBlk_ret ?_ | refine inBlk_hit ?_ | refine inBlk_miss (by decide) ?_ | refine forQ_exit ?_ | refine forQ_ret ?_ | refine loopQ_exit ?_ | refine loopQ_ret ?_ | refine r_block ?_ | refine r_skip ?_ | refine r_exit ?_ | refine r_ret ?_ | (show rwp _ _ (.cond _ _ _) _ _ _; first | refine c_t (h := ?_) | refine c_f (h := ?_)))
          refine forQ_normal (by omega) ⟨v6, ?_, (he4.trans he5).trans he6, hf6.mono ?_⟩
          · ((try simp only [Has, ev_tmp, ev_const, ev_func, get_put, get_args, get_putL, get_putL_nil, Nat.reduceEqDiff, reduceIte, List.getD_cons_zero, List.getD_cons_succ, List.getD_nil]); repeat' (first | exact True.intro | apply And.intro | with_reducible rfl | exact int_congr (by first | omega | rfl)))
          · have := he4.size; have := he5.size; omega
        · repeat (first | (show rops _ _ _ _ (_ :: _) _ _; first | refine ra (next := ?_) | refine rk (next := ?_) | refine rku (next := ?_)) | refine st_end ?_ | refine thn_normal ?_ | refine r_seq ?_ | refine r_region rfl ?_ | refine thn_exit ?_ | refine thn_ret ?_ | refine inBlk_normal ?_ | refine inBlk_ret ?_ | refine inBlk_hit ?_ | refine inBlk_miss (by decide) ?_ | refine forQ_exit ?_ | refine forQ_ret ?_ | refine loopQ_exit ?_ | refine loopQ_ret ?_ | refine r_block ?_ | refine r_skip ?_ | refine r_exit ?_ | refine r_ret ?_ | (show rwp _ _ (.cond _ _ _) _ _ _; first | refine c_t (h := ?_) | refine c_f (h := ?_)))
          refine forQ_normal (by omega) ⟨vo2, ?_, he4, ?_⟩
          · ((try simp only [Has, ev_tmp, ev_const, ev_func, get_put, get_args, get_putL, get_putL_nil, Nat.reduceEqDiff, reduceIte, List.getD_cons_zero, List.getD_cons_succ, List.getD_nil]); repeat' (first | exact True.intro | apply And.intro | with_reducible rfl | exact int_congr (by first | omega | rfl)))
          · rw [imgTo_succ]
            have : q = (x.getD (i + 1 + k) 0).toNat := by omega
            rw [← this]; exact hf4
    · repeat (first | (show rops _ _ _ _ (_ :: _) _ _; first | refine ra (next := ?_) | refine rk (next := ?_) | refine rku (next := ?_)) | refine st_end ?_ | refine thn_normal ?_ | refine r_seq ?_ | refine r_region rfl ?_ | refine thn_exit ?_ | refine thn_ret ?_ | refine inBlk_normal ?_ | refine inBlk_ret ?_ | refine inBlk_hit ?_ | refine inBlk_miss (by decide) ?_ | refine forQ_exit ?_ | refine forQ_ret ?_ | refine loopQ_exit ?_ | refine loopQ_ret ?_ | refine r_block ?_ | refine r_skip ?_ | refine r_exit ?_ | refine r_ret ?_ | (show rwp _ _ (.cond _ _ _) _ _ _; first | refine c_t (h := ?_) | refine c_f (h := ?_)))
      have : k = p.n - (i + 1) := by omega
      subst this
      exact ret1 ⟨he1.trans he3, hf3⟩
set_option maxHeartbeats 2000000 in
theorem at_of_img {p : Pr} (hv : Valid p) {i : Nat} (himg : i < p.n → ImgSpec p i) (hat : i < p.n → AtSpec p (i + 1)) : AtSpec p i := by
  intro w vp va vb k0 x y lo hi lo1 hi1 lo2 hi2 hp hx hy hk0 hxr hyr zx zy
  subst hk0
  have hn6 := hv.n6
  have hol : p.ord.length = p.n := rfl
  have hwl : p.pow.length = p.n := hv.lenw
  replace hp := hp.wide
  replace hx := hx.wide
  replace hy := hy.wide
  obtain ⟨vo, vpw, vc, ps, cs, css, rfl, h1, h2, h3⟩ := hp.ex
  refine enter (args := [.agg #[vo, vpw, vc], .int .i64 i, va, vb]) (l := [.tmp 8]) Try.func68 rfl rfl Try.ntmps68 (by simp) ?_
  repeat (first | (show rops _ _ _ _ (_ :: _) _ _; first | refine ra (next := ?_) | refine rk (next := ?_) | refine rku (next := ?_)) | refine st_end ?_ | refine thn_normal ?_ | refine r_seq ?_ | refine r_region rfl ?_ | refine thn_exit ?_ | refine thn_ret ?_ | refine inBlk_normal ?_ | refine inBlk_ret ?_ | refine inBlk_hit ?_ | refine inBlk_miss (by decide) ?_ | refine forQ_exit ?_ | refine forQ_ret ?_ | refine loopQ_exit ?_ | refine loopQ_ret ?_ | refine r_block ?_ | refine r_skip ?_ | refine r_exit ?_ | refine r_ret ?_ | (show rwp _ _ (.cond _ _ _) _ _ _; first | refine c_t (h := ?_) | refine c_f (h := ?_)))
  refine st_box3 (by ((try simp only [ev_tmp, ev_const, ev_func, get_put, get_args, get_putL, get_putL_nil, Nat.reduceEqDiff, reduceIte, List.getD_cons_zero, List.getD_cons_succ, List.getD_nil]); first | done | with_reducible rfl)) (by first | exact True.intro | exact ⟨_, rfl, by ((try simp only [ev_tmp, ev_const, ev_func, get_put, get_args, get_putL, get_putL_nil, Nat.reduceEqDiff, reduceIte, List.getD_cons_zero, List.getD_cons_succ, List.getD_nil, Bool.not_true, Bool.not_false]); first | done | with_reducible rfl)⟩) fun w1 b he1 hb1 hs1 hc0 hc1 hc2 => ?_
  repeat (first | (show rops _ _ _ _ (_ :: _) _ _; first | refine ra (next := ?_) | refine rk (next := ?_) | refine rku (next := ?_)) | refine st_end ?_ | refine thn_normal ?_ | refine r_seq ?_ | refine r_region rfl ?_ | refine thn_exit ?_ | refine thn_ret ?_ | refine inBlk_normal ?_ | refine inBlk_ret ?_ | refine inBlk_hit ?_ | refine inBlk_miss (by decide) ?_ | refine forQ_exit ?_ | refine forQ_ret ?_ | refine loopQ_exit ?_ | refine loopQ_ret ?_ | refine r_block ?_ | refine r_skip ?_ | refine r_exit ?_ | refine r_ret ?_ | (show rwp _ _ (.cond _ _ _) _ _ _; first | refine c_t (h := ?_) | refine c_f (h := ?_)))
  refine c_if (fun h4 => ?_) (fun h4 => ?_)
  · repeat (first | (show rops _ _ _ _ (_ :: _) _ _; first | refine ra (next := ?_) | refine rk (next := ?_) | refine rku (next := ?_)) | refine st_end ?_ | refine thn_normal ?_ | refine r_seq ?_ | refine r_region rfl ?_ | refine thn_exit ?_ | refine thn_ret ?_ | refine inBlk_normal ?_ | refine inBlk_ret ?_ | refine inBlk_hit ?_ | refine inBlk_miss (by decide) ?_ | refine forQ_exit ?_ | refine forQ_ret ?_ | refine loopQ_exit ?_ | refine loopQ_ret ?_ | refine r_block ?_ | refine r_skip ?_ | refine r_exit ?_ | refine r_ret ?_ | (show rwp _ _ (.cond _ _ _) _ _ _; first | refine c_t (h := ?_) | refine c_f (h := ?_)))
    refine st_make_int (by ((try simp only [ev_tmp, ev_const, ev_func, get_put, get_args, get_putL, get_putL_nil, Nat.reduceEqDiff, reduceIte, List.getD_cons_zero, List.getD_cons_succ, List.getD_nil]); first | done | with_reducible rfl)) (by ((try simp only [ev_tmp, ev_const, ev_func, get_put, get_args, get_putL, get_putL_nil, Nat.reduceEqDiff, reduceIte, List.getD_cons_zero, List.getD_cons_succ, List.getD_nil]); first | done | with_reducible rfl)) (by omega) (by omega) (by first | exact True.intro | exact ⟨_, rfl, by ((try simp only [ev_tmp, ev_const, ev_func, get_put, get_args, get_putL, get_putL_nil, Nat.reduceEqDiff, reduceIte, List.getD_cons_zero, List.getD_cons_succ, List.getD_nil, Bool.not_true, Bool.not_false]); first | done | with_reducible rfl)⟩) fun w2 v2 he2 hs2 ho2 => ?_
    repeat (first | (show rops _ _ _ _ (_ :: _) _ _; first | refine ra (next := ?_) | refine rk (next := ?_) | refine rku (next := ?_)) | refine st_end ?_ | refine thn_normal ?_ | refine r_seq ?_ | refine r_region rfl ?_ | refine thn_exit ?_ | refine thn_ret ?_ | refine inBlk_normal ?_ | refine inBlk_ret ?_ | refine inBlk_hit ?_ | refine inBlk_miss (by decide) ?_ | refine forQ_exit ?_ | refine forQ_ret ?_ | refine loopQ_exit ?_ | refine loopQ_ret ?_ | refine r_block ?_ | refine r_skip ?_ | refine r_exit ?_ | refine r_ret ?_ | (show rwp _ _ (.cond _ _ _) _ _ _; first | refine c_t (h := ?_) | refine c_f (h := ?_)))
    refine ret1 ⟨he1.trans he2, ?_⟩
    rw [atv_end _ _ _ _ (by omega)]
    exact ho2.toFr (by omega)
  · have hin : i < p.n := by omega
    have hxl := hxr.len
    have hyl := hyr.len
    have hxi := hxr.rng i hin
    have hyi := hyr.rng i hin
    have hoi := hv.opos hin
    repeat (first | (show rops _ _ _ _ (_ :: _) _ _; first | refine ra (next := ?_) | refine rk (next := ?_) | refine rku (next := ?_)) | refine st_end ?_ | refine thn_normal ?_ | refine r_seq ?_ | refine r_region rfl ?_ | refine thn_exit ?_ | refine thn_ret ?_ | refine inBlk_normal ?_ | refine inBlk_ret ?_ | refine inBlk_hit ?_ | refine inBlk_miss (by decide) ?_ | refine forQ_exit ?_ | refine forQ_ret ?_ | refine loopQ_exit ?_ | refine loopQ_ret ?_ | refine r_block ?_ | refine r_skip ?_ | refine r_exit ?_ | refine r_ret ?_ | (show rwp _ _ (.cond _ _ _) _ _ _; first | refine c_t (h := ?_) | refine c_f (h := ?_)))
    refine rc (l01Own_ok (xs := x) (by omega)) (next := fun v2 w2 ⟨he2, hf2⟩ => ?_)
    repeat (first | (show rops _ _ _ _ (_ :: _) _ _; first | refine ra (next := ?_) | refine rk (next := ?_) | refine rku (next := ?_)) | refine st_end ?_ | refine thn_normal ?_ | refine r_seq ?_ | refine r_region rfl ?_ | refine thn_exit ?_ | refine thn_ret ?_ | refine inBlk_normal ?_ | refine inBlk_ret ?_ | refine inBlk_hit ?_ | refine inBlk_miss (by decide) ?_ | refine forQ_exit ?_ | refine forQ_ret ?_ | refine loopQ_exit ?_ | refine loopQ_ret ?_ | refine r_block ?_ | refine r_skip ?_ | refine r_exit ?_ | refine r_ret ?_ | (show rwp _ _ (.cond _ _ _) _ _ _; first | refine c_t (h := ?_) | refine c_f (h := ?_)))
    refine rc (l01Own_ok (xs := y) (by omega)) (next := fun v3 w3 ⟨he3, hf3⟩ => ?_)
    repeat (first | (show rops _ _ _ _ (_ :: _) _ _; first | refine ra (next := ?_) | refine rk (next := ?_) | refine rku (next := ?_)) | refine st_end ?_ | refine thn_normal ?_ | refine r_seq ?_ | refine r_region rfl ?_ | refine thn_exit ?_ | refine thn_ret ?_ | refine inBlk_normal ?_ | refine inBlk_ret ?_ | refine inBlk_hit ?_ | refine inBlk_miss (by decide) ?_ | refine forQ_exit ?_ | refine forQ_ret ?_ | refine loopQ_exit ?_ | refine loopQ_ret ?_ | refine r_block ?_ | refine r_skip ?_ | refine r_exit ?_ | refine r_ret ?_ | (show rwp _ _ (.cond _ _ _) _ _ _; first | refine c_t (h := ?_) | refine c_f (h := ?_)))
    obtain ⟨e2, b2, hb2, ho2⟩ := hf2.own (by intro e; rw [e] at hxl; simp at hxl; omega)
    obtain ⟨e3, b3, hb3, ho3⟩ := hf3.own (by intro e; rw [e] at hyl; simp at hyl; omega)
    have hl2 := ho2.lt
    have hl3 := ho3.lt
    have hz1 := he1.size
    have hz2 := he2.size
    have hz3 := he3.size
    have ap1 : Apart 0 w.heap.size b2 := ⟨.inr (by omega)⟩
    have ap2 : Apart 0 w.heap.size b3 := ⟨.inr (by omega)⟩
    have ap3 : Apart b (b + 1) b2 := ⟨.inr (by omega)⟩
    have ap4 : Apart b (b + 1) b3 := ⟨.inr (by omega)⟩
    have ho2' : OwnI e2 b2 w3 v2 x := OwnI.ext (h := ho2)
    clear hf2 hf3 ho2
    refine st_store_int (by ((try simp only [ev_tmp, ev_const, ev_func, get_put, get_args, get_putL, get_putL_nil, Nat.reduceEqDiff, reduceIte, List.getD_cons_zero, List.getD_cons_succ, List.getD_nil]); first | done | with_reducible rfl)) (by ((try simp only [ev_tmp, ev_const, ev_func, get_put, get_args, get_putL, get_putL_nil, Nat.reduceEqDiff, reduceIte, List.getD_cons_zero, List.getD_cons_succ, List.getD_nil]); first | done | with_reducible rfl)) ?_ (by first | exact True.intro | exact ⟨_, rfl, by ((try simp only [ev_tmp, ev_const, ev_func, get_put, get_args, get_putL, get_putL_nil, Nat.reduceEqDiff, reduceIte, List.getD_cons_zero, List.getD_cons_succ, List.getD_nil, Bool.not_true, Bool.not_false]); first | done | with_reducible rfl)⟩) fun w4 hc4 hs4 ho4 => ?_
    · omega
    have ho3' := ho3.chg' hc4 (by omega)
    repeat (first | (show rops _ _ _ _ (_ :: _) _ _; first | refine ra (next := ?_) | refine rk (next := ?_) | refine rku (next := ?_)) | refine st_end ?_ | refine thn_normal ?_ | refine r_seq ?_ | refine r_region rfl ?_ | refine thn_exit ?_ | refine thn_ret ?_ | refine inBlk_normal ?_ | refine inBlk_ret ?_ | refine inBlk_hit ?_ | refine inBlk_miss (by decide) ?_ | refine forQ_exit ?_ | refine forQ_ret ?_ | refine loopQ_exit ?_ | refine loopQ_ret ?_ | refine r_block ?_ | refine r_skip ?_ | refine r_exit ?_ | refine r_ret ?_ | (show rwp _ _ (.cond _ _ _) _ _ _; first | refine c_t (h := ?_) | refine c_f (h := ?_)))
    refine st_store_int (by ((try simp only [ev_tmp, ev_const, ev_func, get_put, get_args, get_putL, get_putL_nil, Nat.reduceEqDiff, reduceIte, List.getD_cons_zero, List.getD_cons_succ, List.getD_nil]); first | done | with_reducible rfl)) (by ((try simp only [ev_tmp, ev_const, ev_func, get_put, get_args, get_putL, get_putL_nil, Nat.reduceEqDiff, reduceIte, List.getD_cons_zero, List.getD_cons_succ, List.getD_nil]); first | done | with_reducible rfl)) ?_ (by first | exact True.intro | exact ⟨_, rfl, by ((try simp only [ev_tmp, ev_const, ev_func, get_put, get_args, get_putL, get_putL_nil, Nat.reduceEqDiff, reduceIte, List.getD_cons_zero, List.getD_cons_succ, List.getD_nil, Bool.not_true, Bool.not_false]); first | done | with_reducible rfl)⟩) fun w5 hc5 hs5 ho5 => ?_
    · omega
    have ho4' := ho4.chg' hc5 (by omega)
    have hE5 : Ext w w5 := hc5.ext (hc4.ext ((he1.trans he2).trans he3) (by omega)) (by omega)
    clear ho2' ho3' ho3 ho4
    repeat (first | (show rops _ _ _ _ (_ :: _) _ _; first | refine ra (next := ?_) | refine rk (next := ?_) | refine rku (next := ?_)) | refine st_end ?_ | refine thn_normal ?_ | refine r_seq ?_ | refine r_region rfl ?_ | refine thn_exit ?_ | refine thn_ret ?_ | refine inBlk_normal ?_ | refine inBlk_ret ?_ | refine inBlk_hit ?_ | refine inBlk_miss (by decide) ?_ | refine forQ_exit ?_ | refine forQ_ret ?_ | refine loopQ_exit ?_ | refine loopQ_ret ?_ | refine r_block ?_ | refine r_skip ?_ | refine r_exit ?_ | refine r_ret ?_ | (show rwp _ _ (.cond _ _ _) _ _ _; first | refine c_t (h := ?_) | refine c_f (h := ?_)))
    have hx0 : InR p (x.set i 0) ∧ ZU (i + 1) (x.set i 0) := ⟨hxr.set (by omega) (fun _ => by omega), zx.set0⟩
    have hy0 : InR p (y.set i 0) ∧ ZU (i + 1) (y.set i 0) := ⟨hyr.set (by omega) (fun _ => by omega), zy.set0⟩
    have hrin : ∀ q, InR p (rep q (img p i) (x.set i 0)) ∧ ZU (i + 1) (rep q (img p i) (x.set i 0)) := fun q => rep_inv (fun v => InR p v ∧ ZU (i + 1) v) (fun u _ => img_in hv i u) hx0 q
    refine r_for (y.getD i 0).toNat (fun q ρ w' => ∃ vl lo hi, Has ρ [(1, .int .i64 i), (2, va), (3, vb), (4, .pointer (some ⟨b, 0, none⟩)), (9, .int .i64 p.n), (10, vl), (11, v3), (12, .int .i64 q)] ∧ Ext w5 w' ∧ Ints lo hi w' vl (rep q (img p i) (x.set i 0))) ?_ ?_
    · refine ⟨v2, _, _, ?_, Ext.refl _, inferInstance⟩
      ((try simp only [Has, ev_tmp, ev_const, ev_func, get_put, get_args, get_putL, get_putL_nil, Nat.reduceEqDiff, reduceIte, List.getD_cons_zero, List.getD_cons_succ, List.getD_nil]); repeat' (first | exact True.intro | apply And.intro | with_reducible rfl | exact int_congr (by first | omega | rfl)))
    · rintro q ρ w6 hq ⟨vl, lo', hi', hH, he6, hl6⟩
      refine rwp_has hH fun ρ0 => ?_
      repeat (first | (show rops _ _ _ _ (_ :: _) _ _; first | refine ra (next := ?_) | refine rk (next := ?_) | refine rku (next := ?_)) | refine st_end ?_ | refine thn_normal ?_ | refine r_seq ?_ | refine r_region rfl ?_ | refine thn_exit ?_ | refine thn_ret ?_ | refine inBlk_normal ?_ | refine inBlk_ret ?_ | refine inBlk_hit ?_ | refine inBlk_miss (by decide) ?_ | refine forQ_exit ?_ | refine forQ_ret ?_ | refine loopQ_exit ?_ | refine loopQ_ret ?_ | refine r_block ?_ | refine r_skip ?_ | refine r_exit ?_ | refine r_ret ?_ | (show rwp _ _ (.cond _ _ _) _ _ _; first | refine c_t (h := ?_) | refine c_f (h := ?_)))
      refine c_if (fun h7 => ?_) (fun h7 => ?_)
      · repeat (first | (show rops _ _ _ _ (_ :: _) _ _; first | refine ra (next := ?_) | refine rk (next := ?_) | refine rku (next := ?_)) | refine st_end ?_ | refine thn_normal ?_ | refine r_seq ?_ | refine r_region rfl ?_ | refine thn_exit ?_ | refine thn_ret ?_ | refine inBlk_normal ?_ | refine inBlk_ret ?_ | refine inBlk_hit ?_ | refine inBlk_miss (by decide) ?_ | refine forQ_exit ?_ | refine forQ_ret ?_ | refine loopQ_exit ?_ | refine loopQ_ret ?_ | refine r_block ?_ | refine r_skip ?_ | refine r_exit ?_ | refine r_ret ?_ | (show rwp _ _ (.cond _ _ _) _ _ _; first | refine c_t (h := ?_) | refine c_f (h := ?_)))
        refine rc (himg hin ?_ (hrin q).1) (next := fun v7 w7 ⟨he7, hf7⟩ => ?_)
        · omega
        repeat (first | (show rops _ _ _ _ (_ :: _) _ _; first | refine ra (next := ?_) | refine rk (next := ?_) | refine rku (next := ?_)) | refine st_end ?_ | refine thn_normal ?_ | refine r_seq ?_ | refine r_region rfl ?_ | refine thn_exit ?_ | refine thn_ret ?_ | refine inBlk_normal ?_ | refine inBlk_ret ?_ | refine inBlk_hit ?_ | refine inBlk_miss (by decide) ?_ | refine forQ_exit ?_ | refine forQ_ret ?_ | refine loopQ_exit ?_ | refine loopQ_ret ?_ | refine r_block ?_ | refine r_skip ?_ | refine r_exit ?_ | refine r_ret ?_ | (show rwp _ _ (.cond _ _ _) _ _ _; first | refine c_t (h := ?_) | refine c_f (h := ?_)))
        refine forQ_normal (by omega) ⟨v7, _, _, ?_, he6.trans he7, inferInstance⟩
        ((try simp only [Has, ev_tmp, ev_const, ev_func, get_put, get_args, get_putL, get_putL_nil, Nat.reduceEqDiff, reduceIte, List.getD_cons_zero, List.getD_cons_succ, List.getD_nil]); repeat' (first | exact True.intro | apply And.intro | with_reducible rfl | exact int_congr (by first | omega | rfl)))
      · have hqe : q = (y.getD i 0).toNat := by omega
        repeat (first | (show rops _ _ _ _ (_ :: _) _ _; first | refine ra (next := ?_) | refine rk (next := ?_) | refine rku (next := ?_)) | refine st_end ?_ | refine thn_normal ?_ | refine r_seq ?_ | refine r_region rfl ?_ | refine thn_exit ?_ | refine thn_ret ?_ | refine inBlk_normal ?_ | refine inBlk_ret ?_ | refine inBlk_hit ?_ | refine inBlk_miss (by decide) ?_ | refine forQ_exit ?_ | refine forQ_ret ?_ | refine loopQ_exit ?_ | refine loopQ_ret ?_ | refine r_block ?_ | refine r_skip ?_ | refine r_exit ?_ | refine r_ret ?_ | (show rwp _ _ (.cond _ _ _) _ _ _; first | refine c_t (h := ?_) | refine c_f (h := ?_)))
        have hrr := hrin q
        refine rc (hat hin ?_ hrr.1 hy0.1 hrr.2 hy0.2) (next := fun v7 w7 ⟨he7, hf7⟩ => ?_)
        · omega
        repeat (first | (show rops _ _ _ _ (_ :: _) _ _; first | refine ra (next := ?_) | refine rk (next := ?_) | refine rku (next := ?_)) | refine st_end ?_ | refine thn_normal ?_ | refine r_seq ?_ | refine r_region rfl ?_ | refine thn_exit ?_ | refine thn_ret ?_ | refine inBlk_normal ?_ | refine inBlk_ret ?_ | refine inBlk_hit ?_ | refine inBlk_miss (by decide) ?_ | refine forQ_exit ?_ | refine forQ_ret ?_ | refine loopQ_exit ?_ | refine loopQ_ret ?_ | refine r_block ?_ | refine r_skip ?_ | refine r_exit ?_ | refine r_ret ?_ | (show rwp _ _ (.cond _ _ _) _ _ _; first | refine c_t (h := ?_) | refine c_f (h := ?_)))
        refine d_region fun w8 he8 _ => ?_
        repeat (first | refine da (next := ?_) | refine dsk (next := ?_) | refine dsku (next := ?_))
        refine d_end (h := ?_)
        have hE8 := (he6.trans he7).trans he8
        have hz8 := hE8.size
        have hor : p.ord.getD i 0 = p.o i := rfl
        have hat7 := atv_in hv _ (i + 1) rfl _ _ hrr.1 hy0.1 hrr.2 hy0.2
        have hwi := hv.w_in i hin
        have hwz := hv.w_zu i hin
        have hveq := atv_eq p i x y hin
        rw [← hqe] at hveq
        have hlen7 := hat7.1.len
        clear hl6 ho5 ho4'
        repeat (first | (show rops _ _ _ _ (_ :: _) _ _; first | refine ra (next := ?_) | refine rk (next := ?_) | refine rku (next := ?_)) | refine st_end ?_ | refine thn_normal ?_ | refine r_seq ?_ | refine r_region rfl ?_ | refine thn_exit ?_ | refine thn_ret ?_ | refine inBlk_normal ?_ | refine inBlk_ret ?_ | refine inBlk_hit ?_ | refine inBlk_miss (by decide) ?_ | refine forQ_exit ?_ | refine forQ_ret ?_ | refine loopQ_exit ?_ | refine loopQ_ret ?_ | refine r_block ?_ | refine r_skip ?_ | refine r_exit ?_ | refine r_ret ?_ | (show rwp _ _ (.cond _ _ _) _ _ _; first | refine c_t (h := ?_) | refine c_f (h := ?_)))
        refine c_if (fun h9 => ?_) (fun h9 => ?_)
        · have h9' : p.o i ≤ x.getD i 0 + y.getD i 0 := h9
          rw [if_pos h9'] at hveq
          repeat (first | (show rops _ _ _ _ (_ :: _) _ _; first | refine ra (next := ?_) | refine rk (next := ?_) | refine rku (next := ?_)) | refine st_end ?_ | refine thn_normal ?_ | refine r_seq ?_ | refine r_region rfl ?_ | refine thn_exit ?_ | refine thn_ret ?_ | refine inBlk_normal ?_ | refine inBlk_ret ?_ | refine inBlk_hit ?_ | refine inBlk_miss (by decide) ?_ | refine forQ_exit ?_ | refine forQ_ret ?_ | refine loopQ_exit ?_ | refine loopQ_ret ?_ | refine r_block ?_ | refine r_skip ?_ | refine r_exit ?_ | refine r_ret ?_ | (show rwp _ _ (.cond _ _ _) _ _ _; first | refine c_t (h := ?_) | refine c_f (h := ?_)))
          refine d_region fun w9 he9 _ => ?_
          repeat (first | refine da (next := ?_) | refine dsk (next := ?_) | refine dsku (next := ?_))
          refine dc (hat hin (x := p.w i) (y := atv p (i + 1) (rep q (img p i) (x.set i 0)) (y.set i 0)) ?_ hwi hat7.1 hwz hat7.2) (next := fun v10 w10 ⟨he10, hf10⟩ => ⟨fun h => h.trans he10, ?_⟩)
          · omega
          repeat (first | refine da (next := ?_) | refine dsk (next := ?_) | refine dsku (next := ?_))
          refine d_end (h := ?_)
          have hat10 := atv_in hv _ (i + 1) rfl _ _ hwi hat7.1 hwz hat7.2
          have hlen10 := hat10.1.len
          repeat (first | (show rops _ _ _ _ (_ :: _) _ _; first | refine ra (next := ?_) | refine rk (next := ?_) | refine rku (next := ?_)) | refine st_end ?_ | refine thn_normal ?_ | refine r_seq ?_ | refine r_region rfl ?_ | refine thn_exit ?_ | refine thn_ret ?_ | refine inBlk_normal ?_ | refine inBlk_ret ?_ | refine inBlk_hit ?_ | refine inBlk_miss (by decide) ?_ | refine forQ_exit ?_ | refine forQ_ret ?_ | refine loopQ_exit ?_ | refine loopQ_ret ?_ | refine r_block ?_ | refine r_skip ?_ | refine r_exit ?_ | refine r_ret ?_ | (show rwp _ _ (.cond _ _ _) _ _ _; first | refine c_t (h := ?_) | refine c_f (h := ?_)))
          refine rc (l01Own_ok (xs := atv p (i + 1) (p.w i) (atv p (i + 1) (rep q (img p i) (x.set i 0)) (y.set i 0))) (by omega)) (next := fun v11 w11 ⟨he11, hf11⟩ => ?_)
          repeat (first | (show rops _ _ _ _ (_ :: _) _ _; first | refine ra (next := ?_) | refine rk (next := ?_) | refine rku (next := ?_)) | refine st_end ?_ | refine thn_normal ?_ | refine r_seq ?_ | refine r_region rfl ?_ | refine thn_exit ?_ | refine thn_ret ?_ | refine inBlk_normal ?_ | refine inBlk_ret ?_ | refine inBlk_hit ?_ | refine inBlk_miss (by decide) ?_ | refine forQ_exit ?_ | refine forQ_ret ?_ | refine loopQ_exit ?_ | refine loopQ_ret ?_ | refine r_block ?_ | refine r_skip ?_ | refine r_exit ?_ | refine r_ret ?_ | (show rwp _ _ (.cond _ _ _) _ _ _; first | refine c_t (h := ?_) | refine c_f (h := ?_)))
          obtain ⟨e11, b11, hb11, ho11⟩ := hf11.own (by intro e; rw [e] at hlen10; simp at hlen10; omega)
          clear hf11
          refine st_store_int (by ((try simp only [ev_tmp, ev_const, ev_func, get_put, get_args, get_putL, get_putL_nil, Nat.reduceEqDiff, reduceIte, List.getD_cons_zero, List.getD_cons_succ, List.getD_nil]); first | done | with_reducible rfl)) (by ((try simp only [ev_tmp, ev_const, ev_func, get_put, get_args, get_putL, get_putL_nil, Nat.reduceEqDiff, reduceIte, List.getD_cons_zero, List.getD_cons_succ, List.getD_nil]); first | done | with_reducible rfl)) ?_ (by first | exact True.intro | exact ⟨_, rfl, by ((try simp only [ev_tmp, ev_const, ev_func, get_put, get_args, get_putL, get_putL_nil, Nat.reduceEqDiff, reduceIte, List.getD_cons_zero, List.getD_cons_succ, List.getD_nil, Bool.not_true, Bool.not_false]); first | done | with_reducible rfl)⟩) fun w12 hc12 hs12 ho12 => ?_
          · omega
          repeat (first | (show rops _ _ _ _ (_ :: _) _ _; first | refine ra (next := ?_) | refine rk (next := ?_) | refine rku (next := ?_)) | refine st_end ?_ | refine thn_normal ?_ | refine r_seq ?_ | refine r_region rfl ?_ | refine thn_exit ?_ | refine thn_ret ?_ | refine inBlk_normal ?_ | refine inBlk_ret ?_ | refine inBlk_hit ?_ | refine inBlk_miss (by decide) ?_ | refine forQ_exit ?_ | refine forQ_ret ?_ | refine loopQ_exit ?_ | refine loopQ_ret ?_ | refine r_block ?_ | refine r_skip ?_ | refine r_exit ?_ | refine r_ret ?_ | (show rwp _ _ (.cond _ _ _) _ _ _; first | refine c_t (h := ?_) | refine c_f (h := ?_)))
          have h9s := he9.size
          have h10s := he10.size
          refine ret1 ⟨hc12.ext ((((hE5.trans hE8).trans he9).trans he10).trans he11) (by omega), ?_⟩
          rw [hveq]
          exact ho12.toFr (by omega)
        · have h9' : ¬ p.o i ≤ x.getD i 0 + y.getD i 0 := h9
          rw [if_neg h9'] at hveq
          repeat (first | (show rops _ _ _ _ (_ :: _) _ _; first | refine ra (next := ?_) | refine rk (next := ?_) | refine rku (next := ?_)) | refine st_end ?_ | refine thn_normal ?_ | refine r_seq ?_ | refine r_region rfl ?_ | refine thn_exit ?_ | refine thn_ret ?_ | refine inBlk_normal ?_ | refine inBlk_ret ?_ | refine inBlk_hit ?_ | refine inBlk_miss (by decide) ?_ | refine forQ_exit ?_ | refine forQ_ret ?_ | refine loopQ_exit ?_ | refine loopQ_ret ?_ | refine r_block ?_ | refine r_skip ?_ | refine r_exit ?_ | refine r_ret ?_ | (show rwp _ _ (.cond _ _ _) _ _ _; first | refine c_t (h := ?_) | refine c_f (h := ?_)))
          refine rc (l01Own_ok (xs := atv p (i + 1) (rep q (img p i) (x.set i 0)) (y.set i 0)) (by omega)) (next := fun v11 w11 ⟨he11, hf11⟩ => ?_)
          repeat (first | (show rops _ _ _ _ (_ :: _) _ _; first | refine ra (next := ?_) | refine rk (next := ?_) | refine rku (next := ?_)) | refine st_end ?_ | refine thn_normal ?_ | refine r_seq ?_ | refine r_region rfl ?_ | refine thn_exit ?_ | refine thn_ret ?_ | refine inBlk_normal ?_ | refine inBlk_ret ?_ | refine inBlk_hit ?_ | refine inBlk_miss (by decide) ?_ | refine forQ_exit ?_ | refine forQ_ret ?_ | refine loopQ_exit ?_ | refine loopQ_ret ?_ | refine r_block ?_ | refine r_skip ?_ | refine r_exit ?_ | refine r_ret ?_ | (show rwp _ _ (.cond _ _ _) _ _ _; first | refine c_t (h := ?_) | refine c_f (h := ?_)))
          obtain ⟨e11, b11, hb11, ho11⟩ := hf11.own (by intro e; rw [e] at hlen7; simp at hlen7; omega)
          clear hf11
          refine st_store_int (by ((try simp only [ev_tmp, ev_const, ev_func, get_put, get_args, get_putL, get_putL_nil, Nat.reduceEqDiff, reduceIte, List.getD_cons_zero, List.getD_cons_succ, List.getD_nil]); first | done | with_reducible rfl)) (by ((try simp only [ev_tmp, ev_const, ev_func, get_put, get_args, get_putL, get_putL_nil, Nat.reduceEqDiff, reduceIte, List.getD_cons_zero, List.getD_cons_succ, List.getD_nil]); first | done | with_reducible rfl)) ?_ (by first | exact True.intro | exact ⟨_, rfl, by ((try simp only [ev_tmp, ev_const, ev_func, get_put, get_args, get_putL, get_putL_nil, Nat.reduceEqDiff, reduceIte, List.getD_cons_zero, List.getD_cons_succ, List.getD_nil, Bool.not_true, Bool.not_false]); first | done | with_reducible rfl)⟩) fun w12 hc12 hs12 ho12 => ?_
          · omega
          repeat (first | (show rops _ _ _ _ (_ :: _) _ _; first | refine ra (next := ?_) | refine rk (next := ?_) | refine rku (next := ?_)) | refine st_end ?_ | refine thn_normal ?_ | refine r_seq ?_ | refine r_region rfl ?_ | refine thn_exit ?_ | refine thn_ret ?_ | refine inBlk_normal ?_ | refine inBlk_ret ?_ | refine inBlk_hit ?_ | refine inBlk_miss (by decide) ?_ | refine forQ_exit ?_ | refine forQ_ret ?_ | refine loopQ_exit ?_ | refine loopQ_ret ?_ | refine r_block ?_ | refine r_skip ?_ | refine r_exit ?_ | refine r_ret ?_ | (show rwp _ _ (.cond _ _ _) _ _ _; first | refine c_t (h := ?_) | refine c_f (h := ?_)))
          refine ret1 ⟨hc12.ext ((hE5.trans hE8).trans he11) (by omega), ?_⟩
          rw [hveq]
          exact ho12.toFr (by omega)
theorem at_ok {p : Pr} (hv : Valid p) : ∀ (m i : Nat), p.n - i = m → AtSpec p i
  | 0, i, hm => at_of_img hv (fun h => by omega) (fun h => by omega)
  | m + 1, i, hm => at_of_img hv (fun h => img_of_at hv h (at_ok hv m (i + 1) (by omega))) (fun _ => at_ok hv m (i + 1) (by omega))
theorem l08At_ok {p : Pr} (hv : Valid p) (i : Nat) : AtSpec p i := at_ok hv _ i rfl
theorem l08Image_ok {p : Pr} (hv : Valid p) {i : Nat} (hi : i < p.n) : ImgSpec p i := img_of_at hv hi (l08At_ok hv (i + 1))
end Go.Proofs.Ytjcmdmjlhngjcaa

/-
  Walks: the reference's powers and the conditions of a level (l08Repeat, l08Level).
  Conditions: the presentation is valid and its tail behind the level is a group.
-/
namespace Go.Proofs.Ytjcmdmjlhngjcaa
open Go Go.Pc
/-- Of whatever footprint. -/
def IntsE (w : World) (v : Value) (xs : List Int) : Prop := ∃ lo hi, Ints lo hi w v xs
theorem IntsE.of {lo hi : Nat} {w : World} {v : Value} {xs : List Int} [h : Ints lo hi w v xs] : IntsE w v xs := ⟨lo, hi, h⟩
theorem l08AtT_ok {p : Pr} {i : Nat} [hc : Con p i] {w : World} {vp va vb : Value} {k : Int} {x y : T p i} {lo hi lo1 hi1 lo2 hi2 : Nat} [hp : Pres lo hi w vp p] [hx : Ints lo1 hi1 w va x.v] [hy : Ints lo2 hi2 w vb y.v] (hk : k = i) :
    Calls Try.prog 68 #[vp, .int .i64 k, va, vb] w (Ret fun v w' => Ext w w' ∧ Fr w.heap.size w' v (x * y).v) :=
  l08At_ok hc.valid i hk x.inr y.inr x.zu y.zu
set_option maxHeartbeats 1000000 in
theorem l08Repeat_ok {p : Pr} {i : Nat} [hc : Con p i] {w : World} {vp vx : Value} {ki k : Int} {x : T p i} {xs : List Int} {lo hi lo1 hi1 : Nat} [hp : Pres lo hi w vp p] [hx : Ints lo1 hi1 w vx xs] (hxe : xs = x.v) (hki : ki = i) (hk0 : 0 ≤ k) (hk1 : k ≤ 9223372036854775807) :
    Calls Try.prog 54 #[vp, .int .i64 ki, vx, .int .i64 k] w (Ret fun v w' => Ext w w' ∧ Fr w.heap.size w' v (Grp.pw x k.toNat).v) := by
  subst hki hxe
  have hv := hc.valid
  have hn6 := hv.n6
  have hol : p.ord.length = p.n := rfl
  obtain ⟨vo, vpw, vc, ps, cs, css, rfl, h1, h2, h3⟩ := hp.ex
  refine enter (args := [.agg #[vo, vpw, vc], .int .i64 i, vx, .int .i64 k]) (l := [.tmp 8]) Try.func54 rfl rfl Try.ntmps54 (by simp) ?_
  repeat (first | (show rops _ _ _ _ (_ :: _) _ _; first | refine ra (next := ?_) | refine rk (next := ?_) | refine rku (next := ?_)) | refine st_end ?_ | refine thn_normal ?_ | refine r_seq ?_ | refine r_region rfl ?_ | refine thn_exit ?_ | refine thn_ret ?_ | refine inBlk_normal ?_ | refine inBlk_ret ?_ | refine inBlk_hit ?_ | refine inBlk_miss (by decide) ?_ | refine forQ_exit ?_ | refine forQ_ret ?_ | refine loopQ_exit ?_ | refine loopQ_ret ?_ | refine r_block ?_ | refine r_skip ?_ | refine r_exit ?_ | refine r_ret ?_ | (show rwp _ _ (.cond _ _ _) _ _ _; first | refine c_t (h := ?_) | refine c_f (h := ?_)))
  refine st_box3 (by ((try simp only [ev_tmp, ev_const, ev_func, get_put, get_args, get_putL, get_putL_nil, Nat.reduceEqDiff, reduceIte, List.getD_cons_zero, List.getD_cons_succ, List.getD_nil]); first | done | with_reducible rfl)) (by first | exact True.intro | exact ⟨_, rfl, by ((try simp only [ev_tmp, ev_const, ev_func, get_put, get_args, get_putL, get_putL_nil, Nat.reduceEqDiff, reduceIte, List.getD_cons_zero, List.getD_cons_succ, List.getD_nil, Bool.not_true, Bool.not_false]); first | done | with_reducible rfl)⟩) fun w1 b he1 hb1 hs1 hc0 hc1 hc2 => ?_
  repeat (first | (show rops _ _ _ _ (_ :: _) _ _; first | refine ra (next := ?_) | refine rk (next := ?_) | refine rku (next := ?_)) | refine st_end ?_ | refine thn_normal ?_ | refine r_seq ?_ | refine r_region rfl ?_ | refine thn_exit ?_ | refine thn_ret ?_ | refine inBlk_normal ?_ | refine inBlk_ret ?_ | refine inBlk_hit ?_ | refine inBlk_miss (by decide) ?_ | refine forQ_exit ?_ | refine forQ_ret ?_ | refine loopQ_exit ?_ | refine loopQ_ret ?_ | refine r_block ?_ | refine r_skip ?_ | refine r_exit ?_ | refine r_ret ?_ | (show rwp _ _ (.cond _ _ _) _ _ _; first | refine c_t (h := ?_) | refine c_f (h := ?_)))
  refine st_make_int (by ((try simp only [ev_tmp, ev_const, ev_func, get_put, get_args, get_putL, get_putL_nil, Nat.reduceEqDiff, reduceIte, List.getD_cons_zero, List.getD_cons_succ, List.getD_nil]); first | done | with_reducible rfl)) (by ((try simp only [ev_tmp, ev_const, ev_func, get_put, get_args, get_putL, get_putL_nil, Nat.reduceEqDiff, reduceIte, List.getD_cons_zero, List.getD_cons_succ, List.getD_nil]); first | done | with_reducible rfl)) (by omega) (by omega) (by first | exact True.intro | exact ⟨_, rfl, by ((try simp only [ev_tmp, ev_const, ev_func, get_put, get_args, get_putL, get_putL_nil, Nat.reduceEqDiff, reduceIte, List.getD_cons_zero, List.getD_cons_succ, List.getD_nil, Bool.not_true, Bool.not_false]); first | done | with_reducible rfl)⟩) fun w2 v2 he2 hs2 ho2 => ?_
  repeat (first | (show rops _ _ _ _ (_ :: _) _ _; first | refine ra (next := ?_) | refine rk (next := ?_) | refine rku (next := ?_)) | refine st_end ?_ | refine thn_normal ?_ | refine r_seq ?_ | refine r_region rfl ?_ | refine thn_exit ?_ | refine thn_ret ?_ | refine inBlk_normal ?_ | refine inBlk_ret ?_ | refine inBlk_hit ?_ | refine inBlk_miss (by decide) ?_ | refine forQ_exit ?_ | refine forQ_ret ?_ | refine loopQ_exit ?_ | refine loopQ_ret ?_ | refine r_block ?_ | refine r_skip ?_ | refine r_exit ?_ | refine r_ret ?_ | (show rwp _ _ (.cond _ _ _) _ _ _; first | refine c_t (h := ?_) | refine c_f (h := ?_)))
  refine r_loop (fun m ρ w' => ∃ (vo' vb' : Value) (a c : Nat), Has ρ [(1, .int .i64 i), (3, .int .i64 m), (4, .pointer (some ⟨b, 0, none⟩)), (9, vo'), (10, vb')] ∧ Ext w1 w' ∧ (m : Int) ≤ k ∧ a + c * m = k.toNat ∧
    Fr w.heap.size w' vo' (Grp.pw x a).v ∧ IntsE w' vb' (Grp.pw x c).v) k.toNat ?_ ?_
  · refine ⟨v2, vx, 0, 1, ?_, he2, by omega, by omega, ho2.toFr (by omega), ?_⟩
    · ((try simp only [Has, ev_tmp, ev_const, ev_func, get_put, get_args, get_putL, get_putL_nil, Nat.reduceEqDiff, reduceIte, List.getD_cons_zero, List.getD_cons_succ, List.getD_nil]); repeat' (first | exact True.intro | apply And.intro | with_reducible rfl | exact int_congr (by first | omega | rfl)))
    · rw [Grp.pw_one]; exact IntsE.of
  · rintro m ρ w3 ⟨vo', vb', a, c, hH, he3, hm, hac, hf3, lo2, hi2, hi3⟩
    refine rwp_has hH fun ρ0 => ?_
    repeat (first | (show rops _ _ _ _ (_ :: _) _ _; first | refine ra (next := ?_) | refine rk (next := ?_) | refine rku (next := ?_)) | refine st_end ?_ | refine thn_normal ?_ | refine r_seq ?_ | refine r_region rfl ?_ | refine thn_exit ?_ | refine thn_ret ?_ | refine inBlk_normal ?_ | refine inBlk_ret ?_ | refine inBlk_hit ?_ | refine inBlk_miss (by decide) ?_ | refine forQ_exit ?_ | refine forQ_ret ?_ | refine loopQ_exit ?_ | refine loopQ_ret ?_ | refine r_block ?_ | refine r_skip ?_ | refine r_exit ?_ | refine r_ret ?_ | (show rwp _ _ (.cond _ _ _) _ _ _; first | refine c_t (h := ?_) | refine c_f (h := ?_)))
    refine c_if (fun h4 => ?_) (fun h4 => ?_)
    · have hz := he1.size
      have hz3 := he3.size
      have hdiv : m = 2 * (m / 2) + m % 2 := by omega
      have hcm : c * m = (c + c) * (m / 2) + c * (m % 2) := by
        conv => lhs; rw [hdiv]
        rw [Nat.mul_add, ← Nat.mul_assoc, Nat.mul_two]
      repeat (first | (show rops _ _ _ _ (_ :: _) _ _; first | refine ra (next := ?_) | refine rk (next := ?_) | refine rku (next := ?_)) | refine st_end ?_ | refine thn_normal ?_ | refine r_seq ?_ | refine r_region rfl ?_ | refine thn_exit ?_ | refine thn_ret ?_ | refine inBlk_normal ?_ | refine inBlk_ret ?_ | refine inBlk_hit ?_ | refine inBlk_miss (by decide) ?_ | refine forQ_exit ?_ | refine forQ_ret ?_ | refine loopQ_exit ?_ | refine loopQ_ret ?_ | refine r_block ?_ | refine r_skip ?_ | refine r_exit ?_ | refine r_ret ?_ | (show rwp _ _ (.cond _ _ _) _ _ _; first | refine c_t (h := ?_) | refine c_f (h := ?_)))
      refine c_if (fun h5 => ?_) (fun h5 => ?_)
      · repeat (first | (show rops _ _ _ _ (_ :: _) _ _; first | refine ra (next := ?_) | refine rk (next := ?_) | refine rku (next := ?_)) | refine st_end ?_ | refine thn_normal ?_ | refine r_seq ?_ | refine r_region rfl ?_ | refine thn_exit ?_ | refine thn_ret ?_ | refine inBlk_normal ?_ | refine inBlk_ret ?_ | refine inBlk_hit ?_ | refine inBlk_miss (by decide) ?_ | refine forQ_exit ?_ | refine forQ_ret ?_ | refine loopQ_exit ?_ | refine loopQ_ret ?_ | refine r_block ?_ | refine r_skip ?_ | refine r_exit ?_ | refine r_ret ?_ | (show rwp _ _ (.cond _ _ _) _ _ _; first | refine c_t (h := ?_) | refine c_f (h := ?_)))
        refine rc (l08AtT_ok (x := Grp.pw x a) (y := Grp.pw x c) ?_) (next := fun v4 w4 h6 => ?_)
        · rfl
        obtain ⟨he4, hf4⟩ := h6
        repeat (first | (show rops _ _ _ _ (_ :: _) _ _; first | refine ra (next := ?_) | refine rk (next := ?_) | refine rku (next := ?_)) | refine st_end ?_ | refine thn_normal ?_ | refine r_seq ?_ | refine r_region rfl ?_ | refine thn_exit ?_ | refine thn_ret ?_ | refine inBlk_normal ?_ | refine inBlk_ret ?_ | refine inBlk_hit ?_ | refine inBlk_miss (by decide) ?_ | refine forQ_exit ?_ | refine forQ_ret ?_ | refine loopQ_exit ?_ | refine loopQ_ret ?_ | refine r_block ?_ | refine r_skip ?_ | refine r_exit ?_ | refine r_ret ?_ | (show rwp _ _ (.cond _ _ _) _ _ _; first | refine c_t (h := ?_) | refine c_f (h := ?_)))
        refine rc (l08AtT_ok (x := Grp.pw x c) (y := Grp.pw x c) ?_) (next := fun v5 w5 h6 => ?_)
        · rfl
        obtain ⟨he5, hf5⟩ := h6
        repeat (first | (show rops _ _ _ _ (_ :: _) _ _; first | refine ra (next := ?_) | refine rk (next := ?_) | refine rku (next := ?_)) | refine st_end ?_ | refine thn_normal ?_ | refine r_seq ?_ | refine r_region rfl ?_ | refine thn_exit ?_ | refine thn_ret ?_ | refine inBlk_normal ?_ | refine inBlk_ret ?_ | refine inBlk_hit ?_ | refine inBlk_miss (by decide) ?_ | refine forQ_exit ?_ | refine forQ_ret ?_ | refine loopQ_exit ?_ | refine loopQ_ret ?_ | refine r_block ?_ | refine r_skip ?_ | refine r_exit ?_ | refine r_ret ?_ | (show rwp _ _ (.cond _ _ _) _ _ _; first | refine c_t (h := ?_) | refine c_f (h := ?_)))
        have hm2 : m % 2 = 1 := by omega
        rw [hm2, Nat.mul_one] at hcm
        refine loopQ_normal (m := m / 2) (by omega) ⟨v4, v5, a + c, c + c, ?_, (he3.trans he4).trans he5, by omega, by omega, ?_, ?_⟩
        rotate_left
        · rw [Grp.pw_add]; exact (hf4.mono (by omega)).ext' he5
        · rw [Grp.pw_add]; exact IntsE.of (h := hf5.ints)
        · ((try simp only [Has, ev_tmp, ev_const, ev_func, get_put, get_args, get_putL, get_putL_nil, Nat.reduceEqDiff, reduceIte, List.getD_cons_zero, List.getD_cons_succ, List.getD_nil]); repeat' (first | exact True.intro | apply And.intro | with_reducible rfl | exact int_congr (by first | omega | rfl)))
      · repeat (first | (show rops _ _ _ _ (_ :: _) _ _; first | refine ra (next := ?_) | refine rk (next := ?_) | refine rku (next := ?_)) | refine st_end ?_ | refine thn_normal ?_ | refine r_seq ?_ | refine r_region rfl ?_ | refine thn_exit ?_ | refine thn_ret ?_ | refine inBlk_normal ?_ | refine inBlk_ret ?_ | refine inBlk_hit ?_ | refine inBlk_miss (by decide) ?_ | refine forQ_exit ?_ | refine forQ_ret ?_ | refine loopQ_exit ?_ | refine loopQ_ret ?_ | refine r_block ?_ | refine r_skip ?_ | refine r_exit ?_ | refine r_ret ?_ | (show rwp _ _ (.cond _ _ _) _ _ _; first | refine c_t (h := ?_) | refine c_f (h := ?_)))
        refine rc (l08AtT_ok (x := Grp.pw x c) (y := Grp.pw x c) ?_) (next := fun v5 w5 h6 => ?_)
        · rfl
        obtain ⟨he5, hf5⟩ := h6
        repeat (first | (show rops _ _ _ _ (_ :: _) _ _; first | refine ra (next := ?_) | refine rk (next := ?_) | refine rku (next := ?_)) | refine st_end ?_ | refine thn_normal ?_ | refine r_seq ?_ | refine r_region rfl ?_ | refine thn_exit ?_ | refine thn_ret ?_ | refine inBlk_normal ?_ | refine inBlk_ret ?_ | refine inBlk_hit ?_ | refine inBlk_miss (by decide) ?_ | refine forQ_exit ?_ | refine forQ_ret ?_ | refine loopQ_exit ?_ | refine loopQ_ret ?_ | refine r_block ?_ | refine r_skip ?_ | refine r_exit ?_ | refine r_ret ?_ | (show rwp _ _ (.cond _ _ _) _ _ _; first | refine c_t (h := ?_) | refine c_f (h := ?_)))
        have hm2 : m % 2 = 0 := by omega
        rw [hm2, Nat.mul_zero] at hcm
        refine loopQ_normal (m := m / 2) (by omega) ⟨vo', v5, a, c + c, ?_, he3.trans he5, by omega, by omega, hf3.ext' he5, ?_⟩
        rotate_left
        · rw [Grp.pw_add]; exact IntsE.of (h := hf5.ints)
        · ((try simp only [Has, ev_tmp, ev_const, ev_func, get_put, get_args, get_putL, get_putL_nil, Nat.reduceEqDiff, reduceIte, List.getD_cons_zero, List.getD_cons_succ, List.getD_nil]); repeat' (first | exact True.intro | apply And.intro | with_reducible rfl | exact int_congr (by first | omega | rfl)))
    · repeat (first | (show rops _ _ _ _ (_ :: _) _ _; first | refine ra (next := ?_) | refine rk (next := ?_) | refine rku (next := ?_)) | refine st_end ?_ | refine thn_normal ?_ | refine r_seq ?_ | refine r_region rfl ?_ | refine thn_exit ?_ | refine thn_ret ?_ | refine inBlk_normal ?_ | refine inBlk_ret ?_ | refine inBlk_hit ?_ | refine inBlk_miss (by decide) ?_ | refine forQ_exit ?_ | refine forQ_ret ?_ | refine loopQ_exit ?_ | refine loopQ_ret ?_ | refine r_block ?_ | refine r_skip ?_ | refine r_exit ?_ | refine r_ret ?_ | (show rwp _ _ (.cond _ _ _) _ _ _; first | refine c_t (h := ?_) | refine c_f (h := ?_)))
      have hm0 : m = 0 := by omega
      subst hm0
      refine ret1 ⟨he1.trans he3, ?_⟩
      have : a = k.toNat := by omega
      rw [← this]; exact hf3
end Go.Proofs.Ytjcmdmjlhngjcaa

/-
  Walk: the reference's look at one level (l08Level).
  Conditions: the presentation is valid, the tail behind the level is a group.
-/
namespace Go.Proofs.Ytjcmdmjlhngjcaa
open Go Go.Pc
@[reducible] def faultV (k l f s : Int) : Value := .agg #[.int .i64 k, .int .i64 l, .int .i64 f, .int .i64 s]
/-- The conditions of a level, one generator (or pair) at a time. -/
def LP (p : Pr) (i : Nat) [h : Con p (i + 1)] (j : Nat) : Prop := ∀ hj : i < j ∧ j < p.n, (Grp.pw (Tc h.valid hj) (p.o j).toNat).v = img p i (p.w j)
def LC (p : Pr) (i : Nat) (j k : Nat) : Prop := i < j → j < k → k < p.n → atv p (i + 1) (p.c i k) (p.c i j) = atv p (i + 1) (p.c i j) (img p i (p.c j k))
def LI (p : Pr) (i : Nat) (j : Nat) : Prop := i + 1 ≤ j → j < p.n → atv p (i + 1) (p.w i) (rep (p.o i).toNat (img p i) (unitv p j 1)) = atv p (i + 1) (unitv p j 1) (p.w i)
theorem rep_Timg {p : Pr} {i : Nat} (hv : Valid p) (q : Nat) (u : T p (i + 1)) : (rep q (Timg hv) u).v = rep q (img p i) u.v := by
  induction q with
  | zero => rfl
  | succ q ih => rw [rep_succ, rep_succ, ← ih]; rfl
theorem chk_iff {p : Pr} {i : Nat} [h : Con p (i + 1)] (hi : i < p.n) : Chk p i hi ↔ (∀ j, LP p i j) ∧ (∀ j k, LC p i j k) ∧ img p i (p.w i) = p.w i ∧ ∀ j, LI p i j := by
  constructor
  · intro hc
    refine ⟨fun j hj => congrArg T.v (hc.P j hj), fun j k hj hjk hk => ?_, congrArg T.v hc.F, fun j hj hjn => ?_⟩
    · have h2 := congrArg (Tc h.valid (i := i) (j := j) ⟨hj, by omega⟩ * ·) (hc.C j k ⟨hj, by omega⟩ ⟨by omega, hk⟩ hjk)
      simp only [Grp.mul_cj] at h2
      exact congrArg T.v h2
    · have := hc.I j ⟨hj, hjn⟩
      have h2 : Tw h.valid hi * rep (p.o i).toNat (Timg h.valid) (gen h.valid (i + 1) j ⟨hj, hjn⟩) = gen h.valid (i + 1) j ⟨hj, hjn⟩ * Tw h.valid hi := by rw [this, Grp.mul_cj]
      have h3 := congrArg T.v h2
      rw [T.mul_val, rep_Timg, T.mul_val] at h3
      exact h3
  · rintro ⟨h1, h2, h3, h4⟩
    refine ⟨fun j hj => T.ext (h1 j hj), fun j k hj hk hjk => ?_, T.ext h3, fun j hj => ?_⟩
    · apply Grp.mul_left_cancel (a := Tc h.valid hj)
      rw [Grp.mul_cj]
      exact T.ext (h2 j k hj.1 hjk hk.2)
    · apply Grp.mul_left_cancel (a := Tw h.valid hi)
      rw [Grp.mul_cj]
      apply T.ext
      rw [T.mul_val, rep_Timg, T.mul_val]
      exact h4 j hj.1 hj.2
set_option maxHeartbeats 4000000 in
theorem l08Level_ok {p : Pr} {i : Nat} [hc : Con p (i + 1)] (hi : i < p.n) {w : World} {vp : Value} {ki : Int} {lo hi' : Nat} [hp : Pres lo hi' w vp p] (hki : ki = i) :
    Calls Try.prog 51 #[vp, .int .i64 ki] w (Ret fun v w' => ∃ k l f s : Int, v = faultV k l f s ∧ (k = 0 ↔ Chk p i hi) ∧ (k ≠ 0 → l = i) ∧ (k = 0 → l = 0 ∧ f = 0 ∧ s = 0) ∧ Ext w w') := by
  subst hki
  have hv := hc.valid
  have hn6 := hv.n6
  have hol : p.ord.length = p.n := rfl
  have hwl : p.pow.length = p.n := hv.lenw
  have hcl : p.cnj.length = p.n := hv.lenc
  have hci : (p.cnj.getD i []).length = p.n - 1 - i := hv.lenci i hi
  have hoi := hv.opos hi
  have hoe : p.o i = p.ord.getD i 0 := rfl
  obtain ⟨vo, vpw, vc, ps, cs, css, rfl, h1, h2, h3⟩ := hp.ex
  refine enter (args := [.agg #[vo, vpw, vc], .int .i64 i]) (l := [.cell 4 52]) Try.func51 rfl rfl Try.ntmps51 (by simp) ?_
  repeat (first | (show rops _ _ _ _ (_ :: _) _ _; first | refine ra (next := ?_) | refine rk (next := ?_) | refine rku (next := ?_)) | refine st_end ?_ | refine thn_normal ?_ | refine r_seq ?_ | refine r_region rfl ?_ | refine thn_exit ?_ | refine thn_ret ?_ | refine inBlk_normal ?_ | refine inBlk_ret ?_ | refine inBlk_hit ?_ | refine inBlk_miss (by decide) ?_ | refine forQ_exit ?_ | refine forQ_ret ?_ | refine loopQ_exit ?_ | refine loopQ_ret ?_ | refine r_block ?_ | refine r_skip ?_ | refine r_exit ?_ | refine r_ret ?_ | (show rwp _ _ (.cond _ _ _) _ _ _; first | refine c_t (h := ?_) | refine c_f (h := ?_)))
  refine st_box3 (by ((try simp only [ev_tmp, ev_const, ev_func, get_put, get_args, get_putL, get_putL_nil, Nat.reduceEqDiff, reduceIte, List.getD_cons_zero, List.getD_cons_succ, List.getD_nil]); first | done | with_reducible rfl)) (by first | exact True.intro | exact ⟨_, rfl, by ((try simp only [ev_tmp, ev_const, ev_func, get_put, get_args, get_putL, get_putL_nil, Nat.reduceEqDiff, reduceIte, List.getD_cons_zero, List.getD_cons_succ, List.getD_nil, Bool.not_true, Bool.not_false]); first | done | with_reducible rfl)⟩) fun w1 b he1 hb1 hs1 hc0 hc1 hc2 => ?_
  repeat (first | (show rops _ _ _ _ (_ :: _) _ _; first | refine ra (next := ?_) | refine rk (next := ?_) | refine rku (next := ?_)) | refine st_end ?_ | refine thn_normal ?_ | refine r_seq ?_ | refine r_region rfl ?_ | refine thn_exit ?_ | refine thn_ret ?_ | refine inBlk_normal ?_ | refine inBlk_ret ?_ | refine inBlk_hit ?_ | refine inBlk_miss (by decide) ?_ | refine forQ_exit ?_ | refine forQ_ret ?_ | refine loopQ_exit ?_ | refine loopQ_ret ?_ | refine r_block ?_ | refine r_skip ?_ | refine r_exit ?_ | refine r_ret ?_ | (show rwp _ _ (.cond _ _ _) _ _ _; first | refine c_t (h := ?_) | refine c_f (h := ?_)))
  refine st_alloc (by first | exact True.intro | exact ⟨_, rfl, by ((try simp only [ev_tmp, ev_const, ev_func, get_put, get_args, get_putL, get_putL_nil, Nat.reduceEqDiff, reduceIte, List.getD_cons_zero, List.getD_cons_succ, List.getD_nil, Bool.not_true, Bool.not_false]); first | done | with_reducible rfl)⟩) fun w2 bf he2 hbf hs2 hbk => ?_
  have hE2 : Ext w w2 := he1.trans he2
  have bad : ∀ {w3 : World} {k f s : Int}, Ext w w3 → k ≠ 0 → ¬ Chk p i hi → ∃ k' l' f' s' : Int, faultV k i f s = faultV k' l' f' s' ∧ (k' = 0 ↔ Chk p i hi) ∧ (k' ≠ 0 → l' = i) ∧ (k' = 0 → l' = 0 ∧ f' = 0 ∧ s' = 0) ∧ Ext w w3 :=
    fun he hk hn => ⟨_, _, _, _, rfl, ⟨fun h => absurd h hk, fun h => absurd h hn⟩, fun _ => rfl, fun h => absurd h hk, he⟩
  repeat (first | (show rops _ _ _ _ (_ :: _) _ _; first | refine ra (next := ?_) | refine rk (next := ?_) | refine rku (next := ?_)) | refine st_end ?_ | refine thn_normal ?_ | refine r_seq ?_ | refine r_region rfl ?_ | refine thn_exit ?_ | refine thn_ret ?_ | refine inBlk_normal ?_ | refine inBlk_ret ?_ | refine inBlk_hit ?_ | refine inBlk_miss (by decide) ?_ | refine forQ_exit ?_ | refine forQ_ret ?_ | refine loopQ_exit ?_ | refine loopQ_ret ?_ | refine r_block ?_ | refine r_skip ?_ | refine r_exit ?_ | refine r_ret ?_ | (show rwp _ _ (.cond _ _ _) _ _ _; first | refine c_t (h := ?_) | refine c_f (h := ?_)))
  refine r_for (p.n - (i + 1)) (fun k ρ w' => Has ρ [(1, .int .i64 i), (2, .pointer (some ⟨b, 0, none⟩)), (4, .pointer (some ⟨bf, 0, none⟩)), (5, .int .i64 p.n), (6, .int .i64 i), (7, .int .i64 (i + 1 + k : Nat))] ∧ Ext w2 w' ∧ ∀ j, j < i + 1 + k → LP p i j) ?_ ?_
  · refine ⟨?_, Ext.refl _, fun j hj hj' => by omega⟩
    ((try simp only [Has, ev_tmp, ev_const, ev_func, get_put, get_args, get_putL, get_putL_nil, Nat.reduceEqDiff, reduceIte, List.getD_cons_zero, List.getD_cons_succ, List.getD_nil]); repeat' (first | exact True.intro | apply And.intro | with_reducible rfl | exact int_congr (by first | omega | rfl)))
  · rintro k ρ w3 hk ⟨hH, he3, hP⟩
    refine rwp_has hH fun ρ0 => ?_
    repeat (first | (show rops _ _ _ _ (_ :: _) _ _; first | refine ra (next := ?_) | refine rk (next := ?_) | refine rku (next := ?_)) | refine st_end ?_ | refine thn_normal ?_ | refine r_seq ?_ | refine r_region rfl ?_ | refine thn_exit ?_ | refine thn_ret ?_ | refine inBlk_normal ?_ | refine inBlk_ret ?_ | refine inBlk_hit ?_ | refine inBlk_miss (by decide) ?_ | refine forQ_exit ?_ | refine forQ_ret ?_ | refine loopQ_exit ?_ | refine loopQ_ret ?_ | refine r_block ?_ | refine r_skip ?_ | refine r_exit ?_ | refine r_ret ?_ | (show rwp _ _ (.cond _ _ _) _ _ _; first | refine c_t (h := ?_) | refine c_f (h := ?_)))
    refine c_if (fun hj => ?_) (fun hj => ?_)
    · have hjn : i < i + 1 + k ∧ i + 1 + k < p.n := ⟨by omega, by omega⟩
      have hoj : 2 ≤ p.ord.getD (i + 1 + k) 0 ∧ p.ord.getD (i + 1 + k) 0 ≤ 7 := hv.opos hjn.2
      repeat (first | (show rops _ _ _ _ (_ :: _) _ _; first | refine ra (next := ?_) | refine rk (next := ?_) | refine rku (next := ?_)) | refine st_end ?_ | refine thn_normal ?_ | refine r_seq ?_ | refine r_region rfl ?_ | refine thn_exit ?_ | refine thn_ret ?_ | refine inBlk_normal ?_ | refine inBlk_ret ?_ | refine inBlk_hit ?_ | refine inBlk_miss (by decide) ?_ | refine forQ_exit ?_ | refine forQ_ret ?_ | refine loopQ_exit ?_ | refine loopQ_ret ?_ | refine r_block ?_ | refine r_skip ?_ | refine r_exit ?_ | refine r_ret ?_ | (show rwp _ _ (.cond _ _ _) _ _ _; first | refine c_t (h := ?_) | refine c_f (h := ?_)))
      refine d_region fun w4 he4 _ => ?_
      repeat (first | refine da (next := ?_) | refine dsk (next := ?_) | refine dsku (next := ?_))
      refine dc (l08Repeat_ok (x := Tc hv hjn) rfl ?_ ?_ ?_) (next := fun v5 w5 h5 => ?_)
      · omega
      · omega
      · omega
      obtain ⟨he5, hf5⟩ := h5
      refine ⟨fun h => h.trans he5, ?_⟩
      repeat (first | refine da (next := ?_) | refine dsk (next := ?_) | refine dsku (next := ?_))
      refine d_end (h := ?_)
      repeat (first | (show rops _ _ _ _ (_ :: _) _ _; first | refine ra (next := ?_) | refine rk (next := ?_) | refine rku (next := ?_)) | refine st_end ?_ | refine thn_normal ?_ | refine r_seq ?_ | refine r_region rfl ?_ | refine thn_exit ?_ | refine thn_ret ?_ | refine inBlk_normal ?_ | refine inBlk_ret ?_ | refine inBlk_hit ?_ | refine inBlk_miss (by decide) ?_ | refine forQ_exit ?_ | refine forQ_ret ?_ | refine loopQ_exit ?_ | refine loopQ_ret ?_ | refine r_block ?_ | refine r_skip ?_ | refine r_exit ?_ | refine r_ret ?_ | (show rwp _ _ (.cond _ _ _) _ _ _; first | refine c_t (h := ?_) | refine c_f (h := ?_)))
      refine d_region fun w6 he6 _ => ?_
      repeat (first | refine da (next := ?_) | refine dsk (next := ?_) | refine dsku (next := ?_))
      refine dc (l08Image_ok hv hi (x := p.w (i + 1 + k)) ?_ (hv.w_in _ hjn.2)) (next := fun v7 w7 h7 => ?_)
      · rfl
      obtain ⟨he7, hf7⟩ := h7
      refine ⟨fun h => h.trans he7, ?_⟩
      have hlen := (Grp.pw (Tc hv hjn) (p.o (i + 1 + k)).toNat).inr.len
      refine dc (l01Same_ok (xs := (Grp.pw (Tc hv hjn) (p.o (i + 1 + k)).toNat).v) (ys := img p i (p.w (i + 1 + k))) ?_) (next := fun v8 w8 h8 => ?_)
      · omega
      obtain ⟨b8, rfl, hb8, he8⟩ := h8
      refine ⟨fun h => h.trans he8, ?_⟩
      have hE8 : Ext w2 w8 := ((((he3.trans he4).trans he5).trans he6).trans he7).trans he8
      repeat (first | refine da (next := ?_) | refine dsk (next := ?_) | refine dsku (next := ?_))
      refine d_end (h := ?_)
      repeat (first | (show rops _ _ _ _ (_ :: _) _ _; first | refine ra (next := ?_) | refine rk (next := ?_) | refine rku (next := ?_)) | refine st_end ?_ | refine thn_normal ?_ | refine r_seq ?_ | refine r_region rfl ?_ | refine thn_exit ?_ | refine thn_ret ?_ | refine inBlk_normal ?_ | refine inBlk_ret ?_ | refine inBlk_hit ?_ | refine inBlk_miss (by decide) ?_ | refine forQ_exit ?_ | refine forQ_ret ?_ | refine loopQ_exit ?_ | refine loopQ_ret ?_ | refine r_block ?_ | refine r_skip ?_ | refine r_exit ?_ | refine r_ret ?_ | (show rwp _ _ (.cond _ _ _) _ _ _; first | refine c_t (h := ?_) | refine c_f (h := ?_)))
      refine c_b (fun h9 => ?_) (fun h9 => ?_)
      · repeat (first | (show rops _ _ _ _ (_ :: _) _ _; first | refine ra (next := ?_) | refine rk (next := ?_) | refine rku (next := ?_)) | refine st_end ?_ | refine thn_normal ?_ | refine r_seq ?_ | refine r_region rfl ?_ | refine thn_exit ?_ | refine thn_ret ?_ | refine inBlk_normal ?_ | refine inBlk_ret ?_ | refine inBlk_hit ?_ | refine inBlk_miss (by decide) ?_ | refine forQ_exit ?_ | refine forQ_ret ?_ | refine loopQ_exit ?_ | refine loopQ_ret ?_ | refine r_block ?_ | refine r_skip ?_ | refine r_exit ?_ | refine r_ret ?_ | (show rwp _ _ (.cond _ _ _) _ _ _; first | refine c_t (h := ?_) | refine c_f (h := ?_)))
        refine ra (v := faultV 1 i (i + 1 + k : Nat) 0) (h := rd_build (by simp only [ev_tmp, ev_const, ev_func, get_put, get_args, get_putL, get_putL_nil, Nat.reduceEqDiff, reduceIte, List.getD_cons_zero, List.getD_cons_succ, List.getD_nil, List.map_toArray, List.map_cons, List.map_nil]; rfl) (fun _ => by kernel_rfl)) (next := ?_)
        refine st_store_agg (vs := [.int .i64 1, .int .i64 i, .int .i64 (i + 1 + k : Nat), .int .i64 0]) (cs := _) (by ((try simp only [ev_tmp, ev_const, ev_func, get_put, get_args, get_putL, get_putL_nil, Nat.reduceEqDiff, reduceIte, List.getD_cons_zero, List.getD_cons_succ, List.getD_nil]); first | done | with_reducible rfl)) (by ((try simp only [ev_tmp, ev_const, ev_func, get_put, get_args, get_putL, get_putL_nil, Nat.reduceEqDiff, reduceIte, List.getD_cons_zero, List.getD_cons_succ, List.getD_nil]); first | done | with_reducible rfl)) rfl ?_ rfl (by first | exact True.intro | exact ⟨_, rfl, by ((try simp only [ev_tmp, ev_const, ev_func, get_put, get_args, get_putL, get_putL_nil, Nat.reduceEqDiff, reduceIte, List.getD_cons_zero, List.getD_cons_succ, List.getD_nil, Bool.not_true, Bool.not_false]); first | done | with_reducible rfl)⟩) fun w9 hc9 hs9 hb9 => ?_
        · rfl
        repeat (first | (show rops _ _ _ _ (_ :: _) _ _; first | refine ra (next := ?_) | refine rk (next := ?_) | refine rku (next := ?_)) | refine st_end ?_ | refine thn_normal ?_ | refine r_seq ?_ | refine r_region rfl ?_ | refine thn_exit ?_ | refine thn_ret ?_ | refine inBlk_normal ?_ | refine inBlk_ret ?_ | refine inBlk_hit ?_ | refine inBlk_miss (by decide) ?_ | refine forQ_exit ?_ | refine forQ_ret ?_ | refine loopQ_exit ?_ | refine loopQ_ret ?_ | refine r_block ?_ | refine r_skip ?_ | refine r_exit ?_ | refine r_ret ?_ | (show rwp _ _ (.cond _ _ _) _ _ _; first | refine c_t (h := ?_) | refine c_f (h := ?_)))
        refine retc (bad (k := 1) (f := (i + 1 + k : Nat)) (s := 0) (hc9.ext (hE2.trans hE8) ?_) (by decide) fun h => ?_) rfl
        · have := hE2.size; have := he1.size; omega
        · have := hb8.2 (((chk_iff hi).1 h).1 _ hjn)
          rw [this] at h9; cases h9
      · have h10 := hb8.1 (by simpa using h9)
        repeat (first | (show rops _ _ _ _ (_ :: _) _ _; first | refine ra (next := ?_) | refine rk (next := ?_) | refine rku (next := ?_)) | refine st_end ?_ | refine thn_normal ?_ | refine r_seq ?_ | refine r_region rfl ?_ | refine thn_exit ?_ | refine thn_ret ?_ | refine inBlk_normal ?_ | refine inBlk_ret ?_ | refine inBlk_hit ?_ | refine inBlk_miss (by decide) ?_ | refine forQ_exit ?_ | refine forQ_ret ?_ | refine loopQ_exit ?_ | refine loopQ_ret ?_ | refine r_block ?_ | refine r_skip ?_ | refine r_exit ?_ | refine r_ret ?_ | (show rwp _ _ (.cond _ _ _) _ _ _; first | refine c_t (h := ?_) | refine c_f (h := ?_)))
        refine forQ_normal (by omega) ⟨?_, hE8, fun j hj => ?_⟩
        · ((try simp only [Has, ev_tmp, ev_const, ev_func, get_put, get_args, get_putL, get_putL_nil, Nat.reduceEqDiff, reduceIte, List.getD_cons_zero, List.getD_cons_succ, List.getD_nil]); repeat' (first | exact True.intro | apply And.intro | with_reducible rfl | exact int_congr (by first | omega | rfl)))
        · by_cases e : j = i + 1 + k
          · subst e; exact fun _ => h10
          · exact hP j (by omega)
    · repeat (first | (show rops _ _ _ _ (_ :: _) _ _; first | refine ra (next := ?_) | refine rk (next := ?_) | refine rku (next := ?_)) | refine st_end ?_ | refine thn_normal ?_ | refine r_seq ?_ | refine r_region rfl ?_ | refine thn_exit ?_ | refine thn_ret ?_ | refine inBlk_normal ?_ | refine inBlk_ret ?_ | refine inBlk_hit ?_ | refine inBlk_miss (by decide) ?_ | refine forQ_exit ?_ | refine forQ_ret ?_ | refine loopQ_exit ?_ | refine loopQ_ret ?_ | refine r_block ?_ | refine r_skip ?_ | refine r_exit ?_ | refine r_ret ?_ | (show rwp _ _ (.cond _ _ _) _ _ _; first | refine c_t (h := ?_) | refine c_f (h := ?_)))
      have hP' : ∀ j, LP p i j := fun j => by
        by_cases e : j < i + 1 + k
        · exact hP j e
        · exact fun h => by omega
      have hE3 := hE2.trans he3
      clear hP hH hk
      refine r_for (p.n - (i + 1)) (fun k ρ w' => Has ρ [(1, .int .i64 i), (2, .pointer (some ⟨b, 0, none⟩)), (4, .pointer (some ⟨bf, 0, none⟩)), (5, .int .i64 p.n), (6, .int .i64 i), (9, .int .i64 (i + 1 + k : Nat))] ∧ Ext w2 w' ∧ ∀ j k', j < i + 1 + k → LC p i j k') ?_ ?_
      · refine ⟨?_, he3, fun j k' hj hj' => by omega⟩
        ((try simp only [Has, ev_tmp, ev_const, ev_func, get_put, get_args, get_putL, get_putL_nil, Nat.reduceEqDiff, reduceIte, List.getD_cons_zero, List.getD_cons_succ, List.getD_nil]); repeat' (first | exact True.intro | apply And.intro | with_reducible rfl | exact int_congr (by first | omega | rfl)))
      rintro k ρ w4 hk ⟨hH, he4, hC⟩
      refine rwp_has hH fun ρ1 => ?_
      repeat (first | (show rops _ _ _ _ (_ :: _) _ _; first | refine ra (next := ?_) | refine rk (next := ?_) | refine rku (next := ?_)) | refine st_end ?_ | refine thn_normal ?_ | refine r_seq ?_ | refine r_region rfl ?_ | refine thn_exit ?_ | refine thn_ret ?_ | refine inBlk_normal ?_ | refine inBlk_ret ?_ | refine inBlk_hit ?_ | refine inBlk_miss (by decide) ?_ | refine forQ_exit ?_ | refine forQ_ret ?_ | refine loopQ_exit ?_ | refine loopQ_ret ?_ | refine r_block ?_ | refine r_skip ?_ | refine r_exit ?_ | refine r_ret ?_ | (show rwp _ _ (.cond _ _ _) _ _ _; first | refine c_t (h := ?_) | refine c_f (h := ?_)))
      refine c_if (fun hj => ?_) (fun hj => ?_)
      · have hjn : i < i + 1 + k ∧ i + 1 + k < p.n := ⟨by omega, by omega⟩
        repeat (first | (show rops _ _ _ _ (_ :: _) _ _; first | refine ra (next := ?_) | refine rk (next := ?_) | refine rku (next := ?_)) | refine st_end ?_ | refine thn_normal ?_ | refine r_seq ?_ | refine r_region rfl ?_ | refine thn_exit ?_ | refine thn_ret ?_ | refine inBlk_normal ?_ | refine inBlk_ret ?_ | refine inBlk_hit ?_ | refine inBlk_miss (by decide) ?_ | refine forQ_exit ?_ | refine forQ_ret ?_ | refine loopQ_exit ?_ | refine loopQ_ret ?_ | refine r_block ?_ | refine r_skip ?_ | refine r_exit ?_ | refine r_ret ?_ | (show rwp _ _ (.cond _ _ _) _ _ _; first | refine c_t (h := ?_) | refine c_f (h := ?_)))
        refine r_for (p.n - (i + 1 + k + 1)) (fun l ρ w' => Has ρ [(1, .int .i64 i), (2, .pointer (some ⟨b, 0, none⟩)), (4, .pointer (some ⟨bf, 0, none⟩)), (5, .int .i64 p.n), (6, .int .i64 i), (9, .int .i64 (i + 1 + k : Nat)), (10, .int .i64 (i + 1 + k + 1 + l : Nat))] ∧ Ext w2 w' ∧ ∀ k', k' < i + 1 + k + 1 + l → LC p i (i + 1 + k) k') ?_ ?_
        · refine ⟨?_, he4, fun k' hk' _ h' _ => by omega⟩
          ((try simp only [Has, ev_tmp, ev_const, ev_func, get_put, get_args, get_putL, get_putL_nil, Nat.reduceEqDiff, reduceIte, List.getD_cons_zero, List.getD_cons_succ, List.getD_nil]); repeat' (first | exact True.intro | apply And.intro | with_reducible rfl | exact int_congr (by first | omega | rfl)))
        rintro l ρ w5 hl ⟨hH, he5, hC2⟩
        refine rwp_has hH fun ρ2 => ?_
        repeat (first | (show rops _ _ _ _ (_ :: _) _ _; first | refine ra (next := ?_) | refine rk (next := ?_) | refine rku (next := ?_)) | refine st_end ?_ | refine thn_normal ?_ | refine r_seq ?_ | refine r_region rfl ?_ | refine thn_exit ?_ | refine thn_ret ?_ | refine inBlk_normal ?_ | refine inBlk_ret ?_ | refine inBlk_hit ?_ | refine inBlk_miss (by decide) ?_ | refine forQ_exit ?_ | refine forQ_ret ?_ | refine loopQ_exit ?_ | refine loopQ_ret ?_ | refine r_block ?_ | refine r_skip ?_ | refine r_exit ?_ | refine r_ret ?_ | (show rwp _ _ (.cond _ _ _) _ _ _; first | refine c_t (h := ?_) | refine c_f (h := ?_)))
        refine c_if (fun hkk => ?_) (fun hkk => ?_)
        · have hkn : i < i + 1 + k + 1 + l ∧ i + 1 + k + 1 + l < p.n := ⟨by omega, by omega⟩
          have hcj := hv.lenci (i + 1 + k) hjn.2
          repeat (first | (show rops _ _ _ _ (_ :: _) _ _; first | refine ra (next := ?_) | refine rk (next := ?_) | refine rku (next := ?_)) | refine st_end ?_ | refine thn_normal ?_ | refine r_seq ?_ | refine r_region rfl ?_ | refine thn_exit ?_ | refine thn_ret ?_ | refine inBlk_normal ?_ | refine inBlk_ret ?_ | refine inBlk_hit ?_ | refine inBlk_miss (by decide) ?_ | refine forQ_exit ?_ | refine forQ_ret ?_ | refine loopQ_exit ?_ | refine loopQ_ret ?_ | refine r_block ?_ | refine r_skip ?_ | refine r_exit ?_ | refine r_ret ?_ | (show rwp _ _ (.cond _ _ _) _ _ _; first | refine c_t (h := ?_) | refine c_f (h := ?_)))
          refine d_region fun w6 he6 _ => ?_
          repeat (first | refine da (next := ?_) | refine dsk (next := ?_) | refine dsku (next := ?_))
          refine d_end (h := ?_)
          repeat (first | (show rops _ _ _ _ (_ :: _) _ _; first | refine ra (next := ?_) | refine rk (next := ?_) | refine rku (next := ?_)) | refine st_end ?_ | refine thn_normal ?_ | refine r_seq ?_ | refine r_region rfl ?_ | refine thn_exit ?_ | refine thn_ret ?_ | refine inBlk_normal ?_ | refine inBlk_ret ?_ | refine inBlk_hit ?_ | refine inBlk_miss (by decide) ?_ | refine forQ_exit ?_ | refine forQ_ret ?_ | refine loopQ_exit ?_ | refine loopQ_ret ?_ | refine r_block ?_ | refine r_skip ?_ | refine r_exit ?_ | refine r_ret ?_ | (show rwp _ _ (.cond _ _ _) _ _ _; first | refine c_t (h := ?_) | refine c_f (h := ?_)))
          refine d_region fun w7 he7 _ => ?_
          repeat (first | refine da (next := ?_) | refine dsk (next := ?_) | refine dsku (next := ?_))
          refine dc (l08Image_ok hv hi (x := p.c (i + 1 + k) (i + 1 + k + 1 + l)) ?_ (hv.c_in _ _ (by omega) hkn.2)) (next := fun v8 w8 h8 => ?_)
          · rfl
          obtain ⟨he8, hf8⟩ := h8
          refine ⟨fun h => h.trans he8, ?_⟩
          repeat (first | refine da (next := ?_) | refine dsk (next := ?_) | refine dsku (next := ?_))
          refine d_end (h := ?_)
          repeat (first | (show rops _ _ _ _ (_ :: _) _ _; first | refine ra (next := ?_) | refine rk (next := ?_) | refine rku (next := ?_)) | refine st_end ?_ | refine thn_normal ?_ | refine r_seq ?_ | refine r_region rfl ?_ | refine thn_exit ?_ | refine thn_ret ?_ | refine inBlk_normal ?_ | refine inBlk_ret ?_ | refine inBlk_hit ?_ | refine inBlk_miss (by decide) ?_ | refine forQ_exit ?_ | refine forQ_ret ?_ | refine loopQ_exit ?_ | refine loopQ_ret ?_ | refine r_block ?_ | refine r_skip ?_ | refine r_exit ?_ | refine r_ret ?_ | (show rwp _ _ (.cond _ _ _) _ _ _; first | refine c_t (h := ?_) | refine c_f (h := ?_)))
          refine d_order [0, 1, 2, 3, 4, 6, 7, 8, 9, 10, 5, 11, 12, 13] (h := fun w9 he9 _ => ?_)
          repeat (first | refine da (next := ?_) | refine dsk (next := ?_) | refine dsku (next := ?_))
          refine dc (l08At_ok hv (i + 1) (x := p.c i (i + 1 + k + 1 + l)) (y := p.c i (i + 1 + k)) ?_ (hv.c_in _ _ hkn.1 hkn.2) (hv.c_in _ _ hjn.1 hjn.2) (hv.c_zu _ _ hkn.1 hkn.2) (hv.c_zu _ _ hjn.1 hjn.2)) (next := fun v10 w10 h10 => ?_)
          · rfl
          obtain ⟨he10, hf10⟩ := h10
          refine ⟨fun h => h.trans he10, ?_⟩
          repeat (first | refine da (next := ?_) | refine dsk (next := ?_) | refine dsku (next := ?_))
          refine dc (l08At_ok hv (i + 1) (x := p.c i (i + 1 + k)) (y := img p i (p.c (i + 1 + k) (i + 1 + k + 1 + l))) ?_ (hv.c_in _ _ hjn.1 hjn.2) (img_in hv _ _).1 (hv.c_zu _ _ hjn.1 hjn.2) (img_in hv _ _).2) (next := fun v11 w11 h11 => ?_)
          · rfl
          obtain ⟨he11, hf11⟩ := h11
          refine ⟨fun h => h.trans he11, ?_⟩
          have hlen := (atv_in hv _ (i + 1) rfl _ _ (hv.c_in _ _ hkn.1 hkn.2) (hv.c_in _ _ hjn.1 hjn.2) (hv.c_zu _ _ hkn.1 hkn.2) (hv.c_zu _ _ hjn.1 hjn.2)).1.len
          repeat (first | refine da (next := ?_) | refine dsk (next := ?_) | refine dsku (next := ?_))
          refine dc (l01Same_ok (xs := atv p (i + 1) (p.c i (i + 1 + k + 1 + l)) (p.c i (i + 1 + k))) (ys := atv p (i + 1) (p.c i (i + 1 + k)) (img p i (p.c (i + 1 + k) (i + 1 + k + 1 + l)))) ?_) (next := fun v12 w12 h12 => ?_)
          · omega
          obtain ⟨b12, rfl, hb12, he12⟩ := h12
          refine ⟨fun h => h.trans he12, ?_⟩
          have hE12 : Ext w2 w12 := ((((((he5.trans he6).trans he7).trans he8).trans he9).trans he10).trans he11).trans he12
          repeat (first | refine da (next := ?_) | refine dsk (next := ?_) | refine dsku (next := ?_))
          refine d_end (h := ?_)
          repeat (first | (show rops _ _ _ _ (_ :: _) _ _; first | refine ra (next := ?_) | refine rk (next := ?_) | refine rku (next := ?_)) | refine st_end ?_ | refine thn_normal ?_ | refine r_seq ?_ | refine r_region rfl ?_ | refine thn_exit ?_ | refine thn_ret ?_ | refine inBlk_normal ?_ | refine inBlk_ret ?_ | refine inBlk_hit ?_ | refine inBlk_miss (by decide) ?_ | refine forQ_exit ?_ | refine forQ_ret ?_ | refine loopQ_exit ?_ | refine loopQ_ret ?_ | refine r_block ?_ | refine r_skip ?_ | refine r_exit ?_ | refine r_ret ?_ | (show rwp _ _ (.cond _ _ _) _ _ _; first | refine c_t (h := ?_) | refine c_f (h := ?_)))
          refine c_b (fun h13 => ?_) (fun h13 => ?_)
          · repeat (first | (show rops _ _ _ _ (_ :: _) _ _; first | refine ra (next := ?_) | refine rk (next := ?_) | refine rku (next := ?_)) | refine st_end ?_ | refine thn_normal ?_ | refine r_seq ?_ | refine r_region rfl ?_ | refine thn_exit ?_ | refine thn_ret ?_ | refine inBlk_normal ?_ | refine inBlk_ret ?_ | refine inBlk_hit ?_ | refine inBlk_miss (by decide) ?_ | refine forQ_exit ?_ | refine forQ_ret ?_ | refine loopQ_exit ?_ | refine loopQ_ret ?_ | refine r_block ?_ | refine r_skip ?_ | refine r_exit ?_ | refine r_ret ?_ | (show rwp _ _ (.cond _ _ _) _ _ _; first | refine c_t (h := ?_) | refine c_f (h := ?_)))
            refine ra (v := faultV 2 i (i + 1 + k : Nat) (i + 1 + k + 1 + l : Nat)) (h := rd_build (by simp only [ev_tmp, ev_const, ev_func, get_put, get_args, get_putL, get_putL_nil, Nat.reduceEqDiff, reduceIte, List.getD_cons_zero, List.getD_cons_succ, List.getD_nil, List.map_toArray, List.map_cons, List.map_nil]; rfl) (fun _ => by kernel_rfl)) (next := ?_)
            refine st_store_agg (vs := [.int .i64 2, .int .i64 i, .int .i64 (i + 1 + k : Nat), .int .i64 (i + 1 + k + 1 + l : Nat)]) (cs := _) (by ((try simp only [ev_tmp, ev_const, ev_func, get_put, get_args, get_putL, get_putL_nil, Nat.reduceEqDiff, reduceIte, List.getD_cons_zero, List.getD_cons_succ, List.getD_nil]); first | done | with_reducible rfl)) (by ((try simp only [ev_tmp, ev_const, ev_func, get_put, get_args, get_putL, get_putL_nil, Nat.reduceEqDiff, reduceIte, List.getD_cons_zero, List.getD_cons_succ, List.getD_nil]); first | done | with_reducible rfl)) rfl ?_ rfl (by first | exact True.intro | exact ⟨_, rfl, by ((try simp only [ev_tmp, ev_const, ev_func, get_put, get_args, get_putL, get_putL_nil, Nat.reduceEqDiff, reduceIte, List.getD_cons_zero, List.getD_cons_succ, List.getD_nil, Bool.not_true, Bool.not_false]); first | done | with_reducible rfl)⟩) fun w13 hc13 hs13 hb13 => ?_
            · rfl
            repeat (first | (show rops _ _ _ _ (_ :: _) _ _; first | refine ra (next := ?_) | refine rk (next := ?_) | refine rku (next := ?_)) | refine st_end ?_ | refine thn_normal ?_ | refine r_seq ?_ | refine r_region rfl ?_ | refine thn_exit ?_ | refine thn_ret ?_ | refine inBlk_normal ?_ | refine inBlk_ret ?_ | refine inBlk_hit ?_ | refine inBlk_miss (by decide) ?_ | refine forQ_exit ?_ | refine forQ_ret ?_ | refine loopQ_exit ?_ | refine loopQ_ret ?_ | refine r_block ?_ | refine r_skip ?_ | refine r_exit ?_ | refine r_ret ?_ | (show rwp _ _ (.cond _ _ _) _ _ _; first | refine c_t (h := ?_) | refine c_f (h := ?_)))
            refine retc (bad (k := 2) (f := (i + 1 + k : Nat)) (s := (i + 1 + k + 1 + l : Nat)) (hc13.ext (hE2.trans hE12) ?_) (by decide) fun h => ?_) rfl
            · have := hE2.size; have := he1.size; omega
            · have := hb12.2 (((chk_iff hi).1 h).2.1 _ _ hjn.1 (by omega) hkn.2)
              rw [this] at h13; cases h13
          · have h14 := hb12.1 (by simpa using h13)
            repeat (first | (show rops _ _ _ _ (_ :: _) _ _; first | refine ra (next := ?_) | refine rk (next := ?_) | refine rku (next := ?_)) | refine st_end ?_ | refine thn_normal ?_ | refine r_seq ?_ | refine r_region rfl ?_ | refine thn_exit ?_ | refine thn_ret ?_ | refine inBlk_normal ?_ | refine inBlk_ret ?_ | refine inBlk_hit ?_ | refine inBlk_miss (by decide) ?_ | refine forQ_exit ?_ | refine forQ_ret ?_ | refine loopQ_exit ?_ | refine loopQ_ret ?_ | refine r_block ?_ | refine r_skip ?_ | refine r_exit ?_ | refine r_ret ?_ | (show rwp _ _ (.cond _ _ _) _ _ _; first | refine c_t (h := ?_) | refine c_f (h := ?_)))
            refine forQ_normal (by omega) ⟨?_, hE12, fun k' hk' => ?_⟩
            · ((try simp only [Has, ev_tmp, ev_const, ev_func, get_put, get_args, get_putL, get_putL_nil, Nat.reduceEqDiff, reduceIte, List.getD_cons_zero, List.getD_cons_succ, List.getD_nil]); repeat' (first | exact True.intro | apply And.intro | with_reducible rfl | exact int_congr (by first | omega | rfl)))
            · by_cases e : k' = i + 1 + k + 1 + l
              · subst e; exact fun _ _ _ => h14
              · exact hC2 k' (by omega)
        · repeat (first | (show rops _ _ _ _ (_ :: _) _ _; first | refine ra (next := ?_) | refine rk (next := ?_) | refine rku (next := ?_)) | refine st_end ?_ | refine thn_normal ?_ | refine r_seq ?_ | refine r_region rfl ?_ | refine thn_exit ?_ | refine thn_ret ?_ | refine inBlk_normal ?_ | refine inBlk_ret ?_ | refine inBlk_hit ?_ | refine inBlk_miss (by decide) ?_ | refine forQ_exit ?_ | refine forQ_ret ?_ | refine loopQ_exit ?_ | refine loopQ_ret ?_ | refine r_block ?_ | refine r_skip ?_ | refine r_exit ?_ | refine r_ret ?_ | (show rwp _ _ (.cond _ _ _) _ _ _; first | refine c_t (h := ?_) | refine c_f (h := ?_)))
          refine forQ_normal (by omega) ⟨?_, he5, fun j k' hj' => ?_⟩
          · ((try simp only [Has, ev_tmp, ev_const, ev_func, get_put, get_args, get_putL, get_putL_nil, Nat.reduceEqDiff, reduceIte, List.getD_cons_zero, List.getD_cons_succ, List.getD_nil]); repeat' (first | exact True.intro | apply And.intro | with_reducible rfl | exact int_congr (by first | omega | rfl)))
          · by_cases e : j = i + 1 + k
            · subst e
              exact fun h1 h2 h3 => hC2 k' (by omega) h1 h2 h3
            · exact hC j k' (by omega)
      · repeat (first | (show rops _ _ _ _ (_ :: _) _ _; first | refine ra (next := ?_) | refine rk (next := ?_) | refine rku (next := ?_)) | refine st_end ?_ | refine thn_normal ?_ | refine r_seq ?_ | refine r_region rfl ?_ | refine thn_exit ?_ | refine thn_ret ?_ | refine inBlk_normal ?_ | refine inBlk_ret ?_ | refine inBlk_hit ?_ | refine inBlk_miss (by decide) ?_ | refine forQ_exit ?_ | refine forQ_ret ?_ | refine loopQ_exit ?_ | refine loopQ_ret ?_ | refine r_block ?_ | refine r_skip ?_ | refine r_exit ?_ | refine r_ret ?_ | (show rwp _ _ (.cond _ _ _) _ _ _; first | refine c_t (h := ?_) | refine c_f (h := ?_)))
        have hC' : ∀ j k', LC p i j k' := fun j k' h1 h2 h3 => hC j k' (by omega) h1 h2 h3
        clear hC hk
        refine rc (l08Image_ok hv hi (x := p.w i) ?_ (hv.w_in _ hi)) (next := fun v6 w6 h6 => ?_)
        · rfl
        obtain ⟨he6, hf6⟩ := h6
        have hlen := (img_in hv i (p.w i)).1.len
        repeat (first | (show rops _ _ _ _ (_ :: _) _ _; first | refine ra (next := ?_) | refine rk (next := ?_) | refine rku (next := ?_)) | refine st_end ?_ | refine thn_normal ?_ | refine r_seq ?_ | refine r_region rfl ?_ | refine thn_exit ?_ | refine thn_ret ?_ | refine inBlk_normal ?_ | refine inBlk_ret ?_ | refine inBlk_hit ?_ | refine inBlk_miss (by decide) ?_ | refine forQ_exit ?_ | refine forQ_ret ?_ | refine loopQ_exit ?_ | refine loopQ_ret ?_ | refine r_block ?_ | refine r_skip ?_ | refine r_exit ?_ | refine r_ret ?_ | (show rwp _ _ (.cond _ _ _) _ _ _; first | refine c_t (h := ?_) | refine c_f (h := ?_)))
        refine rc (l01Same_ok (xs := img p i (p.w i)) (ys := p.w i) ?_) (next := fun v7 w7 h7 => ?_)
        · omega
        obtain ⟨b7, rfl, hb7, he7⟩ := h7
        have hE7 : Ext w2 w7 := (he4.trans he6).trans he7
        repeat (first | (show rops _ _ _ _ (_ :: _) _ _; first | refine ra (next := ?_) | refine rk (next := ?_) | refine rku (next := ?_)) | refine st_end ?_ | refine thn_normal ?_ | refine r_seq ?_ | refine r_region rfl ?_ | refine thn_exit ?_ | refine thn_ret ?_ | refine inBlk_normal ?_ | refine inBlk_ret ?_ | refine inBlk_hit ?_ | refine inBlk_miss (by decide) ?_ | refine forQ_exit ?_ | refine forQ_ret ?_ | refine loopQ_exit ?_ | refine loopQ_ret ?_ | refine r_block ?_ | refine r_skip ?_ | refine r_exit ?_ | refine r_ret ?_ | (show rwp _ _ (.cond _ _ _) _ _ _; first | refine c_t (h := ?_) | refine c_f (h := ?_)))
        refine c_b (fun h8 => ?_) (fun h8 => ?_)
        · repeat (first | (show rops _ _ _ _ (_ :: _) _ _; first | refine ra (next := ?_) | refine rk (next := ?_) | refine rku (next := ?_)) | refine st_end ?_ | refine thn_normal ?_ | refine r_seq ?_ | refine r_region rfl ?_ | refine thn_exit ?_ | refine thn_ret ?_ | refine inBlk_normal ?_ | refine inBlk_ret ?_ | refine inBlk_hit ?_ | refine inBlk_miss (by decide) ?_ | refine forQ_exit ?_ | refine forQ_ret ?_ | refine loopQ_exit ?_ | refine loopQ_ret ?_ | refine r_block ?_ | refine r_skip ?_ | refine r_exit ?_ | refine r_ret ?_ | (show rwp _ _ (.cond _ _ _) _ _ _; first | refine c_t (h := ?_) | refine c_f (h := ?_)))
          refine ra (v := faultV 3 i 0 0) (h := rd_build (by simp only [ev_tmp, ev_const, ev_func, get_put, get_args, get_putL, get_putL_nil, Nat.reduceEqDiff, reduceIte, List.getD_cons_zero, List.getD_cons_succ, List.getD_nil, List.map_toArray, List.map_cons, List.map_nil]; rfl) (fun _ => by kernel_rfl)) (next := ?_)
          refine st_store_agg (vs := [.int .i64 3, .int .i64 i, .int .i64 0, .int .i64 0]) (cs := _) (by ((try simp only [ev_tmp, ev_const, ev_func, get_put, get_args, get_putL, get_putL_nil, Nat.reduceEqDiff, reduceIte, List.getD_cons_zero, List.getD_cons_succ, List.getD_nil]); first | done | with_reducible rfl)) (by ((try simp only [ev_tmp, ev_const, ev_func, get_put, get_args, get_putL, get_putL_nil, Nat.reduceEqDiff, reduceIte, List.getD_cons_zero, List.getD_cons_succ, List.getD_nil]); first | done | with_reducible rfl)) rfl ?_ rfl (by first | exact True.intro | exact ⟨_, rfl, by ((try simp only [ev_tmp, ev_const, ev_func, get_put, get_args, get_putL, get_putL_nil, Nat.reduceEqDiff, reduceIte, List.getD_cons_zero, List.getD_cons_succ, List.getD_nil, Bool.not_true, Bool.not_false]); first | done | with_reducible rfl)⟩) fun w9 hc9 hs9 hb9 => ?_
          · rfl
          repeat (first | (show rops _ _ _ _ (_ :: _) _ _; first | refine ra (next := ?_) | refine rk (next := ?_) | refine rku (next := ?_)) | refine st_end ?_ | refine thn_normal ?_ | refine r_seq ?_ | refine r_region rfl ?_ | refine thn_exit ?_ | refine thn_ret ?_ | refine inBlk_normal ?_ | refine inBlk_ret ?_ | refine inBlk_hit ?_ | refine inBlk_miss (by decide) ?_ | refine forQ_exit ?_ | refine forQ_ret ?_ | refine loopQ_exit ?_ | refine loopQ_ret ?_ | refine r_block ?_ | refine r_skip ?_ | refine r_exit ?_ | refine r_ret ?_ | (show rwp _ _ (.cond _ _ _) _ _ _; first | refine c_t (h := ?_) | refine c_f (h := ?_)))
          refine retc (bad (k := 3) (f := 0) (s := 0) (hc9.ext (hE2.trans hE7) ?_) (by decide) fun h => ?_) rfl
          · have := hE2.size; have := he1.size; omega
          · have := hb7.2 ((chk_iff hi).1 h).2.2.1
            rw [this] at h8; cases h8
        · have hF := hb7.1 (by simpa using h8)
          repeat (first | (show rops _ _ _ _ (_ :: _) _ _; first | refine ra (next := ?_) | refine rk (next := ?_) | refine rku (next := ?_)) | refine st_end ?_ | refine thn_normal ?_ | refine r_seq ?_ | refine r_region rfl ?_ | refine thn_exit ?_ | refine thn_ret ?_ | refine inBlk_normal ?_ | refine inBlk_ret ?_ | refine inBlk_hit ?_ | refine inBlk_miss (by decide) ?_ | refine forQ_exit ?_ | refine forQ_ret ?_ | refine loopQ_exit ?_ | refine loopQ_ret ?_ | refine r_block ?_ | refine r_skip ?_ | refine r_exit ?_ | refine r_ret ?_ | (show rwp _ _ (.cond _ _ _) _ _ _; first | refine c_t (h := ?_) | refine c_f (h := ?_)))
          clear h8
          refine r_for (p.n - (i + 1)) (fun k ρ w' => Has ρ [(1, .int .i64 i), (2, .pointer (some ⟨b, 0, none⟩)), (4, .pointer (some ⟨bf, 0, none⟩)), (5, .int .i64 p.n), (6, .int .i64 i), (14, Pc.rowAt vpw ps i), (15, .int .i64 (i + 1 + k : Nat))] ∧ Ext w2 w' ∧ ∀ j, j < i + 1 + k → LI p i j) ?_ ?_
          · refine ⟨?_, hE7, fun j hj h1 h2 => by omega⟩
            ((try simp only [Has, ev_tmp, ev_const, ev_func, get_put, get_args, get_putL, get_putL_nil, Nat.reduceEqDiff, reduceIte, List.getD_cons_zero, List.getD_cons_succ, List.getD_nil]); repeat' (first | exact True.intro | apply And.intro | with_reducible rfl | exact int_congr (by first | omega | rfl)))
          rintro k ρ w8 hk ⟨hH, he8, hI⟩
          refine rwp_has hH fun ρ2 => ?_
          repeat (first | (show rops _ _ _ _ (_ :: _) _ _; first | refine ra (next := ?_) | refine rk (next := ?_) | refine rku (next := ?_)) | refine st_end ?_ | refine thn_normal ?_ | refine r_seq ?_ | refine r_region rfl ?_ | refine thn_exit ?_ | refine thn_ret ?_ | refine inBlk_normal ?_ | refine inBlk_ret ?_ | refine inBlk_hit ?_ | refine inBlk_miss (by decide) ?_ | refine forQ_exit ?_ | refine forQ_ret ?_ | refine loopQ_exit ?_ | refine loopQ_ret ?_ | refine r_block ?_ | refine r_skip ?_ | refine r_exit ?_ | refine r_ret ?_ | (show rwp _ _ (.cond _ _ _) _ _ _; first | refine c_t (h := ?_) | refine c_f (h := ?_)))
          refine c_if (fun hj => ?_) (fun hj => ?_)
          · have hjn : i + 1 ≤ i + 1 + k ∧ i + 1 + k < p.n := ⟨by omega, by omega⟩
            repeat (first | (show rops _ _ _ _ (_ :: _) _ _; first | refine ra (next := ?_) | refine rk (next := ?_) | refine rku (next := ?_)) | refine st_end ?_ | refine thn_normal ?_ | refine r_seq ?_ | refine r_region rfl ?_ | refine thn_exit ?_ | refine thn_ret ?_ | refine inBlk_normal ?_ | refine inBlk_ret ?_ | refine inBlk_hit ?_ | refine inBlk_miss (by decide) ?_ | refine forQ_exit ?_ | refine forQ_ret ?_ | refine loopQ_exit ?_ | refine loopQ_ret ?_ | refine r_block ?_ | refine r_skip ?_ | refine r_exit ?_ | refine r_ret ?_ | (show rwp _ _ (.cond _ _ _) _ _ _; first | refine c_t (h := ?_) | refine c_f (h := ?_)))
            refine rc (l07Unit_ok (n := p.n) (i := i + 1 + k) ?_ ?_ ?_ hjn.2) (next := fun v9 w9 h9 => ?_)
            · rfl
            · rfl
            · omega
            obtain ⟨he9, hf9⟩ := h9
            have hg0 : (zeros p.n).set (i + 1 + k) 1 = unitv p (i + 1 + k) 1 := rfl
            rw [hg0] at hf9
            have hsz8 := he8.size
            have hsz1 := hE2.size
            repeat (first | (show rops _ _ _ _ (_ :: _) _ _; first | refine ra (next := ?_) | refine rk (next := ?_) | refine rku (next := ?_)) | refine st_end ?_ | refine thn_normal ?_ | refine r_seq ?_ | refine r_region rfl ?_ | refine thn_exit ?_ | refine thn_ret ?_ | refine inBlk_normal ?_ | refine inBlk_ret ?_ | refine inBlk_hit ?_ | refine inBlk_miss (by decide) ?_ | refine forQ_exit ?_ | refine forQ_ret ?_ | refine loopQ_exit ?_ | refine loopQ_ret ?_ | refine r_block ?_ | refine r_skip ?_ | refine r_exit ?_ | refine r_ret ?_ | (show rwp _ _ (.cond _ _ _) _ _ _; first | refine c_t (h := ?_) | refine c_f (h := ?_)))
            refine r_for (p.o i).toNat (fun q ρ w' => ∃ vx, Has ρ [(1, .int .i64 i), (2, .pointer (some ⟨b, 0, none⟩)), (4, .pointer (some ⟨bf, 0, none⟩)), (5, .int .i64 p.n), (6, .int .i64 i), (14, Pc.rowAt vpw ps i), (15, .int .i64 (i + 1 + k : Nat)), (16, v9), (17, vx), (18, .int .i64 q)] ∧ Ext w9 w' ∧ Fr w.heap.size w' vx (rep q (img p i) (unitv p (i + 1 + k) 1))) ?_ ?_
            · refine ⟨v9, ?_, Ext.refl _, hf9.mono (by omega)⟩
              ((try simp only [Has, ev_tmp, ev_const, ev_func, get_put, get_args, get_putL, get_putL_nil, Nat.reduceEqDiff, reduceIte, List.getD_cons_zero, List.getD_cons_succ, List.getD_nil]); repeat' (first | exact True.intro | apply And.intro | with_reducible rfl | exact int_congr (by first | omega | rfl)))
            rintro q ρ w10 hq ⟨vx, hH, he10, hf10⟩
            refine rwp_has hH fun ρ3 => ?_
            have hin : InR p (rep q (img p i) (unitv p (i + 1 + k) 1)) ∧ ZU (i + 1) (rep q (img p i) (unitv p (i + 1 + k) 1)) := by
              refine rep_inv (fun v => InR p v ∧ ZU (i + 1) v) (fun x _ => img_in hv i x) ⟨?_, unitv_zu p hjn.1 1⟩ q
              exact unitv_in hv (by omega) (fun h => by have := hv.opos h; omega)
            repeat (first | (show rops _ _ _ _ (_ :: _) _ _; first | refine ra (next := ?_) | refine rk (next := ?_) | refine rku (next := ?_)) | refine st_end ?_ | refine thn_normal ?_ | refine r_seq ?_ | refine r_region rfl ?_ | refine thn_exit ?_ | refine thn_ret ?_ | refine inBlk_normal ?_ | refine inBlk_ret ?_ | refine inBlk_hit ?_ | refine inBlk_miss (by decide) ?_ | refine forQ_exit ?_ | refine forQ_ret ?_ | refine loopQ_exit ?_ | refine loopQ_ret ?_ | refine r_block ?_ | refine r_skip ?_ | refine r_exit ?_ | refine r_ret ?_ | (show rwp _ _ (.cond _ _ _) _ _ _; first | refine c_t (h := ?_) | refine c_f (h := ?_)))
            refine c_if (fun hq2 => ?_) (fun hq2 => ?_)
            · repeat (first | (show rops _ _ _ _ (_ :: _) _ _; first | refine ra (next := ?_) | refine rk (next := ?_) | refine rku (next := ?_)) | refine st_end ?_ | refine thn_normal ?_ | refine r_seq ?_ | refine r_region rfl ?_ | refine thn_exit ?_ | refine thn_ret ?_ | refine inBlk_normal ?_ | refine inBlk_ret ?_ | refine inBlk_hit ?_ | refine inBlk_miss (by decide) ?_ | refine forQ_exit ?_ | refine forQ_ret ?_ | refine loopQ_exit ?_ | refine loopQ_ret ?_ | refine r_block ?_ | refine r_skip ?_ | refine r_exit ?_ | refine r_ret ?_ | (show rwp _ _ (.cond _ _ _) _ _ _; first | refine c_t (h := ?_) | refine c_f (h := ?_)))
              refine rc (l08Image_ok hv hi (x := rep q (img p i) (unitv p (i + 1 + k) 1)) ?_ hin.1) (next := fun v11 w11 h11 => ?_)
              · rfl
              obtain ⟨he11, hf11⟩ := h11
              have hsz10 := he10.size
              have hsz9 := he9.size
              repeat (first | (show rops _ _ _ _ (_ :: _) _ _; first | refine ra (next := ?_) | refine rk (next := ?_) | refine rku (next := ?_)) | refine st_end ?_ | refine thn_normal ?_ | refine r_seq ?_ | refine r_region rfl ?_ | refine thn_exit ?_ | refine thn_ret ?_ | refine inBlk_normal ?_ | refine inBlk_ret ?_ | refine inBlk_hit ?_ | refine inBlk_miss (by decide) ?_ | refine forQ_exit ?_ | refine forQ_ret ?_ | refine loopQ_exit ?_ | refine loopQ_ret ?_ | refine r_block ?_ | refine r_skip ?_ | refine r_exit ?_ | refine r_ret ?_ | (show rwp _ _ (.cond _ _ _) _ _ _; first | refine c_t (h := ?_) | refine c_f (h := ?_)))
              refine forQ_normal (by omega) ⟨v11, ?_, he10.trans he11, hf11.mono (by omega)⟩
              ((try simp only [Has, ev_tmp, ev_const, ev_func, get_put, get_args, get_putL, get_putL_nil, Nat.reduceEqDiff, reduceIte, List.getD_cons_zero, List.getD_cons_succ, List.getD_nil]); repeat' (first | exact True.intro | apply And.intro | with_reducible rfl | exact int_congr (by first | omega | rfl)))
            · have hqe : (p.o i).toNat = q := by omega
              have hu9 : InR p (unitv p (i + 1 + k) 1) := unitv_in hv (by omega) (fun h => by have := hv.opos h; omega)
              repeat (first | (show rops _ _ _ _ (_ :: _) _ _; first | refine ra (next := ?_) | refine rk (next := ?_) | refine rku (next := ?_)) | refine st_end ?_ | refine thn_normal ?_ | refine r_seq ?_ | refine r_region rfl ?_ | refine thn_exit ?_ | refine thn_ret ?_ | refine inBlk_normal ?_ | refine inBlk_ret ?_ | refine inBlk_hit ?_ | refine inBlk_miss (by decide) ?_ | refine forQ_exit ?_ | refine forQ_ret ?_ | refine loopQ_exit ?_ | refine loopQ_ret ?_ | refine r_block ?_ | refine r_skip ?_ | refine r_exit ?_ | refine r_ret ?_ | (show rwp _ _ (.cond _ _ _) _ _ _; first | refine c_t (h := ?_) | refine c_f (h := ?_)))
              refine d_order [0, 1, 2, 3, 4, 6, 7, 8, 9, 10, 5, 11, 12, 13] (h := fun w11 he11 _ => ?_)
              repeat (first | refine da (next := ?_) | refine dsk (next := ?_) | refine dsku (next := ?_))
              refine dc (l08At_ok hv (i + 1) (x := p.w i) (y := rep q (img p i) (unitv p (i + 1 + k) 1)) ?_ (hv.w_in _ hi) hin.1 (hv.w_zu _ hi) hin.2) (next := fun v12 w12 h12 => ?_)
              · rfl
              obtain ⟨he12, hf12⟩ := h12
              refine ⟨fun h => h.trans he12, ?_⟩
              repeat (first | refine da (next := ?_) | refine dsk (next := ?_) | refine dsku (next := ?_))
              refine dc (l08At_ok hv (i + 1) (x := unitv p (i + 1 + k) 1) (y := p.w i) ?_ hu9 (hv.w_in _ hi) (unitv_zu p hjn.1 1) (hv.w_zu _ hi)) (next := fun v13 w13 h13 => ?_)
              · rfl
              obtain ⟨he13, hf13⟩ := h13
              refine ⟨fun h => h.trans he13, ?_⟩
              have hlen2 := (atv_in hv _ (i + 1) rfl _ _ (hv.w_in _ hi) hin.1 (hv.w_zu _ hi) hin.2).1.len
              repeat (first | refine da (next := ?_) | refine dsk (next := ?_) | refine dsku (next := ?_))
              refine dc (l01Same_ok (xs := atv p (i + 1) (p.w i) (rep q (img p i) (unitv p (i + 1 + k) 1))) (ys := atv p (i + 1) (unitv p (i + 1 + k) 1) (p.w i)) ?_) (next := fun v14 w14 h14 => ?_)
              · omega
              obtain ⟨b14, rfl, hb14, he14⟩ := h14
              refine ⟨fun h => h.trans he14, ?_⟩
              have hE14 : Ext w2 w14 := ((((((he8.trans he9).trans he10).trans he11).trans he12).trans he13)).trans he14
              repeat (first | refine da (next := ?_) | refine dsk (next := ?_) | refine dsku (next := ?_))
              refine d_end (h := ?_)
              repeat (first | (show rops _ _ _ _ (_ :: _) _ _; first | refine ra (next := ?_) | refine rk (next := ?_) | refine rku (next := ?_)) | refine st_end ?_ | refine thn_normal ?_ | refine r_seq ?_ | refine r_region rfl ?_ | refine thn_exit ?_ | refine thn_ret ?_ | refine inBlk_normal ?_ | refine inBlk_ret ?_ | refine inBlk_hit ?_ | refine inBlk_miss (by decide) ?_ | refine forQ_exit ?_ | refine forQ_ret ?_ | refine loopQ_exit ?_ | refine loopQ_ret ?_ | refine r_block ?_ | refine r_skip ?_ | refine r_exit ?_ | refine r_ret ?_ | (show rwp _ _ (.cond _ _ _) _ _ _; first | refine c_t (h := ?_) | refine c_f (h := ?_)))
              refine c_b (fun h15 => ?_) (fun h15 => ?_)
              · repeat (first | (show rops _ _ _ _ (_ :: _) _ _; first | refine ra (next := ?_) | refine rk (next := ?_) | refine rku (next := ?_)) | refine st_end ?_ | refine thn_normal ?_ | refine r_seq ?_ | refine r_region rfl ?_ | refine thn_exit ?_ | refine thn_ret ?_ | refine inBlk_normal ?_ | refine inBlk_ret ?_ | refine inBlk_hit ?_ | refine inBlk_miss (by decide) ?_ | refine forQ_exit ?_ | refine forQ_ret ?_ | refine loopQ_exit ?_ | refine loopQ_ret ?_ | refine r_block ?_ | refine r_skip ?_ | refine r_exit ?_ | refine r_ret ?_ | (show rwp _ _ (.cond _ _ _) _ _ _; first | refine c_t (h := ?_) | refine c_f (h := ?_)))
                refine ra (v := faultV 4 i (i + 1 + k : Nat) 0) (h := rd_build (by simp only [ev_tmp, ev_const, ev_func, get_put, get_args, get_putL, get_putL_nil, Nat.reduceEqDiff, reduceIte, List.getD_cons_zero, List.getD_cons_succ, List.getD_nil, List.map_toArray, List.map_cons, List.map_nil]; rfl) (fun _ => by kernel_rfl)) (next := ?_)
                refine st_store_agg (vs := [.int .i64 4, .int .i64 i, .int .i64 (i + 1 + k : Nat), .int .i64 0]) (cs := _) (by ((try simp only [ev_tmp, ev_const, ev_func, get_put, get_args, get_putL, get_putL_nil, Nat.reduceEqDiff, reduceIte, List.getD_cons_zero, List.getD_cons_succ, List.getD_nil]); first | done | with_reducible rfl)) (by ((try simp only [ev_tmp, ev_const, ev_func, get_put, get_args, get_putL, get_putL_nil, Nat.reduceEqDiff, reduceIte, List.getD_cons_zero, List.getD_cons_succ, List.getD_nil]); first | done | with_reducible rfl)) rfl ?_ rfl (by first | exact True.intro | exact ⟨_, rfl, by ((try simp only [ev_tmp, ev_const, ev_func, get_put, get_args, get_putL, get_putL_nil, Nat.reduceEqDiff, reduceIte, List.getD_cons_zero, List.getD_cons_succ, List.getD_nil, Bool.not_true, Bool.not_false]); first | done | with_reducible rfl)⟩) fun w15 hc15 hs15 hb15 => ?_
                · rfl
                repeat (first | (show rops _ _ _ _ (_ :: _) _ _; first | refine ra (next := ?_) | refine rk (next := ?_) | refine rku (next := ?_)) | refine st_end ?_ | refine thn_normal ?_ | refine r_seq ?_ | refine r_region rfl ?_ | refine thn_exit ?_ | refine thn_ret ?_ | refine inBlk_normal ?_ | refine inBlk_ret ?_ | refine inBlk_hit ?_ | refine inBlk_miss (by decide) ?_ | refine forQ_exit ?_ | refine forQ_ret ?_ | refine loopQ_exit ?_ | refine loopQ_ret ?_ | refine r_block ?_ | refine r_skip ?_ | refine r_exit ?_ | refine r_ret ?_ | (show rwp _ _ (.cond _ _ _) _ _ _; first | refine c_t (h := ?_) | refine c_f (h := ?_)))
                refine retc (bad (k := 4) (f := (i + 1 + k : Nat)) (s := 0) (hc15.ext (hE2.trans hE14) ?_) (by decide) fun h => ?_) rfl
                · have := hE2.size; have := he1.size; omega
                · have := ((chk_iff hi).1 h).2.2.2 (i + 1 + k) hjn.1 hjn.2
                  rw [hqe] at this
                  have := hb14.2 this
                  rw [this] at h15; cases h15
              · have h16 := hb14.1 (by simpa using h15)
                repeat (first | (show rops _ _ _ _ (_ :: _) _ _; first | refine ra (next := ?_) | refine rk (next := ?_) | refine rku (next := ?_)) | refine st_end ?_ | refine thn_normal ?_ | refine r_seq ?_ | refine r_region rfl ?_ | refine thn_exit ?_ | refine thn_ret ?_ | refine inBlk_normal ?_ | refine inBlk_ret ?_ | refine inBlk_hit ?_ | refine inBlk_miss (by decide) ?_ | refine forQ_exit ?_ | refine forQ_ret ?_ | refine loopQ_exit ?_ | refine loopQ_ret ?_ | refine r_block ?_ | refine r_skip ?_ | refine r_exit ?_ | refine r_ret ?_ | (show rwp _ _ (.cond _ _ _) _ _ _; first | refine c_t (h := ?_) | refine c_f (h := ?_)))
                refine forQ_normal (by omega) ⟨?_, hE14, fun j hj2 => ?_⟩
                · ((try simp only [Has, ev_tmp, ev_const, ev_func, get_put, get_args, get_putL, get_putL_nil, Nat.reduceEqDiff, reduceIte, List.getD_cons_zero, List.getD_cons_succ, List.getD_nil]); repeat' (first | exact True.intro | apply And.intro | with_reducible rfl | exact int_congr (by first | omega | rfl)))
                · by_cases e : j = i + 1 + k
                  · subst e
                    intro _ _
                    rw [hqe]
                    exact h16
                  · exact hI j (by omega)
          · repeat (first | (show rops _ _ _ _ (_ :: _) _ _; first | refine ra (next := ?_) | refine rk (next := ?_) | refine rku (next := ?_)) | refine st_end ?_ | refine thn_normal ?_ | refine r_seq ?_ | refine r_region rfl ?_ | refine thn_exit ?_ | refine thn_ret ?_ | refine inBlk_normal ?_ | refine inBlk_ret ?_ | refine inBlk_hit ?_ | refine inBlk_miss (by decide) ?_ | refine forQ_exit ?_ | refine forQ_ret ?_ | refine loopQ_exit ?_ | refine loopQ_ret ?_ | refine r_block ?_ | refine r_skip ?_ | refine r_exit ?_ | refine r_ret ?_ | (show rwp _ _ (.cond _ _ _) _ _ _; first | refine c_t (h := ?_) | refine c_f (h := ?_)))
            refine ra (v := faultV 0 0 0 0) (h := rd_build (by rfl) (fun _ => by kernel_rfl)) (next := ?_)
            refine st_store_agg (vs := [.int .i64 0, .int .i64 0, .int .i64 0, .int .i64 0]) (cs := _) (by ((try simp only [ev_tmp, ev_const, ev_func, get_put, get_args, get_putL, get_putL_nil, Nat.reduceEqDiff, reduceIte, List.getD_cons_zero, List.getD_cons_succ, List.getD_nil]); first | done | with_reducible rfl)) (by ((try simp only [ev_tmp, ev_const, ev_func, get_put, get_args, get_putL, get_putL_nil, Nat.reduceEqDiff, reduceIte, List.getD_cons_zero, List.getD_cons_succ, List.getD_nil]); first | done | with_reducible rfl)) rfl ?_ rfl (by first | exact True.intro | exact ⟨_, rfl, by ((try simp only [ev_tmp, ev_const, ev_func, get_put, get_args, get_putL, get_putL_nil, Nat.reduceEqDiff, reduceIte, List.getD_cons_zero, List.getD_cons_succ, List.getD_nil, Bool.not_true, Bool.not_false]); first | done | with_reducible rfl)⟩) fun w15 hc15 hs15 hb15 => ?_
            · rfl
            repeat (first | (show rops _ _ _ _ (_ :: _) _ _; first | refine ra (next := ?_) | refine rk (next := ?_) | refine rku (next := ?_)) | refine st_end ?_ | refine thn_normal ?_ | refine r_seq ?_ | refine r_region rfl ?_ | refine thn_exit ?_ | refine thn_ret ?_ | refine inBlk_normal ?_ | refine inBlk_ret ?_ | refine inBlk_hit ?_ | refine inBlk_miss (by decide) ?_ | refine forQ_exit ?_ | refine forQ_ret ?_ | refine loopQ_exit ?_ | refine loopQ_ret ?_ | refine r_block ?_ | refine r_skip ?_ | refine r_exit ?_ | refine r_ret ?_ | (show rwp _ _ (.cond _ _ _) _ _ _; first | refine c_t (h := ?_) | refine c_f (h := ?_)))
            refine retc ⟨0, 0, 0, 0, rfl, ⟨fun _ => (chk_iff hi).2 ⟨hP', hC', hF, fun j h1 h2 => hI j (by omega) h1 h2⟩, fun _ => rfl⟩, fun h => absurd rfl h, fun _ => ⟨rfl, rfl, rfl⟩, hc15.ext (hE2.trans he8) ?_⟩ rfl
            have := hE2.size; have := he1.size; omega
end Go.Proofs.Ytjcmdmjlhngjcaa

/-
  Walks: the reference's fault, its consistency and its question whether a presentation is a group's (l08Fault, l08Consistent, l08Group).
  Conditions: the presentation is valid (l08Group: its list of orders is short).
-/
namespace Go.Proofs.Ytjcmdmjlhngjcaa
open Go Go.Pc
/-- The level i of a presentation passes, the tail behind it being a group. -/
def Lev (p : Pr) (i : Nat) : Prop := ∃ (_ : Con p (i + 1)) (hi : i < p.n), Chk p i hi
/-- All levels from i on pass. -/
def Levs (p : Pr) (i : Nat) : Prop := ∀ j, i ≤ j → j < p.n → Lev p j
/-- The presentation is a group's. -/
structure IsGrp (p : Pr) : Prop where
  valid : Valid p
  levs : Levs p 0
theorem Levs.con {p : Pr} (hv : Valid p) {i : Nat} (h : Levs p i) : Con p i := by
  by_cases hi : p.n ≤ i
  · exact con_end hv hi
  · obtain ⟨h1, h2, h3⟩ := h i (Nat.le_refl _) (by omega)
    exact con_step h2 h3
theorem IsGrp.con {p : Pr} (h : IsGrp p) (i : Nat) : Con p i := Levs.con h.valid fun j _ hj => h.levs j (Nat.zero_le _) hj
/-- What a fault says. -/
def FaultIs (p : Pr) (v : Value) : Prop := (v = faultV 0 0 0 0 ∧ Levs p 0) ∨ ∃ (k f s : Int) (i : Nat) (_ : Con p (i + 1)) (hi : i < p.n), k ≠ 0 ∧ v = faultV k i f s ∧ ¬ Chk p i hi ∧ Levs p (i + 1)
set_option maxHeartbeats 1000000 in
theorem l08Fault_ok {p : Pr} (hv : Valid p) {w : World} {vp : Value} {lo hi' : Nat} [hp : Pres lo hi' w vp p] :
    Calls Try.prog 33 #[vp] w (Ret fun v w' => FaultIs p v ∧ Ext w w') := by
  have hn6 := hv.n6
  have hol : p.ord.length = p.n := rfl
  obtain ⟨vo, vpw, vc, ps, cs, css, rfl, h1, h2, h3⟩ := hp.ex
  refine enter (args := [.agg #[vo, vpw, vc]]) (l := [.cell 2 52]) Try.func33 rfl rfl Try.ntmps33 (by simp) ?_
  repeat (first | (show rops _ _ _ _ (_ :: _) _ _; first | refine ra (next := ?_) | refine rk (next := ?_) | refine rku (next := ?_)) | refine st_end ?_ | refine thn_normal ?_ | refine r_seq ?_ | refine r_region rfl ?_ | refine thn_exit ?_ | refine thn_ret ?_ | refine inBlk_normal ?_ | refine inBlk_ret ?_ | refine inBlk_hit ?_ | refine inBlk_miss (by decide) ?_ | refine forQ_exit ?_ | refine forQ_ret ?_ | refine loopQ_exit ?_ | refine loopQ_ret ?_ | refine r_block ?_ | refine r_skip ?_ | refine r_exit ?_ | refine r_ret ?_ | (show rwp _ _ (.cond _ _ _) _ _ _; first | refine c_t (h := ?_) | refine c_f (h := ?_)))
  refine st_box3 (by ((try simp only [ev_tmp, ev_const, ev_func, get_put, get_args, get_putL, get_putL_nil, Nat.reduceEqDiff, reduceIte, List.getD_cons_zero, List.getD_cons_succ, List.getD_nil]); first | done | with_reducible rfl)) (by first | exact True.intro | exact ⟨_, rfl, by ((try simp only [ev_tmp, ev_const, ev_func, get_put, get_args, get_putL, get_putL_nil, Nat.reduceEqDiff, reduceIte, List.getD_cons_zero, List.getD_cons_succ, List.getD_nil, Bool.not_true, Bool.not_false]); first | done | with_reducible rfl)⟩) fun w1 b he1 hb1 hs1 hc0 hc1 hc2 => ?_
  repeat (first | (show rops _ _ _ _ (_ :: _) _ _; first | refine ra (next := ?_) | refine rk (next := ?_) | refine rku (next := ?_)) | refine st_end ?_ | refine thn_normal ?_ | refine r_seq ?_ | refine r_region rfl ?_ | refine thn_exit ?_ | refine thn_ret ?_ | refine inBlk_normal ?_ | refine inBlk_ret ?_ | refine inBlk_hit ?_ | refine inBlk_miss (by decide) ?_ | refine forQ_exit ?_ | refine forQ_ret ?_ | refine loopQ_exit ?_ | refine loopQ_ret ?_ | refine r_block ?_ | refine r_skip ?_ | refine r_exit ?_ | refine r_ret ?_ | (show rwp _ _ (.cond _ _ _) _ _ _; first | refine c_t (h := ?_) | refine c_f (h := ?_)))
  refine st_alloc (by first | exact True.intro | exact ⟨_, rfl, by ((try simp only [ev_tmp, ev_const, ev_func, get_put, get_args, get_putL, get_putL_nil, Nat.reduceEqDiff, reduceIte, List.getD_cons_zero, List.getD_cons_succ, List.getD_nil, Bool.not_true, Bool.not_false]); first | done | with_reducible rfl)⟩) fun w2 bf he2 hbf hs2 hbk => ?_
  have hE2 : Ext w w2 := he1.trans he2
  repeat (first | (show rops _ _ _ _ (_ :: _) _ _; first | refine ra (next := ?_) | refine rk (next := ?_) | refine rku (next := ?_)) | refine st_end ?_ | refine thn_normal ?_ | refine r_seq ?_ | refine r_region rfl ?_ | refine thn_exit ?_ | refine thn_ret ?_ | refine inBlk_normal ?_ | refine inBlk_ret ?_ | refine inBlk_hit ?_ | refine inBlk_miss (by decide) ?_ | refine forQ_exit ?_ | refine forQ_ret ?_ | refine loopQ_exit ?_ | refine loopQ_ret ?_ | refine r_block ?_ | refine r_skip ?_ | refine r_exit ?_ | refine r_ret ?_ | (show rwp _ _ (.cond _ _ _) _ _ _; first | refine c_t (h := ?_) | refine c_f (h := ?_)))
  refine r_for p.n (fun k ρ w' => Has ρ [(1, .pointer (some ⟨b, 0, none⟩)), (2, .pointer (some ⟨bf, 0, none⟩)), (3, .int .i64 ((p.n : Int) - 1 - k))] ∧ Ext w2 w' ∧ Levs p (p.n - k)) ?_ ?_
  · refine ⟨?_, Ext.refl _, fun j h h' => by omega⟩
    ((try simp only [Has, ev_tmp, ev_const, ev_func, get_put, get_args, get_putL, get_putL_nil, Nat.reduceEqDiff, reduceIte, List.getD_cons_zero, List.getD_cons_succ, List.getD_nil]); repeat' (first | exact True.intro | apply And.intro | with_reducible rfl | exact int_congr (by first | omega | rfl)))
  rintro k ρ w3 hk ⟨hH, he3, hL⟩
  refine rwp_has hH fun ρ0 => ?_
  repeat (first | (show rops _ _ _ _ (_ :: _) _ _; first | refine ra (next := ?_) | refine rk (next := ?_) | refine rku (next := ?_)) | refine st_end ?_ | refine thn_normal ?_ | refine r_seq ?_ | refine r_region rfl ?_ | refine thn_exit ?_ | refine thn_ret ?_ | refine inBlk_normal ?_ | refine inBlk_ret ?_ | refine inBlk_hit ?_ | refine inBlk_miss (by decide) ?_ | refine forQ_exit ?_ | refine forQ_ret ?_ | refine loopQ_exit ?_ | refine loopQ_ret ?_ | refine r_block ?_ | refine r_skip ?_ | refine r_exit ?_ | refine r_ret ?_ | (show rwp _ _ (.cond _ _ _) _ _ _; first | refine c_t (h := ?_) | refine c_f (h := ?_)))
  refine c_if (fun h4 => ?_) (fun h4 => ?_)
  · obtain ⟨i, hie⟩ : ∃ i : Nat, (p.n : Int) - 1 - k = i := ⟨p.n - 1 - k, by omega⟩
    have hi : i < p.n := by omega
    rw [show p.n - k = i + 1 by omega] at hL
    have hc : Con p (i + 1) := Levs.con hv hL
    repeat (first | (show rops _ _ _ _ (_ :: _) _ _; first | refine ra (next := ?_) | refine rk (next := ?_) | refine rku (next := ?_)) | refine st_end ?_ | refine thn_normal ?_ | refine r_seq ?_ | refine r_region rfl ?_ | refine thn_exit ?_ | refine thn_ret ?_ | refine inBlk_normal ?_ | refine inBlk_ret ?_ | refine inBlk_hit ?_ | refine inBlk_miss (by decide) ?_ | refine forQ_exit ?_ | refine forQ_ret ?_ | refine loopQ_exit ?_ | refine loopQ_ret ?_ | refine r_block ?_ | refine r_skip ?_ | refine r_exit ?_ | refine r_ret ?_ | (show rwp _ _ (.cond _ _ _) _ _ _; first | refine c_t (h := ?_) | refine c_f (h := ?_)))
    refine rc (l08Level_ok (p := p) (i := i) hi hie) (next := fun v5 w5 h5 => ?_)
    obtain ⟨k5, l5, f5, s5, rfl, hz, hl5, h05, he5⟩ := h5
    repeat (first | (show rops _ _ _ _ (_ :: _) _ _; first | refine ra (next := ?_) | refine rk (next := ?_) | refine rku (next := ?_)) | refine st_end ?_ | refine thn_normal ?_ | refine r_seq ?_ | refine r_region rfl ?_ | refine thn_exit ?_ | refine thn_ret ?_ | refine inBlk_normal ?_ | refine inBlk_ret ?_ | refine inBlk_hit ?_ | refine inBlk_miss (by decide) ?_ | refine forQ_exit ?_ | refine forQ_ret ?_ | refine loopQ_exit ?_ | refine loopQ_ret ?_ | refine r_block ?_ | refine r_skip ?_ | refine r_exit ?_ | refine r_ret ?_ | (show rwp _ _ (.cond _ _ _) _ _ _; first | refine c_t (h := ?_) | refine c_f (h := ?_)))
    refine st_alloc (by first | exact True.intro | exact ⟨_, rfl, by ((try simp only [ev_tmp, ev_const, ev_func, get_put, get_args, get_putL, get_putL_nil, Nat.reduceEqDiff, reduceIte, List.getD_cons_zero, List.getD_cons_succ, List.getD_nil, Bool.not_true, Bool.not_false]); first | done | with_reducible rfl)⟩) fun w6 b6 he6 hb6 hs6 hbk6 => ?_
    repeat (first | (show rops _ _ _ _ (_ :: _) _ _; first | refine ra (next := ?_) | refine rk (next := ?_) | refine rku (next := ?_)) | refine st_end ?_ | refine thn_normal ?_ | refine r_seq ?_ | refine r_region rfl ?_ | refine thn_exit ?_ | refine thn_ret ?_ | refine inBlk_normal ?_ | refine inBlk_ret ?_ | refine inBlk_hit ?_ | refine inBlk_miss (by decide) ?_ | refine forQ_exit ?_ | refine forQ_ret ?_ | refine loopQ_exit ?_ | refine loopQ_ret ?_ | refine r_block ?_ | refine r_skip ?_ | refine r_exit ?_ | refine r_ret ?_ | (show rwp _ _ (.cond _ _ _) _ _ _; first | refine c_t (h := ?_) | refine c_f (h := ?_)))
    refine st_store_agg (vs := [.int .i64 k5, .int .i64 l5, .int .i64 f5, .int .i64 s5]) (cs := _) (by ((try simp only [ev_tmp, ev_const, ev_func, get_put, get_args, get_putL, get_putL_nil, Nat.reduceEqDiff, reduceIte, List.getD_cons_zero, List.getD_cons_succ, List.getD_nil]); first | done | with_reducible rfl)) (by ((try simp only [ev_tmp, ev_const, ev_func, get_put, get_args, get_putL, get_putL_nil, Nat.reduceEqDiff, reduceIte, List.getD_cons_zero, List.getD_cons_succ, List.getD_nil]); first | done | with_reducible rfl)) rfl ?_ rfl (by first | exact True.intro | exact ⟨_, rfl, by ((try simp only [ev_tmp, ev_const, ev_func, get_put, get_args, get_putL, get_putL_nil, Nat.reduceEqDiff, reduceIte, List.getD_cons_zero, List.getD_cons_succ, List.getD_nil, Bool.not_true, Bool.not_false]); first | done | with_reducible rfl)⟩) fun w7 hc7 hs7 hb7 => ?_
    · rfl
    have hs2 := he2.size
    have hs3 := he3.size
    have hs5 := he5.size
    have hE7 : Ext w2 w7 := hc7.ext ((he3.trans he5).trans he6) (by omega)
    have hcell : Cell w7 b6 0 (.int .i64 k5) := hb7.cell rfl
    repeat (first | (show rops _ _ _ _ (_ :: _) _ _; first | refine ra (next := ?_) | refine rk (next := ?_) | refine rku (next := ?_)) | refine st_end ?_ | refine thn_normal ?_ | refine r_seq ?_ | refine r_region rfl ?_ | refine thn_exit ?_ | refine thn_ret ?_ | refine inBlk_normal ?_ | refine inBlk_ret ?_ | refine inBlk_hit ?_ | refine inBlk_miss (by decide) ?_ | refine forQ_exit ?_ | refine forQ_ret ?_ | refine loopQ_exit ?_ | refine loopQ_ret ?_ | refine r_block ?_ | refine r_skip ?_ | refine r_exit ?_ | refine r_ret ?_ | (show rwp _ _ (.cond _ _ _) _ _ _; first | refine c_t (h := ?_) | refine c_f (h := ?_)))
    refine c_if (fun h8 => ?_) (fun h8 => ?_)
    · repeat (first | (show rops _ _ _ _ (_ :: _) _ _; first | refine ra (next := ?_) | refine rk (next := ?_) | refine rku (next := ?_)) | refine st_end ?_ | refine thn_normal ?_ | refine r_seq ?_ | refine r_region rfl ?_ | refine thn_exit ?_ | refine thn_ret ?_ | refine inBlk_normal ?_ | refine inBlk_ret ?_ | refine inBlk_hit ?_ | refine inBlk_miss (by decide) ?_ | refine forQ_exit ?_ | refine forQ_ret ?_ | refine loopQ_exit ?_ | refine loopQ_ret ?_ | refine r_block ?_ | refine r_skip ?_ | refine r_exit ?_ | refine r_ret ?_ | (show rwp _ _ (.cond _ _ _) _ _ _; first | refine c_t (h := ?_) | refine c_f (h := ?_)))
      refine ra (v := faultV k5 l5 f5 s5) (h := rd_load_blk (hb := hb7) (by ((try simp only [ev_tmp, ev_const, ev_func, get_put, get_args, get_putL, get_putL_nil, Nat.reduceEqDiff, reduceIte, List.getD_cons_zero, List.getD_cons_succ, List.getD_nil]); first | done | with_reducible rfl)) rfl) (next := ?_)
      refine st_store_agg (vs := [.int .i64 k5, .int .i64 l5, .int .i64 f5, .int .i64 s5]) (cs := _) (hb := Blk.ext (x := hE7) (h := hbk)) (by ((try simp only [ev_tmp, ev_const, ev_func, get_put, get_args, get_putL, get_putL_nil, Nat.reduceEqDiff, reduceIte, List.getD_cons_zero, List.getD_cons_succ, List.getD_nil]); first | done | with_reducible rfl)) (by ((try simp only [ev_tmp, ev_const, ev_func, get_put, get_args, get_putL, get_putL_nil, Nat.reduceEqDiff, reduceIte, List.getD_cons_zero, List.getD_cons_succ, List.getD_nil]); first | done | with_reducible rfl)) rfl ?_ rfl (by first | exact True.intro | exact ⟨_, rfl, by ((try simp only [ev_tmp, ev_const, ev_func, get_put, get_args, get_putL, get_putL_nil, Nat.reduceEqDiff, reduceIte, List.getD_cons_zero, List.getD_cons_succ, List.getD_nil, Bool.not_true, Bool.not_false]); first | done | with_reducible rfl)⟩) fun w9 hc9 hs9 hb9 => ?_
      · rfl
      repeat (first | (show rops _ _ _ _ (_ :: _) _ _; first | refine ra (next := ?_) | refine rk (next := ?_) | refine rku (next := ?_)) | refine st_end ?_ | refine thn_normal ?_ | refine r_seq ?_ | refine r_region rfl ?_ | refine thn_exit ?_ | refine thn_ret ?_ | refine inBlk_normal ?_ | refine inBlk_ret ?_ | refine inBlk_hit ?_ | refine inBlk_miss (by decide) ?_ | refine forQ_exit ?_ | refine forQ_ret ?_ | refine loopQ_exit ?_ | refine loopQ_ret ?_ | refine r_block ?_ | refine r_skip ?_ | refine r_exit ?_ | refine r_ret ?_ | (show rwp _ _ (.cond _ _ _) _ _ _; first | refine c_t (h := ?_) | refine c_f (h := ?_)))
      refine retc (b := bf) ⟨.inr ⟨k5, f5, s5, i, hc, hi, by simpa using h8, ?_, fun h => absurd (hz.2 h) (by simpa using h8), hL⟩, hc9.ext (hE2.trans hE7) (by omega)⟩ rfl
      rw [hl5 (by simpa using h8)]
    · have hk5 : k5 = 0 := by simpa using h8
      repeat (first | (show rops _ _ _ _ (_ :: _) _ _; first | refine ra (next := ?_) | refine rk (next := ?_) | refine rku (next := ?_)) | refine st_end ?_ | refine thn_normal ?_ | refine r_seq ?_ | refine r_region rfl ?_ | refine thn_exit ?_ | refine thn_ret ?_ | refine inBlk_normal ?_ | refine inBlk_ret ?_ | refine inBlk_hit ?_ | refine inBlk_miss (by decide) ?_ | refine forQ_exit ?_ | refine forQ_ret ?_ | refine loopQ_exit ?_ | refine loopQ_ret ?_ | refine r_block ?_ | refine r_skip ?_ | refine r_exit ?_ | refine r_ret ?_ | (show rwp _ _ (.cond _ _ _) _ _ _; first | refine c_t (h := ?_) | refine c_f (h := ?_)))
      refine forQ_normal (by omega) ⟨?_, hE7, fun j hj hjn => ?_⟩
      · ((try simp only [Has, ev_tmp, ev_const, ev_func, get_put, get_args, get_putL, get_putL_nil, Nat.reduceEqDiff, reduceIte, List.getD_cons_zero, List.getD_cons_succ, List.getD_nil]); repeat' (first | exact True.intro | apply And.intro | with_reducible rfl | exact int_congr (by first | omega | rfl)))
      · by_cases e : j = i
        · subst e; exact ⟨hc, hi, hz.1 hk5⟩
        · exact hL j (by omega) hjn
  · repeat (first | (show rops _ _ _ _ (_ :: _) _ _; first | refine ra (next := ?_) | refine rk (next := ?_) | refine rku (next := ?_)) | refine st_end ?_ | refine thn_normal ?_ | refine r_seq ?_ | refine r_region rfl ?_ | refine thn_exit ?_ | refine thn_ret ?_ | refine inBlk_normal ?_ | refine inBlk_ret ?_ | refine inBlk_hit ?_ | refine inBlk_miss (by decide) ?_ | refine forQ_exit ?_ | refine forQ_ret ?_ | refine loopQ_exit ?_ | refine loopQ_ret ?_ | refine r_block ?_ | refine r_skip ?_ | refine r_exit ?_ | refine r_ret ?_ | (show rwp _ _ (.cond _ _ _) _ _ _; first | refine c_t (h := ?_) | refine c_f (h := ?_)))
    refine ra (v := faultV 0 0 0 0) (h := rd_build (by rfl) (fun _ => by kernel_rfl)) (next := ?_)
    refine st_store_agg (vs := [.int .i64 0, .int .i64 0, .int .i64 0, .int .i64 0]) (cs := _) (by ((try simp only [ev_tmp, ev_const, ev_func, get_put, get_args, get_putL, get_putL_nil, Nat.reduceEqDiff, reduceIte, List.getD_cons_zero, List.getD_cons_succ, List.getD_nil]); first | done | with_reducible rfl)) (by ((try simp only [ev_tmp, ev_const, ev_func, get_put, get_args, get_putL, get_putL_nil, Nat.reduceEqDiff, reduceIte, List.getD_cons_zero, List.getD_cons_succ, List.getD_nil]); first | done | with_reducible rfl)) rfl ?_ rfl (by first | exact True.intro | exact ⟨_, rfl, by ((try simp only [ev_tmp, ev_const, ev_func, get_put, get_args, get_putL, get_putL_nil, Nat.reduceEqDiff, reduceIte, List.getD_cons_zero, List.getD_cons_succ, List.getD_nil, Bool.not_true, Bool.not_false]); first | done | with_reducible rfl)⟩) fun w9 hc9 hs9 hb9 => ?_
    · rfl
    have hs2 := he2.size
    repeat (first | (show rops _ _ _ _ (_ :: _) _ _; first | refine ra (next := ?_) | refine rk (next := ?_) | refine rku (next := ?_)) | refine st_end ?_ | refine thn_normal ?_ | refine r_seq ?_ | refine r_region rfl ?_ | refine thn_exit ?_ | refine thn_ret ?_ | refine inBlk_normal ?_ | refine inBlk_ret ?_ | refine inBlk_hit ?_ | refine inBlk_miss (by decide) ?_ | refine forQ_exit ?_ | refine forQ_ret ?_ | refine loopQ_exit ?_ | refine loopQ_ret ?_ | refine r_block ?_ | refine r_skip ?_ | refine r_exit ?_ | refine r_ret ?_ | (show rwp _ _ (.cond _ _ _) _ _ _; first | refine c_t (h := ?_) | refine c_f (h := ?_)))
    refine retc ⟨.inl ⟨rfl, fun j _ hj => hL j (by omega) hj⟩, hc9.ext (hE2.trans he3) (by omega)⟩ rfl
set_option maxHeartbeats 1000000 in
theorem l08Consistent_ok {p : Pr} (hv : Valid p) {w : World} {vp : Value} {lo hi' : Nat} [hp : Pres lo hi' w vp p] :
    Calls Try.prog 22 #[vp] w (Ret fun v w' => ∃ b, v = .bool b ∧ (b = true ↔ Levs p 0) ∧ Ext w w') := by
  obtain ⟨vo, vpw, vc, ps, cs, css, rfl, h1, h2, h3⟩ := hp.ex
  refine enter (args := [.agg #[vo, vpw, vc]]) (l := [.tmp 2]) Try.func22 rfl rfl Try.ntmps22 (by simp) ?_
  repeat (first | (show rops _ _ _ _ (_ :: _) _ _; first | refine ra (next := ?_) | refine rk (next := ?_) | refine rku (next := ?_)) | refine st_end ?_ | refine thn_normal ?_ | refine r_seq ?_ | refine r_region rfl ?_ | refine thn_exit ?_ | refine thn_ret ?_ | refine inBlk_normal ?_ | refine inBlk_ret ?_ | refine inBlk_hit ?_ | refine inBlk_miss (by decide) ?_ | refine forQ_exit ?_ | refine forQ_ret ?_ | refine loopQ_exit ?_ | refine loopQ_ret ?_ | refine r_block ?_ | refine r_skip ?_ | refine r_exit ?_ | refine r_ret ?_ | (show rwp _ _ (.cond _ _ _) _ _ _; first | refine c_t (h := ?_) | refine c_f (h := ?_)))
  refine st_box3 (by ((try simp only [ev_tmp, ev_const, ev_func, get_put, get_args, get_putL, get_putL_nil, Nat.reduceEqDiff, reduceIte, List.getD_cons_zero, List.getD_cons_succ, List.getD_nil]); first | done | with_reducible rfl)) (by first | exact True.intro | exact ⟨_, rfl, by ((try simp only [ev_tmp, ev_const, ev_func, get_put, get_args, get_putL, get_putL_nil, Nat.reduceEqDiff, reduceIte, List.getD_cons_zero, List.getD_cons_succ, List.getD_nil, Bool.not_true, Bool.not_false]); first | done | with_reducible rfl)⟩) fun w1 b he1 hb1 hs1 hc0 hc1 hc2 => ?_
  repeat (first | (show rops _ _ _ _ (_ :: _) _ _; first | refine ra (next := ?_) | refine rk (next := ?_) | refine rku (next := ?_)) | refine st_end ?_ | refine thn_normal ?_ | refine r_seq ?_ | refine r_region rfl ?_ | refine thn_exit ?_ | refine thn_ret ?_ | refine inBlk_normal ?_ | refine inBlk_ret ?_ | refine inBlk_hit ?_ | refine inBlk_miss (by decide) ?_ | refine forQ_exit ?_ | refine forQ_ret ?_ | refine loopQ_exit ?_ | refine loopQ_ret ?_ | refine r_block ?_ | refine r_skip ?_ | refine r_exit ?_ | refine r_ret ?_ | (show rwp _ _ (.cond _ _ _) _ _ _; first | refine c_t (h := ?_) | refine c_f (h := ?_)))
  refine rc (l08Fault_ok hv) (next := fun v5 w5 h5 => ?_)
  obtain ⟨h5, he5⟩ := h5
  rcases h5 with ⟨rfl, hL⟩ | ⟨k, f, s, i, hc, hi, hk, rfl, hn, hL⟩
  · repeat (first | (show rops _ _ _ _ (_ :: _) _ _; first | refine ra (next := ?_) | refine rk (next := ?_) | refine rku (next := ?_)) | refine st_end ?_ | refine thn_normal ?_ | refine r_seq ?_ | refine r_region rfl ?_ | refine thn_exit ?_ | refine thn_ret ?_ | refine inBlk_normal ?_ | refine inBlk_ret ?_ | refine inBlk_hit ?_ | refine inBlk_miss (by decide) ?_ | refine forQ_exit ?_ | refine forQ_ret ?_ | refine loopQ_exit ?_ | refine loopQ_ret ?_ | refine r_block ?_ | refine r_skip ?_ | refine r_exit ?_ | refine r_ret ?_ | (show rwp _ _ (.cond _ _ _) _ _ _; first | refine c_t (h := ?_) | refine c_f (h := ?_)))
    refine ra (v := .int .i64 0) (h := rd_fieldv (by ((try simp only [ev_tmp, ev_const, ev_func, get_put, get_args, get_putL, get_putL_nil, Nat.reduceEqDiff, reduceIte, List.getD_cons_zero, List.getD_cons_succ, List.getD_nil]); first | done | with_reducible rfl)) (fun _ => by kernel_rfl)) (next := ?_)
    repeat (first | (show rops _ _ _ _ (_ :: _) _ _; first | refine ra (next := ?_) | refine rk (next := ?_) | refine rku (next := ?_)) | refine st_end ?_ | refine thn_normal ?_ | refine r_seq ?_ | refine r_region rfl ?_ | refine thn_exit ?_ | refine thn_ret ?_ | refine inBlk_normal ?_ | refine inBlk_ret ?_ | refine inBlk_hit ?_ | refine inBlk_miss (by decide) ?_ | refine forQ_exit ?_ | refine forQ_ret ?_ | refine loopQ_exit ?_ | refine loopQ_ret ?_ | refine r_block ?_ | refine r_skip ?_ | refine r_exit ?_ | refine r_ret ?_ | (show rwp _ _ (.cond _ _ _) _ _ _; first | refine c_t (h := ?_) | refine c_f (h := ?_)))
    refine ret1 ⟨_, rfl, ?_, he1.trans he5⟩
    simpa using hL
  · repeat (first | (show rops _ _ _ _ (_ :: _) _ _; first | refine ra (next := ?_) | refine rk (next := ?_) | refine rku (next := ?_)) | refine st_end ?_ | refine thn_normal ?_ | refine r_seq ?_ | refine r_region rfl ?_ | refine thn_exit ?_ | refine thn_ret ?_ | refine inBlk_normal ?_ | refine inBlk_ret ?_ | refine inBlk_hit ?_ | refine inBlk_miss (by decide) ?_ | refine forQ_exit ?_ | refine forQ_ret ?_ | refine loopQ_exit ?_ | refine loopQ_ret ?_ | refine r_block ?_ | refine r_skip ?_ | refine r_exit ?_ | refine r_ret ?_ | (show rwp _ _ (.cond _ _ _) _ _ _; first | refine c_t (h := ?_) | refine c_f (h := ?_)))
    refine ra (v := .int .i64 k) (h := rd_fieldv (by ((try simp only [ev_tmp, ev_const, ev_func, get_put, get_args, get_putL, get_putL_nil, Nat.reduceEqDiff, reduceIte, List.getD_cons_zero, List.getD_cons_succ, List.getD_nil]); first | done | with_reducible rfl)) (fun _ => by kernel_rfl)) (next := ?_)
    repeat (first | (show rops _ _ _ _ (_ :: _) _ _; first | refine ra (next := ?_) | refine rk (next := ?_) | refine rku (next := ?_)) | refine st_end ?_ | refine thn_normal ?_ | refine r_seq ?_ | refine r_region rfl ?_ | refine thn_exit ?_ | refine thn_ret ?_ | refine inBlk_normal ?_ | refine inBlk_ret ?_ | refine inBlk_hit ?_ | refine inBlk_miss (by decide) ?_ | refine forQ_exit ?_ | refine forQ_ret ?_ | refine loopQ_exit ?_ | refine loopQ_ret ?_ | refine r_block ?_ | refine r_skip ?_ | refine r_exit ?_ | refine r_ret ?_ | (show rwp _ _ (.cond _ _ _) _ _ _; first | refine c_t (h := ?_) | refine c_f (h := ?_)))
    refine ret1 ⟨_, rfl, ?_, he1.trans he5⟩
    simp only [decide_eq_true_eq]
    refine ⟨fun h => absurd h hk, fun h => absurd ?_ hn⟩
    exact (h i (Nat.zero_le _) hi).2.2
set_option maxHeartbeats 1000000 in
theorem l08Group_ok {w : World} {vp : Value} {p : Pr} {lo hi' : Nat} [hp : Pres lo hi' w vp p] (hl : p.ord.length ≤ 2000000) :
    Calls Try.prog 14 #[vp] w (Ret fun v w' => ∃ b, v = .bool b ∧ (b = true ↔ IsGrp p) ∧ Ext w w') := by
  obtain ⟨vo, vpw, vc, ps, cs, css, rfl, h1, h2, h3⟩ := hp.ex
  refine enter (args := [.agg #[vo, vpw, vc]]) (l := [.tmp 2]) Try.func14 rfl rfl Try.ntmps14 (by simp) ?_
  repeat (first | (show rops _ _ _ _ (_ :: _) _ _; first | refine ra (next := ?_) | refine rk (next := ?_) | refine rku (next := ?_)) | refine st_end ?_ | refine thn_normal ?_ | refine r_seq ?_ | refine r_region rfl ?_ | refine thn_exit ?_ | refine thn_ret ?_ | refine inBlk_normal ?_ | refine inBlk_ret ?_ | refine inBlk_hit ?_ | refine inBlk_miss (by decide) ?_ | refine forQ_exit ?_ | refine forQ_ret ?_ | refine loopQ_exit ?_ | refine loopQ_ret ?_ | refine r_block ?_ | refine r_skip ?_ | refine r_exit ?_ | refine r_ret ?_ | (show rwp _ _ (.cond _ _ _) _ _ _; first | refine c_t (h := ?_) | refine c_f (h := ?_)))
  refine st_box3 (by ((try simp only [ev_tmp, ev_const, ev_func, get_put, get_args, get_putL, get_putL_nil, Nat.reduceEqDiff, reduceIte, List.getD_cons_zero, List.getD_cons_succ, List.getD_nil]); first | done | with_reducible rfl)) (by first | exact True.intro | exact ⟨_, rfl, by ((try simp only [ev_tmp, ev_const, ev_func, get_put, get_args, get_putL, get_putL_nil, Nat.reduceEqDiff, reduceIte, List.getD_cons_zero, List.getD_cons_succ, List.getD_nil, Bool.not_true, Bool.not_false]); first | done | with_reducible rfl)⟩) fun w1 b he1 hb1 hs1 hc0 hc1 hc2 => ?_
  repeat (first | (show rops _ _ _ _ (_ :: _) _ _; first | refine ra (next := ?_) | refine rk (next := ?_) | refine rku (next := ?_)) | refine st_end ?_ | refine thn_normal ?_ | refine r_seq ?_ | refine r_region rfl ?_ | refine thn_exit ?_ | refine thn_ret ?_ | refine inBlk_normal ?_ | refine inBlk_ret ?_ | refine inBlk_hit ?_ | refine inBlk_miss (by decide) ?_ | refine forQ_exit ?_ | refine forQ_ret ?_ | refine loopQ_exit ?_ | refine loopQ_ret ?_ | refine r_block ?_ | refine r_skip ?_ | refine r_exit ?_ | refine r_ret ?_ | (show rwp _ _ (.cond _ _ _) _ _ _; first | refine c_t (h := ?_) | refine c_f (h := ?_)))
  refine rc (spec_IsPresentation_ok hl) (next := fun v5 w5 h5 => ?_)
  obtain ⟨b5, rfl, hb5, he5⟩ := h5
  repeat (first | (show rops _ _ _ _ (_ :: _) _ _; first | refine ra (next := ?_) | refine rk (next := ?_) | refine rku (next := ?_)) | refine st_end ?_ | refine thn_normal ?_ | refine r_seq ?_ | refine r_region rfl ?_ | refine thn_exit ?_ | refine thn_ret ?_ | refine inBlk_normal ?_ | refine inBlk_ret ?_ | refine inBlk_hit ?_ | refine inBlk_miss (by decide) ?_ | refine forQ_exit ?_ | refine forQ_ret ?_ | refine loopQ_exit ?_ | refine loopQ_ret ?_ | refine r_block ?_ | refine r_skip ?_ | refine r_exit ?_ | refine r_ret ?_ | (show rwp _ _ (.cond _ _ _) _ _ _; first | refine c_t (h := ?_) | refine c_f (h := ?_)))
  refine sp (fun e5 => ?_) (fun e5 => ?_)
  · have hv := hb5.1 e5
    repeat (first | (show rops _ _ _ _ (_ :: _) _ _; first | refine ra (next := ?_) | refine rk (next := ?_) | refine rku (next := ?_)) | refine st_end ?_ | refine thn_normal ?_ | refine r_seq ?_ | refine r_region rfl ?_ | refine thn_exit ?_ | refine thn_ret ?_ | refine inBlk_normal ?_ | refine inBlk_ret ?_ | refine inBlk_hit ?_ | refine inBlk_miss (by decide) ?_ | refine forQ_exit ?_ | refine forQ_ret ?_ | refine loopQ_exit ?_ | refine loopQ_ret ?_ | refine r_block ?_ | refine r_skip ?_ | refine r_exit ?_ | refine r_ret ?_ | (show rwp _ _ (.cond _ _ _) _ _ _; first | refine c_t (h := ?_) | refine c_f (h := ?_)))
    refine rc (l08Consistent_ok hv) (next := fun v6 w6 h6 => ?_)
    obtain ⟨b6, rfl, hb6, he6⟩ := h6
    repeat (first | (show rops _ _ _ _ (_ :: _) _ _; first | refine ra (next := ?_) | refine rk (next := ?_) | refine rku (next := ?_)) | refine st_end ?_ | refine thn_normal ?_ | refine r_seq ?_ | refine r_region rfl ?_ | refine thn_exit ?_ | refine thn_ret ?_ | refine inBlk_normal ?_ | refine inBlk_ret ?_ | refine inBlk_hit ?_ | refine inBlk_miss (by decide) ?_ | refine forQ_exit ?_ | refine forQ_ret ?_ | refine loopQ_exit ?_ | refine loopQ_ret ?_ | refine r_block ?_ | refine r_skip ?_ | refine r_exit ?_ | refine r_ret ?_ | (show rwp _ _ (.cond _ _ _) _ _ _; first | refine c_t (h := ?_) | refine c_f (h := ?_)))
    exact ret1 ⟨_, rfl, hb6.trans ⟨fun h => ⟨hv, h⟩, fun h => h.levs⟩, (he1.trans he5).trans he6⟩
  · repeat (first | (show rops _ _ _ _ (_ :: _) _ _; first | refine ra (next := ?_) | refine rk (next := ?_) | refine rku (next := ?_)) | refine st_end ?_ | refine thn_normal ?_ | refine r_seq ?_ | refine r_region rfl ?_ | refine thn_exit ?_ | refine thn_ret ?_ | refine inBlk_normal ?_ | refine inBlk_ret ?_ | refine inBlk_hit ?_ | refine inBlk_miss (by decide) ?_ | refine forQ_exit ?_ | refine forQ_ret ?_ | refine loopQ_exit ?_ | refine loopQ_ret ?_ | refine r_block ?_ | refine r_skip ?_ | refine r_exit ?_ | refine r_ret ?_ | (show rwp _ _ (.cond _ _ _) _ _ _; first | refine c_t (h := ?_) | refine c_f (h := ?_)))
    refine ret1 ⟨_, rfl, ?_, he1.trans he5⟩
    simp only [Bool.false_eq_true, false_iff]
    intro h
    have := hb5.2 h.valid
    rw [e5] at this; cases this
end Go.Proofs.Ytjcmdmjlhngjcaa

/-
  Walks: the reference's elements and products (l10Element, l10Elements, l08Mul).
  Conditions: stated at each theorem.
-/
namespace Go.Proofs.Ytjcmdmjlhngjcaa
open Go Go.Pc
/-- Readings of a list of integers as an element. -/
theorem el_iff {p : Pr} {v : List Int} : ExpP p.ord v (-1) ↔ InR p v := by
  constructor
  · rintro ⟨h1, h2⟩
    refine ⟨h1, fun i hi => ?_⟩
    have := (h2 i (by rw [h1]; exact hi)).1
    exact ⟨this.1, by show v.getD i 0 < p.ord.getD i 0; omega⟩
  · intro h
    refine ⟨h.len, fun i hi => ?_⟩
    have := h.rng i (by have := h.len; omega)
    have h2 : v.getD i 0 < p.ord.getD i 0 := this.2
    exact ⟨⟨this.1, by omega⟩, fun h => by omega⟩
set_option maxHeartbeats 1000000 in
theorem l10Element_ok {p : Pr} (hv : Valid p) {w : World} {vp vx : Value} {xs : List Int} {lo hi lo1 hi1 : Nat} [hp : Pres lo hi w vp p] [hx : Ints lo1 hi1 w vx xs] :
    Calls Try.prog 34 #[vp, vx] w (Ret fun v w' => ∃ b, v = .bool b ∧ (b = true ↔ InR p xs) ∧ Ext w w') := by
  have hn6 := hv.n6
  have hol : p.ord.length = p.n := rfl
  obtain ⟨vo, vpw, vc, ps, cs, css, rfl, h1, h2, h3⟩ := hp.ex
  refine enter (args := [.agg #[vo, vpw, vc], vx]) (l := [.tmp 4]) Try.func34 rfl rfl Try.ntmps34 (by simp) ?_
  repeat (first | (show rops _ _ _ _ (_ :: _) _ _; first | refine ra (next := ?_) | refine rk (next := ?_) | refine rku (next := ?_)) | refine st_end ?_ | refine thn_normal ?_ | refine r_seq ?_ | refine r_region rfl ?_ | refine thn_exit ?_ | refine thn_ret ?_ | refine inBlk_normal ?_ | refine inBlk_ret ?_ | refine inBlk_hit ?_ | refine inBlk_miss (by decide) ?_ | refine forQ_exit ?_ | refine forQ_ret ?_ | refine loopQ_exit ?_ | refine loopQ_ret ?_ | refine r_block ?_ | refine r_skip ?_ | refine r_exit ?_ | refine r_ret ?_ | (show rwp _ _ (.cond _ _ _) _ _ _; first | refine c_t (h := ?_) | refine c_f (h := ?_)))
  refine st_box3 (by ((try simp only [ev_tmp, ev_const, ev_func, get_put, get_args, get_putL, get_putL_nil, Nat.reduceEqDiff, reduceIte, List.getD_cons_zero, List.getD_cons_succ, List.getD_nil]); first | done | with_reducible rfl)) (by first | exact True.intro | exact ⟨_, rfl, by ((try simp only [ev_tmp, ev_const, ev_func, get_put, get_args, get_putL, get_putL_nil, Nat.reduceEqDiff, reduceIte, List.getD_cons_zero, List.getD_cons_succ, List.getD_nil, Bool.not_true, Bool.not_false]); first | done | with_reducible rfl)⟩) fun w1 b he1 hb1 hs1 hc0 hc1 hc2 => ?_
  repeat (first | (show rops _ _ _ _ (_ :: _) _ _; first | refine ra (next := ?_) | refine rk (next := ?_) | refine rku (next := ?_)) | refine st_end ?_ | refine thn_normal ?_ | refine r_seq ?_ | refine r_region rfl ?_ | refine thn_exit ?_ | refine thn_ret ?_ | refine inBlk_normal ?_ | refine inBlk_ret ?_ | refine inBlk_hit ?_ | refine inBlk_miss (by decide) ?_ | refine forQ_exit ?_ | refine forQ_ret ?_ | refine loopQ_exit ?_ | refine loopQ_ret ?_ | refine r_block ?_ | refine r_skip ?_ | refine r_exit ?_ | refine r_ret ?_ | (show rwp _ _ (.cond _ _ _) _ _ _; first | refine c_t (h := ?_) | refine c_f (h := ?_)))
  refine rc (l07Exponents_ok (os := p.ord) (xs := xs) (z := -1) (fun i hi => ?_) ?_) (next := fun v2 w2 h2 => ?_)
  · have : 2 ≤ p.ord.getD i 0 ∧ p.ord.getD i 0 ≤ 7 := hv.opos hi
    omega
  · omega
  obtain ⟨b2, rfl, hb2, he2⟩ := h2
  repeat (first | (show rops _ _ _ _ (_ :: _) _ _; first | refine ra (next := ?_) | refine rk (next := ?_) | refine rku (next := ?_)) | refine st_end ?_ | refine thn_normal ?_ | refine r_seq ?_ | refine r_region rfl ?_ | refine thn_exit ?_ | refine thn_ret ?_ | refine inBlk_normal ?_ | refine inBlk_ret ?_ | refine inBlk_hit ?_ | refine inBlk_miss (by decide) ?_ | refine forQ_exit ?_ | refine forQ_ret ?_ | refine loopQ_exit ?_ | refine loopQ_ret ?_ | refine r_block ?_ | refine r_skip ?_ | refine r_exit ?_ | refine r_ret ?_ | (show rwp _ _ (.cond _ _ _) _ _ _; first | refine c_t (h := ?_) | refine c_f (h := ?_)))
  exact ret1 ⟨_, rfl, hb2.trans el_iff, he1.trans he2⟩
set_option maxHeartbeats 1000000 in
theorem l10Elements_ok {p : Pr} (hv : Valid p) {w : World} {vp vx : Value} {us : List Value} {xss : List (List Int)} {lo hi lo1 hi1 : Nat} [hp : Pres lo hi w vp p] [hx : Pc.Rows lo1 hi1 w vx us xss] (hl : xss.length ≤ 10000000) :
    Calls Try.prog 23 #[vp, vx] w (Ret fun v w' => ∃ b, v = .bool b ∧ (b = true ↔ ∀ i, i < xss.length → InR p (xss.getD i [])) ∧ Ext w w') := by
  have hul := hx.vals.len
  obtain ⟨vo, vpw, vc, ps, cs, css, rfl, h1, h2, h3⟩ := hp.ex
  refine enter (args := [.agg #[vo, vpw, vc], vx]) (l := [.tmp 4]) Try.func23 rfl rfl Try.ntmps23 (by simp) ?_
  repeat (first | (show rops _ _ _ _ (_ :: _) _ _; first | refine ra (next := ?_) | refine rk (next := ?_) | refine rku (next := ?_)) | refine st_end ?_ | refine thn_normal ?_ | refine r_seq ?_ | refine r_region rfl ?_ | refine thn_exit ?_ | refine thn_ret ?_ | refine inBlk_normal ?_ | refine inBlk_ret ?_ | refine inBlk_hit ?_ | refine inBlk_miss (by decide) ?_ | refine forQ_exit ?_ | refine forQ_ret ?_ | refine loopQ_exit ?_ | refine loopQ_ret ?_ | refine r_block ?_ | refine r_skip ?_ | refine r_exit ?_ | refine r_ret ?_ | (show rwp _ _ (.cond _ _ _) _ _ _; first | refine c_t (h := ?_) | refine c_f (h := ?_)))
  refine st_box3 (by ((try simp only [ev_tmp, ev_const, ev_func, get_put, get_args, get_putL, get_putL_nil, Nat.reduceEqDiff, reduceIte, List.getD_cons_zero, List.getD_cons_succ, List.getD_nil]); first | done | with_reducible rfl)) (by first | exact True.intro | exact ⟨_, rfl, by ((try simp only [ev_tmp, ev_const, ev_func, get_put, get_args, get_putL, get_putL_nil, Nat.reduceEqDiff, reduceIte, List.getD_cons_zero, List.getD_cons_succ, List.getD_nil, Bool.not_true, Bool.not_false]); first | done | with_reducible rfl)⟩) fun w1 b he1 hb1 hs1 hc0 hc1 hc2 => ?_
  repeat (first | (show rops _ _ _ _ (_ :: _) _ _; first | refine ra (next := ?_) | refine rk (next := ?_) | refine rku (next := ?_)) | refine st_end ?_ | refine thn_normal ?_ | refine r_seq ?_ | refine r_region rfl ?_ | refine thn_exit ?_ | refine thn_ret ?_ | refine inBlk_normal ?_ | refine inBlk_ret ?_ | refine inBlk_hit ?_ | refine inBlk_miss (by decide) ?_ | refine forQ_exit ?_ | refine forQ_ret ?_ | refine loopQ_exit ?_ | refine loopQ_ret ?_ | refine r_block ?_ | refine r_skip ?_ | refine r_exit ?_ | refine r_ret ?_ | (show rwp _ _ (.cond _ _ _) _ _ _; first | refine c_t (h := ?_) | refine c_f (h := ?_)))
  refine r_for xss.length (fun k ρ w' => Has ρ [(1, vx), (2, .pointer (some ⟨b, 0, none⟩)), (5, .int .i64 k)] ∧ Ext w1 w' ∧ ∀ i, i < k → InR p (xss.getD i [])) ?_ ?_
  · refine ⟨?_, Ext.refl _, fun i hi => by omega⟩
    ((try simp only [Has, ev_tmp, ev_const, ev_func, get_put, get_args, get_putL, get_putL_nil, Nat.reduceEqDiff, reduceIte, List.getD_cons_zero, List.getD_cons_succ, List.getD_nil]); repeat' (first | exact True.intro | apply And.intro | with_reducible rfl | exact int_congr (by first | omega | rfl)))
  rintro k ρ w2 hk ⟨hH, he2, hI⟩
  refine rwp_has hH fun ρ0 => ?_
  repeat (first | (show rops _ _ _ _ (_ :: _) _ _; first | refine ra (next := ?_) | refine rk (next := ?_) | refine rku (next := ?_)) | refine st_end ?_ | refine thn_normal ?_ | refine r_seq ?_ | refine r_region rfl ?_ | refine thn_exit ?_ | refine thn_ret ?_ | refine inBlk_normal ?_ | refine inBlk_ret ?_ | refine inBlk_hit ?_ | refine inBlk_miss (by decide) ?_ | refine forQ_exit ?_ | refine forQ_ret ?_ | refine loopQ_exit ?_ | refine loopQ_ret ?_ | refine r_block ?_ | refine r_skip ?_ | refine r_exit ?_ | refine r_ret ?_ | (show rwp _ _ (.cond _ _ _) _ _ _; first | refine c_t (h := ?_) | refine c_f (h := ?_)))
  refine c_if (fun h4 => ?_) (fun h4 => ?_)
  · repeat (first | (show rops _ _ _ _ (_ :: _) _ _; first | refine ra (next := ?_) | refine rk (next := ?_) | refine rku (next := ?_)) | refine st_end ?_ | refine thn_normal ?_ | refine r_seq ?_ | refine r_region rfl ?_ | refine thn_exit ?_ | refine thn_ret ?_ | refine inBlk_normal ?_ | refine inBlk_ret ?_ | refine inBlk_hit ?_ | refine inBlk_miss (by decide) ?_ | refine forQ_exit ?_ | refine forQ_ret ?_ | refine loopQ_exit ?_ | refine loopQ_ret ?_ | refine r_block ?_ | refine r_skip ?_ | refine r_exit ?_ | refine r_ret ?_ | (show rwp _ _ (.cond _ _ _) _ _ _; first | refine c_t (h := ?_) | refine c_f (h := ?_)))
    refine d_region fun w3 he3 _ => ?_
    repeat (first | refine da (next := ?_) | refine dsk (next := ?_) | refine dsku (next := ?_))
    refine dc (l10Element_ok hv (xs := xss.getD k [])) (next := fun v4 w4 h4 => ?_)
    obtain ⟨b4, rfl, hb4, he4⟩ := h4
    refine ⟨fun h => h.trans he4, ?_⟩
    repeat (first | refine da (next := ?_) | refine dsk (next := ?_) | refine dsku (next := ?_))
    refine d_end (h := ?_)
    repeat (first | (show rops _ _ _ _ (_ :: _) _ _; first | refine ra (next := ?_) | refine rk (next := ?_) | refine rku (next := ?_)) | refine st_end ?_ | refine thn_normal ?_ | refine r_seq ?_ | refine r_region rfl ?_ | refine thn_exit ?_ | refine thn_ret ?_ | refine inBlk_normal ?_ | refine inBlk_ret ?_ | refine inBlk_hit ?_ | refine inBlk_miss (by decide) ?_ | refine forQ_exit ?_ | refine forQ_ret ?_ | refine loopQ_exit ?_ | refine loopQ_ret ?_ | refine r_block ?_ | refine r_skip ?_ | refine r_exit ?_ | refine r_ret ?_ | (show rwp _ _ (.cond _ _ _) _ _ _; first | refine c_t (h := ?_) | refine c_f (h := ?_)))
    refine c_b (fun h5 => ?_) (fun h5 => ?_)
    · repeat (first | (show rops _ _ _ _ (_ :: _) _ _; first | refine ra (next := ?_) | refine rk (next := ?_) | refine rku (next := ?_)) | refine st_end ?_ | refine thn_normal ?_ | refine r_seq ?_ | refine r_region rfl ?_ | refine thn_exit ?_ | refine thn_ret ?_ | refine inBlk_normal ?_ | refine inBlk_ret ?_ | refine inBlk_hit ?_ | refine inBlk_miss (by decide) ?_ | refine forQ_exit ?_ | refine forQ_ret ?_ | refine loopQ_exit ?_ | refine loopQ_ret ?_ | refine r_block ?_ | refine r_skip ?_ | refine r_exit ?_ | refine r_ret ?_ | (show rwp _ _ (.cond _ _ _) _ _ _; first | refine c_t (h := ?_) | refine c_f (h := ?_)))
      refine ret1 ⟨_, rfl, ?_, ((he1.trans he2).trans he3).trans he4⟩
      simp only [Bool.false_eq_true, false_iff]
      intro h
      have := hb4.2 (h k (by omega))
      rw [this] at h5; cases h5
    · have h6 := hb4.1 (by simpa using h5)
      repeat (first | (show rops _ _ _ _ (_ :: _) _ _; first | refine ra (next := ?_) | refine rk (next := ?_) | refine rku (next := ?_)) | refine st_end ?_ | refine thn_normal ?_ | refine r_seq ?_ | refine r_region rfl ?_ | refine thn_exit ?_ | refine thn_ret ?_ | refine inBlk_normal ?_ | refine inBlk_ret ?_ | refine inBlk_hit ?_ | refine inBlk_miss (by decide) ?_ | refine forQ_exit ?_ | refine forQ_ret ?_ | refine loopQ_exit ?_ | refine loopQ_ret ?_ | refine r_block ?_ | refine r_skip ?_ | refine r_exit ?_ | refine r_ret ?_ | (show rwp _ _ (.cond _ _ _) _ _ _; first | refine c_t (h := ?_) | refine c_f (h := ?_)))
      refine forQ_normal (by omega) ⟨?_, (he2.trans he3).trans he4, fun i hi => ?_⟩
      · ((try simp only [Has, ev_tmp, ev_const, ev_func, get_put, get_args, get_putL, get_putL_nil, Nat.reduceEqDiff, reduceIte, List.getD_cons_zero, List.getD_cons_succ, List.getD_nil]); repeat' (first | exact True.intro | apply And.intro | with_reducible rfl | exact int_congr (by first | omega | rfl)))
      · by_cases e : i = k
        · subst e; exact h6
        · exact hI i (by omega)
  · repeat (first | (show rops _ _ _ _ (_ :: _) _ _; first | refine ra (next := ?_) | refine rk (next := ?_) | refine rku (next := ?_)) | refine st_end ?_ | refine thn_normal ?_ | refine r_seq ?_ | refine r_region rfl ?_ | refine thn_exit ?_ | refine thn_ret ?_ | refine inBlk_normal ?_ | refine inBlk_ret ?_ | refine inBlk_hit ?_ | refine inBlk_miss (by decide) ?_ | refine forQ_exit ?_ | refine forQ_ret ?_ | refine loopQ_exit ?_ | refine loopQ_ret ?_ | refine r_block ?_ | refine r_skip ?_ | refine r_exit ?_ | refine r_ret ?_ | (show rwp _ _ (.cond _ _ _) _ _ _; first | refine c_t (h := ?_) | refine c_f (h := ?_)))
    refine ret1 ⟨_, rfl, ?_, he1.trans he2⟩
    simp only [true_iff]
    exact fun i hi => hI i (by omega)
set_option maxHeartbeats 1000000 in
theorem l08Mul_ok {p : Pr} [hc : ConAll p] {w : World} {vp va vb : Value} {x y : El p} {xs ys : List Int} {lo hi lo1 hi1 lo2 hi2 : Nat} [hp : Pres lo hi w vp p] [hx : Ints lo1 hi1 w va xs] [hy : Ints lo2 hi2 w vb ys] (hxe : xs = x.v) (hye : ys = y.v) :
    Calls Try.prog 53 #[vp, va, vb] w (Ret fun v w' => Ext w w' ∧ Fr w.heap.size w' v (x * y).v) := by
  subst hxe hye
  obtain ⟨vo, vpw, vc, ps, cs, css, rfl, h1, h2, h3⟩ := hp.ex
  refine enter (args := [.agg #[vo, vpw, vc], va, vb]) (l := [.tmp 6]) Try.func53 rfl rfl Try.ntmps53 (by simp) ?_
  repeat (first | (show rops _ _ _ _ (_ :: _) _ _; first | refine ra (next := ?_) | refine rk (next := ?_) | refine rku (next := ?_)) | refine st_end ?_ | refine thn_normal ?_ | refine r_seq ?_ | refine r_region rfl ?_ | refine thn_exit ?_ | refine thn_ret ?_ | refine inBlk_normal ?_ | refine inBlk_ret ?_ | refine inBlk_hit ?_ | refine inBlk_miss (by decide) ?_ | refine forQ_exit ?_ | refine forQ_ret ?_ | refine loopQ_exit ?_ | refine loopQ_ret ?_ | refine r_block ?_ | refine r_skip ?_ | refine r_exit ?_ | refine r_ret ?_ | (show rwp _ _ (.cond _ _ _) _ _ _; first | refine c_t (h := ?_) | refine c_f (h := ?_)))
  refine st_box3 (by ((try simp only [ev_tmp, ev_const, ev_func, get_put, get_args, get_putL, get_putL_nil, Nat.reduceEqDiff, reduceIte, List.getD_cons_zero, List.getD_cons_succ, List.getD_nil]); first | done | with_reducible rfl)) (by first | exact True.intro | exact ⟨_, rfl, by ((try simp only [ev_tmp, ev_const, ev_func, get_put, get_args, get_putL, get_putL_nil, Nat.reduceEqDiff, reduceIte, List.getD_cons_zero, List.getD_cons_succ, List.getD_nil, Bool.not_true, Bool.not_false]); first | done | with_reducible rfl)⟩) fun w1 b he1 hb1 hs1 hc0 hc1 hc2 => ?_
  repeat (first | (show rops _ _ _ _ (_ :: _) _ _; first | refine ra (next := ?_) | refine rk (next := ?_) | refine rku (next := ?_)) | refine st_end ?_ | refine thn_normal ?_ | refine r_seq ?_ | refine r_region rfl ?_ | refine thn_exit ?_ | refine thn_ret ?_ | refine inBlk_normal ?_ | refine inBlk_ret ?_ | refine inBlk_hit ?_ | refine inBlk_miss (by decide) ?_ | refine forQ_exit ?_ | refine forQ_ret ?_ | refine loopQ_exit ?_ | refine loopQ_ret ?_ | refine r_block ?_ | refine r_skip ?_ | refine r_exit ?_ | refine r_ret ?_ | (show rwp _ _ (.cond _ _ _) _ _ _; first | refine c_t (h := ?_) | refine c_f (h := ?_)))
  refine rc (l08AtT_ok (p := p) (i := 0) (x := x) (y := y) rfl) (next := fun v2 w2 h2 => ?_)
  obtain ⟨he2, hf2⟩ := h2
  repeat (first | (show rops _ _ _ _ (_ :: _) _ _; first | refine ra (next := ?_) | refine rk (next := ?_) | refine rku (next := ?_)) | refine st_end ?_ | refine thn_normal ?_ | refine r_seq ?_ | refine r_region rfl ?_ | refine thn_exit ?_ | refine thn_ret ?_ | refine inBlk_normal ?_ | refine inBlk_ret ?_ | refine inBlk_hit ?_ | refine inBlk_miss (by decide) ?_ | refine forQ_exit ?_ | refine forQ_ret ?_ | refine loopQ_exit ?_ | refine loopQ_ret ?_ | refine r_block ?_ | refine r_skip ?_ | refine r_exit ?_ | refine r_ret ?_ | (show rwp _ _ (.cond _ _ _) _ _ _; first | refine c_t (h := ?_) | refine c_f (h := ?_)))
  exact ret1 ⟨he1.trans he2, hf2.mono he1.size⟩
end Go.Proofs.Ytjcmdmjlhngjcaa

/-
  Walks: the reference's inverse and power (l10From, l10Inv, l10Pow) and its commutator (l10Comm).
  Conditions: the tails at all levels are groups.
-/
namespace Go.Proofs.Ytjcmdmjlhngjcaa
open Go Go.Pc
def FromSpec (p : Pr) [ConAll p] (i : Nat) : Prop := ∀ {w : World} {vp vx : Value} {ki : Int} {x : T p i} {xs : List Int} {lo hi lo1 hi1 : Nat} [Pres lo hi w vp p] [Ints lo1 hi1 w vx xs],
  ki = i → xs = x.v → Calls Try.prog 70 #[vp, .int .i64 ki, vx] w (Ret fun v w' => Ext w w' ∧ Fr w.heap.size w' v (x⁻¹).v)
set_option maxHeartbeats 2000000 in
theorem from_step {p : Pr} [hc : ConAll p] {i : Nat} (ih : i < p.n → FromSpec p (i + 1)) : FromSpec p i := by
  intro w vp vx ki x xs lo hi lo1 hi1 hp hx hki hxe
  subst hki hxe
  have hv := hc.valid
  have hn6 := hv.n6
  have hol : p.ord.length = p.n := rfl
  have hwl : p.pow.length = p.n := hv.lenw
  replace hp := hp.wide
  replace hx := hx.wide
  obtain ⟨vo, vpw, vc, ps, cs, css, rfl, h1, h2, h3⟩ := hp.ex
  refine enter (args := [.agg #[vo, vpw, vc], .int .i64 i, vx]) (l := [.tmp 6]) Try.func70 rfl rfl Try.ntmps70 (by simp) ?_
  repeat (first | (show rops _ _ _ _ (_ :: _) _ _; first | refine ra (next := ?_) | refine rk (next := ?_) | refine rku (next := ?_)) | refine st_end ?_ | refine thn_normal ?_ | refine r_seq ?_ | refine r_region rfl ?_ | refine thn_exit ?_ | refine thn_ret ?_ | refine inBlk_normal ?_ | refine inBlk_ret ?_ | refine inBlk_hit ?_ | refine inBlk_miss (by decide) ?_ | refine forQ_exit ?_ | refine forQ_ret ?_ | refine loopQ_exit ?_ | refine loopQ_ret ?_ | refine r_block ?_ | refine r_skip ?_ | refine r_exit ?_ | refine r_ret ?_ | (show rwp _ _ (.cond _ _ _) _ _ _; first | refine c_t (h := ?_) | refine c_f (h := ?_)))
  refine st_box3 (by ((try simp only [ev_tmp, ev_const, ev_func, get_put, get_args, get_putL, get_putL_nil, Nat.reduceEqDiff, reduceIte, List.getD_cons_zero, List.getD_cons_succ, List.getD_nil]); first | done | with_reducible rfl)) (by first | exact True.intro | exact ⟨_, rfl, by ((try simp only [ev_tmp, ev_const, ev_func, get_put, get_args, get_putL, get_putL_nil, Nat.reduceEqDiff, reduceIte, List.getD_cons_zero, List.getD_cons_succ, List.getD_nil, Bool.not_true, Bool.not_false]); first | done | with_reducible rfl)⟩) fun w1 b he1 hb1 hs1 hc0 hc1 hc2 => ?_
  repeat (first | (show rops _ _ _ _ (_ :: _) _ _; first | refine ra (next := ?_) | refine rk (next := ?_) | refine rku (next := ?_)) | refine st_end ?_ | refine thn_normal ?_ | refine r_seq ?_ | refine r_region rfl ?_ | refine thn_exit ?_ | refine thn_ret ?_ | refine inBlk_normal ?_ | refine inBlk_ret ?_ | refine inBlk_hit ?_ | refine inBlk_miss (by decide) ?_ | refine forQ_exit ?_ | refine forQ_ret ?_ | refine loopQ_exit ?_ | refine loopQ_ret ?_ | refine r_block ?_ | refine r_skip ?_ | refine r_exit ?_ | refine r_ret ?_ | (show rwp _ _ (.cond _ _ _) _ _ _; first | refine c_t (h := ?_) | refine c_f (h := ?_)))
  refine c_if (fun h4 => ?_) (fun h4 => ?_)
  · repeat (first | (show rops _ _ _ _ (_ :: _) _ _; first | refine ra (next := ?_) | refine rk (next := ?_) | refine rku (next := ?_)) | refine st_end ?_ | refine thn_normal ?_ | refine r_seq ?_ | refine r_region rfl ?_ | refine thn_exit ?_ | refine thn_ret ?_ | refine inBlk_normal ?_ | refine inBlk_ret ?_ | refine inBlk_hit ?_ | refine inBlk_miss (by decide) ?_ | refine forQ_exit ?_ | refine forQ_ret ?_ | refine loopQ_exit ?_ | refine loopQ_ret ?_ | refine r_block ?_ | refine r_skip ?_ | refine r_exit ?_ | refine r_ret ?_ | (show rwp _ _ (.cond _ _ _) _ _ _; first | refine c_t (h := ?_) | refine c_f (h := ?_)))
    refine st_make_int (by ((try simp only [ev_tmp, ev_const, ev_func, get_put, get_args, get_putL, get_putL_nil, Nat.reduceEqDiff, reduceIte, List.getD_cons_zero, List.getD_cons_succ, List.getD_nil]); first | done | with_reducible rfl)) (by ((try simp only [ev_tmp, ev_const, ev_func, get_put, get_args, get_putL, get_putL_nil, Nat.reduceEqDiff, reduceIte, List.getD_cons_zero, List.getD_cons_succ, List.getD_nil]); first | done | with_reducible rfl)) (by omega) (by omega) (by first | exact True.intro | exact ⟨_, rfl, by ((try simp only [ev_tmp, ev_const, ev_func, get_put, get_args, get_putL, get_putL_nil, Nat.reduceEqDiff, reduceIte, List.getD_cons_zero, List.getD_cons_succ, List.getD_nil, Bool.not_true, Bool.not_false]); first | done | with_reducible rfl)⟩) fun w2 v2 he2 hs2 ho2 => ?_
    repeat (first | (show rops _ _ _ _ (_ :: _) _ _; first | refine ra (next := ?_) | refine rk (next := ?_) | refine rku (next := ?_)) | refine st_end ?_ | refine thn_normal ?_ | refine r_seq ?_ | refine r_region rfl ?_ | refine thn_exit ?_ | refine thn_ret ?_ | refine inBlk_normal ?_ | refine inBlk_ret ?_ | refine inBlk_hit ?_ | refine inBlk_miss (by decide) ?_ | refine forQ_exit ?_ | refine forQ_ret ?_ | refine loopQ_exit ?_ | refine loopQ_ret ?_ | refine r_block ?_ | refine r_skip ?_ | refine r_exit ?_ | refine r_ret ?_ | (show rwp _ _ (.cond _ _ _) _ _ _; first | refine c_t (h := ?_) | refine c_f (h := ?_)))
    refine ret1 ⟨he1.trans he2, ?_⟩
    have hz : ∀ y : T p i, y.v = zeros p.n := fun y => inr_ext y.inr hv.zeros_in fun k hk => by rw [y.zu k (by omega), zeros_getD]
    rw [hz]
    exact ho2.toFr (by omega)
  · have hin : i < p.n := by omega
    have ih1 : FromSpec p (i + 1) := ih hin
    have hxl := x.inr.len
    have hxi := x.inr.rng i hin
    have hoi := hv.opos hin
    have hoe : p.o i = p.ord.getD i 0 := rfl
    repeat (first | (show rops _ _ _ _ (_ :: _) _ _; first | refine ra (next := ?_) | refine rk (next := ?_) | refine rku (next := ?_)) | refine st_end ?_ | refine thn_normal ?_ | refine r_seq ?_ | refine r_region rfl ?_ | refine thn_exit ?_ | refine thn_ret ?_ | refine inBlk_normal ?_ | refine inBlk_ret ?_ | refine inBlk_hit ?_ | refine inBlk_miss (by decide) ?_ | refine forQ_exit ?_ | refine forQ_ret ?_ | refine loopQ_exit ?_ | refine loopQ_ret ?_ | refine r_block ?_ | refine r_skip ?_ | refine r_exit ?_ | refine r_ret ?_ | (show rwp _ _ (.cond _ _ _) _ _ _; first | refine c_t (h := ?_) | refine c_f (h := ?_)))
    refine rc (l01Own_ok (xs := x.v) ?_) (next := fun v2 w2 h2 => ?_)
    · omega
    obtain ⟨he2, hf2⟩ := h2
    repeat (first | (show rops _ _ _ _ (_ :: _) _ _; first | refine ra (next := ?_) | refine rk (next := ?_) | refine rku (next := ?_)) | refine st_end ?_ | refine thn_normal ?_ | refine r_seq ?_ | refine r_region rfl ?_ | refine thn_exit ?_ | refine thn_ret ?_ | refine inBlk_normal ?_ | refine inBlk_ret ?_ | refine inBlk_hit ?_ | refine inBlk_miss (by decide) ?_ | refine forQ_exit ?_ | refine forQ_ret ?_ | refine loopQ_exit ?_ | refine loopQ_ret ?_ | refine r_block ?_ | refine r_skip ?_ | refine r_exit ?_ | refine r_ret ?_ | (show rwp _ _ (.cond _ _ _) _ _ _; first | refine c_t (h := ?_) | refine c_f (h := ?_)))
    obtain ⟨e2, b2, hb2, ho2⟩ := hf2.own (by intro e; rw [e] at hxl; simp at hxl; omega)
    have hl2 := ho2.lt
    have hz1 := he1.size
    have hz2 := he2.size
    have ap1 : Apart 0 w.heap.size b2 := ⟨.inr (by omega)⟩
    have ap3 : Apart b (b + 1) b2 := ⟨.inr (by omega)⟩
    clear hf2
    refine st_store_int (by ((try simp only [ev_tmp, ev_const, ev_func, get_put, get_args, get_putL, get_putL_nil, Nat.reduceEqDiff, reduceIte, List.getD_cons_zero, List.getD_cons_succ, List.getD_nil]); first | done | with_reducible rfl)) (by ((try simp only [ev_tmp, ev_const, ev_func, get_put, get_args, get_putL, get_putL_nil, Nat.reduceEqDiff, reduceIte, List.getD_cons_zero, List.getD_cons_succ, List.getD_nil]); first | done | with_reducible rfl)) ?_ (by first | exact True.intro | exact ⟨_, rfl, by ((try simp only [ev_tmp, ev_const, ev_func, get_put, get_args, get_putL, get_putL_nil, Nat.reduceEqDiff, reduceIte, List.getD_cons_zero, List.getD_cons_succ, List.getD_nil, Bool.not_true, Bool.not_false]); first | done | with_reducible rfl)⟩) fun w3 hc3 hs3 ho3 => ?_
    · omega
    have hE3 : Ext w w3 := hc3.ext (he1.trans he2) (by omega)
    have hE13 : Ext w1 w3 := hc3.ext he2 (by omega)
    clear ho2
    repeat (first | (show rops _ _ _ _ (_ :: _) _ _; first | refine ra (next := ?_) | refine rk (next := ?_) | refine rku (next := ?_)) | refine st_end ?_ | refine thn_normal ?_ | refine r_seq ?_ | refine r_region rfl ?_ | refine thn_exit ?_ | refine thn_ret ?_ | refine inBlk_normal ?_ | refine inBlk_ret ?_ | refine inBlk_hit ?_ | refine inBlk_miss (by decide) ?_ | refine forQ_exit ?_ | refine forQ_ret ?_ | refine loopQ_exit ?_ | refine loopQ_ret ?_ | refine r_block ?_ | refine r_skip ?_ | refine r_exit ?_ | refine r_ret ?_ | (show rwp _ _ (.cond _ _ _) _ _ _; first | refine c_t (h := ?_) | refine c_f (h := ?_)))
    have hr : (tl hv x).v = x.v.set i 0 := rfl
    refine rc (ih1 (x := tl hv x) (xs := x.v.set i 0) ?_ ?_) (next := fun v4 w4 h4 => ?_)
    · rfl
    · rfl
    obtain ⟨he4, hf4⟩ := h4
    have hz3 := hE13.size
    have hz4 := he4.size
    repeat (first | (show rops _ _ _ _ (_ :: _) _ _; first | refine ra (next := ?_) | refine rk (next := ?_) | refine rku (next := ?_)) | refine st_end ?_ | refine thn_normal ?_ | refine r_seq ?_ | refine r_region rfl ?_ | refine thn_exit ?_ | refine thn_ret ?_ | refine inBlk_normal ?_ | refine inBlk_ret ?_ | refine inBlk_hit ?_ | refine inBlk_miss (by decide) ?_ | refine forQ_exit ?_ | refine forQ_ret ?_ | refine loopQ_exit ?_ | refine loopQ_ret ?_ | refine r_block ?_ | refine r_skip ?_ | refine r_exit ?_ | refine r_ret ?_ | (show rwp _ _ (.cond _ _ _) _ _ _; first | refine c_t (h := ?_) | refine c_f (h := ?_)))
    refine c_if (fun h5 => ?_) (fun h5 => ?_)
    · repeat (first | (show rops _ _ _ _ (_ :: _) _ _; first | refine ra (next := ?_) | refine rk (next := ?_) | refine rku (next := ?_)) | refine st_end ?_ | refine thn_normal ?_ | refine r_seq ?_ | refine r_region rfl ?_ | refine thn_exit ?_ | refine thn_ret ?_ | refine inBlk_normal ?_ | refine inBlk_ret ?_ | refine inBlk_hit ?_ | refine inBlk_miss (by decide) ?_ | refine forQ_exit ?_ | refine forQ_ret ?_ | refine loopQ_exit ?_ | refine loopQ_ret ?_ | refine r_block ?_ | refine r_skip ?_ | refine r_exit ?_ | refine r_ret ?_ | (show rwp _ _ (.cond _ _ _) _ _ _; first | refine c_t (h := ?_) | refine c_f (h := ?_)))
      refine ret1 ⟨hE3.trans he4, ?_⟩
      rw [inv_zero hin x h5 (tl hv x) hr]
      exact hf4.mono (by omega)
    · repeat (first | (show rops _ _ _ _ (_ :: _) _ _; first | refine ra (next := ?_) | refine rk (next := ?_) | refine rku (next := ?_)) | refine st_end ?_ | refine thn_normal ?_ | refine r_seq ?_ | refine r_region rfl ?_ | refine thn_exit ?_ | refine thn_ret ?_ | refine inBlk_normal ?_ | refine inBlk_ret ?_ | refine inBlk_hit ?_ | refine inBlk_miss (by decide) ?_ | refine forQ_exit ?_ | refine forQ_ret ?_ | refine loopQ_exit ?_ | refine loopQ_ret ?_ | refine r_block ?_ | refine r_skip ?_ | refine r_exit ?_ | refine r_ret ?_ | (show rwp _ _ (.cond _ _ _) _ _ _; first | refine c_t (h := ?_) | refine c_f (h := ?_)))
      refine st_make_int (by ((try simp only [ev_tmp, ev_const, ev_func, get_put, get_args, get_putL, get_putL_nil, Nat.reduceEqDiff, reduceIte, List.getD_cons_zero, List.getD_cons_succ, List.getD_nil]); first | done | with_reducible rfl)) (by ((try simp only [ev_tmp, ev_const, ev_func, get_put, get_args, get_putL, get_putL_nil, Nat.reduceEqDiff, reduceIte, List.getD_cons_zero, List.getD_cons_succ, List.getD_nil]); first | done | with_reducible rfl)) (by omega) (by omega) (by first | exact True.intro | exact ⟨_, rfl, by ((try simp only [ev_tmp, ev_const, ev_func, get_put, get_args, get_putL, get_putL_nil, Nat.reduceEqDiff, reduceIte, List.getD_cons_zero, List.getD_cons_succ, List.getD_nil, Bool.not_true, Bool.not_false]); first | done | with_reducible rfl)⟩) fun w5 v5 he5 hs5 ho5 => ?_
      have hb5 : ∃ e5 b5, w4.heap.size ≤ b5 ∧ OwnI e5 b5 w5 v5 (zeros p.n) := ⟨_, _, Nat.le_refl _, ho5⟩
      clear ho5
      obtain ⟨e5, b5, hb5, ho5⟩ := hb5
      have hlz := zeros_len p.n
      have ap5 : Apart 0 w.heap.size b5 := ⟨.inr (by omega)⟩
      have ap6 : Apart b (b + 1) b5 := ⟨.inr (by omega)⟩
      repeat (first | (show rops _ _ _ _ (_ :: _) _ _; first | refine ra (next := ?_) | refine rk (next := ?_) | refine rku (next := ?_)) | refine st_end ?_ | refine thn_normal ?_ | refine r_seq ?_ | refine r_region rfl ?_ | refine thn_exit ?_ | refine thn_ret ?_ | refine inBlk_normal ?_ | refine inBlk_ret ?_ | refine inBlk_hit ?_ | refine inBlk_miss (by decide) ?_ | refine forQ_exit ?_ | refine forQ_ret ?_ | refine loopQ_exit ?_ | refine loopQ_ret ?_ | refine r_block ?_ | refine r_skip ?_ | refine r_exit ?_ | refine r_ret ?_ | (show rwp _ _ (.cond _ _ _) _ _ _; first | refine c_t (h := ?_) | refine c_f (h := ?_)))
      refine z_order b5 (List.range 14) (h := fun w6 he6 _ => ?_)
      repeat refine za (next := ?_)
      have ho6 : OwnI e5 b5 w6 v5 (zeros p.n) := OwnI.ext (h := ho5)
      refine z_store_int (h := ho6) (hx := (by ((try simp only [ev_tmp, ev_const, ev_func, get_put, get_args, get_putL, get_putL_nil, Nat.reduceEqDiff, reduceIte, List.getD_cons_zero, List.getD_cons_succ, List.getD_nil]); first | done | with_reducible rfl))) (hy := (by ((try simp only [ev_tmp, ev_const, ev_func, get_put, get_args, get_putL, get_putL_nil, Nat.reduceEqDiff, reduceIte, List.getD_cons_zero, List.getD_cons_succ, List.getD_nil]); first | done | with_reducible rfl))) (hm := ?_) (next := fun w7 hc7 hs7 ho7 => ?_)
      · omega
      refine z_end ?_
      have hE47 : Ext w4 w7 := hc7.ext (he5.trans he6) hb5
      have hE7 : Ext w w7 := (hE3.trans he4).trans hE47
      have ho7' : OwnI e5 b5 w7 v5 (unitv p i (p.o i - x.v.getD i 0)) := ho7
      clear ho5 ho6 ho7 ap5 ap6 hc7 hc3
      have hu := unitv_in hv (j := i) (k := p.o i - x.v.getD i 0) (by omega) (fun _ => by omega)
      have hr1 := (tl hv x)⁻¹.inr
      have hr2 : ZU i (tl hv x)⁻¹.v := (tl hv x)⁻¹.zu.mono (by omega)
      have hw1 := (Tw hv hin)⁻¹.inr
      have hw2 : ZU i (Tw hv hin)⁻¹.v := (Tw hv hin)⁻¹.zu.mono (by omega)
      have ha := atv_in hv _ i rfl _ _ hr1 hu hr2 (unitv_zu p (Nat.le_refl _) _)
      repeat (first | (show rops _ _ _ _ (_ :: _) _ _; first | refine ra (next := ?_) | refine rk (next := ?_) | refine rku (next := ?_)) | refine st_end ?_ | refine thn_normal ?_ | refine r_seq ?_ | refine r_region rfl ?_ | refine thn_exit ?_ | refine thn_ret ?_ | refine inBlk_normal ?_ | refine inBlk_ret ?_ | refine inBlk_hit ?_ | refine inBlk_miss (by decide) ?_ | refine forQ_exit ?_ | refine forQ_ret ?_ | refine loopQ_exit ?_ | refine loopQ_ret ?_ | refine r_block ?_ | refine r_skip ?_ | refine r_exit ?_ | refine r_ret ?_ | (show rwp _ _ (.cond _ _ _) _ _ _; first | refine c_t (h := ?_) | refine c_f (h := ?_)))
      refine d_order [0, 1, 2, 3, 4, 5, 7, 8, 9, 10, 11, 12, 13, 14, 6, 15, 16, 17] (h := fun w8 he8 _ => ?_)
      repeat (first | refine da (next := ?_) | refine dsk (next := ?_) | refine dsku (next := ?_))
      refine dc (l08At_ok hv i (x := (tl hv x)⁻¹.v) (y := unitv p i (p.o i - x.v.getD i 0)) ?_ hr1 hu hr2 (unitv_zu p (Nat.le_refl _) _)) (next := fun v9 w9 h9 => ?_)
      · rfl
      obtain ⟨he9, hf9⟩ := h9
      refine ⟨fun h => h.trans he9, ?_⟩
      refine dc (ih1 (x := Tw hv hin) (xs := p.w i) ?_ ?_) (next := fun v10 w10 h10 => ?_)
      · rfl
      · rfl
      obtain ⟨he10, hf10⟩ := h10
      refine ⟨fun h => h.trans he10, ?_⟩
      refine dc (l08At_ok hv i (x := atv p i (tl hv x)⁻¹.v (unitv p i (p.o i - x.v.getD i 0))) (y := (Tw hv hin)⁻¹.v) ?_ ha.1 hw1 ha.2 hw2) (next := fun v11 w11 h11 => ?_)
      · rfl
      obtain ⟨he11, hf11⟩ := h11
      refine ⟨fun h => h.trans he11, ?_⟩
      repeat (first | refine da (next := ?_) | refine dsk (next := ?_) | refine dsku (next := ?_))
      refine d_end (h := ?_)
      have hE11 := (((hE7.trans he8).trans he9).trans he10)
      repeat (first | (show rops _ _ _ _ (_ :: _) _ _; first | refine ra (next := ?_) | refine rk (next := ?_) | refine rku (next := ?_)) | refine st_end ?_ | refine thn_normal ?_ | refine r_seq ?_ | refine r_region rfl ?_ | refine thn_exit ?_ | refine thn_ret ?_ | refine inBlk_normal ?_ | refine inBlk_ret ?_ | refine inBlk_hit ?_ | refine inBlk_miss (by decide) ?_ | refine forQ_exit ?_ | refine forQ_ret ?_ | refine loopQ_exit ?_ | refine loopQ_ret ?_ | refine r_block ?_ | refine r_skip ?_ | refine r_exit ?_ | refine r_ret ?_ | (show rwp _ _ (.cond _ _ _) _ _ _; first | refine c_t (h := ?_) | refine c_f (h := ?_)))
      refine ret1 ⟨hE11.trans he11, ?_⟩
      rw [inv_split hin x h5 (tl hv x) (Tw hv hin) hr rfl]
      exact hf11.mono hE11.size
theorem l10From_ok {p : Pr} [hc : ConAll p] : ∀ (m i : Nat), p.n - i = m → FromSpec p i
  | 0, i, hm => from_step fun h => absurd h (by omega)
  | m + 1, i, hm => from_step fun h => l10From_ok m (i + 1) (by omega)
set_option maxHeartbeats 1000000 in
theorem l10Inv_ok {p : Pr} [hc : ConAll p] {w : World} {vp vx : Value} {x : El p} {xs : List Int} {lo hi lo1 hi1 : Nat} [hp : Pres lo hi w vp p] [hx : Ints lo1 hi1 w vx xs] (hxe : xs = x.v) :
    Calls Try.prog 55 #[vp, vx] w (Ret fun v w' => Ext w w' ∧ Fr w.heap.size w' v (x⁻¹).v) := by
  obtain ⟨vo, vpw, vc, ps, cs, css, rfl, h1, h2, h3⟩ := hp.ex
  refine enter (args := [.agg #[vo, vpw, vc], vx]) (l := [.tmp 4]) Try.func55 rfl rfl Try.ntmps55 (by simp) ?_
  repeat (first | (show rops _ _ _ _ (_ :: _) _ _; first | refine ra (next := ?_) | refine rk (next := ?_) | refine rku (next := ?_)) | refine st_end ?_ | refine thn_normal ?_ | refine r_seq ?_ | refine r_region rfl ?_ | refine thn_exit ?_ | refine thn_ret ?_ | refine inBlk_normal ?_ | refine inBlk_ret ?_ | refine inBlk_hit ?_ | refine inBlk_miss (by decide) ?_ | refine forQ_exit ?_ | refine forQ_ret ?_ | refine loopQ_exit ?_ | refine loopQ_ret ?_ | refine r_block ?_ | refine r_skip ?_ | refine r_exit ?_ | refine r_ret ?_ | (show rwp _ _ (.cond _ _ _) _ _ _; first | refine c_t (h := ?_) | refine c_f (h := ?_)))
  refine st_box3 (by ((try simp only [ev_tmp, ev_const, ev_func, get_put, get_args, get_putL, get_putL_nil, Nat.reduceEqDiff, reduceIte, List.getD_cons_zero, List.getD_cons_succ, List.getD_nil]); first | done | with_reducible rfl)) (by first | exact True.intro | exact ⟨_, rfl, by ((try simp only [ev_tmp, ev_const, ev_func, get_put, get_args, get_putL, get_putL_nil, Nat.reduceEqDiff, reduceIte, List.getD_cons_zero, List.getD_cons_succ, List.getD_nil, Bool.not_true, Bool.not_false]); first | done | with_reducible rfl)⟩) fun w1 b he1 hb1 hs1 hc0 hc1 hc2 => ?_
  repeat (first | (show rops _ _ _ _ (_ :: _) _ _; first | refine ra (next := ?_) | refine rk (next := ?_) | refine rku (next := ?_)) | refine st_end ?_ | refine thn_normal ?_ | refine r_seq ?_ | refine r_region rfl ?_ | refine thn_exit ?_ | refine thn_ret ?_ | refine inBlk_normal ?_ | refine inBlk_ret ?_ | refine inBlk_hit ?_ | refine inBlk_miss (by decide) ?_ | refine forQ_exit ?_ | refine forQ_ret ?_ | refine loopQ_exit ?_ | refine loopQ_ret ?_ | refine r_block ?_ | refine r_skip ?_ | refine r_exit ?_ | refine r_ret ?_ | (show rwp _ _ (.cond _ _ _) _ _ _; first | refine c_t (h := ?_) | refine c_f (h := ?_)))
  refine rc (l10From_ok (p := p) _ 0 rfl (x := x) rfl hxe) (next := fun v2 w2 h2 => ?_)
  obtain ⟨he2, hf2⟩ := h2
  repeat (first | (show rops _ _ _ _ (_ :: _) _ _; first | refine ra (next := ?_) | refine rk (next := ?_) | refine rku (next := ?_)) | refine st_end ?_ | refine thn_normal ?_ | refine r_seq ?_ | refine r_region rfl ?_ | refine thn_exit ?_ | refine thn_ret ?_ | refine inBlk_normal ?_ | refine inBlk_ret ?_ | refine inBlk_hit ?_ | refine inBlk_miss (by decide) ?_ | refine forQ_exit ?_ | refine forQ_ret ?_ | refine loopQ_exit ?_ | refine loopQ_ret ?_ | refine r_block ?_ | refine r_skip ?_ | refine r_exit ?_ | refine r_ret ?_ | (show rwp _ _ (.cond _ _ _) _ _ _; first | refine c_t (h := ?_) | refine c_f (h := ?_)))
  exact ret1 ⟨he1.trans he2, hf2.mono he1.size⟩
end Go.Proofs.Ytjcmdmjlhngjcaa

/-
  Walks: the reference's power (l10Pow) and commutator (l10Comm).
  Conditions: the tails at all levels are groups.
-/
namespace Go.Proofs.Ytjcmdmjlhngjcaa
open Go Go.Pc
set_option maxHeartbeats 1000000 in
theorem l10Pow_ok {p : Pr} [hc : ConAll p] {w : World} {vp vx : Value} {k : Int} {x : El p} {xs : List Int} {lo hi lo1 hi1 : Nat} [hp : Pres lo hi w vp p] [hx : Ints lo1 hi1 w vx xs] (hxe : xs = x.v) (hk : -9223372036854775807 ≤ k ∧ k ≤ 9223372036854775807) :
    Calls Try.prog 38 #[vp, vx, .int .i64 k] w (Ret fun v w' => Ext w w' ∧ Fr w.heap.size w' v (Grp.pwz x k).v) := by
  obtain ⟨vo, vpw, vc, ps, cs, css, rfl, h1, h2, h3⟩ := hp.ex
  refine enter (args := [.agg #[vo, vpw, vc], vx, .int .i64 k]) (l := [.tmp 6]) Try.func38 rfl rfl Try.ntmps38 (by simp) ?_
  repeat (first | (show rops _ _ _ _ (_ :: _) _ _; first | refine ra (next := ?_) | refine rk (next := ?_) | refine rku (next := ?_)) | refine st_end ?_ | refine thn_normal ?_ | refine r_seq ?_ | refine r_region rfl ?_ | refine thn_exit ?_ | refine thn_ret ?_ | refine inBlk_normal ?_ | refine inBlk_ret ?_ | refine inBlk_hit ?_ | refine inBlk_miss (by decide) ?_ | refine forQ_exit ?_ | refine forQ_ret ?_ | refine loopQ_exit ?_ | refine loopQ_ret ?_ | refine r_block ?_ | refine r_skip ?_ | refine r_exit ?_ | refine r_ret ?_ | (show rwp _ _ (.cond _ _ _) _ _ _; first | refine c_t (h := ?_) | refine c_f (h := ?_)))
  refine st_box3 (by ((try simp only [ev_tmp, ev_const, ev_func, get_put, get_args, get_putL, get_putL_nil, Nat.reduceEqDiff, reduceIte, List.getD_cons_zero, List.getD_cons_succ, List.getD_nil]); first | done | with_reducible rfl)) (by first | exact True.intro | exact ⟨_, rfl, by ((try simp only [ev_tmp, ev_const, ev_func, get_put, get_args, get_putL, get_putL_nil, Nat.reduceEqDiff, reduceIte, List.getD_cons_zero, List.getD_cons_succ, List.getD_nil, Bool.not_true, Bool.not_false]); first | done | with_reducible rfl)⟩) fun w1 b he1 hb1 hs1 hc0 hc1 hc2 => ?_
  repeat (first | (show rops _ _ _ _ (_ :: _) _ _; first | refine ra (next := ?_) | refine rk (next := ?_) | refine rku (next := ?_)) | refine st_end ?_ | refine thn_normal ?_ | refine r_seq ?_ | refine r_region rfl ?_ | refine thn_exit ?_ | refine thn_ret ?_ | refine inBlk_normal ?_ | refine inBlk_ret ?_ | refine inBlk_hit ?_ | refine inBlk_miss (by decide) ?_ | refine forQ_exit ?_ | refine forQ_ret ?_ | refine loopQ_exit ?_ | refine loopQ_ret ?_ | refine r_block ?_ | refine r_skip ?_ | refine r_exit ?_ | refine r_ret ?_ | (show rwp _ _ (.cond _ _ _) _ _ _; first | refine c_t (h := ?_) | refine c_f (h := ?_)))
  refine c_if (fun h4 => ?_) (fun h4 => ?_)
  · repeat (first | (show rops _ _ _ _ (_ :: _) _ _; first | refine ra (next := ?_) | refine rk (next := ?_) | refine rku (next := ?_)) | refine st_end ?_ | refine thn_normal ?_ | refine r_seq ?_ | refine r_region rfl ?_ | refine thn_exit ?_ | refine thn_ret ?_ | refine inBlk_normal ?_ | refine inBlk_ret ?_ | refine inBlk_hit ?_ | refine inBlk_miss (by decide) ?_ | refine forQ_exit ?_ | refine forQ_ret ?_ | refine loopQ_exit ?_ | refine loopQ_ret ?_ | refine r_block ?_ | refine r_skip ?_ | refine r_exit ?_ | refine r_ret ?_ | (show rwp _ _ (.cond _ _ _) _ _ _; first | refine c_t (h := ?_) | refine c_f (h := ?_)))
    refine d_order [0, 1, 2, 4, 5, 3, 6, 7] (h := fun w2 he2 _ => ?_)
    repeat (first | refine da (next := ?_) | refine dsk (next := ?_) | refine dsku (next := ?_))
    refine dc (l10Inv_ok (p := p) (x := x) hxe) (next := fun v3 w3 h3 => ?_)
    obtain ⟨he3, hf3⟩ := h3
    refine ⟨fun h => h.trans he3, ?_⟩
    refine dc (l08Repeat_ok (p := p) (i := 0) (x := x⁻¹) (xs := (x⁻¹).v) rfl rfl ?_ ?_) (next := fun v4 w4 h5 => ?_)
    · omega
    · omega
    obtain ⟨he4, hf4⟩ := h5
    refine ⟨fun h => h.trans he4, ?_⟩
    repeat (first | refine da (next := ?_) | refine dsk (next := ?_) | refine dsku (next := ?_))
    refine d_end (h := ?_)
    repeat (first | (show rops _ _ _ _ (_ :: _) _ _; first | refine ra (next := ?_) | refine rk (next := ?_) | refine rku (next := ?_)) | refine st_end ?_ | refine thn_normal ?_ | refine r_seq ?_ | refine r_region rfl ?_ | refine thn_exit ?_ | refine thn_ret ?_ | refine inBlk_normal ?_ | refine inBlk_ret ?_ | refine inBlk_hit ?_ | refine inBlk_miss (by decide) ?_ | refine forQ_exit ?_ | refine forQ_ret ?_ | refine loopQ_exit ?_ | refine loopQ_ret ?_ | refine r_block ?_ | refine r_skip ?_ | refine r_exit ?_ | refine r_ret ?_ | (show rwp _ _ (.cond _ _ _) _ _ _; first | refine c_t (h := ?_) | refine c_f (h := ?_)))
    have hE := (he1.trans he2).trans he3
    refine ret1 ⟨hE.trans he4, ?_⟩
    unfold Grp.pwz
    rw [if_pos h4]
    exact hf4.mono hE.size
  · repeat (first | (show rops _ _ _ _ (_ :: _) _ _; first | refine ra (next := ?_) | refine rk (next := ?_) | refine rku (next := ?_)) | refine st_end ?_ | refine thn_normal ?_ | refine r_seq ?_ | refine r_region rfl ?_ | refine thn_exit ?_ | refine thn_ret ?_ | refine inBlk_normal ?_ | refine inBlk_ret ?_ | refine inBlk_hit ?_ | refine inBlk_miss (by decide) ?_ | refine forQ_exit ?_ | refine forQ_ret ?_ | refine loopQ_exit ?_ | refine loopQ_ret ?_ | refine r_block ?_ | refine r_skip ?_ | refine r_exit ?_ | refine r_ret ?_ | (show rwp _ _ (.cond _ _ _) _ _ _; first | refine c_t (h := ?_) | refine c_f (h := ?_)))
    refine rc (l08Repeat_ok (p := p) (i := 0) (x := x) (xs := xs) hxe rfl ?_ ?_) (next := fun v4 w4 h5 => ?_)
    · omega
    · omega
    obtain ⟨he4, hf4⟩ := h5
    repeat (first | (show rops _ _ _ _ (_ :: _) _ _; first | refine ra (next := ?_) | refine rk (next := ?_) | refine rku (next := ?_)) | refine st_end ?_ | refine thn_normal ?_ | refine r_seq ?_ | refine r_region rfl ?_ | refine thn_exit ?_ | refine thn_ret ?_ | refine inBlk_normal ?_ | refine inBlk_ret ?_ | refine inBlk_hit ?_ | refine inBlk_miss (by decide) ?_ | refine forQ_exit ?_ | refine forQ_ret ?_ | refine loopQ_exit ?_ | refine loopQ_ret ?_ | refine r_block ?_ | refine r_skip ?_ | refine r_exit ?_ | refine r_ret ?_ | (show rwp _ _ (.cond _ _ _) _ _ _; first | refine c_t (h := ?_) | refine c_f (h := ?_)))
    refine ret1 ⟨he1.trans he4, ?_⟩
    unfold Grp.pwz
    rw [if_neg h4]
    exact hf4.mono he1.size
set_option maxHeartbeats 1000000 in
theorem l10Comm_ok {p : Pr} [hc : ConAll p] {w : World} {vp vx vy : Value} {x y : El p} {xs ys : List Int} {lo hi lo1 hi1 lo2 hi2 : Nat} [hp : Pres lo hi w vp p] [hx : Ints lo1 hi1 w vx xs] [hy : Ints lo2 hi2 w vy ys] (hxe : xs = x.v) (hye : ys = y.v) :
    Calls Try.prog 40 #[vp, vx, vy] w (Ret fun v w' => Ext w w' ∧ Fr w.heap.size w' v (Grp.cm x y).v) := by
  obtain ⟨vo, vpw, vc, ps, cs, css, rfl, h1, h2, h3⟩ := hp.ex
  refine enter (args := [.agg #[vo, vpw, vc], vx, vy]) (l := [.tmp 6]) Try.func40 rfl rfl Try.ntmps40 (by simp) ?_
  repeat (first | (show rops _ _ _ _ (_ :: _) _ _; first | refine ra (next := ?_) | refine rk (next := ?_) | refine rku (next := ?_)) | refine st_end ?_ | refine thn_normal ?_ | refine r_seq ?_ | refine r_region rfl ?_ | refine thn_exit ?_ | refine thn_ret ?_ | refine inBlk_normal ?_ | refine inBlk_ret ?_ | refine inBlk_hit ?_ | refine inBlk_miss (by decide) ?_ | refine forQ_exit ?_ | refine forQ_ret ?_ | refine loopQ_exit ?_ | refine loopQ_ret ?_ | refine r_block ?_ | refine r_skip ?_ | refine r_exit ?_ | refine r_ret ?_ | (show rwp _ _ (.cond _ _ _) _ _ _; first | refine c_t (h := ?_) | refine c_f (h := ?_)))
  refine st_box3 (by ((try simp only [ev_tmp, ev_const, ev_func, get_put, get_args, get_putL, get_putL_nil, Nat.reduceEqDiff, reduceIte, List.getD_cons_zero, List.getD_cons_succ, List.getD_nil]); first | done | with_reducible rfl)) (by first | exact True.intro | exact ⟨_, rfl, by ((try simp only [ev_tmp, ev_const, ev_func, get_put, get_args, get_putL, get_putL_nil, Nat.reduceEqDiff, reduceIte, List.getD_cons_zero, List.getD_cons_succ, List.getD_nil, Bool.not_true, Bool.not_false]); first | done | with_reducible rfl)⟩) fun w1 b he1 hb1 hs1 hc0 hc1 hc2 => ?_
  repeat (first | (show rops _ _ _ _ (_ :: _) _ _; first | refine ra (next := ?_) | refine rk (next := ?_) | refine rku (next := ?_)) | refine st_end ?_ | refine thn_normal ?_ | refine r_seq ?_ | refine r_region rfl ?_ | refine thn_exit ?_ | refine thn_ret ?_ | refine inBlk_normal ?_ | refine inBlk_ret ?_ | refine inBlk_hit ?_ | refine inBlk_miss (by decide) ?_ | refine forQ_exit ?_ | refine forQ_ret ?_ | refine loopQ_exit ?_ | refine loopQ_ret ?_ | refine r_block ?_ | refine r_skip ?_ | refine r_exit ?_ | refine r_ret ?_ | (show rwp _ _ (.cond _ _ _) _ _ _; first | refine c_t (h := ?_) | refine c_f (h := ?_)))
  refine d_order [0, 1, 2, 3, 4, 7, 8, 9, 5, 6, 10, 11, 12] (h := fun w2 he2 _ => ?_)
  repeat (first | refine da (next := ?_) | refine dsk (next := ?_) | refine dsku (next := ?_))
  refine dc (l08Mul_ok (p := p) hye hxe) (next := fun v3 w3 h3 => ?_)
  obtain ⟨he3, hf3⟩ := h3
  refine ⟨fun h => h.trans he3, ?_⟩
  refine dc (l10Inv_ok (p := p) (x := y * x) (xs := (y * x).v) rfl) (next := fun v4 w4 h4 => ?_)
  obtain ⟨he4, hf4⟩ := h4
  refine ⟨fun h => h.trans he4, ?_⟩
  refine dc (l08Mul_ok (p := p) hxe hye) (next := fun v5 w5 h5 => ?_)
  obtain ⟨he5, hf5⟩ := h5
  refine ⟨fun h => h.trans he5, ?_⟩
  refine dc (l08Mul_ok (p := p) (x := (y * x)⁻¹) (y := x * y) (xs := ((y * x)⁻¹).v) (ys := (x * y).v) rfl rfl) (next := fun v6 w6 h6 => ?_)
  obtain ⟨he6, hf6⟩ := h6
  refine ⟨fun h => h.trans he6, ?_⟩
  repeat (first | refine da (next := ?_) | refine dsk (next := ?_) | refine dsku (next := ?_))
  refine d_end (h := ?_)
  repeat (first | (show rops _ _ _ _ (_ :: _) _ _; first | refine ra (next := ?_) | refine rk (next := ?_) | refine rku (next := ?_)) | refine st_end ?_ | refine thn_normal ?_ | refine r_seq ?_ | refine r_region rfl ?_ | refine thn_exit ?_ | refine thn_ret ?_ | refine inBlk_normal ?_ | refine inBlk_ret ?_ | refine inBlk_hit ?_ | refine inBlk_miss (by decide) ?_ | refine forQ_exit ?_ | refine forQ_ret ?_ | refine loopQ_exit ?_ | refine loopQ_ret ?_ | refine r_block ?_ | refine r_skip ?_ | refine r_exit ?_ | refine r_ret ?_ | (show rwp _ _ (.cond _ _ _) _ _ _; first | refine c_t (h := ?_) | refine c_f (h := ?_)))
  have hE := (((he1.trans he2).trans he3).trans he4).trans he5
  refine ret1 ⟨hE.trans he6, ?_⟩
  rw [Grp.cm_eq]
  exact hf6.mono hE.size
end Go.Proofs.Ytjcmdmjlhngjcaa

/-
  Walk: the reference's strip of an element by a table (l12Strip).
  Conditions: the tails at all levels are groups, the table holds elements with the leading exponent 1.
-/
namespace Go.Proofs.Ytjcmdmjlhngjcaa
open Go Go.Pc
/-- What a strip leaves. -/
structure Left {p : Pr} [ConAll p] (t : Tab p) (x r : El p) (d : Nat) : Prop where
  stp : Stp t x r
  tl : Tl d r
  le : d ≤ p.n
  some : d < p.n → t d = none ∧ co r d ≠ 0
set_option maxHeartbeats 1000000 in
theorem l12Strip_ok {p : Pr} [hc : ConAll p] {t : Tab p} (hT : TabOk t) {w : World} {vp vt vx : Value} {us : List Value} {x : El p} {xs : List Int} {lo hi lo1 hi1 lo2 hi2 : Nat} [hp : Pres lo hi w vp p] [ht : Pc.Rows lo1 hi1 w vt us (tabL t)] [hx : Ints lo2 hi2 w vx xs] (hxe : xs = x.v) :
    Calls Try.prog 37 #[vp, vt, vx] w (Ret fun v w' => ∃ (d : Nat) (vr : Value) (r : El p), v = .tuple #[.int .i64 d, vr] ∧ Ext w w' ∧ Fr w.heap.size w' vr r.v ∧ Left t x r d) := by
  subst hxe
  have hv := hc.valid
  have hn6 := hv.n6
  have htl := tabL_len t
  have hxl := x.inr.len
  obtain ⟨vo, vpw, vc, ps, cs, css, rfl, h1, h2, h3⟩ := hp.ex
  refine enter (args := [.agg #[vo, vpw, vc], vt, vx]) (l := [.tmp 6, .tmp 7]) Try.func37 rfl rfl Try.ntmps37 (by simp) ?_
  repeat (first | (show rops _ _ _ _ (_ :: _) _ _; first | refine ra (next := ?_) | refine rk (next := ?_) | refine rku (next := ?_)) | refine st_end ?_ | refine thn_normal ?_ | refine r_seq ?_ | refine r_region rfl ?_ | refine thn_exit ?_ | refine thn_ret ?_ | refine inBlk_normal ?_ | refine inBlk_ret ?_ | refine inBlk_hit ?_ | refine inBlk_miss (by decide) ?_ | refine forQ_exit ?_ | refine forQ_ret ?_ | refine loopQ_exit ?_ | refine loopQ_ret ?_ | refine r_block ?_ | refine r_skip ?_ | refine r_exit ?_ | refine r_ret ?_ | (show rwp _ _ (.cond _ _ _) _ _ _; first | refine c_t (h := ?_) | refine c_f (h := ?_)))
  refine st_box3 (by ((try simp only [ev_tmp, ev_const, ev_func, get_put, get_args, get_putL, get_putL_nil, Nat.reduceEqDiff, reduceIte, List.getD_cons_zero, List.getD_cons_succ, List.getD_nil]); first | done | with_reducible rfl)) (by first | exact True.intro | exact ⟨_, rfl, by ((try simp only [ev_tmp, ev_const, ev_func, get_put, get_args, get_putL, get_putL_nil, Nat.reduceEqDiff, reduceIte, List.getD_cons_zero, List.getD_cons_succ, List.getD_nil, Bool.not_true, Bool.not_false]); first | done | with_reducible rfl)⟩) fun w1 b he1 hb1 hs1 hc0 hc1 hc2 => ?_
  repeat (first | (show rops _ _ _ _ (_ :: _) _ _; first | refine ra (next := ?_) | refine rk (next := ?_) | refine rku (next := ?_)) | refine st_end ?_ | refine thn_normal ?_ | refine r_seq ?_ | refine r_region rfl ?_ | refine thn_exit ?_ | refine thn_ret ?_ | refine inBlk_normal ?_ | refine inBlk_ret ?_ | refine inBlk_hit ?_ | refine inBlk_miss (by decide) ?_ | refine forQ_exit ?_ | refine forQ_ret ?_ | refine loopQ_exit ?_ | refine loopQ_ret ?_ | refine r_block ?_ | refine r_skip ?_ | refine r_exit ?_ | refine r_ret ?_ | (show rwp _ _ (.cond _ _ _) _ _ _; first | refine c_t (h := ?_) | refine c_f (h := ?_)))
  refine rc (l01Own_ok (xs := x.v) ?_) (next := fun v2 w2 h2 => ?_)
  · omega
  obtain ⟨he2, hf2⟩ := h2
  repeat (first | (show rops _ _ _ _ (_ :: _) _ _; first | refine ra (next := ?_) | refine rk (next := ?_) | refine rku (next := ?_)) | refine st_end ?_ | refine thn_normal ?_ | refine r_seq ?_ | refine r_region rfl ?_ | refine thn_exit ?_ | refine thn_ret ?_ | refine inBlk_normal ?_ | refine inBlk_ret ?_ | refine inBlk_hit ?_ | refine inBlk_miss (by decide) ?_ | refine forQ_exit ?_ | refine forQ_ret ?_ | refine loopQ_exit ?_ | refine loopQ_ret ?_ | refine r_block ?_ | refine r_skip ?_ | refine r_exit ?_ | refine r_ret ?_ | (show rwp _ _ (.cond _ _ _) _ _ _; first | refine c_t (h := ?_) | refine c_f (h := ?_)))
  refine r_for p.n (fun k ρ w' => ∃ vr r, Has ρ [(1, vt), (3, .pointer (some ⟨b, 0, none⟩)), (8, vr), (9, .int .i64 k)] ∧ Ext w1 w' ∧ Fr w.heap.size w' vr (T.v (p := p) (i := 0) r) ∧ Stp t x r ∧ Tl k r) ?_ ?_
  · refine ⟨v2, x, ?_, he2, hf2.mono he1.size, .refl x, Tl.zero x⟩
    ((try simp only [Has, ev_tmp, ev_const, ev_func, get_put, get_args, get_putL, get_putL_nil, Nat.reduceEqDiff, reduceIte, List.getD_cons_zero, List.getD_cons_succ, List.getD_nil]); repeat' (first | exact True.intro | apply And.intro | with_reducible rfl | exact int_congr (by first | omega | rfl)))
  rintro k ρ w3 hk ⟨vr, r, hH, he3, hf3, hst, hr⟩
  refine rwp_has hH fun ρ0 => ?_
  have hrl := r.inr.len
  repeat (first | (show rops _ _ _ _ (_ :: _) _ _; first | refine ra (next := ?_) | refine rk (next := ?_) | refine rku (next := ?_)) | refine st_end ?_ | refine thn_normal ?_ | refine r_seq ?_ | refine r_region rfl ?_ | refine thn_exit ?_ | refine thn_ret ?_ | refine inBlk_normal ?_ | refine inBlk_ret ?_ | refine inBlk_hit ?_ | refine inBlk_miss (by decide) ?_ | refine forQ_exit ?_ | refine forQ_ret ?_ | refine loopQ_exit ?_ | refine loopQ_ret ?_ | refine r_block ?_ | refine r_skip ?_ | refine r_exit ?_ | refine r_ret ?_ | (show rwp _ _ (.cond _ _ _) _ _ _; first | refine c_t (h := ?_) | refine c_f (h := ?_)))
  refine c_if (fun h4 => ?_) (fun h4 => ?_)
  · have hkn : k < p.n := by omega
    have hrk := r.inr.rng k hkn
    have hok := hv.opos hkn
    repeat (first | (show rops _ _ _ _ (_ :: _) _ _; first | refine ra (next := ?_) | refine rk (next := ?_) | refine rku (next := ?_)) | refine st_end ?_ | refine thn_normal ?_ | refine r_seq ?_ | refine r_region rfl ?_ | refine thn_exit ?_ | refine thn_ret ?_ | refine inBlk_normal ?_ | refine inBlk_ret ?_ | refine inBlk_hit ?_ | refine inBlk_miss (by decide) ?_ | refine forQ_exit ?_ | refine forQ_ret ?_ | refine loopQ_exit ?_ | refine loopQ_ret ?_ | refine r_block ?_ | refine r_skip ?_ | refine r_exit ?_ | refine r_ret ?_ | (show rwp _ _ (.cond _ _ _) _ _ _; first | refine c_t (h := ?_) | refine c_f (h := ?_)))
    refine c_if (fun h5 => ?_) (fun h5 => ?_)
    · repeat (first | (show rops _ _ _ _ (_ :: _) _ _; first | refine ra (next := ?_) | refine rk (next := ?_) | refine rku (next := ?_)) | refine st_end ?_ | refine thn_normal ?_ | refine r_seq ?_ | refine r_region rfl ?_ | refine thn_exit ?_ | refine thn_ret ?_ | refine inBlk_normal ?_ | refine inBlk_ret ?_ | refine inBlk_hit ?_ | refine inBlk_miss (by decide) ?_ | refine forQ_exit ?_ | refine forQ_ret ?_ | refine loopQ_exit ?_ | refine loopQ_ret ?_ | refine r_block ?_ | refine r_skip ?_ | refine r_exit ?_ | refine r_ret ?_ | (show rwp _ _ (.cond _ _ _) _ _ _; first | refine c_t (h := ?_) | refine c_f (h := ?_)))
      refine forQ_normal (by omega) ⟨vr, r, ?_, he3, hf3, hst, hr.succ h5⟩
      ((try simp only [Has, ev_tmp, ev_const, ev_func, get_put, get_args, get_putL, get_putL_nil, Nat.reduceEqDiff, reduceIte, List.getD_cons_zero, List.getD_cons_succ, List.getD_nil]); repeat' (first | exact True.intro | apply And.intro | with_reducible rfl | exact int_congr (by first | omega | rfl)))
    · repeat (first | (show rops _ _ _ _ (_ :: _) _ _; first | refine ra (next := ?_) | refine rk (next := ?_) | refine rku (next := ?_)) | refine st_end ?_ | refine thn_normal ?_ | refine r_seq ?_ | refine r_region rfl ?_ | refine thn_exit ?_ | refine thn_ret ?_ | refine inBlk_normal ?_ | refine inBlk_ret ?_ | refine inBlk_hit ?_ | refine inBlk_miss (by decide) ?_ | refine forQ_exit ?_ | refine forQ_ret ?_ | refine loopQ_exit ?_ | refine loopQ_ret ?_ | refine r_block ?_ | refine r_skip ?_ | refine r_exit ?_ | refine r_ret ?_ | (show rwp _ _ (.cond _ _ _) _ _ _; first | refine c_t (h := ?_) | refine c_f (h := ?_)))
      refine c_if (fun h6 => ?_) (fun h6 => ?_)
      · repeat (first | (show rops _ _ _ _ (_ :: _) _ _; first | refine ra (next := ?_) | refine rk (next := ?_) | refine rku (next := ?_)) | refine st_end ?_ | refine thn_normal ?_ | refine r_seq ?_ | refine r_region rfl ?_ | refine thn_exit ?_ | refine thn_ret ?_ | refine inBlk_normal ?_ | refine inBlk_ret ?_ | refine inBlk_hit ?_ | refine inBlk_miss (by decide) ?_ | refine forQ_exit ?_ | refine forQ_ret ?_ | refine loopQ_exit ?_ | refine loopQ_ret ?_ | refine r_block ?_ | refine r_skip ?_ | refine r_exit ?_ | refine r_ret ?_ | (show rwp _ _ (.cond _ _ _) _ _ _; first | refine c_t (h := ?_) | refine c_f (h := ?_)))
        rw [tabL_at t hkn] at h6
        refine ret2 ⟨k, vr, r, rfl, he1.trans he3, hf3, hst, hr, by omega, fun _ => ⟨(rowOf_len hkn).1 (by omega), h5⟩⟩
      · rw [tabL_at t hkn] at h6
        obtain ⟨y, hy⟩ : ∃ y, t k = some y := by
          cases e : t k with
          | none => exact absurd ((rowOf_len hkn).2 e) (by omega)
          | some y => exact ⟨y, rfl⟩
        have hye : (tabL t).getD k [] = y.v := by rw [tabL_at t hkn, rowOf_some hy]
        repeat (first | (show rops _ _ _ _ (_ :: _) _ _; first | refine ra (next := ?_) | refine rk (next := ?_) | refine rku (next := ?_)) | refine st_end ?_ | refine thn_normal ?_ | refine r_seq ?_ | refine r_region rfl ?_ | refine thn_exit ?_ | refine thn_ret ?_ | refine inBlk_normal ?_ | refine inBlk_ret ?_ | refine inBlk_hit ?_ | refine inBlk_miss (by decide) ?_ | refine forQ_exit ?_ | refine forQ_ret ?_ | refine loopQ_exit ?_ | refine loopQ_ret ?_ | refine r_block ?_ | refine r_skip ?_ | refine r_exit ?_ | refine r_ret ?_ | (show rwp _ _ (.cond _ _ _) _ _ _; first | refine c_t (h := ?_) | refine c_f (h := ?_)))
        refine d_region fun w4 he4 _ => ?_
        repeat (first | refine da (next := ?_) | refine dsk (next := ?_) | refine dsku (next := ?_))
        refine dc (l10Pow_ok (p := p) (x := y) hye ?_) (next := fun v5 w5 h7 => ?_)
        · omega
        obtain ⟨he5, hf5⟩ := h7
        refine ⟨fun h => h.trans he5, ?_⟩
        refine dc (l08Mul_ok (p := p) (x := r) (y := Grp.pwz y (-(r.v.getD k 0))) rfl rfl) (next := fun v6 w6 h8 => ?_)
        obtain ⟨he6, hf6⟩ := h8
        refine ⟨fun h => h.trans he6, ?_⟩
        repeat (first | refine da (next := ?_) | refine dsk (next := ?_) | refine dsku (next := ?_))
        refine d_end (h := ?_)
        repeat (first | (show rops _ _ _ _ (_ :: _) _ _; first | refine ra (next := ?_) | refine rk (next := ?_) | refine rku (next := ?_)) | refine st_end ?_ | refine thn_normal ?_ | refine r_seq ?_ | refine r_region rfl ?_ | refine thn_exit ?_ | refine thn_ret ?_ | refine inBlk_normal ?_ | refine inBlk_ret ?_ | refine inBlk_hit ?_ | refine inBlk_miss (by decide) ?_ | refine forQ_exit ?_ | refine forQ_ret ?_ | refine loopQ_exit ?_ | refine loopQ_ret ?_ | refine r_block ?_ | refine r_skip ?_ | refine r_exit ?_ | refine r_ret ?_ | (show rwp _ _ (.cond _ _ _) _ _ _; first | refine c_t (h := ?_) | refine c_f (h := ?_)))
        have hyt := hT.tl k y hy
        have hyl := hT.lead k y hy
        have hE := (he3.trans he4).trans he5
        have hsz := he1.size
        have hsz2 := hE.size
        have hst2 := strip_step hkn hr hyt hyl
        refine forQ_normal (by omega) ⟨v6, r * Grp.pwz y (-(co r k)), ?_, hE.trans he6, hf6.mono (by omega), hst.trans (.right k y r _ _ hy hr h5 hst2 (.refl _)), hst2⟩
        ((try simp only [Has, ev_tmp, ev_const, ev_func, get_put, get_args, get_putL, get_putL_nil, Nat.reduceEqDiff, reduceIte, List.getD_cons_zero, List.getD_cons_succ, List.getD_nil]); repeat' (first | exact True.intro | apply And.intro | with_reducible rfl | exact int_congr (by first | omega | rfl)))
  · repeat (first | (show rops _ _ _ _ (_ :: _) _ _; first | refine ra (next := ?_) | refine rk (next := ?_) | refine rku (next := ?_)) | refine st_end ?_ | refine thn_normal ?_ | refine r_seq ?_ | refine r_region rfl ?_ | refine thn_exit ?_ | refine thn_ret ?_ | refine inBlk_normal ?_ | refine inBlk_ret ?_ | refine inBlk_hit ?_ | refine inBlk_miss (by decide) ?_ | refine forQ_exit ?_ | refine forQ_ret ?_ | refine loopQ_exit ?_ | refine loopQ_ret ?_ | refine r_block ?_ | refine r_skip ?_ | refine r_exit ?_ | refine r_ret ?_ | (show rwp _ _ (.cond _ _ _) _ _ _; first | refine c_t (h := ?_) | refine c_f (h := ?_)))
    obtain rfl : k = p.n := by omega
    rw [htl]
    exact ret2 ⟨p.n, vr, r, rfl, he1.trans he3, hf3, hst, hr, Nat.le_refl _, fun h => by omega⟩
end Go.Proofs.Ytjcmdmjlhngjcaa
