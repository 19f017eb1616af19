/-
  Texts of one proof, put together by program: W07b, W08, W08b, W08c, W08d, W10, W10b, W10c, W12, I12, More, W01b, W01c, W12b, W12c, I12b, I12c, OwnR, OwnM, I12d, Seq2, W12d.
  Conditions: those told at each part.
-/
import Derived.Test.YtjljbfcdpdckeaaGreatB2
set_option linter.unusedVariables false
set_option linter.unusedSimpArgs false
set_option linter.unusedSectionVars false
set_option linter.constructorNameAsVariable false
set_option linter.unnecessarySimpa false
set_option linter.deprecated false
/-
  Walk: the reference's IsPresentation.
  Conditions: the presentation reads as three lists, the first of at most a million entries.
-/
namespace Go.Proofs.YtjljbfcdpdckeaaGreat
open Go Go.Pc
theorem exp_iff {p : Pr} {v : List Int} {i : Nat} : ExpP p.ord v (i : Int) ↔ InR p v ∧ ZU (i + 1) v := by
  constructor
  · rintro ⟨h1, h2⟩
    refine ⟨⟨h1, fun k hk => ?_⟩, fun k hk => ?_⟩
    · have := (h2 k (by rw [h1]; exact hk)).1
      unfold Pr.o; omega
    · by_cases hl : k < v.length
      · exact (h2 k hl).2 (by omega)
      · rw [List.getD_eq_getElem?_getD, List.getElem?_eq_none (by omega)]; rfl
  · rintro ⟨h1, h2⟩
    refine ⟨h1.len, fun k hk => ⟨?_, fun h => h2 k (by omega)⟩⟩
    have := h1.rng k (by rw [← h1.len]; exact hk)
    unfold Pr.o at this; omega
/-- What is asked of one generator's row. -/
def RowOk (p : Pr) (q : Nat) : Prop := ExpP p.ord (p.pow.getD q []) q ∧ ((p.cnj.getD q []).length : Int) = p.n - 1 - q ∧ ∀ j, j < (p.cnj.getD q []).length → ExpP p.ord ((p.cnj.getD q []).getD j []) q
theorem valid_iff {p : Pr} : Valid p ↔ p.n ≤ 6 ∧ p.pow.length = p.n ∧ p.cnj.length = p.n ∧ (∀ i, i < p.n → p.ord.getD i 0 = 2 ∨ p.ord.getD i 0 = 3 ∨ p.ord.getD i 0 = 5 ∨ p.ord.getD i 0 = 7) ∧ p.ord.foldl (· * ·) 1 ≤ 729 ∧ ∀ q, q < p.n → RowOk p q := by
  constructor
  · intro h
    refine ⟨h.n6, h.lenw, h.lenc, h.prime, h.prod, fun q hq => ⟨exp_iff.2 ⟨h.w_in q hq, h.w_zu q hq⟩, ?_, fun j hj => ?_⟩⟩
    · have := h.lenci q hq; omega
    · have hl := h.lenci q hq
      have h1 := h.c_in q (q + 1 + j) (by omega) (by omega)
      have h2 := h.c_zu q (q + 1 + j) (by omega) (by omega)
      unfold Pr.c at h1 h2
      rw [show q + 1 + j - q - 1 = j by omega] at h1 h2
      exact exp_iff.2 ⟨h1, h2⟩
  · rintro ⟨h1, h2, h3, h4, h5, h6⟩
    have hc : ∀ i j, i < j → j < p.n → InR p (p.c i j) ∧ ZU (i + 1) (p.c i j) := fun i j hij hj => by
      have := h6 i (by omega)
      exact exp_iff.1 (this.2.2 (j - i - 1) (by have := this.2.1; omega))
    refine ⟨h1, h2, h3, fun i hi => by have := (h6 i hi).2.1; omega, h4, h5, fun i hi => (exp_iff.1 (h6 i hi).1).1, fun i hi => (exp_iff.1 (h6 i hi).1).2, fun i j a b => (hc i j a b).1, fun i j a b => (hc i j a b).2⟩
theorem primes_bd {p : Pr} (h4 : ∀ i, i < p.n → p.ord.getD i 0 = 2 ∨ p.ord.getD i 0 = 3 ∨ p.ord.getD i 0 = 5 ∨ p.ord.getD i 0 = 7) : ∀ o ∈ p.ord, 1 ≤ o ∧ o ≤ 7 := by
  intro o ho
  obtain ⟨i, hi, rfl⟩ := List.getElem_of_mem ho
  have := h4 i hi
  simp [List.getD_eq_getElem?_getD, hi] at this
  omega
set_option maxHeartbeats 2000000 in
theorem spec_IsPresentation_ok {w : World} {v : Value} {p : Pr} {lo hi : Nat} [hp : Pres lo hi w v p] (hl : p.ord.length ≤ 2000000) :
    Calls Tryz.prog 34 #[v] w (Ret fun v' w' => ∃ b, v' = .bool b ∧ (b = true ↔ Valid p) ∧ Ext w w') := by
  have hol : p.ord.length = p.n := rfl
  obtain ⟨vo, vpw, vc, ps, cs, css, rfl, h1, h2, h3⟩ := hp.ex
  refine enter (args := [.agg #[vo, vpw, vc]]) (l := [.tmp 2]) Tryz.func34 rfl rfl Tryz.ntmps34 (by simp) ?_
  refine go ?_
  refine st_box3 (by ((try simp only [ev_tmp, ev_const, ev_func, get_put, get_args, get_putL, get_putL_nil, Nat.reduceEqDiff, reduceIte, List.getD_cons_zero, List.getD_cons_succ, List.getD_nil]); first | done | with_reducible rfl)) (by first | exact True.intro | exact ⟨_, rfl, by ((try simp only [ev_tmp, ev_const, ev_func, get_put, get_args, get_putL, get_putL_nil, Nat.reduceEqDiff, reduceIte, List.getD_cons_zero, List.getD_cons_succ, List.getD_nil, Bool.not_true, Bool.not_false]); first | done | with_reducible rfl)⟩) fun w1 b he1 hb1 hs1 hc0 hc1 hc2 => ?_
  have no : ∀ {w' : World}, ¬ Valid p → Ext w w' → ∃ b, Value.bool false = .bool b ∧ (b = true ↔ Valid p) ∧ Ext w w' := fun h he => ⟨_, rfl, by simp [h], he⟩
  refine go ?_
  refine spd (fun hn => ?_) (fun hn => ?_)
  · refine go ?_
    exact ret1 (no (fun h => by have := h.n6; omega) he1)
  refine go ?_
  refine spd (fun hn2 => ?_) (fun hn2 => ?_)
  · refine go ?_
    exact ret1 (no (fun h => by have := h.lenw; omega) he1)
  refine go ?_
  refine c_if (fun hn3 => ?_) (fun hn3 => ?_)
  · refine go ?_
    exact ret1 (no (fun h => by have := h.lenc; omega) he1)
  refine go ?_
  refine r_for p.n (fun k ρ w' => Has ρ [(1, .pointer (some ⟨b, 0, none⟩)), (3, .int .i64 p.n), (4, .int .i64 k)] ∧ Ext w1 w' ∧ ∀ i, i < k → p.ord.getD i 0 = 2 ∨ p.ord.getD i 0 = 3 ∨ p.ord.getD i 0 = 5 ∨ p.ord.getD i 0 = 7) ?_ ?_
  · refine ⟨?_, Ext.refl _, fun i hi => by omega⟩
    exact hasP
  · rintro k ρ w2 hk ⟨hH, he2, hpre⟩
    refine rwp_has hH fun ρ0 => ?_
    refine go ?_
    refine c_if (fun hk1 => ?_) (fun hk1 => ?_)
    · refine go ?_
      refine rc l01Prime_ok (next := fun v3 w3 h3 => ?_)
      obtain ⟨b3, rfl, hb3, he3⟩ := h3
      refine go ?_
      refine c_b (fun h4 => ?_) (fun h4 => ?_)
      · refine go ?_
        refine ret1 (no (fun h => ?_) ((he1.trans he2).trans he3))
        have := hb3.2 (h.prime k (by omega))
        rw [this] at h4; cases h4
      · refine go ?_
        have h5 := hb3.1 (by simpa using h4)
        refine forQ_normal (by omega) ⟨?_, he2.trans he3, fun i hi => ?_⟩
        · exact hasP
        · by_cases e : i = k
          · subst e; exact h5
          · exact hpre i (by omega)
    · refine go ?_
      have hkn : k = p.n := by omega
      subst hkn
      have hbd := primes_bd hpre
      refine rc (l07Product_ok (xs := p.ord) hbd hl) (next := fun v3 w3 h3 => ?_)
      obtain ⟨rfl, he3⟩ := h3
      have hcap := capMul_foldl p.ord 1 (fun o ho => (hbd o ho).1) (by omega)
      have hcb := capMul_bd p.ord 1 hbd (by omega) (by omega)
      refine go ?_
      refine c_if (fun h4 => ?_) (fun h4 => ?_)
      · refine go ?_
        refine ret1 (no (fun h => ?_) ((he1.trans he2).trans he3))
        have := hcap.1.2 h.prod
        omega
      · have hprod := hcap.1.1 (by omega)
        have hbd' : ∀ i, i < p.ord.length → 0 ≤ p.ord.getD i 0 ∧ p.ord.getD i 0 ≤ 2000000 := fun i hi => by have := hpre i hi; omega
        clear hcap hcb
        refine go ?_
        have he13 : Ext w1 w3 := he2.trans he3
        refine r_for p.n (fun k ρ w' => Has ρ [(1, .pointer (some ⟨b, 0, none⟩)), (3, .int .i64 p.n), (5, .int .i64 k)] ∧ Ext w1 w' ∧ ∀ q, q < k → RowOk p q) ?_ ?_
        · refine ⟨?_, he13, fun i hi => by omega⟩
          exact hasP
        · clear he3 he13
          rintro k ρ w4 hk ⟨hH, he4, hrow⟩
          refine rwp_has hH fun ρ1 => ?_
          refine go ?_
          refine c_if (fun hk2 => ?_) (fun hk2 => ?_)
          · refine go ?_
            refine d_region fun w5 he5 _ => ?_
            refine dgo ?_
            refine dc (l07Exponents_ok (xs := p.pow.getD k []) hbd' hl) (next := fun v6 w6 h6 => ?_)
            obtain ⟨b6, rfl, hb6, he6⟩ := h6
            refine ⟨fun h => h.trans he6, ?_⟩
            have he16 := (he4.trans he5).trans he6
            refine da (next := ?_)
            refine da (next := ?_)
            refine dsp (fun h7 => ?_) (fun h7 => ?_)
            · refine dgo ?_
              refine d_end (h := ?_)
              refine go ?_
              refine ret1 (no (fun h => ?_) (he1.trans he16))
              have := hb6.2 ((valid_iff.1 h).2.2.2.2.2 k (by omega)).1
              rw [this] at h7; cases h7
            · have h8 := hb6.1 (by simpa using h7)
              refine dgo ?_
              refine d_end (h := ?_)
              refine go ?_
              refine c_if (fun h9 => ?_) (fun h9 => ?_)
              · refine go ?_
                refine ret1 (no (fun h => ?_) (he1.trans he16))
                have := ((valid_iff.1 h).2.2.2.2.2 k (by omega)).2.1
                omega
              · refine go ?_
                refine r_for (p.cnj.getD k []).length (fun m ρ w' => Has ρ [(1, .pointer (some ⟨b, 0, none⟩)), (3, .int .i64 p.n), (5, .int .i64 k), (6, .int .i64 m)] ∧ Ext w1 w' ∧ ∀ j, j < m → ExpP p.ord ((p.cnj.getD k []).getD j []) k) ?_ ?_
                · refine ⟨?_, he16, fun i hi => by omega⟩
                  exact hasP
                · clear he4 he5 he6 he16
                  rintro m ρ w7 hm ⟨hH, he7, hin⟩
                  refine rwp_has hH fun ρ2 => ?_
                  refine go ?_
                  refine c_if (fun hm2 => ?_) (fun hm2 => ?_)
                  · refine go ?_
                    refine d_region fun w8 he8 _ => ?_
                    refine dgo ?_
                    refine dc (l07Exponents_ok (xs := (p.cnj.getD k []).getD m []) hbd' hl) (next := fun v9 w9 h9 => ?_)
                    obtain ⟨b9, rfl, hb9, he9⟩ := h9
                    refine ⟨fun h => h.trans he9, ?_⟩
                    refine dgo ?_
                    refine d_end (h := ?_)
                    refine go ?_
                    refine c_b (fun h10 => ?_) (fun h10 => ?_)
                    · refine go ?_
                      refine ret1 (no (fun h => ?_) (he1.trans ((he7.trans he8).trans he9)))
                      have := hb9.2 (((valid_iff.1 h).2.2.2.2.2 k (by omega)).2.2 m (by omega))
                      rw [this] at h10; cases h10
                    · have h11 := hb9.1 (by simpa using h10)
                      refine go ?_
                      refine forQ_normal (by omega) ⟨?_, (he7.trans he8).trans he9, fun j hj => ?_⟩
                      · exact hasP
                      · by_cases e : j = m
                        · subst e; exact h11
                        · exact hin j (by omega)
                  · refine go ?_
                    refine forQ_normal (by omega) ⟨?_, he7, fun q hq => ?_⟩
                    · exact hasP
                    · by_cases e : q = k
                      · subst e
                        exact ⟨h8, by omega, fun j hj => hin j (by omega)⟩
                      · exact hrow q (by omega)
          · refine go ?_
            refine ret1 ⟨_, rfl, ?_, he1.trans he4⟩
            simp only [true_iff]
            exact valid_iff.2 ⟨by omega, by omega, by omega, hpre, hprod, fun q hq => hrow q (by omega)⟩
end Go.Proofs.YtjljbfcdpdckeaaGreat

/-
  Walks: the reference's product by descent (l08Image, l08At).
  Conditions: the presentation is valid, the vectors are exponent vectors with zeros ahead of the level.
-/
namespace Go.Proofs.YtjljbfcdpdckeaaGreat
open Go Go.Pc
def AtSpec (p : Pr) (i : Nat) : Prop := ∀ {w : World} {vp va vb : Value} {k : Int} {x y : List Int} {lo hi lo1 hi1 lo2 hi2 : Nat} [Pres lo hi w vp p] [Ints lo1 hi1 w va x] [Ints lo2 hi2 w vb y],
  k = i → InR p x → InR p y → ZU i x → ZU i y →
  Calls Tryz.prog 107 #[vp, .int .i64 k, va, vb] w (Ret fun v w' => Ext w w' ∧ Fr w.heap.size w' v (atv p i x y))
def ImgSpec (p : Pr) (i : Nat) : Prop := ∀ {w : World} {vp va : Value} {k : Int} {x : List Int} {lo hi lo1 hi1 : Nat} [Pres lo hi w vp p] [Ints lo1 hi1 w va x],
  k = i → InR p x →
  Calls Tryz.prog 106 #[vp, .int .i64 k, va] w (Ret fun v w' => Ext w w' ∧ Fr w.heap.size w' v (img p i x))
set_option maxHeartbeats 1000000 in
theorem img_of_at {p : Pr} (hv : Valid p) {i : Nat} (hi : i < p.n) (hat : AtSpec p (i + 1)) : ImgSpec p i := by
  intro w vp va k0 x lo hi' lo1 hi1 hp hx hk0 hxr
  subst hk0
  have hn6 := hv.n6
  have hol : p.ord.length = p.n := rfl
  have hcl : p.cnj.length = p.n := hv.lenc
  have hci := hv.lenci i hi
  obtain ⟨vo, vpw, vc, ps, cs, css, rfl, h1, h2, h3⟩ := hp.ex
  refine enter (args := [.agg #[vo, vpw, vc], .int .i64 i, va]) (l := [.tmp 6]) Tryz.func106 rfl rfl Tryz.ntmps106 (by simp) ?_
  refine go ?_
  refine st_box3 (by ((try simp only [ev_tmp, ev_const, ev_func, get_put, get_args, get_putL, get_putL_nil, Nat.reduceEqDiff, reduceIte, List.getD_cons_zero, List.getD_cons_succ, List.getD_nil]); first | done | with_reducible rfl)) (by first | exact True.intro | exact ⟨_, rfl, by ((try simp only [ev_tmp, ev_const, ev_func, get_put, get_args, get_putL, get_putL_nil, Nat.reduceEqDiff, reduceIte, List.getD_cons_zero, List.getD_cons_succ, List.getD_nil, Bool.not_true, Bool.not_false]); first | done | with_reducible rfl)⟩) fun w1 b he1 hb1 hs1 hc0 hc1 hc2 => ?_
  refine go ?_
  refine st_make_int (by ((try simp only [ev_tmp, ev_const, ev_func, get_put, get_args, get_putL, get_putL_nil, Nat.reduceEqDiff, reduceIte, List.getD_cons_zero, List.getD_cons_succ, List.getD_nil]); first | done | with_reducible rfl)) (by ((try simp only [ev_tmp, ev_const, ev_func, get_put, get_args, get_putL, get_putL_nil, Nat.reduceEqDiff, reduceIte, List.getD_cons_zero, List.getD_cons_succ, List.getD_nil]); first | done | with_reducible rfl)) (by omega) (by omega) (by first | exact True.intro | exact ⟨_, rfl, by ((try simp only [ev_tmp, ev_const, ev_func, get_put, get_args, get_putL, get_putL_nil, Nat.reduceEqDiff, reduceIte, List.getD_cons_zero, List.getD_cons_succ, List.getD_nil, Bool.not_true, Bool.not_false]); first | done | with_reducible rfl)⟩) fun w2 v2 he2 hs2 ho2 => ?_
  have hz : Fr w.heap.size w2 v2 (zeros p.n) := ho2.toFr (by omega)
  refine go ?_
  refine r_for (p.n - (i + 1)) (fun k ρ w' => ∃ vo', Has ρ [(1, .int .i64 i), (2, va), (3, .pointer (some ⟨b, 0, none⟩)), (7, .int .i64 p.n), (8, vo'), (9, .int .i64 (i + 1 + k : Nat))] ∧ Ext w1 w' ∧ Fr w.heap.size w' vo' (imgTo p i x k)) ?_ ?_
  · refine ⟨v2, ?_, he2, hz⟩
    exact hasP
  · rintro k ρ w3 hk ⟨vo', hH, he3, hf3⟩
    refine rwp_has hH fun ρ0 => ?_
    refine go ?_
    refine c_if (fun h4 => ?_) (fun h4 => ?_)
    · refine go ?_
      have hxj := hxr.rng (i + 1 + k) (by omega)
      have hoj := hv.opos (i := i + 1 + k) (by omega)
      have hxl := hxr.len
      refine r_for (x.getD (i + 1 + k) 0).toNat (fun q ρ w' => ∃ vo', Has ρ [(1, .int .i64 i), (2, va), (3, .pointer (some ⟨b, 0, none⟩)), (7, .int .i64 p.n), (8, vo'), (9, .int .i64 (i + 1 + k : Nat)), (10, .int .i64 q)] ∧ Ext w1 w' ∧
        Fr w.heap.size w' vo' (rep q (fun o => atv p (i + 1) o (p.c i (i + 1 + k))) (imgTo p i x k))) ?_ ?_
      · refine ⟨vo', ?_, he3, hf3⟩
        exact hasP
      · rintro q ρ w4 hq ⟨vo2, hH2, he4, hf4⟩
        refine rwp_has hH2 fun ρ1 => ?_
        refine go ?_
        refine c_if (fun h5 => ?_) (fun h5 => ?_)
        · refine go ?_
          refine d_region fun w5 he5 _ => ?_
          refine dgo ?_
          have hin := rep_inv (fun v => InR p v ∧ ZU (i + 1) v) (f := fun o => atv p (i + 1) o (p.c i (i + 1 + k))) (fun o ho => atv_in hv _ _ rfl _ _ ho.1 (hv.c_in _ _ (by omega) (by omega)) ho.2 (hv.c_zu _ _ (by omega) (by omega))) (imgTo_in hv (atv_in hv _ (i + 1) rfl) x k hk) q
          have hcin : InR p (p.c i (i + 1 + k)) := hv.c_in _ _ (by omega) (by omega)
          have hczu : ZU (i + 1) (p.c i (i + 1 + k)) := hv.c_zu _ _ (by omega) (by omega)
          refine dc (hat ?_ hin.1 hcin hin.2 hczu) (next := fun v6 w6 ⟨he6, hf6⟩ => ⟨fun h => h.trans he6, ?_⟩)
          · omega
          refine dgo ?_
          refine d_end (h := ?_)
          refine go ?_
          refine forQ_normal (by omega) ⟨v6, ?_, (he4.trans he5).trans he6, hf6.mono ?_⟩
          · exact hasP
          · have := he4.size; have := he5.size; omega
        · refine go ?_
          refine forQ_normal (by omega) ⟨vo2, ?_, he4, ?_⟩
          · exact hasP
          · rw [imgTo_succ]
            have : q = (x.getD (i + 1 + k) 0).toNat := by omega
            rw [← this]; exact hf4
    · refine go ?_
      have : k = p.n - (i + 1) := by omega
      subst this
      exact ret1 ⟨he1.trans he3, hf3⟩
set_option maxHeartbeats 2000000 in
theorem at_of_img {p : Pr} (hv : Valid p) {i : Nat} (himg : i < p.n → ImgSpec p i) (hat : i < p.n → AtSpec p (i + 1)) : AtSpec p i := by
  intro w vp va vb k0 x y lo hi lo1 hi1 lo2 hi2 hp hx hy hk0 hxr hyr zx zy
  subst hk0
  have hn6 := hv.n6
  have hol : p.ord.length = p.n := rfl
  have hwl : p.pow.length = p.n := hv.lenw
  replace hp := hp.wide
  replace hx := hx.wide
  replace hy := hy.wide
  obtain ⟨vo, vpw, vc, ps, cs, css, rfl, h1, h2, h3⟩ := hp.ex
  refine enter (args := [.agg #[vo, vpw, vc], .int .i64 i, va, vb]) (l := [.tmp 8]) Tryz.func107 rfl rfl Tryz.ntmps107 (by simp) ?_
  refine go ?_
  refine st_box3 (by ((try simp only [ev_tmp, ev_const, ev_func, get_put, get_args, get_putL, get_putL_nil, Nat.reduceEqDiff, reduceIte, List.getD_cons_zero, List.getD_cons_succ, List.getD_nil]); first | done | with_reducible rfl)) (by first | exact True.intro | exact ⟨_, rfl, by ((try simp only [ev_tmp, ev_const, ev_func, get_put, get_args, get_putL, get_putL_nil, Nat.reduceEqDiff, reduceIte, List.getD_cons_zero, List.getD_cons_succ, List.getD_nil, Bool.not_true, Bool.not_false]); first | done | with_reducible rfl)⟩) fun w1 b he1 hb1 hs1 hc0 hc1 hc2 => ?_
  refine go ?_
  refine c_if (fun h4 => ?_) (fun h4 => ?_)
  · refine go ?_
    refine st_make_int (by ((try simp only [ev_tmp, ev_const, ev_func, get_put, get_args, get_putL, get_putL_nil, Nat.reduceEqDiff, reduceIte, List.getD_cons_zero, List.getD_cons_succ, List.getD_nil]); first | done | with_reducible rfl)) (by ((try simp only [ev_tmp, ev_const, ev_func, get_put, get_args, get_putL, get_putL_nil, Nat.reduceEqDiff, reduceIte, List.getD_cons_zero, List.getD_cons_succ, List.getD_nil]); first | done | with_reducible rfl)) (by omega) (by omega) (by first | exact True.intro | exact ⟨_, rfl, by ((try simp only [ev_tmp, ev_const, ev_func, get_put, get_args, get_putL, get_putL_nil, Nat.reduceEqDiff, reduceIte, List.getD_cons_zero, List.getD_cons_succ, List.getD_nil, Bool.not_true, Bool.not_false]); first | done | with_reducible rfl)⟩) fun w2 v2 he2 hs2 ho2 => ?_
    refine go ?_
    refine ret1 ⟨he1.trans he2, ?_⟩
    rw [atv_end _ _ _ _ (by omega)]
    exact ho2.toFr (by omega)
  · have hin : i < p.n := by omega
    have hxl := hxr.len
    have hyl := hyr.len
    have hxi := hxr.rng i hin
    have hyi := hyr.rng i hin
    have hoi := hv.opos hin
    refine go ?_
    refine rc (l01Own_ok (xs := x) (by omega)) (next := fun v2 w2 ⟨he2, hf2⟩ => ?_)
    refine go ?_
    refine rc (l01Own_ok (xs := y) (by omega)) (next := fun v3 w3 ⟨he3, hf3⟩ => ?_)
    refine go ?_
    obtain ⟨e2, b2, hb2, ho2⟩ := hf2.own (by intro e; rw [e] at hxl; simp at hxl; omega)
    obtain ⟨e3, b3, hb3, ho3⟩ := hf3.own (by intro e; rw [e] at hyl; simp at hyl; omega)
    have hl2 := ho2.lt
    have hl3 := ho3.lt
    have hz1 := he1.size
    have hz2 := he2.size
    have hz3 := he3.size
    have ap1 : Apart 0 w.heap.size b2 := ⟨.inr (by omega)⟩
    have ap2 : Apart 0 w.heap.size b3 := ⟨.inr (by omega)⟩
    have ap3 : Apart b (b + 1) b2 := ⟨.inr (by omega)⟩
    have ap4 : Apart b (b + 1) b3 := ⟨.inr (by omega)⟩
    have ho2' : OwnI e2 b2 w3 v2 x := OwnI.ext (h := ho2)
    clear hf2 hf3 ho2
    refine st_store_int (by ((try simp only [ev_tmp, ev_const, ev_func, get_put, get_args, get_putL, get_putL_nil, Nat.reduceEqDiff, reduceIte, List.getD_cons_zero, List.getD_cons_succ, List.getD_nil]); first | done | with_reducible rfl)) (by ((try simp only [ev_tmp, ev_const, ev_func, get_put, get_args, get_putL, get_putL_nil, Nat.reduceEqDiff, reduceIte, List.getD_cons_zero, List.getD_cons_succ, List.getD_nil]); first | done | with_reducible rfl)) ?_ (by first | exact True.intro | exact ⟨_, rfl, by ((try simp only [ev_tmp, ev_const, ev_func, get_put, get_args, get_putL, get_putL_nil, Nat.reduceEqDiff, reduceIte, List.getD_cons_zero, List.getD_cons_succ, List.getD_nil, Bool.not_true, Bool.not_false]); first | done | with_reducible rfl)⟩) fun w4 hc4 hs4 ho4 => ?_
    · omega
    have ho3' := ho3.chg' hc4 (by omega)
    refine go ?_
    refine st_store_int (by ((try simp only [ev_tmp, ev_const, ev_func, get_put, get_args, get_putL, get_putL_nil, Nat.reduceEqDiff, reduceIte, List.getD_cons_zero, List.getD_cons_succ, List.getD_nil]); first | done | with_reducible rfl)) (by ((try simp only [ev_tmp, ev_const, ev_func, get_put, get_args, get_putL, get_putL_nil, Nat.reduceEqDiff, reduceIte, List.getD_cons_zero, List.getD_cons_succ, List.getD_nil]); first | done | with_reducible rfl)) ?_ (by first | exact True.intro | exact ⟨_, rfl, by ((try simp only [ev_tmp, ev_const, ev_func, get_put, get_args, get_putL, get_putL_nil, Nat.reduceEqDiff, reduceIte, List.getD_cons_zero, List.getD_cons_succ, List.getD_nil, Bool.not_true, Bool.not_false]); first | done | with_reducible rfl)⟩) fun w5 hc5 hs5 ho5 => ?_
    · omega
    have ho4' := ho4.chg' hc5 (by omega)
    have hE5 : Ext w w5 := hc5.ext (hc4.ext ((he1.trans he2).trans he3) (by omega)) (by omega)
    clear ho2' ho3' ho3 ho4
    refine go ?_
    have hx0 : InR p (x.set i 0) ∧ ZU (i + 1) (x.set i 0) := ⟨hxr.set (by omega) (fun _ => by omega), zx.set0⟩
    have hy0 : InR p (y.set i 0) ∧ ZU (i + 1) (y.set i 0) := ⟨hyr.set (by omega) (fun _ => by omega), zy.set0⟩
    have hrin : ∀ q, InR p (rep q (img p i) (x.set i 0)) ∧ ZU (i + 1) (rep q (img p i) (x.set i 0)) := fun q => rep_inv (fun v => InR p v ∧ ZU (i + 1) v) (fun u _ => img_in hv i u) hx0 q
    refine r_for (y.getD i 0).toNat (fun q ρ w' => ∃ vl lo hi, Has ρ [(1, .int .i64 i), (2, va), (3, vb), (4, .pointer (some ⟨b, 0, none⟩)), (9, .int .i64 p.n), (10, vl), (11, v3), (12, .int .i64 q)] ∧ Ext w5 w' ∧ Ints lo hi w' vl (rep q (img p i) (x.set i 0))) ?_ ?_
    · refine ⟨v2, _, _, ?_, Ext.refl _, inferInstance⟩
      exact hasP
    · rintro q ρ w6 hq ⟨vl, lo', hi', hH, he6, hl6⟩
      refine rwp_has hH fun ρ0 => ?_
      refine go ?_
      refine c_if (fun h7 => ?_) (fun h7 => ?_)
      · refine go ?_
        refine rc (himg hin ?_ (hrin q).1) (next := fun v7 w7 ⟨he7, hf7⟩ => ?_)
        · omega
        refine go ?_
        refine forQ_normal (by omega) ⟨v7, _, _, ?_, he6.trans he7, inferInstance⟩
        exact hasP
      · have hqe : q = (y.getD i 0).toNat := by omega
        refine go ?_
        have hrr := hrin q
        refine rc (hat hin ?_ hrr.1 hy0.1 hrr.2 hy0.2) (next := fun v7 w7 ⟨he7, hf7⟩ => ?_)
        · omega
        refine go ?_
        refine d_region fun w8 he8 _ => ?_
        refine dgo ?_
        refine d_end (h := ?_)
        have hE8 := (he6.trans he7).trans he8
        have hz8 := hE8.size
        have hor : p.ord.getD i 0 = p.o i := rfl
        have hat7 := atv_in hv _ (i + 1) rfl _ _ hrr.1 hy0.1 hrr.2 hy0.2
        have hwi := hv.w_in i hin
        have hwz := hv.w_zu i hin
        have hveq := atv_eq p i x y hin
        rw [← hqe] at hveq
        have hlen7 := hat7.1.len
        clear hl6 ho5 ho4'
        refine go ?_
        refine c_if (fun h9 => ?_) (fun h9 => ?_)
        · have h9' : p.o i ≤ x.getD i 0 + y.getD i 0 := h9
          rw [if_pos h9'] at hveq
          refine go ?_
          refine d_region fun w9 he9 _ => ?_
          refine dgo ?_
          refine dc (hat hin (x := p.w i) (y := atv p (i + 1) (rep q (img p i) (x.set i 0)) (y.set i 0)) ?_ hwi hat7.1 hwz hat7.2) (next := fun v10 w10 ⟨he10, hf10⟩ => ⟨fun h => h.trans he10, ?_⟩)
          · omega
          refine dgo ?_
          refine d_end (h := ?_)
          have hat10 := atv_in hv _ (i + 1) rfl _ _ hwi hat7.1 hwz hat7.2
          have hlen10 := hat10.1.len
          refine go ?_
          refine rc (l01Own_ok (xs := atv p (i + 1) (p.w i) (atv p (i + 1) (rep q (img p i) (x.set i 0)) (y.set i 0))) (by omega)) (next := fun v11 w11 ⟨he11, hf11⟩ => ?_)
          refine go ?_
          obtain ⟨e11, b11, hb11, ho11⟩ := hf11.own (by intro e; rw [e] at hlen10; simp at hlen10; omega)
          clear hf11
          refine st_store_int (by ((try simp only [ev_tmp, ev_const, ev_func, get_put, get_args, get_putL, get_putL_nil, Nat.reduceEqDiff, reduceIte, List.getD_cons_zero, List.getD_cons_succ, List.getD_nil]); first | done | with_reducible rfl)) (by ((try simp only [ev_tmp, ev_const, ev_func, get_put, get_args, get_putL, get_putL_nil, Nat.reduceEqDiff, reduceIte, List.getD_cons_zero, List.getD_cons_succ, List.getD_nil]); first | done | with_reducible rfl)) ?_ (by first | exact True.intro | exact ⟨_, rfl, by ((try simp only [ev_tmp, ev_const, ev_func, get_put, get_args, get_putL, get_putL_nil, Nat.reduceEqDiff, reduceIte, List.getD_cons_zero, List.getD_cons_succ, List.getD_nil, Bool.not_true, Bool.not_false]); first | done | with_reducible rfl)⟩) fun w12 hc12 hs12 ho12 => ?_
          · omega
          refine go ?_
          have h9s := he9.size
          have h10s := he10.size
          refine ret1 ⟨hc12.ext ((((hE5.trans hE8).trans he9).trans he10).trans he11) (by omega), ?_⟩
          rw [hveq]
          exact ho12.toFr (by omega)
        · have h9' : ¬ p.o i ≤ x.getD i 0 + y.getD i 0 := h9
          rw [if_neg h9'] at hveq
          refine go ?_
          refine rc (l01Own_ok (xs := atv p (i + 1) (rep q (img p i) (x.set i 0)) (y.set i 0)) (by omega)) (next := fun v11 w11 ⟨he11, hf11⟩ => ?_)
          refine go ?_
          obtain ⟨e11, b11, hb11, ho11⟩ := hf11.own (by intro e; rw [e] at hlen7; simp at hlen7; omega)
          clear hf11
          refine st_store_int (by ((try simp only [ev_tmp, ev_const, ev_func, get_put, get_args, get_putL, get_putL_nil, Nat.reduceEqDiff, reduceIte, List.getD_cons_zero, List.getD_cons_succ, List.getD_nil]); first | done | with_reducible rfl)) (by ((try simp only [ev_tmp, ev_const, ev_func, get_put, get_args, get_putL, get_putL_nil, Nat.reduceEqDiff, reduceIte, List.getD_cons_zero, List.getD_cons_succ, List.getD_nil]); first | done | with_reducible rfl)) ?_ (by first | exact True.intro | exact ⟨_, rfl, by ((try simp only [ev_tmp, ev_const, ev_func, get_put, get_args, get_putL, get_putL_nil, Nat.reduceEqDiff, reduceIte, List.getD_cons_zero, List.getD_cons_succ, List.getD_nil, Bool.not_true, Bool.not_false]); first | done | with_reducible rfl)⟩) fun w12 hc12 hs12 ho12 => ?_
          · omega
          refine go ?_
          refine ret1 ⟨hc12.ext ((hE5.trans hE8).trans he11) (by omega), ?_⟩
          rw [hveq]
          exact ho12.toFr (by omega)
theorem at_ok {p : Pr} (hv : Valid p) : ∀ (m i : Nat), p.n - i = m → AtSpec p i
  | 0, i, hm => at_of_img hv (fun h => by omega) (fun h => by omega)
  | m + 1, i, hm => at_of_img hv (fun h => img_of_at hv h (at_ok hv m (i + 1) (by omega))) (fun _ => at_ok hv m (i + 1) (by omega))
theorem l08At_ok {p : Pr} (hv : Valid p) (i : Nat) : AtSpec p i := at_ok hv _ i rfl
theorem l08Image_ok {p : Pr} (hv : Valid p) {i : Nat} (hi : i < p.n) : ImgSpec p i := img_of_at hv hi (l08At_ok hv (i + 1))
end Go.Proofs.YtjljbfcdpdckeaaGreat

/-
  Walks: the reference's powers and the conditions of a level (l08Repeat, l08Level).
  Conditions: the presentation is valid and its tail behind the level is a group.
-/
namespace Go.Proofs.YtjljbfcdpdckeaaGreat
open Go Go.Pc
/-- Of whatever footprint. -/
def IntsE (w : World) (v : Value) (xs : List Int) : Prop := ∃ lo hi, Ints lo hi w v xs
theorem IntsE.of {lo hi : Nat} {w : World} {v : Value} {xs : List Int} [h : Ints lo hi w v xs] : IntsE w v xs := ⟨lo, hi, h⟩
theorem l08AtT_ok {p : Pr} {i : Nat} [hc : Con p i] {w : World} {vp va vb : Value} {k : Int} {x y : T p i} {lo hi lo1 hi1 lo2 hi2 : Nat} [hp : Pres lo hi w vp p] [hx : Ints lo1 hi1 w va x.v] [hy : Ints lo2 hi2 w vb y.v] (hk : k = i) :
    Calls Tryz.prog 107 #[vp, .int .i64 k, va, vb] w (Ret fun v w' => Ext w w' ∧ Fr w.heap.size w' v (x * y).v) :=
  l08At_ok hc.valid i hk x.inr y.inr x.zu y.zu
set_option maxHeartbeats 1000000 in
theorem l08Repeat_ok {p : Pr} {i : Nat} [hc : Con p i] {w : World} {vp vx : Value} {ki k : Int} {x : T p i} {xs : List Int} {lo hi lo1 hi1 : Nat} [hp : Pres lo hi w vp p] [hx : Ints lo1 hi1 w vx xs] (hxe : xs = x.v) (hki : ki = i) (hk0 : 0 ≤ k) (hk1 : k ≤ 9223372036854775807) :
    Calls Tryz.prog 87 #[vp, .int .i64 ki, vx, .int .i64 k] w (Ret fun v w' => Ext w w' ∧ Fr w.heap.size w' v (Grp.pw x k.toNat).v) := by
  subst hki hxe
  have hv := hc.valid
  have hn6 := hv.n6
  have hol : p.ord.length = p.n := rfl
  obtain ⟨vo, vpw, vc, ps, cs, css, rfl, h1, h2, h3⟩ := hp.ex
  refine enter (args := [.agg #[vo, vpw, vc], .int .i64 i, vx, .int .i64 k]) (l := [.tmp 8]) Tryz.func87 rfl rfl Tryz.ntmps87 (by simp) ?_
  refine go ?_
  refine st_box3 (by ((try simp only [ev_tmp, ev_const, ev_func, get_put, get_args, get_putL, get_putL_nil, Nat.reduceEqDiff, reduceIte, List.getD_cons_zero, List.getD_cons_succ, List.getD_nil]); first | done | with_reducible rfl)) (by first | exact True.intro | exact ⟨_, rfl, by ((try simp only [ev_tmp, ev_const, ev_func, get_put, get_args, get_putL, get_putL_nil, Nat.reduceEqDiff, reduceIte, List.getD_cons_zero, List.getD_cons_succ, List.getD_nil, Bool.not_true, Bool.not_false]); first | done | with_reducible rfl)⟩) fun w1 b he1 hb1 hs1 hc0 hc1 hc2 => ?_
  refine go ?_
  refine st_make_int (by ((try simp only [ev_tmp, ev_const, ev_func, get_put, get_args, get_putL, get_putL_nil, Nat.reduceEqDiff, reduceIte, List.getD_cons_zero, List.getD_cons_succ, List.getD_nil]); first | done | with_reducible rfl)) (by ((try simp only [ev_tmp, ev_const, ev_func, get_put, get_args, get_putL, get_putL_nil, Nat.reduceEqDiff, reduceIte, List.getD_cons_zero, List.getD_cons_succ, List.getD_nil]); first | done | with_reducible rfl)) (by omega) (by omega) (by first | exact True.intro | exact ⟨_, rfl, by ((try simp only [ev_tmp, ev_const, ev_func, get_put, get_args, get_putL, get_putL_nil, Nat.reduceEqDiff, reduceIte, List.getD_cons_zero, List.getD_cons_succ, List.getD_nil, Bool.not_true, Bool.not_false]); first | done | with_reducible rfl)⟩) fun w2 v2 he2 hs2 ho2 => ?_
  refine go ?_
  refine r_loop (fun m ρ w' => ∃ (vo' vb' : Value) (a c : Nat), Has ρ [(1, .int .i64 i), (3, .int .i64 m), (4, .pointer (some ⟨b, 0, none⟩)), (9, vo'), (10, vb')] ∧ Ext w1 w' ∧ (m : Int) ≤ k ∧ a + c * m = k.toNat ∧
    Fr w.heap.size w' vo' (Grp.pw x a).v ∧ IntsE w' vb' (Grp.pw x c).v) k.toNat ?_ ?_
  · refine ⟨v2, vx, 0, 1, ?_, he2, by omega, by omega, ho2.toFr (by omega), ?_⟩
    · exact hasP
    · rw [Grp.pw_one]; exact IntsE.of
  · rintro m ρ w3 ⟨vo', vb', a, c, hH, he3, hm, hac, hf3, lo2, hi2, hi3⟩
    refine rwp_has hH fun ρ0 => ?_
    refine go ?_
    refine c_if (fun h4 => ?_) (fun h4 => ?_)
    · have hz := he1.size
      have hz3 := he3.size
      have hdiv : m = 2 * (m / 2) + m % 2 := by omega
      have hcm : c * m = (c + c) * (m / 2) + c * (m % 2) := by
        conv => lhs; rw [hdiv]
        rw [Nat.mul_add, ← Nat.mul_assoc, Nat.mul_two]
      refine go ?_
      refine c_if (fun h5 => ?_) (fun h5 => ?_)
      · refine go ?_
        refine rc (l08AtT_ok (x := Grp.pw x a) (y := Grp.pw x c) ?_) (next := fun v4 w4 h6 => ?_)
        · rfl
        obtain ⟨he4, hf4⟩ := h6
        refine go ?_
        refine rc (l08AtT_ok (x := Grp.pw x c) (y := Grp.pw x c) ?_) (next := fun v5 w5 h6 => ?_)
        · rfl
        obtain ⟨he5, hf5⟩ := h6
        refine go ?_
        have hm2 : m % 2 = 1 := by omega
        rw [hm2, Nat.mul_one] at hcm
        refine loopQ_normal (m := m / 2) (by omega) ⟨v4, v5, a + c, c + c, ?_, (he3.trans he4).trans he5, by omega, by omega, ?_, ?_⟩
        rotate_left
        · rw [Grp.pw_add]; exact (hf4.mono (by omega)).ext' he5
        · rw [Grp.pw_add]; exact IntsE.of (h := hf5.ints)
        · exact hasP
      · refine go ?_
        refine rc (l08AtT_ok (x := Grp.pw x c) (y := Grp.pw x c) ?_) (next := fun v5 w5 h6 => ?_)
        · rfl
        obtain ⟨he5, hf5⟩ := h6
        refine go ?_
        have hm2 : m % 2 = 0 := by omega
        rw [hm2, Nat.mul_zero] at hcm
        refine loopQ_normal (m := m / 2) (by omega) ⟨vo', v5, a, c + c, ?_, he3.trans he5, by omega, by omega, hf3.ext' he5, ?_⟩
        rotate_left
        · rw [Grp.pw_add]; exact IntsE.of (h := hf5.ints)
        · exact hasP
    · refine go ?_
      have hm0 : m = 0 := by omega
      subst hm0
      refine ret1 ⟨he1.trans he3, ?_⟩
      have : a = k.toNat := by omega
      rw [← this]; exact hf3
end Go.Proofs.YtjljbfcdpdckeaaGreat

/-
  Walk: the reference's look at one level (l08Level).
  Conditions: the presentation is valid, the tail behind the level is a group.
-/
namespace Go.Proofs.YtjljbfcdpdckeaaGreat
open Go Go.Pc
@[reducible] def faultV (k l f s : Int) : Value := .agg #[.int .i64 k, .int .i64 l, .int .i64 f, .int .i64 s]
/-- The conditions of a level, one generator (or pair) at a time. -/
def LP (p : Pr) (i : Nat) [h : Con p (i + 1)] (j : Nat) : Prop := ∀ hj : i < j ∧ j < p.n, (Grp.pw (Tc h.valid hj) (p.o j).toNat).v = img p i (p.w j)
def LC (p : Pr) (i : Nat) (j k : Nat) : Prop := i < j → j < k → k < p.n → atv p (i + 1) (p.c i k) (p.c i j) = atv p (i + 1) (p.c i j) (img p i (p.c j k))
def LI (p : Pr) (i : Nat) (j : Nat) : Prop := i + 1 ≤ j → j < p.n → atv p (i + 1) (p.w i) (rep (p.o i).toNat (img p i) (unitv p j 1)) = atv p (i + 1) (unitv p j 1) (p.w i)
theorem rep_Timg {p : Pr} {i : Nat} (hv : Valid p) (q : Nat) (u : T p (i + 1)) : (rep q (Timg hv) u).v = rep q (img p i) u.v := by
  induction q with
  | zero => rfl
  | succ q ih => rw [rep_succ, rep_succ, ← ih]; rfl
theorem chk_iff {p : Pr} {i : Nat} [h : Con p (i + 1)] (hi : i < p.n) : Chk p i hi ↔ (∀ j, LP p i j) ∧ (∀ j k, LC p i j k) ∧ img p i (p.w i) = p.w i ∧ ∀ j, LI p i j := by
  constructor
  · intro hc
    refine ⟨fun j hj => congrArg T.v (hc.P j hj), fun j k hj hjk hk => ?_, congrArg T.v hc.F, fun j hj hjn => ?_⟩
    · have h2 := congrArg (Tc h.valid (i := i) (j := j) ⟨hj, by omega⟩ * ·) (hc.C j k ⟨hj, by omega⟩ ⟨by omega, hk⟩ hjk)
      simp only [Grp.mul_cj] at h2
      exact congrArg T.v h2
    · have := hc.I j ⟨hj, hjn⟩
      have h2 : Tw h.valid hi * rep (p.o i).toNat (Timg h.valid) (gen h.valid (i + 1) j ⟨hj, hjn⟩) = gen h.valid (i + 1) j ⟨hj, hjn⟩ * Tw h.valid hi := by rw [this, Grp.mul_cj]
      have h3 := congrArg T.v h2
      rw [T.mul_val, rep_Timg, T.mul_val] at h3
      exact h3
  · rintro ⟨h1, h2, h3, h4⟩
    refine ⟨fun j hj => T.ext (h1 j hj), fun j k hj hk hjk => ?_, T.ext h3, fun j hj => ?_⟩
    · apply Grp.mul_left_cancel (a := Tc h.valid hj)
      rw [Grp.mul_cj]
      exact T.ext (h2 j k hj.1 hjk hk.2)
    · apply Grp.mul_left_cancel (a := Tw h.valid hi)
      rw [Grp.mul_cj]
      apply T.ext
      rw [T.mul_val, rep_Timg, T.mul_val]
      exact h4 j hj.1 hj.2
set_option maxHeartbeats 4000000 in
theorem l08Level_ok {p : Pr} {i : Nat} [hc : Con p (i + 1)] (hi : i < p.n) {w : World} {vp : Value} {ki : Int} {lo hi' : Nat} [hp : Pres lo hi' w vp p] (hki : ki = i) :
    Calls Tryz.prog 80 #[vp, .int .i64 ki] w (Ret fun v w' => ∃ k l f s : Int, v = faultV k l f s ∧ (k = 0 ↔ Chk p i hi) ∧ (k ≠ 0 → l = i) ∧ (k = 0 → l = 0 ∧ f = 0 ∧ s = 0) ∧ Ext w w') := by
  subst hki
  have hv := hc.valid
  have hn6 := hv.n6
  have hol : p.ord.length = p.n := rfl
  have hwl : p.pow.length = p.n := hv.lenw
  have hcl : p.cnj.length = p.n := hv.lenc
  have hci : (p.cnj.getD i []).length = p.n - 1 - i := hv.lenci i hi
  have hoi := hv.opos hi
  have hoe : p.o i = p.ord.getD i 0 := rfl
  obtain ⟨vo, vpw, vc, ps, cs, css, rfl, h1, h2, h3⟩ := hp.ex
  refine enter (args := [.agg #[vo, vpw, vc], .int .i64 i]) (l := [.cell 4 70]) Tryz.func80 rfl rfl Tryz.ntmps80 (by simp) ?_
  refine go ?_
  refine st_box3 (by ((try simp only [ev_tmp, ev_const, ev_func, get_put, get_args, get_putL, get_putL_nil, Nat.reduceEqDiff, reduceIte, List.getD_cons_zero, List.getD_cons_succ, List.getD_nil]); first | done | with_reducible rfl)) (by first | exact True.intro | exact ⟨_, rfl, by ((try simp only [ev_tmp, ev_const, ev_func, get_put, get_args, get_putL, get_putL_nil, Nat.reduceEqDiff, reduceIte, List.getD_cons_zero, List.getD_cons_succ, List.getD_nil, Bool.not_true, Bool.not_false]); first | done | with_reducible rfl)⟩) fun w1 b he1 hb1 hs1 hc0 hc1 hc2 => ?_
  refine go ?_
  refine st_alloc (by first | exact True.intro | exact ⟨_, rfl, by ((try simp only [ev_tmp, ev_const, ev_func, get_put, get_args, get_putL, get_putL_nil, Nat.reduceEqDiff, reduceIte, List.getD_cons_zero, List.getD_cons_succ, List.getD_nil, Bool.not_true, Bool.not_false]); first | done | with_reducible rfl)⟩) fun w2 bf he2 hbf hs2 hbk => ?_
  have hE2 : Ext w w2 := he1.trans he2
  have bad : ∀ {w3 : World} {k f s : Int}, Ext w w3 → k ≠ 0 → ¬ Chk p i hi → ∃ k' l' f' s' : Int, faultV k i f s = faultV k' l' f' s' ∧ (k' = 0 ↔ Chk p i hi) ∧ (k' ≠ 0 → l' = i) ∧ (k' = 0 → l' = 0 ∧ f' = 0 ∧ s' = 0) ∧ Ext w w3 :=
    fun he hk hn => ⟨_, _, _, _, rfl, ⟨fun h => absurd h hk, fun h => absurd h hn⟩, fun _ => rfl, fun h => absurd h hk, he⟩
  refine go ?_
  refine r_for (p.n - (i + 1)) (fun k ρ w' => Has ρ [(1, .int .i64 i), (2, .pointer (some ⟨b, 0, none⟩)), (4, .pointer (some ⟨bf, 0, none⟩)), (5, .int .i64 p.n), (6, .int .i64 i), (7, .int .i64 (i + 1 + k : Nat))] ∧ Ext w2 w' ∧ ∀ j, j < i + 1 + k → LP p i j) ?_ ?_
  · refine ⟨?_, Ext.refl _, fun j hj hj' => by omega⟩
    exact hasP
  · rintro k ρ w3 hk ⟨hH, he3, hP⟩
    refine rwp_has hH fun ρ0 => ?_
    refine go ?_
    refine c_if (fun hj => ?_) (fun hj => ?_)
    · have hjn : i < i + 1 + k ∧ i + 1 + k < p.n := ⟨by omega, by omega⟩
      have hoj : 2 ≤ p.ord.getD (i + 1 + k) 0 ∧ p.ord.getD (i + 1 + k) 0 ≤ 7 := hv.opos hjn.2
      refine go ?_
      refine d_region fun w4 he4 _ => ?_
      refine dgo ?_
      refine dc (l08Repeat_ok (x := Tc hv hjn) rfl ?_ ?_ ?_) (next := fun v5 w5 h5 => ?_)
      · omega
      · omega
      · omega
      obtain ⟨he5, hf5⟩ := h5
      refine ⟨fun h => h.trans he5, ?_⟩
      refine dgo ?_
      refine d_end (h := ?_)
      refine go ?_
      refine d_region fun w6 he6 _ => ?_
      refine dgo ?_
      refine dc (l08Image_ok hv hi (x := p.w (i + 1 + k)) ?_ (hv.w_in _ hjn.2)) (next := fun v7 w7 h7 => ?_)
      · rfl
      obtain ⟨he7, hf7⟩ := h7
      refine ⟨fun h => h.trans he7, ?_⟩
      have hlen := (Grp.pw (Tc hv hjn) (p.o (i + 1 + k)).toNat).inr.len
      refine dc (l01Same_ok (xs := (Grp.pw (Tc hv hjn) (p.o (i + 1 + k)).toNat).v) (ys := img p i (p.w (i + 1 + k))) ?_) (next := fun v8 w8 h8 => ?_)
      · omega
      obtain ⟨b8, rfl, hb8, he8⟩ := h8
      refine ⟨fun h => h.trans he8, ?_⟩
      have hE8 : Ext w2 w8 := ((((he3.trans he4).trans he5).trans he6).trans he7).trans he8
      refine dgo ?_
      refine d_end (h := ?_)
      refine go ?_
      refine c_b (fun h9 => ?_) (fun h9 => ?_)
      · refine go ?_
        refine ra (v := faultV 1 i (i + 1 + k : Nat) 0) (h := rd_build (by simp only [ev_tmp, ev_const, ev_func, get_put, get_args, get_putL, get_putL_nil, Nat.reduceEqDiff, reduceIte, List.getD_cons_zero, List.getD_cons_succ, List.getD_nil, List.map_toArray, List.map_cons, List.map_nil]; rfl) (fun _ => by kernel_rfl)) (next := ?_)
        refine st_store_agg (vs := [.int .i64 1, .int .i64 i, .int .i64 (i + 1 + k : Nat), .int .i64 0]) (cs := _) (by ((try simp only [ev_tmp, ev_const, ev_func, get_put, get_args, get_putL, get_putL_nil, Nat.reduceEqDiff, reduceIte, List.getD_cons_zero, List.getD_cons_succ, List.getD_nil]); first | done | with_reducible rfl)) (by ((try simp only [ev_tmp, ev_const, ev_func, get_put, get_args, get_putL, get_putL_nil, Nat.reduceEqDiff, reduceIte, List.getD_cons_zero, List.getD_cons_succ, List.getD_nil]); first | done | with_reducible rfl)) rfl ?_ rfl (by first | exact True.intro | exact ⟨_, rfl, by ((try simp only [ev_tmp, ev_const, ev_func, get_put, get_args, get_putL, get_putL_nil, Nat.reduceEqDiff, reduceIte, List.getD_cons_zero, List.getD_cons_succ, List.getD_nil, Bool.not_true, Bool.not_false]); first | done | with_reducible rfl)⟩) fun w9 hc9 hs9 hb9 => ?_
        · rfl
        refine go ?_
        refine retc (bad (k := 1) (f := (i + 1 + k : Nat)) (s := 0) (hc9.ext (hE2.trans hE8) ?_) (by decide) fun h => ?_) rfl
        · have := hE2.size; have := he1.size; omega
        · have := hb8.2 (((chk_iff hi).1 h).1 _ hjn)
          rw [this] at h9; cases h9
      · have h10 := hb8.1 (by simpa using h9)
        refine go ?_
        refine forQ_normal (by omega) ⟨?_, hE8, fun j hj => ?_⟩
        · exact hasP
        · by_cases e : j = i + 1 + k
          · subst e; exact fun _ => h10
          · exact hP j (by omega)
    · refine go ?_
      have hP' : ∀ j, LP p i j := fun j => by
        by_cases e : j < i + 1 + k
        · exact hP j e
        · exact fun h => by omega
      have hE3 := hE2.trans he3
      clear hP hH hk
      refine r_for (p.n - (i + 1)) (fun k ρ w' => Has ρ [(1, .int .i64 i), (2, .pointer (some ⟨b, 0, none⟩)), (4, .pointer (some ⟨bf, 0, none⟩)), (5, .int .i64 p.n), (6, .int .i64 i), (9, .int .i64 (i + 1 + k : Nat))] ∧ Ext w2 w' ∧ ∀ j k', j < i + 1 + k → LC p i j k') ?_ ?_
      · refine ⟨?_, he3, fun j k' hj hj' => by omega⟩
        exact hasP
      rintro k ρ w4 hk ⟨hH, he4, hC⟩
      refine rwp_has hH fun ρ1 => ?_
      refine go ?_
      refine c_if (fun hj => ?_) (fun hj => ?_)
      · have hjn : i < i + 1 + k ∧ i + 1 + k < p.n := ⟨by omega, by omega⟩
        refine go ?_
        refine r_for (p.n - (i + 1 + k + 1)) (fun l ρ w' => Has ρ [(1, .int .i64 i), (2, .pointer (some ⟨b, 0, none⟩)), (4, .pointer (some ⟨bf, 0, none⟩)), (5, .int .i64 p.n), (6, .int .i64 i), (9, .int .i64 (i + 1 + k : Nat)), (10, .int .i64 (i + 1 + k + 1 + l : Nat))] ∧ Ext w2 w' ∧ ∀ k', k' < i + 1 + k + 1 + l → LC p i (i + 1 + k) k') ?_ ?_
        · refine ⟨?_, he4, fun k' hk' _ h' _ => by omega⟩
          exact hasP
        rintro l ρ w5 hl ⟨hH, he5, hC2⟩
        refine rwp_has hH fun ρ2 => ?_
        refine go ?_
        refine c_if (fun hkk => ?_) (fun hkk => ?_)
        · have hkn : i < i + 1 + k + 1 + l ∧ i + 1 + k + 1 + l < p.n := ⟨by omega, by omega⟩
          have hcj := hv.lenci (i + 1 + k) hjn.2
          refine go ?_
          refine d_region fun w6 he6 _ => ?_
          refine dgo ?_
          refine d_end (h := ?_)
          refine go ?_
          refine d_region fun w7 he7 _ => ?_
          refine dgo ?_
          refine dc (l08Image_ok hv hi (x := p.c (i + 1 + k) (i + 1 + k + 1 + l)) ?_ (hv.c_in _ _ (by omega) hkn.2)) (next := fun v8 w8 h8 => ?_)
          · rfl
          obtain ⟨he8, hf8⟩ := h8
          refine ⟨fun h => h.trans he8, ?_⟩
          refine dgo ?_
          refine d_end (h := ?_)
          refine go ?_
          refine d_order [0, 1, 2, 3, 4, 6, 7, 8, 9, 10, 5, 11, 12, 13] (h := fun w9 he9 _ => ?_)
          refine dgo ?_
          refine dc (l08At_ok hv (i + 1) (x := p.c i (i + 1 + k + 1 + l)) (y := p.c i (i + 1 + k)) ?_ (hv.c_in _ _ hkn.1 hkn.2) (hv.c_in _ _ hjn.1 hjn.2) (hv.c_zu _ _ hkn.1 hkn.2) (hv.c_zu _ _ hjn.1 hjn.2)) (next := fun v10 w10 h10 => ?_)
          · rfl
          obtain ⟨he10, hf10⟩ := h10
          refine ⟨fun h => h.trans he10, ?_⟩
          refine dgo ?_
          refine dc (l08At_ok hv (i + 1) (x := p.c i (i + 1 + k)) (y := img p i (p.c (i + 1 + k) (i + 1 + k + 1 + l))) ?_ (hv.c_in _ _ hjn.1 hjn.2) (img_in hv _ _).1 (hv.c_zu _ _ hjn.1 hjn.2) (img_in hv _ _).2) (next := fun v11 w11 h11 => ?_)
          · rfl
          obtain ⟨he11, hf11⟩ := h11
          refine ⟨fun h => h.trans he11, ?_⟩
          have hlen := (atv_in hv _ (i + 1) rfl _ _ (hv.c_in _ _ hkn.1 hkn.2) (hv.c_in _ _ hjn.1 hjn.2) (hv.c_zu _ _ hkn.1 hkn.2) (hv.c_zu _ _ hjn.1 hjn.2)).1.len
          refine dgo ?_
          refine dc (l01Same_ok (xs := atv p (i + 1) (p.c i (i + 1 + k + 1 + l)) (p.c i (i + 1 + k))) (ys := atv p (i + 1) (p.c i (i + 1 + k)) (img p i (p.c (i + 1 + k) (i + 1 + k + 1 + l)))) ?_) (next := fun v12 w12 h12 => ?_)
          · omega
          obtain ⟨b12, rfl, hb12, he12⟩ := h12
          refine ⟨fun h => h.trans he12, ?_⟩
          have hE12 : Ext w2 w12 := ((((((he5.trans he6).trans he7).trans he8).trans he9).trans he10).trans he11).trans he12
          refine dgo ?_
          refine d_end (h := ?_)
          refine go ?_
          refine c_b (fun h13 => ?_) (fun h13 => ?_)
          · refine go ?_
            refine ra (v := faultV 2 i (i + 1 + k : Nat) (i + 1 + k + 1 + l : Nat)) (h := rd_build (by simp only [ev_tmp, ev_const, ev_func, get_put, get_args, get_putL, get_putL_nil, Nat.reduceEqDiff, reduceIte, List.getD_cons_zero, List.getD_cons_succ, List.getD_nil, List.map_toArray, List.map_cons, List.map_nil]; rfl) (fun _ => by kernel_rfl)) (next := ?_)
            refine st_store_agg (vs := [.int .i64 2, .int .i64 i, .int .i64 (i + 1 + k : Nat), .int .i64 (i + 1 + k + 1 + l : Nat)]) (cs := _) (by ((try simp only [ev_tmp, ev_const, ev_func, get_put, get_args, get_putL, get_putL_nil, Nat.reduceEqDiff, reduceIte, List.getD_cons_zero, List.getD_cons_succ, List.getD_nil]); first | done | with_reducible rfl)) (by ((try simp only [ev_tmp, ev_const, ev_func, get_put, get_args, get_putL, get_putL_nil, Nat.reduceEqDiff, reduceIte, List.getD_cons_zero, List.getD_cons_succ, List.getD_nil]); first | done | with_reducible rfl)) rfl ?_ rfl (by first | exact True.intro | exact ⟨_, rfl, by ((try simp only [ev_tmp, ev_const, ev_func, get_put, get_args, get_putL, get_putL_nil, Nat.reduceEqDiff, reduceIte, List.getD_cons_zero, List.getD_cons_succ, List.getD_nil, Bool.not_true, Bool.not_false]); first | done | with_reducible rfl)⟩) fun w13 hc13 hs13 hb13 => ?_
            · rfl
            refine go ?_
            refine retc (bad (k := 2) (f := (i + 1 + k : Nat)) (s := (i + 1 + k + 1 + l : Nat)) (hc13.ext (hE2.trans hE12) ?_) (by decide) fun h => ?_) rfl
            · have := hE2.size; have := he1.size; omega
            · have := hb12.2 (((chk_iff hi).1 h).2.1 _ _ hjn.1 (by omega) hkn.2)
              rw [this] at h13; cases h13
          · have h14 := hb12.1 (by simpa using h13)
            refine go ?_
            refine forQ_normal (by omega) ⟨?_, hE12, fun k' hk' => ?_⟩
            · exact hasP
            · by_cases e : k' = i + 1 + k + 1 + l
              · subst e; exact fun _ _ _ => h14
              · exact hC2 k' (by omega)
        · refine go ?_
          refine forQ_normal (by omega) ⟨?_, he5, fun j k' hj' => ?_⟩
          · exact hasP
          · by_cases e : j = i + 1 + k
            · subst e
              exact fun h1 h2 h3 => hC2 k' (by omega) h1 h2 h3
            · exact hC j k' (by omega)
      · refine go ?_
        have hC' : ∀ j k', LC p i j k' := fun j k' h1 h2 h3 => hC j k' (by omega) h1 h2 h3
        clear hC hk
        refine rc (l08Image_ok hv hi (x := p.w i) ?_ (hv.w_in _ hi)) (next := fun v6 w6 h6 => ?_)
        · rfl
        obtain ⟨he6, hf6⟩ := h6
        have hlen := (img_in hv i (p.w i)).1.len
        refine go ?_
        refine rc (l01Same_ok (xs := img p i (p.w i)) (ys := p.w i) ?_) (next := fun v7 w7 h7 => ?_)
        · omega
        obtain ⟨b7, rfl, hb7, he7⟩ := h7
        have hE7 : Ext w2 w7 := (he4.trans he6).trans he7
        refine go ?_
        refine c_b (fun h8 => ?_) (fun h8 => ?_)
        · refine go ?_
          refine ra (v := faultV 3 i 0 0) (h := rd_build (by simp only [ev_tmp, ev_const, ev_func, get_put, get_args, get_putL, get_putL_nil, Nat.reduceEqDiff, reduceIte, List.getD_cons_zero, List.getD_cons_succ, List.getD_nil, List.map_toArray, List.map_cons, List.map_nil]; rfl) (fun _ => by kernel_rfl)) (next := ?_)
          refine st_store_agg (vs := [.int .i64 3, .int .i64 i, .int .i64 0, .int .i64 0]) (cs := _) (by ((try simp only [ev_tmp, ev_const, ev_func, get_put, get_args, get_putL, get_putL_nil, Nat.reduceEqDiff, reduceIte, List.getD_cons_zero, List.getD_cons_succ, List.getD_nil]); first | done | with_reducible rfl)) (by ((try simp only [ev_tmp, ev_const, ev_func, get_put, get_args, get_putL, get_putL_nil, Nat.reduceEqDiff, reduceIte, List.getD_cons_zero, List.getD_cons_succ, List.getD_nil]); first | done | with_reducible rfl)) rfl ?_ rfl (by first | exact True.intro | exact ⟨_, rfl, by ((try simp only [ev_tmp, ev_const, ev_func, get_put, get_args, get_putL, get_putL_nil, Nat.reduceEqDiff, reduceIte, List.getD_cons_zero, List.getD_cons_succ, List.getD_nil, Bool.not_true, Bool.not_false]); first | done | with_reducible rfl)⟩) fun w9 hc9 hs9 hb9 => ?_
          · rfl
          refine go ?_
          refine retc (bad (k := 3) (f := 0) (s := 0) (hc9.ext (hE2.trans hE7) ?_) (by decide) fun h => ?_) rfl
          · have := hE2.size; have := he1.size; omega
          · have := hb7.2 ((chk_iff hi).1 h).2.2.1
            rw [this] at h8; cases h8
        · have hF := hb7.1 (by simpa using h8)
          refine go ?_
          clear h8
          refine r_for (p.n - (i + 1)) (fun k ρ w' => Has ρ [(1, .int .i64 i), (2, .pointer (some ⟨b, 0, none⟩)), (4, .pointer (some ⟨bf, 0, none⟩)), (5, .int .i64 p.n), (6, .int .i64 i), (14, Pc.rowAt vpw ps i), (15, .int .i64 (i + 1 + k : Nat))] ∧ Ext w2 w' ∧ ∀ j, j < i + 1 + k → LI p i j) ?_ ?_
          · refine ⟨?_, hE7, fun j hj h1 h2 => by omega⟩
            exact hasP
          rintro k ρ w8 hk ⟨hH, he8, hI⟩
          refine rwp_has hH fun ρ2 => ?_
          refine go ?_
          refine c_if (fun hj => ?_) (fun hj => ?_)
          · have hjn : i + 1 ≤ i + 1 + k ∧ i + 1 + k < p.n := ⟨by omega, by omega⟩
            refine go ?_
            refine rc (l07Unit_ok (n := p.n) (i := i + 1 + k) ?_ ?_ ?_ hjn.2) (next := fun v9 w9 h9 => ?_)
            · rfl
            · rfl
            · omega
            obtain ⟨he9, hf9⟩ := h9
            have hg0 : (zeros p.n).set (i + 1 + k) 1 = unitv p (i + 1 + k) 1 := rfl
            rw [hg0] at hf9
            have hsz8 := he8.size
            have hsz1 := hE2.size
            refine go ?_
            refine r_for (p.o i).toNat (fun q ρ w' => ∃ vx, Has ρ [(1, .int .i64 i), (2, .pointer (some ⟨b, 0, none⟩)), (4, .pointer (some ⟨bf, 0, none⟩)), (5, .int .i64 p.n), (6, .int .i64 i), (14, Pc.rowAt vpw ps i), (15, .int .i64 (i + 1 + k : Nat)), (16, v9), (17, vx), (18, .int .i64 q)] ∧ Ext w9 w' ∧ Fr w.heap.size w' vx (rep q (img p i) (unitv p (i + 1 + k) 1))) ?_ ?_
            · refine ⟨v9, ?_, Ext.refl _, hf9.mono (by omega)⟩
              exact hasP
            rintro q ρ w10 hq ⟨vx, hH, he10, hf10⟩
            refine rwp_has hH fun ρ3 => ?_
            have hin : InR p (rep q (img p i) (unitv p (i + 1 + k) 1)) ∧ ZU (i + 1) (rep q (img p i) (unitv p (i + 1 + k) 1)) := by
              refine rep_inv (fun v => InR p v ∧ ZU (i + 1) v) (fun x _ => img_in hv i x) ⟨?_, unitv_zu p hjn.1 1⟩ q
              exact unitv_in hv (by omega) (fun h => by have := hv.opos h; omega)
            refine go ?_
            refine c_if (fun hq2 => ?_) (fun hq2 => ?_)
            · refine go ?_
              refine rc (l08Image_ok hv hi (x := rep q (img p i) (unitv p (i + 1 + k) 1)) ?_ hin.1) (next := fun v11 w11 h11 => ?_)
              · rfl
              obtain ⟨he11, hf11⟩ := h11
              have hsz10 := he10.size
              have hsz9 := he9.size
              refine go ?_
              refine forQ_normal (by omega) ⟨v11, ?_, he10.trans he11, hf11.mono (by omega)⟩
              exact hasP
            · have hqe : (p.o i).toNat = q := by omega
              have hu9 : InR p (unitv p (i + 1 + k) 1) := unitv_in hv (by omega) (fun h => by have := hv.opos h; omega)
              refine go ?_
              refine d_order [0, 1, 2, 3, 4, 6, 7, 8, 9, 10, 5, 11, 12, 13] (h := fun w11 he11 _ => ?_)
              refine dgo ?_
              refine dc (l08At_ok hv (i + 1) (x := p.w i) (y := rep q (img p i) (unitv p (i + 1 + k) 1)) ?_ (hv.w_in _ hi) hin.1 (hv.w_zu _ hi) hin.2) (next := fun v12 w12 h12 => ?_)
              · rfl
              obtain ⟨he12, hf12⟩ := h12
              refine ⟨fun h => h.trans he12, ?_⟩
              refine dgo ?_
              refine dc (l08At_ok hv (i + 1) (x := unitv p (i + 1 + k) 1) (y := p.w i) ?_ hu9 (hv.w_in _ hi) (unitv_zu p hjn.1 1) (hv.w_zu _ hi)) (next := fun v13 w13 h13 => ?_)
              · rfl
              obtain ⟨he13, hf13⟩ := h13
              refine ⟨fun h => h.trans he13, ?_⟩
              have hlen2 := (atv_in hv _ (i + 1) rfl _ _ (hv.w_in _ hi) hin.1 (hv.w_zu _ hi) hin.2).1.len
              refine dgo ?_
              refine dc (l01Same_ok (xs := atv p (i + 1) (p.w i) (rep q (img p i) (unitv p (i + 1 + k) 1))) (ys := atv p (i + 1) (unitv p (i + 1 + k) 1) (p.w i)) ?_) (next := fun v14 w14 h14 => ?_)
              · omega
              obtain ⟨b14, rfl, hb14, he14⟩ := h14
              refine ⟨fun h => h.trans he14, ?_⟩
              have hE14 : Ext w2 w14 := ((((((he8.trans he9).trans he10).trans he11).trans he12).trans he13)).trans he14
              refine dgo ?_
              refine d_end (h := ?_)
              refine go ?_
              refine c_b (fun h15 => ?_) (fun h15 => ?_)
              · refine go ?_
                refine ra (v := faultV 4 i (i + 1 + k : Nat) 0) (h := rd_build (by simp only [ev_tmp, ev_const, ev_func, get_put, get_args, get_putL, get_putL_nil, Nat.reduceEqDiff, reduceIte, List.getD_cons_zero, List.getD_cons_succ, List.getD_nil, List.map_toArray, List.map_cons, List.map_nil]; rfl) (fun _ => by kernel_rfl)) (next := ?_)
                refine st_store_agg (vs := [.int .i64 4, .int .i64 i, .int .i64 (i + 1 + k : Nat), .int .i64 0]) (cs := _) (by ((try simp only [ev_tmp, ev_const, ev_func, get_put, get_args, get_putL, get_putL_nil, Nat.reduceEqDiff, reduceIte, List.getD_cons_zero, List.getD_cons_succ, List.getD_nil]); first | done | with_reducible rfl)) (by ((try simp only [ev_tmp, ev_const, ev_func, get_put, get_args, get_putL, get_putL_nil, Nat.reduceEqDiff, reduceIte, List.getD_cons_zero, List.getD_cons_succ, List.getD_nil]); first | done | with_reducible rfl)) rfl ?_ rfl (by first | exact True.intro | exact ⟨_, rfl, by ((try simp only [ev_tmp, ev_const, ev_func, get_put, get_args, get_putL, get_putL_nil, Nat.reduceEqDiff, reduceIte, List.getD_cons_zero, List.getD_cons_succ, List.getD_nil, Bool.not_true, Bool.not_false]); first | done | with_reducible rfl)⟩) fun w15 hc15 hs15 hb15 => ?_
                · rfl
                refine go ?_
                refine retc (bad (k := 4) (f := (i + 1 + k : Nat)) (s := 0) (hc15.ext (hE2.trans hE14) ?_) (by decide) fun h => ?_) rfl
                · have := hE2.size; have := he1.size; omega
                · have := ((chk_iff hi).1 h).2.2.2 (i + 1 + k) hjn.1 hjn.2
                  rw [hqe] at this
                  have := hb14.2 this
                  rw [this] at h15; cases h15
              · have h16 := hb14.1 (by simpa using h15)
                refine go ?_
                refine forQ_normal (by omega) ⟨?_, hE14, fun j hj2 => ?_⟩
                · exact hasP
                · by_cases e : j = i + 1 + k
                  · subst e
                    intro _ _
                    rw [hqe]
                    exact h16
                  · exact hI j (by omega)
          · refine go ?_
            refine ra (v := faultV 0 0 0 0) (h := rd_build (by rfl) (fun _ => by kernel_rfl)) (next := ?_)
            refine st_store_agg (vs := [.int .i64 0, .int .i64 0, .int .i64 0, .int .i64 0]) (cs := _) (by ((try simp only [ev_tmp, ev_const, ev_func, get_put, get_args, get_putL, get_putL_nil, Nat.reduceEqDiff, reduceIte, List.getD_cons_zero, List.getD_cons_succ, List.getD_nil]); first | done | with_reducible rfl)) (by ((try simp only [ev_tmp, ev_const, ev_func, get_put, get_args, get_putL, get_putL_nil, Nat.reduceEqDiff, reduceIte, List.getD_cons_zero, List.getD_cons_succ, List.getD_nil]); first | done | with_reducible rfl)) rfl ?_ rfl (by first | exact True.intro | exact ⟨_, rfl, by ((try simp only [ev_tmp, ev_const, ev_func, get_put, get_args, get_putL, get_putL_nil, Nat.reduceEqDiff, reduceIte, List.getD_cons_zero, List.getD_cons_succ, List.getD_nil, Bool.not_true, Bool.not_false]); first | done | with_reducible rfl)⟩) fun w15 hc15 hs15 hb15 => ?_
            · rfl
            refine go ?_
            refine retc ⟨0, 0, 0, 0, rfl, ⟨fun _ => (chk_iff hi).2 ⟨hP', hC', hF, fun j h1 h2 => hI j (by omega) h1 h2⟩, fun _ => rfl⟩, fun h => absurd rfl h, fun _ => ⟨rfl, rfl, rfl⟩, hc15.ext (hE2.trans he8) ?_⟩ rfl
            have := hE2.size; have := he1.size; omega
end Go.Proofs.YtjljbfcdpdckeaaGreat

/-
  Walks: the reference's fault, its consistency and its question whether a presentation is a group's (l08Fault, l08Consistent, l08Group).
  Conditions: the presentation is valid (l08Group: its list of orders is short).
-/
namespace Go.Proofs.YtjljbfcdpdckeaaGreat
open Go Go.Pc
/-- The level i of a presentation passes, the tail behind it being a group. -/
def Lev (p : Pr) (i : Nat) : Prop := ∃ (_ : Con p (i + 1)) (hi : i < p.n), Chk p i hi
/-- All levels from i on pass. -/
def Levs (p : Pr) (i : Nat) : Prop := ∀ j, i ≤ j → j < p.n → Lev p j
/-- The presentation is a group's. -/
structure IsGrp (p : Pr) : Prop where
  valid : Valid p
  levs : Levs p 0
theorem Levs.con {p : Pr} (hv : Valid p) {i : Nat} (h : Levs p i) : Con p i := by
  by_cases hi : p.n ≤ i
  · exact con_end hv hi
  · obtain ⟨h1, h2, h3⟩ := h i (Nat.le_refl _) (by omega)
    exact con_step h2 h3
theorem IsGrp.con {p : Pr} (h : IsGrp p) (i : Nat) : Con p i := Levs.con h.valid fun j _ hj => h.levs j (Nat.zero_le _) hj
/-- What a fault says. -/
def FaultIs (p : Pr) (v : Value) : Prop := (v = faultV 0 0 0 0 ∧ Levs p 0) ∨ ∃ (k f s : Int) (i : Nat) (_ : Con p (i + 1)) (hi : i < p.n), k ≠ 0 ∧ v = faultV k i f s ∧ ¬ Chk p i hi ∧ Levs p (i + 1)
set_option maxHeartbeats 1000000 in
theorem l08Fault_ok {p : Pr} (hv : Valid p) {w : World} {vp : Value} {lo hi' : Nat} [hp : Pres lo hi' w vp p] :
    Calls Tryz.prog 54 #[vp] w (Ret fun v w' => FaultIs p v ∧ Ext w w') := by
  have hn6 := hv.n6
  have hol : p.ord.length = p.n := rfl
  obtain ⟨vo, vpw, vc, ps, cs, css, rfl, h1, h2, h3⟩ := hp.ex
  refine enter (args := [.agg #[vo, vpw, vc]]) (l := [.cell 2 70]) Tryz.func54 rfl rfl Tryz.ntmps54 (by simp) ?_
  refine go ?_
  refine st_box3 (by ((try simp only [ev_tmp, ev_const, ev_func, get_put, get_args, get_putL, get_putL_nil, Nat.reduceEqDiff, reduceIte, List.getD_cons_zero, List.getD_cons_succ, List.getD_nil]); first | done | with_reducible rfl)) (by first | exact True.intro | exact ⟨_, rfl, by ((try simp only [ev_tmp, ev_const, ev_func, get_put, get_args, get_putL, get_putL_nil, Nat.reduceEqDiff, reduceIte, List.getD_cons_zero, List.getD_cons_succ, List.getD_nil, Bool.not_true, Bool.not_false]); first | done | with_reducible rfl)⟩) fun w1 b he1 hb1 hs1 hc0 hc1 hc2 => ?_
  refine go ?_
  refine st_alloc (by first | exact True.intro | exact ⟨_, rfl, by ((try simp only [ev_tmp, ev_const, ev_func, get_put, get_args, get_putL, get_putL_nil, Nat.reduceEqDiff, reduceIte, List.getD_cons_zero, List.getD_cons_succ, List.getD_nil, Bool.not_true, Bool.not_false]); first | done | with_reducible rfl)⟩) fun w2 bf he2 hbf hs2 hbk => ?_
  have hE2 : Ext w w2 := he1.trans he2
  refine go ?_
  refine r_for p.n (fun k ρ w' => Has ρ [(1, .pointer (some ⟨b, 0, none⟩)), (2, .pointer (some ⟨bf, 0, none⟩)), (3, .int .i64 ((p.n : Int) - 1 - k))] ∧ Ext w2 w' ∧ Levs p (p.n - k)) ?_ ?_
  · refine ⟨?_, Ext.refl _, fun j h h' => by omega⟩
    exact hasP
  rintro k ρ w3 hk ⟨hH, he3, hL⟩
  refine rwp_has hH fun ρ0 => ?_
  refine go ?_
  refine c_if (fun h4 => ?_) (fun h4 => ?_)
  · obtain ⟨i, hie⟩ : ∃ i : Nat, (p.n : Int) - 1 - k = i := ⟨p.n - 1 - k, by omega⟩
    have hi : i < p.n := by omega
    rw [show p.n - k = i + 1 by omega] at hL
    have hc : Con p (i + 1) := Levs.con hv hL
    refine go ?_
    refine rc (l08Level_ok (p := p) (i := i) hi hie) (next := fun v5 w5 h5 => ?_)
    obtain ⟨k5, l5, f5, s5, rfl, hz, hl5, h05, he5⟩ := h5
    refine go ?_
    refine st_alloc (by first | exact True.intro | exact ⟨_, rfl, by ((try simp only [ev_tmp, ev_const, ev_func, get_put, get_args, get_putL, get_putL_nil, Nat.reduceEqDiff, reduceIte, List.getD_cons_zero, List.getD_cons_succ, List.getD_nil, Bool.not_true, Bool.not_false]); first | done | with_reducible rfl)⟩) fun w6 b6 he6 hb6 hs6 hbk6 => ?_
    refine go ?_
    refine st_store_agg (vs := [.int .i64 k5, .int .i64 l5, .int .i64 f5, .int .i64 s5]) (cs := _) (by ((try simp only [ev_tmp, ev_const, ev_func, get_put, get_args, get_putL, get_putL_nil, Nat.reduceEqDiff, reduceIte, List.getD_cons_zero, List.getD_cons_succ, List.getD_nil]); first | done | with_reducible rfl)) (by ((try simp only [ev_tmp, ev_const, ev_func, get_put, get_args, get_putL, get_putL_nil, Nat.reduceEqDiff, reduceIte, List.getD_cons_zero, List.getD_cons_succ, List.getD_nil]); first | done | with_reducible rfl)) rfl ?_ rfl (by first | exact True.intro | exact ⟨_, rfl, by ((try simp only [ev_tmp, ev_const, ev_func, get_put, get_args, get_putL, get_putL_nil, Nat.reduceEqDiff, reduceIte, List.getD_cons_zero, List.getD_cons_succ, List.getD_nil, Bool.not_true, Bool.not_false]); first | done | with_reducible rfl)⟩) fun w7 hc7 hs7 hb7 => ?_
    · rfl
    have hs2 := he2.size
    have hs3 := he3.size
    have hs5 := he5.size
    have hE7 : Ext w2 w7 := hc7.ext ((he3.trans he5).trans he6) (by omega)
    have hcell : Cell w7 b6 0 (.int .i64 k5) := hb7.cell rfl
    refine go ?_
    refine c_if (fun h8 => ?_) (fun h8 => ?_)
    · refine go ?_
      refine ra (v := faultV k5 l5 f5 s5) (h := rd_load_blk (hb := hb7) (by ((try simp only [ev_tmp, ev_const, ev_func, get_put, get_args, get_putL, get_putL_nil, Nat.reduceEqDiff, reduceIte, List.getD_cons_zero, List.getD_cons_succ, List.getD_nil]); first | done | with_reducible rfl)) rfl) (next := ?_)
      refine st_store_agg (vs := [.int .i64 k5, .int .i64 l5, .int .i64 f5, .int .i64 s5]) (cs := _) (hb := Blk.ext (x := hE7) (h := hbk)) (by ((try simp only [ev_tmp, ev_const, ev_func, get_put, get_args, get_putL, get_putL_nil, Nat.reduceEqDiff, reduceIte, List.getD_cons_zero, List.getD_cons_succ, List.getD_nil]); first | done | with_reducible rfl)) (by ((try simp only [ev_tmp, ev_const, ev_func, get_put, get_args, get_putL, get_putL_nil, Nat.reduceEqDiff, reduceIte, List.getD_cons_zero, List.getD_cons_succ, List.getD_nil]); first | done | with_reducible rfl)) rfl ?_ rfl (by first | exact True.intro | exact ⟨_, rfl, by ((try simp only [ev_tmp, ev_const, ev_func, get_put, get_args, get_putL, get_putL_nil, Nat.reduceEqDiff, reduceIte, List.getD_cons_zero, List.getD_cons_succ, List.getD_nil, Bool.not_true, Bool.not_false]); first | done | with_reducible rfl)⟩) fun w9 hc9 hs9 hb9 => ?_
      · rfl
      refine go ?_
      refine retc (b := bf) ⟨.inr ⟨k5, f5, s5, i, hc, hi, by simpa using h8, ?_, fun h => absurd (hz.2 h) (by simpa using h8), hL⟩, hc9.ext (hE2.trans hE7) (by omega)⟩ rfl
      rw [hl5 (by simpa using h8)]
    · have hk5 : k5 = 0 := by simpa using h8
      refine go ?_
      refine forQ_normal (by omega) ⟨?_, hE7, fun j hj hjn => ?_⟩
      · exact hasP
      · by_cases e : j = i
        · subst e; exact ⟨hc, hi, hz.1 hk5⟩
        · exact hL j (by omega) hjn
  · refine go ?_
    refine ra (v := faultV 0 0 0 0) (h := rd_build (by rfl) (fun _ => by kernel_rfl)) (next := ?_)
    refine st_store_agg (vs := [.int .i64 0, .int .i64 0, .int .i64 0, .int .i64 0]) (cs := _) (by ((try simp only [ev_tmp, ev_const, ev_func, get_put, get_args, get_putL, get_putL_nil, Nat.reduceEqDiff, reduceIte, List.getD_cons_zero, List.getD_cons_succ, List.getD_nil]); first | done | with_reducible rfl)) (by ((try simp only [ev_tmp, ev_const, ev_func, get_put, get_args, get_putL, get_putL_nil, Nat.reduceEqDiff, reduceIte, List.getD_cons_zero, List.getD_cons_succ, List.getD_nil]); first | done | with_reducible rfl)) rfl ?_ rfl (by first | exact True.intro | exact ⟨_, rfl, by ((try simp only [ev_tmp, ev_const, ev_func, get_put, get_args, get_putL, get_putL_nil, Nat.reduceEqDiff, reduceIte, List.getD_cons_zero, List.getD_cons_succ, List.getD_nil, Bool.not_true, Bool.not_false]); first | done | with_reducible rfl)⟩) fun w9 hc9 hs9 hb9 => ?_
    · rfl
    have hs2 := he2.size
    refine go ?_
    refine retc ⟨.inl ⟨rfl, fun j _ hj => hL j (by omega) hj⟩, hc9.ext (hE2.trans he3) (by omega)⟩ rfl
set_option maxHeartbeats 1000000 in
theorem l08Consistent_ok {p : Pr} (hv : Valid p) {w : World} {vp : Value} {lo hi' : Nat} [hp : Pres lo hi' w vp p] :
    Calls Tryz.prog 35 #[vp] w (Ret fun v w' => ∃ b, v = .bool b ∧ (b = true ↔ Levs p 0) ∧ Ext w w') := by
  obtain ⟨vo, vpw, vc, ps, cs, css, rfl, h1, h2, h3⟩ := hp.ex
  refine enter (args := [.agg #[vo, vpw, vc]]) (l := [.tmp 2]) Tryz.func35 rfl rfl Tryz.ntmps35 (by simp) ?_
  refine go ?_
  refine st_box3 (by ((try simp only [ev_tmp, ev_const, ev_func, get_put, get_args, get_putL, get_putL_nil, Nat.reduceEqDiff, reduceIte, List.getD_cons_zero, List.getD_cons_succ, List.getD_nil]); first | done | with_reducible rfl)) (by first | exact True.intro | exact ⟨_, rfl, by ((try simp only [ev_tmp, ev_const, ev_func, get_put, get_args, get_putL, get_putL_nil, Nat.reduceEqDiff, reduceIte, List.getD_cons_zero, List.getD_cons_succ, List.getD_nil, Bool.not_true, Bool.not_false]); first | done | with_reducible rfl)⟩) fun w1 b he1 hb1 hs1 hc0 hc1 hc2 => ?_
  refine go ?_
  refine rc (l08Fault_ok hv) (next := fun v5 w5 h5 => ?_)
  obtain ⟨h5, he5⟩ := h5
  rcases h5 with ⟨rfl, hL⟩ | ⟨k, f, s, i, hc, hi, hk, rfl, hn, hL⟩
  · refine go ?_
    refine ra (v := .int .i64 0) (h := rd_fieldv (by ((try simp only [ev_tmp, ev_const, ev_func, get_put, get_args, get_putL, get_putL_nil, Nat.reduceEqDiff, reduceIte, List.getD_cons_zero, List.getD_cons_succ, List.getD_nil]); first | done | with_reducible rfl)) (fun _ => by kernel_rfl)) (next := ?_)
    refine go ?_
    refine ret1 ⟨_, rfl, ?_, he1.trans he5⟩
    simpa using hL
  · refine go ?_
    refine ra (v := .int .i64 k) (h := rd_fieldv (by ((try simp only [ev_tmp, ev_const, ev_func, get_put, get_args, get_putL, get_putL_nil, Nat.reduceEqDiff, reduceIte, List.getD_cons_zero, List.getD_cons_succ, List.getD_nil]); first | done | with_reducible rfl)) (fun _ => by kernel_rfl)) (next := ?_)
    refine go ?_
    refine ret1 ⟨_, rfl, ?_, he1.trans he5⟩
    simp only [decide_eq_true_eq]
    refine ⟨fun h => absurd h hk, fun h => absurd ?_ hn⟩
    exact (h i (Nat.zero_le _) hi).2.2
set_option maxHeartbeats 1000000 in
theorem l08Group_ok {w : World} {vp : Value} {p : Pr} {lo hi' : Nat} [hp : Pres lo hi' w vp p] (hl : p.ord.length ≤ 2000000) :
    Calls Tryz.prog 24 #[vp] w (Ret fun v w' => ∃ b, v = .bool b ∧ (b = true ↔ IsGrp p) ∧ Ext w w') := by
  obtain ⟨vo, vpw, vc, ps, cs, css, rfl, h1, h2, h3⟩ := hp.ex
  refine enter (args := [.agg #[vo, vpw, vc]]) (l := [.tmp 2]) Tryz.func24 rfl rfl Tryz.ntmps24 (by simp) ?_
  refine go ?_
  refine st_box3 (by ((try simp only [ev_tmp, ev_const, ev_func, get_put, get_args, get_putL, get_putL_nil, Nat.reduceEqDiff, reduceIte, List.getD_cons_zero, List.getD_cons_succ, List.getD_nil]); first | done | with_reducible rfl)) (by first | exact True.intro | exact ⟨_, rfl, by ((try simp only [ev_tmp, ev_const, ev_func, get_put, get_args, get_putL, get_putL_nil, Nat.reduceEqDiff, reduceIte, List.getD_cons_zero, List.getD_cons_succ, List.getD_nil, Bool.not_true, Bool.not_false]); first | done | with_reducible rfl)⟩) fun w1 b he1 hb1 hs1 hc0 hc1 hc2 => ?_
  refine go ?_
  refine rc (spec_IsPresentation_ok hl) (next := fun v5 w5 h5 => ?_)
  obtain ⟨b5, rfl, hb5, he5⟩ := h5
  refine go ?_
  refine sp (fun e5 => ?_) (fun e5 => ?_)
  · have hv := hb5.1 e5
    refine go ?_
    refine rc (l08Consistent_ok hv) (next := fun v6 w6 h6 => ?_)
    obtain ⟨b6, rfl, hb6, he6⟩ := h6
    refine go ?_
    exact ret1 ⟨_, rfl, hb6.trans ⟨fun h => ⟨hv, h⟩, fun h => h.levs⟩, (he1.trans he5).trans he6⟩
  · refine go ?_
    refine ret1 ⟨_, rfl, ?_, he1.trans he5⟩
    simp only [Bool.false_eq_true, false_iff]
    intro h
    have := hb5.2 h.valid
    rw [e5] at this; cases this
end Go.Proofs.YtjljbfcdpdckeaaGreat

/-
  Walks: the reference's elements and products (l10Element, l10Elements, l08Mul).
  Conditions: stated at each theorem.
-/
namespace Go.Proofs.YtjljbfcdpdckeaaGreat
open Go Go.Pc
/-- Readings of a list of integers as an element. -/
theorem el_iff {p : Pr} {v : List Int} : ExpP p.ord v (-1) ↔ InR p v := by
  constructor
  · rintro ⟨h1, h2⟩
    refine ⟨h1, fun i hi => ?_⟩
    have := (h2 i (by rw [h1]; exact hi)).1
    exact ⟨this.1, by show v.getD i 0 < p.ord.getD i 0; omega⟩
  · intro h
    refine ⟨h.len, fun i hi => ?_⟩
    have := h.rng i (by have := h.len; omega)
    have h2 : v.getD i 0 < p.ord.getD i 0 := this.2
    exact ⟨⟨this.1, by omega⟩, fun h => by omega⟩
set_option maxHeartbeats 1000000 in
theorem l10Element_ok {p : Pr} (hv : Valid p) {w : World} {vp vx : Value} {xs : List Int} {lo hi lo1 hi1 : Nat} [hp : Pres lo hi w vp p] [hx : Ints lo1 hi1 w vx xs] :
    Calls Tryz.prog 55 #[vp, vx] w (Ret fun v w' => ∃ b, v = .bool b ∧ (b = true ↔ InR p xs) ∧ Ext w w') := by
  have hn6 := hv.n6
  have hol : p.ord.length = p.n := rfl
  obtain ⟨vo, vpw, vc, ps, cs, css, rfl, h1, h2, h3⟩ := hp.ex
  refine enter (args := [.agg #[vo, vpw, vc], vx]) (l := [.tmp 4]) Tryz.func55 rfl rfl Tryz.ntmps55 (by simp) ?_
  refine go ?_
  refine st_box3 (by ((try simp only [ev_tmp, ev_const, ev_func, get_put, get_args, get_putL, get_putL_nil, Nat.reduceEqDiff, reduceIte, List.getD_cons_zero, List.getD_cons_succ, List.getD_nil]); first | done | with_reducible rfl)) (by first | exact True.intro | exact ⟨_, rfl, by ((try simp only [ev_tmp, ev_const, ev_func, get_put, get_args, get_putL, get_putL_nil, Nat.reduceEqDiff, reduceIte, List.getD_cons_zero, List.getD_cons_succ, List.getD_nil, Bool.not_true, Bool.not_false]); first | done | with_reducible rfl)⟩) fun w1 b he1 hb1 hs1 hc0 hc1 hc2 => ?_
  refine go ?_
  refine rc (l07Exponents_ok (os := p.ord) (xs := xs) (z := -1) (fun i hi => ?_) ?_) (next := fun v2 w2 h2 => ?_)
  · have : 2 ≤ p.ord.getD i 0 ∧ p.ord.getD i 0 ≤ 7 := hv.opos hi
    omega
  · omega
  obtain ⟨b2, rfl, hb2, he2⟩ := h2
  refine go ?_
  exact ret1 ⟨_, rfl, hb2.trans el_iff, he1.trans he2⟩
set_option maxHeartbeats 1000000 in
theorem l10Elements_ok {p : Pr} (hv : Valid p) {w : World} {vp vx : Value} {us : List Value} {xss : List (List Int)} {lo hi lo1 hi1 : Nat} [hp : Pres lo hi w vp p] [hx : Pc.Rows lo1 hi1 w vx us xss] (hl : xss.length ≤ 10000000) :
    Calls Tryz.prog 36 #[vp, vx] w (Ret fun v w' => ∃ b, v = .bool b ∧ (b = true ↔ ∀ i, i < xss.length → InR p (xss.getD i [])) ∧ Ext w w') := by
  have hul := hx.vals.len
  obtain ⟨vo, vpw, vc, ps, cs, css, rfl, h1, h2, h3⟩ := hp.ex
  refine enter (args := [.agg #[vo, vpw, vc], vx]) (l := [.tmp 4]) Tryz.func36 rfl rfl Tryz.ntmps36 (by simp) ?_
  refine go ?_
  refine st_box3 (by ((try simp only [ev_tmp, ev_const, ev_func, get_put, get_args, get_putL, get_putL_nil, Nat.reduceEqDiff, reduceIte, List.getD_cons_zero, List.getD_cons_succ, List.getD_nil]); first | done | with_reducible rfl)) (by first | exact True.intro | exact ⟨_, rfl, by ((try simp only [ev_tmp, ev_const, ev_func, get_put, get_args, get_putL, get_putL_nil, Nat.reduceEqDiff, reduceIte, List.getD_cons_zero, List.getD_cons_succ, List.getD_nil, Bool.not_true, Bool.not_false]); first | done | with_reducible rfl)⟩) fun w1 b he1 hb1 hs1 hc0 hc1 hc2 => ?_
  refine go ?_
  refine r_for xss.length (fun k ρ w' => Has ρ [(1, vx), (2, .pointer (some ⟨b, 0, none⟩)), (5, .int .i64 k)] ∧ Ext w1 w' ∧ ∀ i, i < k → InR p (xss.getD i [])) ?_ ?_
  · refine ⟨?_, Ext.refl _, fun i hi => by omega⟩
    exact hasP
  rintro k ρ w2 hk ⟨hH, he2, hI⟩
  refine rwp_has hH fun ρ0 => ?_
  refine go ?_
  refine c_if (fun h4 => ?_) (fun h4 => ?_)
  · refine go ?_
    refine d_region fun w3 he3 _ => ?_
    refine dgo ?_
    refine dc (l10Element_ok hv (xs := xss.getD k [])) (next := fun v4 w4 h4 => ?_)
    obtain ⟨b4, rfl, hb4, he4⟩ := h4
    refine ⟨fun h => h.trans he4, ?_⟩
    refine dgo ?_
    refine d_end (h := ?_)
    refine go ?_
    refine c_b (fun h5 => ?_) (fun h5 => ?_)
    · refine go ?_
      refine ret1 ⟨_, rfl, ?_, ((he1.trans he2).trans he3).trans he4⟩
      simp only [Bool.false_eq_true, false_iff]
      intro h
      have := hb4.2 (h k (by omega))
      rw [this] at h5; cases h5
    · have h6 := hb4.1 (by simpa using h5)
      refine go ?_
      refine forQ_normal (by omega) ⟨?_, (he2.trans he3).trans he4, fun i hi => ?_⟩
      · exact hasP
      · by_cases e : i = k
        · subst e; exact h6
        · exact hI i (by omega)
  · refine go ?_
    refine ret1 ⟨_, rfl, ?_, he1.trans he2⟩
    simp only [true_iff]
    exact fun i hi => hI i (by omega)
set_option maxHeartbeats 1000000 in
theorem l08Mul_ok {p : Pr} [hc : ConAll p] {w : World} {vp va vb : Value} {x y : El p} {xs ys : List Int} {lo hi lo1 hi1 lo2 hi2 : Nat} [hp : Pres lo hi w vp p] [hx : Ints lo1 hi1 w va xs] [hy : Ints lo2 hi2 w vb ys] (hxe : xs = x.v) (hye : ys = y.v) :
    Calls Tryz.prog 84 #[vp, va, vb] w (Ret fun v w' => Ext w w' ∧ Fr w.heap.size w' v (x * y).v) := by
  subst hxe hye
  obtain ⟨vo, vpw, vc, ps, cs, css, rfl, h1, h2, h3⟩ := hp.ex
  refine enter (args := [.agg #[vo, vpw, vc], va, vb]) (l := [.tmp 6]) Tryz.func84 rfl rfl Tryz.ntmps84 (by simp) ?_
  refine go ?_
  refine st_box3 (by ((try simp only [ev_tmp, ev_const, ev_func, get_put, get_args, get_putL, get_putL_nil, Nat.reduceEqDiff, reduceIte, List.getD_cons_zero, List.getD_cons_succ, List.getD_nil]); first | done | with_reducible rfl)) (by first | exact True.intro | exact ⟨_, rfl, by ((try simp only [ev_tmp, ev_const, ev_func, get_put, get_args, get_putL, get_putL_nil, Nat.reduceEqDiff, reduceIte, List.getD_cons_zero, List.getD_cons_succ, List.getD_nil, Bool.not_true, Bool.not_false]); first | done | with_reducible rfl)⟩) fun w1 b he1 hb1 hs1 hc0 hc1 hc2 => ?_
  refine go ?_
  refine rc (l08AtT_ok (p := p) (i := 0) (x := x) (y := y) rfl) (next := fun v2 w2 h2 => ?_)
  obtain ⟨he2, hf2⟩ := h2
  refine go ?_
  exact ret1 ⟨he1.trans he2, hf2.mono he1.size⟩
end Go.Proofs.YtjljbfcdpdckeaaGreat

/-
  Walks: the reference's inverse and power (l10From, l10Inv, l10Pow) and its commutator (l10Comm).
  Conditions: the tails at all levels are groups.
-/
namespace Go.Proofs.YtjljbfcdpdckeaaGreat
open Go Go.Pc
def FromSpec (p : Pr) [ConAll p] (i : Nat) : Prop := ∀ {w : World} {vp vx : Value} {ki : Int} {x : T p i} {xs : List Int} {lo hi lo1 hi1 : Nat} [Pres lo hi w vp p] [Ints lo1 hi1 w vx xs],
  ki = i → xs = x.v → Calls Tryz.prog 109 #[vp, .int .i64 ki, vx] w (Ret fun v w' => Ext w w' ∧ Fr w.heap.size w' v (x⁻¹).v)
set_option maxHeartbeats 2000000 in
theorem from_step {p : Pr} [hc : ConAll p] {i : Nat} (ih : i < p.n → FromSpec p (i + 1)) : FromSpec p i := by
  intro w vp vx ki x xs lo hi lo1 hi1 hp hx hki hxe
  subst hki hxe
  have hv := hc.valid
  have hn6 := hv.n6
  have hol : p.ord.length = p.n := rfl
  have hwl : p.pow.length = p.n := hv.lenw
  replace hp := hp.wide
  replace hx := hx.wide
  obtain ⟨vo, vpw, vc, ps, cs, css, rfl, h1, h2, h3⟩ := hp.ex
  refine enter (args := [.agg #[vo, vpw, vc], .int .i64 i, vx]) (l := [.tmp 6]) Tryz.func109 rfl rfl Tryz.ntmps109 (by simp) ?_
  refine go ?_
  refine st_box3 (by ((try simp only [ev_tmp, ev_const, ev_func, get_put, get_args, get_putL, get_putL_nil, Nat.reduceEqDiff, reduceIte, List.getD_cons_zero, List.getD_cons_succ, List.getD_nil]); first | done | with_reducible rfl)) (by first | exact True.intro | exact ⟨_, rfl, by ((try simp only [ev_tmp, ev_const, ev_func, get_put, get_args, get_putL, get_putL_nil, Nat.reduceEqDiff, reduceIte, List.getD_cons_zero, List.getD_cons_succ, List.getD_nil, Bool.not_true, Bool.not_false]); first | done | with_reducible rfl)⟩) fun w1 b he1 hb1 hs1 hc0 hc1 hc2 => ?_
  refine go ?_
  refine c_if (fun h4 => ?_) (fun h4 => ?_)
  · refine go ?_
    refine st_make_int (by ((try simp only [ev_tmp, ev_const, ev_func, get_put, get_args, get_putL, get_putL_nil, Nat.reduceEqDiff, reduceIte, List.getD_cons_zero, List.getD_cons_succ, List.getD_nil]); first | done | with_reducible rfl)) (by ((try simp only [ev_tmp, ev_const, ev_func, get_put, get_args, get_putL, get_putL_nil, Nat.reduceEqDiff, reduceIte, List.getD_cons_zero, List.getD_cons_succ, List.getD_nil]); first | done | with_reducible rfl)) (by omega) (by omega) (by first | exact True.intro | exact ⟨_, rfl, by ((try simp only [ev_tmp, ev_const, ev_func, get_put, get_args, get_putL, get_putL_nil, Nat.reduceEqDiff, reduceIte, List.getD_cons_zero, List.getD_cons_succ, List.getD_nil, Bool.not_true, Bool.not_false]); first | done | with_reducible rfl)⟩) fun w2 v2 he2 hs2 ho2 => ?_
    refine go ?_
    refine ret1 ⟨he1.trans he2, ?_⟩
    have hz : ∀ y : T p i, y.v = zeros p.n := fun y => inr_ext y.inr hv.zeros_in fun k hk => by rw [y.zu k (by omega), zeros_getD]
    rw [hz]
    exact ho2.toFr (by omega)
  · have hin : i < p.n := by omega
    have ih1 : FromSpec p (i + 1) := ih hin
    have hxl := x.inr.len
    have hxi := x.inr.rng i hin
    have hoi := hv.opos hin
    have hoe : p.o i = p.ord.getD i 0 := rfl
    refine go ?_
    refine rc (l01Own_ok (xs := x.v) ?_) (next := fun v2 w2 h2 => ?_)
    · omega
    obtain ⟨he2, hf2⟩ := h2
    refine go ?_
    obtain ⟨e2, b2, hb2, ho2⟩ := hf2.own (by intro e; rw [e] at hxl; simp at hxl; omega)
    have hl2 := ho2.lt
    have hz1 := he1.size
    have hz2 := he2.size
    have ap1 : Apart 0 w.heap.size b2 := ⟨.inr (by omega)⟩
    have ap3 : Apart b (b + 1) b2 := ⟨.inr (by omega)⟩
    clear hf2
    refine st_store_int (by ((try simp only [ev_tmp, ev_const, ev_func, get_put, get_args, get_putL, get_putL_nil, Nat.reduceEqDiff, reduceIte, List.getD_cons_zero, List.getD_cons_succ, List.getD_nil]); first | done | with_reducible rfl)) (by ((try simp only [ev_tmp, ev_const, ev_func, get_put, get_args, get_putL, get_putL_nil, Nat.reduceEqDiff, reduceIte, List.getD_cons_zero, List.getD_cons_succ, List.getD_nil]); first | done | with_reducible rfl)) ?_ (by first | exact True.intro | exact ⟨_, rfl, by ((try simp only [ev_tmp, ev_const, ev_func, get_put, get_args, get_putL, get_putL_nil, Nat.reduceEqDiff, reduceIte, List.getD_cons_zero, List.getD_cons_succ, List.getD_nil, Bool.not_true, Bool.not_false]); first | done | with_reducible rfl)⟩) fun w3 hc3 hs3 ho3 => ?_
    · omega
    have hE3 : Ext w w3 := hc3.ext (he1.trans he2) (by omega)
    have hE13 : Ext w1 w3 := hc3.ext he2 (by omega)
    clear ho2
    refine go ?_
    have hr : (tl hv x).v = x.v.set i 0 := rfl
    refine rc (ih1 (x := tl hv x) (xs := x.v.set i 0) ?_ ?_) (next := fun v4 w4 h4 => ?_)
    · rfl
    · rfl
    obtain ⟨he4, hf4⟩ := h4
    have hz3 := hE13.size
    have hz4 := he4.size
    refine go ?_
    refine c_if (fun h5 => ?_) (fun h5 => ?_)
    · refine go ?_
      refine ret1 ⟨hE3.trans he4, ?_⟩
      rw [inv_zero hin x h5 (tl hv x) hr]
      exact hf4.mono (by omega)
    · refine go ?_
      refine st_make_int (by ((try simp only [ev_tmp, ev_const, ev_func, get_put, get_args, get_putL, get_putL_nil, Nat.reduceEqDiff, reduceIte, List.getD_cons_zero, List.getD_cons_succ, List.getD_nil]); first | done | with_reducible rfl)) (by ((try simp only [ev_tmp, ev_const, ev_func, get_put, get_args, get_putL, get_putL_nil, Nat.reduceEqDiff, reduceIte, List.getD_cons_zero, List.getD_cons_succ, List.getD_nil]); first | done | with_reducible rfl)) (by omega) (by omega) (by first | exact True.intro | exact ⟨_, rfl, by ((try simp only [ev_tmp, ev_const, ev_func, get_put, get_args, get_putL, get_putL_nil, Nat.reduceEqDiff, reduceIte, List.getD_cons_zero, List.getD_cons_succ, List.getD_nil, Bool.not_true, Bool.not_false]); first | done | with_reducible rfl)⟩) fun w5 v5 he5 hs5 ho5 => ?_
      have hb5 : ∃ e5 b5, w4.heap.size ≤ b5 ∧ OwnI e5 b5 w5 v5 (zeros p.n) := ⟨_, _, Nat.le_refl _, ho5⟩
      clear ho5
      obtain ⟨e5, b5, hb5, ho5⟩ := hb5
      have hlz := zeros_len p.n
      have ap5 : Apart 0 w.heap.size b5 := ⟨.inr (by omega)⟩
      have ap6 : Apart b (b + 1) b5 := ⟨.inr (by omega)⟩
      refine go ?_
      refine z_order b5 (List.range 14) (h := fun w6 he6 _ => ?_)
      refine zgo ?_
      have ho6 : OwnI e5 b5 w6 v5 (zeros p.n) := OwnI.ext (h := ho5)
      refine z_store_int (h := ho6) (hx := (by ((try simp only [ev_tmp, ev_const, ev_func, get_put, get_args, get_putL, get_putL_nil, Nat.reduceEqDiff, reduceIte, List.getD_cons_zero, List.getD_cons_succ, List.getD_nil]); first | done | with_reducible rfl))) (hy := (by ((try simp only [ev_tmp, ev_const, ev_func, get_put, get_args, get_putL, get_putL_nil, Nat.reduceEqDiff, reduceIte, List.getD_cons_zero, List.getD_cons_succ, List.getD_nil]); first | done | with_reducible rfl))) (hm := ?_) (next := fun w7 hc7 hs7 ho7 => ?_)
      · omega
      refine z_end ?_
      have hE47 : Ext w4 w7 := hc7.ext (he5.trans he6) hb5
      have hE7 : Ext w w7 := (hE3.trans he4).trans hE47
      have ho7' : OwnI e5 b5 w7 v5 (unitv p i (p.o i - x.v.getD i 0)) := ho7
      clear ho5 ho6 ho7 ap5 ap6 hc7 hc3
      have hu := unitv_in hv (j := i) (k := p.o i - x.v.getD i 0) (by omega) (fun _ => by omega)
      have hr1 := (tl hv x)⁻¹.inr
      have hr2 : ZU i (tl hv x)⁻¹.v := (tl hv x)⁻¹.zu.mono (by omega)
      have hw1 := (Tw hv hin)⁻¹.inr
      have hw2 : ZU i (Tw hv hin)⁻¹.v := (Tw hv hin)⁻¹.zu.mono (by omega)
      have ha := atv_in hv _ i rfl _ _ hr1 hu hr2 (unitv_zu p (Nat.le_refl _) _)
      refine go ?_
      refine d_order [0, 1, 2, 3, 4, 5, 7, 8, 9, 10, 11, 12, 13, 14, 6, 15, 16, 17] (h := fun w8 he8 _ => ?_)
      refine dgo ?_
      refine dc (l08At_ok hv i (x := (tl hv x)⁻¹.v) (y := unitv p i (p.o i - x.v.getD i 0)) ?_ hr1 hu hr2 (unitv_zu p (Nat.le_refl _) _)) (next := fun v9 w9 h9 => ?_)
      · rfl
      obtain ⟨he9, hf9⟩ := h9
      refine ⟨fun h => h.trans he9, ?_⟩
      refine dc (ih1 (x := Tw hv hin) (xs := p.w i) ?_ ?_) (next := fun v10 w10 h10 => ?_)
      · rfl
      · rfl
      obtain ⟨he10, hf10⟩ := h10
      refine ⟨fun h => h.trans he10, ?_⟩
      refine dc (l08At_ok hv i (x := atv p i (tl hv x)⁻¹.v (unitv p i (p.o i - x.v.getD i 0))) (y := (Tw hv hin)⁻¹.v) ?_ ha.1 hw1 ha.2 hw2) (next := fun v11 w11 h11 => ?_)
      · rfl
      obtain ⟨he11, hf11⟩ := h11
      refine ⟨fun h => h.trans he11, ?_⟩
      refine dgo ?_
      refine d_end (h := ?_)
      have hE11 := (((hE7.trans he8).trans he9).trans he10)
      refine go ?_
      refine ret1 ⟨hE11.trans he11, ?_⟩
      rw [inv_split hin x h5 (tl hv x) (Tw hv hin) hr rfl]
      exact hf11.mono hE11.size
theorem l10From_ok {p : Pr} [hc : ConAll p] : ∀ (m i : Nat), p.n - i = m → FromSpec p i
  | 0, i, hm => from_step fun h => absurd h (by omega)
  | m + 1, i, hm => from_step fun h => l10From_ok m (i + 1) (by omega)
set_option maxHeartbeats 1000000 in
theorem l10Inv_ok {p : Pr} [hc : ConAll p] {w : World} {vp vx : Value} {x : El p} {xs : List Int} {lo hi lo1 hi1 : Nat} [hp : Pres lo hi w vp p] [hx : Ints lo1 hi1 w vx xs] (hxe : xs = x.v) :
    Calls Tryz.prog 85 #[vp, vx] w (Ret fun v w' => Ext w w' ∧ Fr w.heap.size w' v (x⁻¹).v) := by
  obtain ⟨vo, vpw, vc, ps, cs, css, rfl, h1, h2, h3⟩ := hp.ex
  refine enter (args := [.agg #[vo, vpw, vc], vx]) (l := [.tmp 4]) Tryz.func85 rfl rfl Tryz.ntmps85 (by simp) ?_
  refine go ?_
  refine st_box3 (by ((try simp only [ev_tmp, ev_const, ev_func, get_put, get_args, get_putL, get_putL_nil, Nat.reduceEqDiff, reduceIte, List.getD_cons_zero, List.getD_cons_succ, List.getD_nil]); first | done | with_reducible rfl)) (by first | exact True.intro | exact ⟨_, rfl, by ((try simp only [ev_tmp, ev_const, ev_func, get_put, get_args, get_putL, get_putL_nil, Nat.reduceEqDiff, reduceIte, List.getD_cons_zero, List.getD_cons_succ, List.getD_nil, Bool.not_true, Bool.not_false]); first | done | with_reducible rfl)⟩) fun w1 b he1 hb1 hs1 hc0 hc1 hc2 => ?_
  refine go ?_
  refine rc (l10From_ok (p := p) _ 0 rfl (x := x) rfl hxe) (next := fun v2 w2 h2 => ?_)
  obtain ⟨he2, hf2⟩ := h2
  refine go ?_
  exact ret1 ⟨he1.trans he2, hf2.mono he1.size⟩
end Go.Proofs.YtjljbfcdpdckeaaGreat

/-
  Walks: the reference's power (l10Pow) and commutator (l10Comm).
  Conditions: the tails at all levels are groups.
-/
namespace Go.Proofs.YtjljbfcdpdckeaaGreat
open Go Go.Pc
set_option maxHeartbeats 1000000 in
theorem l10Pow_ok {p : Pr} [hc : ConAll p] {w : World} {vp vx : Value} {k : Int} {x : El p} {xs : List Int} {lo hi lo1 hi1 : Nat} [hp : Pres lo hi w vp p] [hx : Ints lo1 hi1 w vx xs] (hxe : xs = x.v) (hk : -9223372036854775807 ≤ k ∧ k ≤ 9223372036854775807) :
    Calls Tryz.prog 61 #[vp, vx, .int .i64 k] w (Ret fun v w' => Ext w w' ∧ Fr w.heap.size w' v (Grp.pwz x k).v) := by
  obtain ⟨vo, vpw, vc, ps, cs, css, rfl, h1, h2, h3⟩ := hp.ex
  refine enter (args := [.agg #[vo, vpw, vc], vx, .int .i64 k]) (l := [.tmp 6]) Tryz.func61 rfl rfl Tryz.ntmps61 (by simp) ?_
  refine go ?_
  refine st_box3 (by ((try simp only [ev_tmp, ev_const, ev_func, get_put, get_args, get_putL, get_putL_nil, Nat.reduceEqDiff, reduceIte, List.getD_cons_zero, List.getD_cons_succ, List.getD_nil]); first | done | with_reducible rfl)) (by first | exact True.intro | exact ⟨_, rfl, by ((try simp only [ev_tmp, ev_const, ev_func, get_put, get_args, get_putL, get_putL_nil, Nat.reduceEqDiff, reduceIte, List.getD_cons_zero, List.getD_cons_succ, List.getD_nil, Bool.not_true, Bool.not_false]); first | done | with_reducible rfl)⟩) fun w1 b he1 hb1 hs1 hc0 hc1 hc2 => ?_
  refine go ?_
  refine c_if (fun h4 => ?_) (fun h4 => ?_)
  · refine go ?_
    refine d_order [0, 1, 2, 4, 5, 3, 6, 7] (h := fun w2 he2 _ => ?_)
    refine dgo ?_
    refine dc (l10Inv_ok (p := p) (x := x) hxe) (next := fun v3 w3 h3 => ?_)
    obtain ⟨he3, hf3⟩ := h3
    refine ⟨fun h => h.trans he3, ?_⟩
    refine dc (l08Repeat_ok (p := p) (i := 0) (x := x⁻¹) (xs := (x⁻¹).v) rfl rfl ?_ ?_) (next := fun v4 w4 h5 => ?_)
    · omega
    · omega
    obtain ⟨he4, hf4⟩ := h5
    refine ⟨fun h => h.trans he4, ?_⟩
    refine dgo ?_
    refine d_end (h := ?_)
    refine go ?_
    have hE := (he1.trans he2).trans he3
    refine ret1 ⟨hE.trans he4, ?_⟩
    unfold Grp.pwz
    rw [if_pos h4]
    exact hf4.mono hE.size
  · refine go ?_
    refine rc (l08Repeat_ok (p := p) (i := 0) (x := x) (xs := xs) hxe rfl ?_ ?_) (next := fun v4 w4 h5 => ?_)
    · omega
    · omega
    obtain ⟨he4, hf4⟩ := h5
    refine go ?_
    refine ret1 ⟨he1.trans he4, ?_⟩
    unfold Grp.pwz
    rw [if_neg h4]
    exact hf4.mono he1.size
set_option maxHeartbeats 1000000 in
theorem l10Comm_ok {p : Pr} [hc : ConAll p] {w : World} {vp vx vy : Value} {x y : El p} {xs ys : List Int} {lo hi lo1 hi1 lo2 hi2 : Nat} [hp : Pres lo hi w vp p] [hx : Ints lo1 hi1 w vx xs] [hy : Ints lo2 hi2 w vy ys] (hxe : xs = x.v) (hye : ys = y.v) :
    Calls Tryz.prog 63 #[vp, vx, vy] w (Ret fun v w' => Ext w w' ∧ Fr w.heap.size w' v (Grp.cm x y).v) := by
  obtain ⟨vo, vpw, vc, ps, cs, css, rfl, h1, h2, h3⟩ := hp.ex
  refine enter (args := [.agg #[vo, vpw, vc], vx, vy]) (l := [.tmp 6]) Tryz.func63 rfl rfl Tryz.ntmps63 (by simp) ?_
  refine go ?_
  refine st_box3 (by ((try simp only [ev_tmp, ev_const, ev_func, get_put, get_args, get_putL, get_putL_nil, Nat.reduceEqDiff, reduceIte, List.getD_cons_zero, List.getD_cons_succ, List.getD_nil]); first | done | with_reducible rfl)) (by first | exact True.intro | exact ⟨_, rfl, by ((try simp only [ev_tmp, ev_const, ev_func, get_put, get_args, get_putL, get_putL_nil, Nat.reduceEqDiff, reduceIte, List.getD_cons_zero, List.getD_cons_succ, List.getD_nil, Bool.not_true, Bool.not_false]); first | done | with_reducible rfl)⟩) fun w1 b he1 hb1 hs1 hc0 hc1 hc2 => ?_
  refine go ?_
  refine d_order [0, 1, 2, 3, 4, 7, 8, 9, 5, 6, 10, 11, 12] (h := fun w2 he2 _ => ?_)
  refine dgo ?_
  refine dc (l08Mul_ok (p := p) hye hxe) (next := fun v3 w3 h3 => ?_)
  obtain ⟨he3, hf3⟩ := h3
  refine ⟨fun h => h.trans he3, ?_⟩
  refine dc (l10Inv_ok (p := p) (x := y * x) (xs := (y * x).v) rfl) (next := fun v4 w4 h4 => ?_)
  obtain ⟨he4, hf4⟩ := h4
  refine ⟨fun h => h.trans he4, ?_⟩
  refine dc (l08Mul_ok (p := p) hxe hye) (next := fun v5 w5 h5 => ?_)
  obtain ⟨he5, hf5⟩ := h5
  refine ⟨fun h => h.trans he5, ?_⟩
  refine dc (l08Mul_ok (p := p) (x := (y * x)⁻¹) (y := x * y) (xs := ((y * x)⁻¹).v) (ys := (x * y).v) rfl rfl) (next := fun v6 w6 h6 => ?_)
  obtain ⟨he6, hf6⟩ := h6
  refine ⟨fun h => h.trans he6, ?_⟩
  refine dgo ?_
  refine d_end (h := ?_)
  refine go ?_
  have hE := (((he1.trans he2).trans he3).trans he4).trans he5
  refine ret1 ⟨hE.trans he6, ?_⟩
  rw [Grp.cm_eq]
  exact hf6.mono hE.size
end Go.Proofs.YtjljbfcdpdckeaaGreat

/-
  Walk: the reference's strip of an element by a table (l12Strip).
  Conditions: the tails at all levels are groups, the table holds elements with the leading exponent 1.
-/
namespace Go.Proofs.YtjljbfcdpdckeaaGreat
open Go Go.Pc
/-- What a strip leaves. -/
structure Left {p : Pr} [ConAll p] (t : Tab p) (x r : El p) (d : Nat) : Prop where
  stp : Stp t x r
  tl : Tl d r
  le : d ≤ p.n
  some : d < p.n → t d = none ∧ co r d ≠ 0
set_option maxHeartbeats 1000000 in
theorem l12Strip_ok {p : Pr} [hc : ConAll p] {t : Tab p} (hT : TabOk t) {w : World} {vp vt vx : Value} {us : List Value} {x : El p} {xs : List Int} {lo hi lo1 hi1 lo2 hi2 : Nat} [hp : Pres lo hi w vp p] [ht : Pc.Rows lo1 hi1 w vt us (tabL t)] [hx : Ints lo2 hi2 w vx xs] (hxe : xs = x.v) :
    Calls Tryz.prog 60 #[vp, vt, vx] w (Ret fun v w' => ∃ (d : Nat) (vr : Value) (r : El p), v = .tuple #[.int .i64 d, vr] ∧ Ext w w' ∧ Fr w.heap.size w' vr r.v ∧ Left t x r d) := by
  subst hxe
  have hv := hc.valid
  have hn6 := hv.n6
  have htl := tabL_len t
  have hxl := x.inr.len
  obtain ⟨vo, vpw, vc, ps, cs, css, rfl, h1, h2, h3⟩ := hp.ex
  refine enter (args := [.agg #[vo, vpw, vc], vt, vx]) (l := [.tmp 6, .tmp 7]) Tryz.func60 rfl rfl Tryz.ntmps60 (by simp) ?_
  refine go ?_
  refine st_box3 (by ((try simp only [ev_tmp, ev_const, ev_func, get_put, get_args, get_putL, get_putL_nil, Nat.reduceEqDiff, reduceIte, List.getD_cons_zero, List.getD_cons_succ, List.getD_nil]); first | done | with_reducible rfl)) (by first | exact True.intro | exact ⟨_, rfl, by ((try simp only [ev_tmp, ev_const, ev_func, get_put, get_args, get_putL, get_putL_nil, Nat.reduceEqDiff, reduceIte, List.getD_cons_zero, List.getD_cons_succ, List.getD_nil, Bool.not_true, Bool.not_false]); first | done | with_reducible rfl)⟩) fun w1 b he1 hb1 hs1 hc0 hc1 hc2 => ?_
  refine go ?_
  refine rc (l01Own_ok (xs := x.v) ?_) (next := fun v2 w2 h2 => ?_)
  · omega
  obtain ⟨he2, hf2⟩ := h2
  refine go ?_
  refine r_for p.n (fun k ρ w' => ∃ vr r, Has ρ [(1, vt), (3, .pointer (some ⟨b, 0, none⟩)), (8, vr), (9, .int .i64 k)] ∧ Ext w1 w' ∧ Fr w.heap.size w' vr (T.v (p := p) (i := 0) r) ∧ Stp t x r ∧ Tl k r) ?_ ?_
  · refine ⟨v2, x, ?_, he2, hf2.mono he1.size, .refl x, Tl.zero x⟩
    exact hasP
  rintro k ρ w3 hk ⟨vr, r, hH, he3, hf3, hst, hr⟩
  refine rwp_has hH fun ρ0 => ?_
  have hrl := r.inr.len
  refine go ?_
  refine c_if (fun h4 => ?_) (fun h4 => ?_)
  · have hkn : k < p.n := by omega
    have hrk := r.inr.rng k hkn
    have hok := hv.opos hkn
    refine go ?_
    refine c_if (fun h5 => ?_) (fun h5 => ?_)
    · refine go ?_
      refine forQ_normal (by omega) ⟨vr, r, ?_, he3, hf3, hst, hr.succ h5⟩
      exact hasP
    · refine go ?_
      refine c_if (fun h6 => ?_) (fun h6 => ?_)
      · refine go ?_
        rw [tabL_at t hkn] at h6
        refine ret2 ⟨k, vr, r, rfl, he1.trans he3, hf3, hst, hr, by omega, fun _ => ⟨(rowOf_len hkn).1 (by omega), h5⟩⟩
      · rw [tabL_at t hkn] at h6
        obtain ⟨y, hy⟩ : ∃ y, t k = some y := by
          cases e : t k with
          | none => exact absurd ((rowOf_len hkn).2 e) (by omega)
          | some y => exact ⟨y, rfl⟩
        have hye : (tabL t).getD k [] = y.v := by rw [tabL_at t hkn, rowOf_some hy]
        refine go ?_
        refine d_region fun w4 he4 _ => ?_
        refine dgo ?_
        refine dc (l10Pow_ok (p := p) (x := y) hye ?_) (next := fun v5 w5 h7 => ?_)
        · omega
        obtain ⟨he5, hf5⟩ := h7
        refine ⟨fun h => h.trans he5, ?_⟩
        refine dc (l08Mul_ok (p := p) (x := r) (y := Grp.pwz y (-(r.v.getD k 0))) rfl rfl) (next := fun v6 w6 h8 => ?_)
        obtain ⟨he6, hf6⟩ := h8
        refine ⟨fun h => h.trans he6, ?_⟩
        refine dgo ?_
        refine d_end (h := ?_)
        refine go ?_
        have hyt := hT.tl k y hy
        have hyl := hT.lead k y hy
        have hE := (he3.trans he4).trans he5
        have hsz := he1.size
        have hsz2 := hE.size
        have hst2 := strip_step hkn hr hyt hyl
        refine forQ_normal (by omega) ⟨v6, r * Grp.pwz y (-(co r k)), ?_, hE.trans he6, hf6.mono (by omega), hst.trans (.right k y r _ _ hy hr h5 hst2 (.refl _)), hst2⟩
        exact hasP
  · refine go ?_
    obtain rfl : k = p.n := by omega
    rw [htl]
    exact ret2 ⟨p.n, vr, r, rfl, he1.trans he3, hf3, hst, hr, Nat.le_refl _, fun h => by omega⟩
end Go.Proofs.YtjljbfcdpdckeaaGreat

/-
  Walks: the program's sifting of an element by a sequence (newSequence, sift), and representatives of cosets (representative).
  Conditions: the tails at all levels are groups; stated at each theorem.
-/
namespace Go.Proofs.YtjljbfcdpdckeaaGreat
open Go Go.Pc
theorem lead_tl {p : Pr} (x : El p) : Tl (lead x.v) x := fun k hk => lead_zero x.v k hk
theorem lead_of {p : Pr} {x : El p} {d : Nat} (h : Tl d x) (h0 : co x d ≠ 0) : lead x.v = d := lead_eq (fun i hi => h i hi) h0
theorem tl_lead {p : Pr} {x : El p} {d : Nat} (hd : d ≤ p.n) (h : Tl d x) : d ≤ lead x.v := by
  have hl := lead_le x.v
  have hxl := x.inr.len
  by_cases h1 : lead x.v < x.v.length
  · have := lead_ne x.v h1
    by_cases h2 : d ≤ lead x.v
    · exact h2
    · exact absurd (h _ (by omega)) this
  · omega
set_option maxHeartbeats 1000000 in
theorem newSequence_ok {p : Pr} {w : World} {vp : Value} {lo hi : Nat} [hp : PresP lo hi w vp p] (hn6 : p.n ≤ 6) :
    Calls Tryz.prog 73 #[vp] w (Ret fun v w' => ∃ b vb, v = .pointer (some ⟨b, 0, none⟩) ∧ Ext w w' ∧ Cell w' b 0 vp ∧ Cell w' b 1 vb ∧ w.heap.size < b ∧ vb.ownBlock = some w.heap.size ∧ Own 22 w.heap.size w' vb (List.replicate p.n nilv)) := by
  have hol : p.ord.length = p.n := rfl
  obtain ⟨g, og, vo, vpw, vc, ps, cs, css, rfl, hg1, hg2, hc0, hc1, hc2, h1, h2, h3⟩ := hp.ex
  refine enter (args := [.pointer (some ⟨g, og, none⟩)]) (l := [.tmp 2]) Tryz.func73 rfl rfl Tryz.ntmps73 (by simp) ?_
  refine go ?_
  refine st_make_nil (by ((try simp only [ev_tmp, ev_const, ev_func, get_put, get_args, get_putL, get_putL_nil, Nat.reduceEqDiff, reduceIte, List.getD_cons_zero, List.getD_cons_succ, List.getD_nil]); first | done | with_reducible rfl)) (by ((try simp only [ev_tmp, ev_const, ev_func, get_put, get_args, get_putL, get_putL_nil, Nat.reduceEqDiff, reduceIte, List.getD_cons_zero, List.getD_cons_succ, List.getD_nil]); first | done | with_reducible rfl)) (by omega) (by omega) (by first | exact True.intro | exact ⟨_, rfl, by ((try simp only [ev_tmp, ev_const, ev_func, get_put, get_args, get_putL, get_putL_nil, Nat.reduceEqDiff, reduceIte, List.getD_cons_zero, List.getD_cons_succ, List.getD_nil, Bool.not_true, Bool.not_false]); first | done | with_reducible rfl)⟩) fun w2 v2 he2 hs2 ho2 => ?_
  rw [hol] at ho2
  refine go ?_
  refine ra (v := .agg #[.pointer (some ⟨g, og, none⟩), v2]) (h := rd_build (by simp only [ev_tmp, ev_const, ev_func, get_put, get_args, get_putL, get_putL_nil, Nat.reduceEqDiff, reduceIte, List.getD_cons_zero, List.getD_cons_succ, List.getD_nil, List.map_toArray, List.map_cons, List.map_nil]; rfl) (fun _ => ?_)) (next := ?_)
  · obtain ⟨cap, cur, rfl, _⟩ := ho2.ex
    kernel_rfl
  refine st_box (vs := [.pointer (some ⟨g, og, none⟩), v2]) (by ((try simp only [ev_tmp, ev_const, ev_func, get_put, get_args, get_putL, get_putL_nil, Nat.reduceEqDiff, reduceIte, List.getD_cons_zero, List.getD_cons_succ, List.getD_nil]); first | done | with_reducible rfl)) (by first | exact True.intro | exact ⟨_, rfl, by ((try simp only [ev_tmp, ev_const, ev_func, get_put, get_args, get_putL, get_putL_nil, Nat.reduceEqDiff, reduceIte, List.getD_cons_zero, List.getD_cons_succ, List.getD_nil, Bool.not_true, Bool.not_false]); first | done | with_reducible rfl)⟩) fun w3 b he3 hb3 hs3 hbk => ?_
  refine go ?_
  refine ret1 ⟨b, v2, rfl, he2.trans he3, hbk.cell rfl, hbk.cell rfl, by omega, ho2.toN_block, Own.ext (h := ho2)⟩
set_option maxHeartbeats 2000000 in
theorem sift_ok {p : Pr} [hcon : ConAll p] {t : Tab p} (hT : TabOk t) {av : Nat → Prop} {w : World} {bs : Nat} {vp vb vx : Value} {us : List Value} {x : El p} {lo hi lo1 hi1 : Nat} [hp : PresP lo hi w vp p] [hs0 : Cell w bs 0 vp] [hs1 : Cell w bs 1 vb] [ht : Pc.Rows lo1 hi1 w vb us (tabL t)]
    (hnil : ∀ d, d < p.n → t d = none → us.getD d nilv = nilv) (hx : IntsAp av w vx x.v) (hbd : ∀ g, av g → g < w.heap.size) :
    Calls Tryz.prog 98 #[.pointer (some ⟨bs, 0, none⟩), vx] w (Ret fun v w' => Ext w w' ∧ ∃ r : El p, IntsAp av w' v r.v ∧ Left t x r (lead r.v)) := by
  have hv := hcon.valid
  have hn6 := hv.n6
  have hol : p.ord.length = p.n := rfl
  have htl := tabL_len t
  obtain ⟨g, og, vo, vpw, vc, ps, cs, css, rfl, hg1, hg2, hc0, hc1, hc2, h1, h2, h3⟩ := hp.ex
  have hxi := hx.ints
  have hxl := x.inr.len
  refine enter (args := [.pointer (some ⟨bs, 0, none⟩), vx]) (l := [.tmp 4]) Tryz.func98 rfl rfl Tryz.ntmps98 (by simp) ?_
  refine go ?_
  refine rc (depthOf_ok (xs := x.v) ?_) (next := fun v1 w1 h4 => ?_)
  · omega
  obtain ⟨rfl, he1⟩ := h4
  refine go ?_
  refine r_loop (fun m ρ w' => ∃ vx x', Has ρ [(0, .pointer (some ⟨bs, 0, none⟩)), (1, vx), (5, .int .i64 (lead (T.v (p := p) (i := 0) x')))] ∧ Ext w w' ∧ IntsAp av w' vx x'.v ∧ Stp t x x' ∧ m = p.n - lead x'.v) (p.n - lead x.v) ?_ ?_
  · refine ⟨vx, x, ?_, he1, hx.ext he1, .refl x, rfl⟩
    exact hasP
  rintro m ρ w2 ⟨vx2, x2, hH, he2, hx2, hst, rfl⟩
  refine rwp_has hH fun ρ0 => ?_
  have hxi2 := hx2.ints
  have hxl2 := x2.inr.len
  have hll := lead_le x2.v
  have hlt2 := lead_tl x2
  generalize hd : lead x2.v = d at *
  refine go ?_
  refine spd (fun h4 => ?_) (fun h4 => ?_)
  · have hdn : d < p.n := by omega
    have hne : co x2 d ≠ 0 := by have := lead_ne x2.v (by omega); rw [hd] at this; exact this
    have hxr := x2.inr.rng d hdn
    have hod := hv.opos hdn
    have hoe : p.ord.getD d 0 = p.o d := rfl
    cases htd : t d with
    | none =>
      have hn2 : Pc.rowAt vb us d = nilv := hnil d hdn htd
      have hnb : NilB (Pc.rowAt vb us d) true := by rw [hn2]; infer_instance
      refine go ?_
      refine ret1 ⟨he2, x2, hx2, hst, ?_, ?_, ?_⟩
      · rw [hd]; exact hlt2
      · omega
      · rw [hd]; exact fun _ => ⟨htd, hne⟩
    | some y =>
      have hye : (tabL t).getD d [] = y.v := by rw [tabL_at t hdn, rowOf_some htd]
      have hyt := hT.tl d y htd
      have hyl := hT.lead d y htd
      have hnb : NilB (Pc.rowAt vb us d) false := by
        have hrow : Ints lo1 hi1 w (Pc.rowAt vb us d) ((tabL t).getD d []) := by infer_instance
        exact hrow.nn (by rw [hye, y.inr.len]; omega)
      refine go ?_
      refine d_order [0, 1, 2, 3, 4, 5, 6, 7, 8, 9, 10, 11, 12, 13, 14, 15, 16, 17, 18, 19, 20, 21, 22, 23, 24, 25, 26, 27, 28, 29, 31, 30, 32, 33] (h := fun w3 he3 _ => ?_)
      refine dgo ?_
      refine dce (power_ok (p := p) (x := y) (Nat.zero_le _) hye ?_) (next := fun v4 w4 h5 => ?_)
      · omega
      obtain ⟨he4, hf4⟩ := h5
      refine dce (multiply_ok (p := p) (x := Grp.pw y (p.ord.getD d 0 - x2.v.getD d 0).toNat) (y := x2) (Nat.zero_le _) rfl rfl) (next := fun v5 w5 h6 => ?_)
      obtain ⟨he5, hf5⟩ := h6
      refine dgo ?_
      refine d_end (h := ?_)
      have hpw := hyt.pw (by omega) (p.ord.getD d 0 - x2.v.getD d 0).toNat
      have hco : co (Grp.pw y (p.ord.getD d 0 - x2.v.getD d 0).toNat * x2) d = 0 := by
        rw [co_at _ hdn hlt2, co_pw hdn hyt, hyl, Int.mul_one, Int.emod_add_emod, Int.toNat_of_nonneg (by omega)]
        rw [show p.ord.getD d 0 - x2.v.getD d 0 + co x2 d = p.o d by unfold co; omega, Int.emod_self]
      have htl6 : Tl (d + 1) (Grp.pw y (p.ord.getD d 0 - x2.v.getD d 0).toNat * x2) := (hpw.mul (by omega) hlt2).succ hco
      have hst6 : Stp t x (Grp.pw y (p.ord.getD d 0 - x2.v.getD d 0).toNat * x2) := by
        refine hst.trans ?_
        have e : Grp.pw y (p.ord.getD d 0 - x2.v.getD d 0).toNat = Grp.pwz y (p.ord.getD d 0 - x2.v.getD d 0) := (Grp.pwz_of y (by omega)).symm
        rw [e] at htl6 ⊢
        exact .left d y x2 _ _ htd hlt2 hne htl6 (.refl _)
      generalize Grp.pw y (p.ord.getD d 0 - x2.v.getD d 0).toNat * x2 = x6 at hf5 hco htl6 hst6
      have hxl6 := x6.inr.len
      have hfi := hf5.ints
      have hz : x6.v.getD d 0 = 0 := hco
      refine go ?_
      refine c_if (fun h7 => ?_) (fun h7 => ?_)
      · exact absurd hz h7
      refine go ?_
      refine rc (depthOf_ok (xs := x6.v) ?_) (next := fun v7 w7 h8 => ?_)
      · omega
      obtain ⟨rfl, he7⟩ := h8
      refine go ?_
      have hE := (he3.trans he4)
      have hz2 := he2.size
      have hz4 := hE.size
      have hge := tl_lead (by omega) htl6
      refine loopQ_normal ?_ ⟨v5, x6, ?_, ((he2.trans hE).trans he5).trans he7, ?_, hst6, rfl⟩
      · omega
      · exact hasP
      · exact (IntsAp.ofFr hf5 (fun g hg => by have := hbd g hg; omega)).ext he7
  · refine go ?_
    refine ret1 ⟨he2, x2, hx2, hst, ?_, ?_, ?_⟩
    · rw [hd]; exact hlt2
    · omega
    · rw [hd]; intro h; omega
end Go.Proofs.YtjljbfcdpdckeaaGreat

/-
  The work on a sequence that grows by several additions; commutators with the entries of a table.
  Conditions: the tails at all levels are groups; nothing of the program stands here.
-/
namespace Go.Pc
open Grp
section
variable {p : Pr} [hc : ConAll p] {S S' W W' : El p → Prop} {t : Tab p}
theorem Gen.mono {G : Type} [Grp G] {A B : G → Prop} (h : ∀ a, A a → B a) : ∀ a, Gen A a → Gen B a := Gen.le (Gen.sub B) fun a ha => .of a (h a ha)
theorem Cov.mono {x : El p} (h : Cov t W x) (hw : ∀ a, W a → W' a) : Cov t W' x := by
  obtain ⟨r, hr, h⟩ := h
  exact ⟨r, hr.imp id (hw r), h⟩
/-- More elements are given, and wait. -/
theorem Wk.more (h : Wk S t (fun _ => False)) : Wk (fun a => S a ∨ W a) t W where
  ok := h.ok
  tmem d y e := Gen.mono (fun _ h => .inl h) _ (h.tmem d y e)
  wmem x hx := .of x (.inr hx)
  need x hx := by
    rcases hx with hx | hx
    · exact (h.need x hx).mono (fun _ h => h.elim)
    · exact ⟨x, .inr hx, fun _ _ h => h⟩
  top d y e := (h.top d y e).mono (fun _ h => h.elim)
  pair d e y z h1 h2 h3 := (h.pair d e y z h1 h2 h3).imp (·.mono (fun _ h => h.elim)) (·.mono (fun _ h => h.elim))
theorem Wk.none : Wk (fun _ : El p => False) (fun _ => none) (fun _ => False) := (Wk.start (S := fun _ : El p => False))
/-- Whether the subgroup has grown. -/
theorem Wk.grown {t0 : Tab p} (h0 : Wk S t0 (fun _ => False)) (h : Wk (fun a => S a ∨ W a) t (fun _ => False)) {d : Nat} (hd : t0 d = Option.none) (hd' : t d ≠ Option.none) : ∃ a, W a ∧ ¬ Gen S a := by
  apply Classical.byContradiction
  intro hn
  have hs : ∀ a, W a → Gen S a := fun a ha => Classical.byContradiction fun hg => hn ⟨a, ha, hg⟩
  have hle : ∀ a, Gen (fun a => S a ∨ W a) a → Gen S a := Gen.le (Gen.sub S) fun a ha => ha.elim (.of a) (hs a)
  have f0 := h0.full (fun _ h => h)
  have f := h.full (fun _ h => h)
  have g0 := h0.gen (fun _ h => h)
  have g := h.gen (fun _ h => h)
  obtain ⟨x, h1, h2, h3⟩ := f.dep.2 hd'
  rw [g] at h1
  have h4 := hle x h1
  rw [← g0] at h4
  exact f0.dep.1 ⟨x, h4, h2, h3⟩ hd
theorem Wk.same (h0 : Wk S t (fun _ => False)) (h : Wk (fun a => S a ∨ W a) t (fun _ => False)) : ∀ a, W a → Gen S a := by
  intro a ha
  have g0 := h0.gen (fun _ h => h)
  have g := h.gen (fun _ h => h)
  rw [← g0, g]
  exact .of a (.inr ha)
/-- The commutators of the entries ahead of a depth with an element. -/
noncomputable def commsL (t : Tab p) (y : El p) (e : Nat) : List (El p) := (List.range e).filterMap fun k => (t k).map fun z => Grp.cm z y
variable {y z : El p} {e : Nat}
theorem commsL_skip (h : t e = Option.none) : commsL t y (e + 1) = commsL t y e := by
  unfold commsL; rw [List.range_succ, List.filterMap_append]; simp [h]
theorem commsL_some (h : t e = some z) : commsL t y (e + 1) = commsL t y e ++ [Grp.cm z y] := by
  unfold commsL; rw [List.range_succ, List.filterMap_append]; simp [h]
theorem commsL_len : (commsL t y e).length ≤ e := by unfold commsL; exact Nat.le_trans (List.length_filterMap_le _ _) (by simp)
theorem commsL_mem {a : El p} : a ∈ commsL t y e ↔ ∃ k z, k < e ∧ t k = some z ∧ a = Grp.cm z y := by
  unfold commsL
  rw [List.mem_filterMap]
  constructor
  · rintro ⟨k, hk, h⟩
    cases htk : t k with
    | none => rw [htk] at h; cases h
    | some z => rw [htk] at h; exact ⟨k, z, List.mem_range.1 hk, htk, (Option.some.inj h).symm⟩
  · rintro ⟨k, z, hk, htk, rfl⟩
    exact ⟨k, List.mem_range.2 hk, by simp [htk]⟩
end
end Go.Pc

/-
  Walks: the reference's remainder and inverse of numbers (l01Mod, l01Inv) and the comparison of two lists of lists (l01Same2).
  Conditions: stated at each theorem.
-/
namespace Go.Proofs.YtjljbfcdpdckeaaGreat
open Go Go.Pc
theorem l01Mod_ok {w : World} {a m : Int} (ha : 0 ≤ a ∧ a ≤ 2000000) (hm : 1 ≤ m ∧ m ≤ 2000000) :
    Calls Tryz.prog 88 #[.int .i64 a, .int .i64 m] w (Ret fun v w' => v = .int .i64 (a % m) ∧ Ext w w') := by
  refine enter (args := [.int .i64 a, .int .i64 m]) (l := [.tmp 4]) Tryz.func88 rfl rfl Tryz.ntmps88 (by simp) ?_
  refine go ?_
  have h0 := Int.emod_nonneg a (show m ≠ 0 by omega)
  refine c_if (fun h4 => ?_) (fun h4 => ?_)
  · omega
  · refine go ?_
    exact ret1 ⟨rfl, Ext.refl _⟩
theorem inv_ex {a q : Int} (hq : q = 2 ∨ q = 3 ∨ q = 5 ∨ q = 7) (ha : 1 ≤ a ∧ a < q) : ∃ x, 1 ≤ x ∧ x < q ∧ (a * x) % q = 1 := by
  have h : a = 1 ∨ a = 2 ∨ a = 3 ∨ a = 4 ∨ a = 5 ∨ a = 6 := by omega
  rcases hq with rfl | rfl | rfl | rfl <;> rcases h with rfl | rfl | rfl | rfl | rfl | rfl <;>
    first
      | omega
      | exact ⟨1, by decide⟩
      | exact ⟨2, by decide⟩
      | exact ⟨3, by decide⟩
      | exact ⟨4, by decide⟩
      | exact ⟨5, by decide⟩
      | exact ⟨6, by decide⟩
set_option maxHeartbeats 1000000 in
theorem l01Inv_ok {w : World} {a q : Int} (hq : q = 2 ∨ q = 3 ∨ q = 5 ∨ q = 7) (ha : 1 ≤ a ∧ a < q) :
    Calls Tryz.prog 62 #[.int .i64 a, .int .i64 q] w (Ret fun v w' => ∃ x, v = .int .i64 x ∧ 1 ≤ x ∧ x < q ∧ (a * x) % q = 1 ∧ Ext w w') := by
  refine enter (args := [.int .i64 a, .int .i64 q]) (l := [.tmp 4]) Tryz.func62 rfl rfl Tryz.ntmps62 (by simp) ?_
  refine go ?_
  have hq7 : q ≤ 7 := by omega
  refine r_for (q - 1).toNat (fun k ρ w' => Has ρ [(0, .int .i64 a), (1, .int .i64 q), (5, .int .i64 (1 + k : Nat))] ∧ Ext w w' ∧ ∀ j : Int, 1 ≤ j → j < 1 + k → (a * j) % q ≠ 1) ?_ ?_
  · refine ⟨?_, Ext.refl _, fun j h1 h2 => by omega⟩
    exact hasP
  rintro k ρ w1 hk ⟨hH, he1, hI⟩
  refine rwp_has hH fun ρ0 => ?_
  refine go ?_
  refine c_if (fun h4 => ?_) (fun h4 => ?_)
  · refine go ?_
    refine rc (l01Mod_ok (a := a) (m := q) ?_ ?_) (next := fun v2 w2 h2 => ?_)
    · omega
    · omega
    obtain ⟨rfl, he2⟩ := h2
    rw [Int.emod_eq_of_lt (by omega) ha.2]
    have hb : 0 ≤ a * ((1 + k : Nat) : Int) ∧ a * ((1 + k : Nat) : Int) ≤ 7 * 7 :=
      ⟨Int.mul_nonneg (by omega) (by omega), Int.mul_le_mul (by omega) (by omega) (by omega) (by omega)⟩
    refine go ?_
    refine ra (h := rd_mul (by ((try simp only [ev_tmp, ev_const, ev_func, get_put, get_args, get_putL, get_putL_nil, Nat.reduceEqDiff, reduceIte, List.getD_cons_zero, List.getD_cons_succ, List.getD_nil]); first | done | with_reducible rfl)) (by ((try simp only [ev_tmp, ev_const, ev_func, get_put, get_args, get_putL, get_putL_nil, Nat.reduceEqDiff, reduceIte, List.getD_cons_zero, List.getD_cons_succ, List.getD_nil]); first | done | with_reducible rfl)) ?_) (next := ?_)
    · omega
    refine go ?_
    refine c_if (fun h5 => ?_) (fun h5 => ?_)
    · refine go ?_
      exact ret1 ⟨_, rfl, by omega, by omega, h5, he1.trans he2⟩
    · refine go ?_
      refine forQ_normal (by omega) ⟨?_, he1.trans he2, fun j h1 h2 => ?_⟩
      · exact hasP
      · by_cases e : j = (1 + k : Nat)
        · subst e; exact h5
        · exact hI j h1 (by omega)
  · exfalso
    obtain ⟨x, h1, h2, h3⟩ := inv_ex hq ha
    exact hI x h1 (by omega) h3
set_option maxHeartbeats 1000000 in
theorem l01Same2_ok {w : World} {va vb : Value} {us vs : List Value} {xss yss : List (List Int)} {lo hi lo1 hi1 : Nat} [hx : Pc.Rows lo hi w va us xss] [hy : Pc.Rows lo1 hi1 w vb vs yss] (hm : ∀ i, (xss.getD i []).length ≤ 2000000) (hl : xss.length ≤ 10000000) :
    Calls Tryz.prog 27 #[va, vb] w (Ret fun v w' => ∃ b, v = .bool b ∧ (b = true ↔ xss = yss) ∧ Ext w w') := by
  have hul := hx.vals.len
  have hvl := hy.vals.len
  refine enter (args := [va, vb]) (l := [.tmp 4]) Tryz.func27 rfl rfl Tryz.ntmps27 (by simp) ?_
  refine go ?_
  refine c_if (fun h1 => ?_) (fun h1 => ?_)
  · refine go ?_
    refine ret1 ⟨_, rfl, ?_, Ext.refl _⟩
    simp only [Bool.false_eq_true, false_iff]
    rintro rfl
    omega
  · have hxy : xss.length = yss.length := by omega
    refine go ?_
    refine r_for xss.length (fun k ρ w' => Has ρ [(0, va), (1, vb), (5, .int .i64 k)] ∧ Ext w w' ∧ ∀ i, i < k → xss.getD i [] = yss.getD i []) ?_ ?_
    · refine ⟨?_, Ext.refl _, fun i hi => by omega⟩
      exact hasP
    rintro k ρ w1 hk ⟨hH, he1, hI⟩
    refine rwp_has hH fun ρ0 => ?_
    refine go ?_
    refine c_if (fun h4 => ?_) (fun h4 => ?_)
    · refine go ?_
      refine d_region fun w2 he2 _ => ?_
      refine dgo ?_
      refine dc (l01Same_ok (xs := xss.getD k []) (ys := yss.getD k []) (hm k)) (next := fun v3 w3 h3 => ?_)
      obtain ⟨b3, rfl, hb3, he3⟩ := h3
      refine ⟨fun h => h.trans he3, ?_⟩
      refine dgo ?_
      refine d_end (h := ?_)
      refine go ?_
      refine c_b (fun h5 => ?_) (fun h5 => ?_)
      · refine go ?_
        refine ret1 ⟨_, rfl, ?_, (he1.trans he2).trans he3⟩
        simp only [Bool.false_eq_true, false_iff]
        rintro rfl
        have := hb3.2 rfl
        rw [this] at h5; cases h5
      · have h6 := hb3.1 (by simpa using h5)
        refine go ?_
        refine forQ_normal (by omega) ⟨?_, (he1.trans he2).trans he3, fun i hi => ?_⟩
        · exact hasP
        · by_cases e : i = k
          · subst e; exact h6
          · exact hI i (by omega)
    · refine go ?_
      refine ret1 ⟨_, rfl, ?_, he1⟩
      simp only [true_iff]
      apply List.ext_getElem hxy
      intro i h1 h2
      have := hI i (by omega)
      simpa [h1, h2] using this
set_option maxHeartbeats 1000000 in
theorem eqInt64SS_ok {w : World} {va vb : Value} {us vs : List Value} {xss yss : List (List Int)} {lo hi lo1 hi1 : Nat} [hx : Pc.Rows lo hi w va us xss] [hy : Pc.Rows lo1 hi1 w vb vs yss] (hm : ∀ i, (xss.getD i []).length ≤ 2000000) (hl : xss.length ≤ 10000000) :
    Calls Tryz.prog 11 #[va, vb] w (Ret fun v w' => ∃ b, v = .bool b ∧ (b = true ↔ xss = yss) ∧ Ext w w') := by
  have hul := hx.vals.len
  have hvl := hy.vals.len
  refine enter (args := [va, vb]) (l := [.tmp 4]) Tryz.func11 rfl rfl Tryz.ntmps11 (by simp) ?_
  refine go ?_
  refine c_if (fun h1 => ?_) (fun h1 => ?_)
  · refine go ?_
    refine ret1 ⟨_, rfl, ?_, Ext.refl _⟩
    simp only [Bool.false_eq_true, false_iff]
    rintro rfl
    omega
  · have hxy : xss.length = yss.length := by omega
    refine go ?_
    refine r_for xss.length (fun k ρ w' => Has ρ [(0, va), (1, vb), (5, .int .i64 k)] ∧ Ext w w' ∧ ∀ i, i < k → xss.getD i [] = yss.getD i []) ?_ ?_
    · refine ⟨?_, Ext.refl _, fun i hi => by omega⟩
      exact hasP
    rintro k ρ w1 hk ⟨hH, he1, hI⟩
    refine rwp_has hH fun ρ0 => ?_
    refine go ?_
    refine c_if (fun h4 => ?_) (fun h4 => ?_)
    · refine go ?_
      refine d_region fun w2 he2 _ => ?_
      refine dgo ?_
      refine dc (eqInt64S_ok (xs := xss.getD k []) (ys := yss.getD k []) (hm k)) (next := fun v3 w3 h3 => ?_)
      obtain ⟨b3, rfl, hb3, he3⟩ := h3
      refine ⟨fun h => h.trans he3, ?_⟩
      refine dgo ?_
      refine d_end (h := ?_)
      refine go ?_
      refine c_b (fun h5 => ?_) (fun h5 => ?_)
      · refine go ?_
        refine ret1 ⟨_, rfl, ?_, (he1.trans he2).trans he3⟩
        simp only [Bool.false_eq_true, false_iff]
        rintro rfl
        have := hb3.2 rfl
        rw [this] at h5; cases h5
      · have h6 := hb3.1 (by simpa using h5)
        refine go ?_
        refine forQ_normal (by omega) ⟨?_, (he1.trans he2).trans he3, fun i hi => ?_⟩
        · exact hasP
        · by_cases e : i = k
          · subst e; exact h6
          · exact hI i (by omega)
    · refine go ?_
      refine ret1 ⟨_, rfl, ?_, he1⟩
      simp only [true_iff]
      apply List.ext_getElem hxy
      intro i h1 h2
      have := hI i (by omega)
      simpa [h1, h2] using this
end Go.Proofs.YtjljbfcdpdckeaaGreat

/-
  Walk: the reference's copy of a list of lists (l01Own2).
  Conditions: the lists are short.
-/
namespace Go.Proofs.YtjljbfcdpdckeaaGreat
open Go Go.Pc
set_option maxHeartbeats 1000000 in
theorem l01Own2_ok {w : World} {va : Value} {us : List Value} {xss : List (List Int)} {lo hi : Nat} [hx : Pc.Rows lo hi w va us xss] (hm : ∀ i, (xss.getD i []).length ≤ 2000000) (hl : xss.length ≤ 2000000) :
    Calls Tryz.prog 59 #[va] w (Ret fun v w' => Ext w w' ∧ ∃ us', Lst 22 w.heap.size (· < w.heap.size) w' v us' xss) := by
  have hul := hx.vals.len
  refine enter (args := [va]) (l := [.tmp 2]) Tryz.func59 rfl rfl Tryz.ntmps59 (by simp) ?_
  refine go ?_
  refine st_slice0 (by first | exact True.intro | exact ⟨_, rfl, by ((try simp only [ev_tmp, ev_const, ev_func, get_put, get_args, get_putL, get_putL_nil, Nat.reduceEqDiff, reduceIte, List.getD_cons_zero, List.getD_cons_succ, List.getD_nil, Bool.not_true, Bool.not_false]); first | done | with_reducible rfl)⟩) fun w1 v1 he1 hs1 ho1 => ?_
  refine go ?_
  refine r_for xss.length (fun k ρ w' => ∃ v' us', Has ρ [(0, va), (3, v'), (4, .int .i64 k)] ∧ Ext w w' ∧ Lst 22 w.heap.size (· < w.heap.size) w' v' us' (xss.take k)) ?_ ?_
  · refine ⟨v1, [], ?_, he1, ?_⟩
    · exact hasP
    · simpa using Lst.start ho1 (Nat.le_refl _) (by omega) (fun g hg => by have := he1.size; omega)
  rintro k ρ w2 hk ⟨v2, us2, hH, he2, hL⟩
  refine rwp_has hH fun ρ0 => ?_
  refine go ?_
  refine c_if (fun h4 => ?_) (fun h4 => ?_)
  · refine go ?_
    refine rc (l01Own_ok (xs := xss.getD k []) (hm k)) (next := fun v3 w3 h3 => ?_)
    obtain ⟨he3, hf3⟩ := h3
    refine go ?_
    refine st_slice1 (u := v3) (by ((try simp only [ev_tmp, ev_const, ev_func, get_put, get_args, get_putL, get_putL_nil, Nat.reduceEqDiff, reduceIte, List.getD_cons_zero, List.getD_cons_succ, List.getD_nil]); first | done | with_reducible rfl)) ?_ ?_ (by first | exact True.intro | exact ⟨_, rfl, by ((try simp only [ev_tmp, ev_const, ev_func, get_put, get_args, get_putL, get_putL_nil, Nat.reduceEqDiff, reduceIte, List.getD_cons_zero, List.getD_cons_succ, List.getD_nil, Bool.not_true, Bool.not_false]); first | done | with_reducible rfl)⟩) fun w4 v4 he4 hs4 ho4 => ?_
    · exact hf3.ints.sl.cells
    · rfl
    refine go ?_
    have hL4 := (hL.ext he3).ext he4
    have hO4 := hL4.own
    have hl2 : us2.length ≤ 2000000 := by rw [hL.len, List.length_take]; omega
    have hz2 := he2.size
    have hz3 := he3.size
    refine st_append (hv := hO4) (hy := ho4) (by ((try simp only [ev_tmp, ev_const, ev_func, get_put, get_args, get_putL, get_putL_nil, Nat.reduceEqDiff, reduceIte, List.getD_cons_zero, List.getD_cons_succ, List.getD_nil]); first | done | with_reducible rfl)) (by ((try simp only [ev_tmp, ev_const, ev_func, get_put, get_args, get_putL, get_putL_nil, Nat.reduceEqDiff, reduceIte, List.getD_cons_zero, List.getD_cons_succ, List.getD_nil]); first | done | with_reducible rfl)) rfl ?_ ?_ ?_ ?_ (by first | exact True.intro | exact ⟨_, rfl, by ((try simp only [ev_tmp, ev_const, ev_func, get_put, get_args, get_putL, get_putL_nil, Nat.reduceEqDiff, reduceIte, List.getD_cons_zero, List.getD_cons_succ, List.getD_nil, Bool.not_true, Bool.not_false]); first | done | with_reducible rfl)⟩) fun v5 w5 ho5 hg5 ha5 => ?_
    · intro u hu
      rw [List.mem_singleton.1 hu]
      exact hf3.ints.sl.one
    · simp; omega
    · simp [maxLen]; omega
    · omega
    have hr4 : Ints w2.heap.size w3.heap.size w4 v3 (xss.getD k []) := inferInstance
    have hL5 := hL4.push ⟨_, _, hr4, he4.size, fun g hg => .inl (hg.elim (fun hg => by omega) (fun hg => (hL.own.lt g hg).2))⟩ ho5 hg5 ha5
    refine go ?_
    refine forQ_normal (by omega) ⟨v5, us2 ++ [v3], ?_, ?_, ?_⟩
    · exact hasP
    · exact ⟨((he2.trans he3).trans he4).below.grown hg5 (by omega) (fun k hk => (hL.own.lt k hk).1)⟩
    · rw [List.take_succ_eq_append_getElem (by omega)]
      simpa [show k < xss.length by omega] using hL5
  · refine go ?_
    refine ret1 ⟨he2, us2, ?_⟩
    rw [show k = xss.length by omega, List.take_length] at hL
    exact hL
end Go.Proofs.YtjljbfcdpdckeaaGreat

/-
  Walk: the reference's canonical sequence out of a full table (l12Full).
  Conditions: the tails at all levels are groups, the table is full.
-/
namespace Go.Proofs.YtjljbfcdpdckeaaGreat
open Go Go.Pc
set_option maxHeartbeats 2000000 in
theorem l12Full_ok {p : Pr} [hc : ConAll p] {t : Tab p} (hf : Full t) {av : Nat → Prop} {w : World} {vp vt : Value} {us : List Value} {lo hi lo1 hi1 : Nat} [hp : Pres lo hi w vp p] [ht : Pc.Rows lo1 hi1 w vt us (tabL t)]
    (hr : RowsAp av w us (tabL t)) (hbd : ∀ g, av g → g < w.heap.size) :
    Calls Tryz.prog 64 #[vp, vt] w (Ret fun v w' => Ext w w' ∧ ∃ us', Lst 22 w.heap.size av w' v us' (canon (Gen (Ents t)))) := by
  have hv := hc.valid
  have hn6 := hv.n6
  have htl := tabL_len t
  have hH := Gen.sub (Ents t)
  obtain ⟨vo, vpw, vc, ps, cs, css, rfl, h1, h2, h3⟩ := hp.ex
  refine enter (args := [.agg #[vo, vpw, vc], vt]) (l := [.tmp 4]) Tryz.func64 rfl rfl Tryz.ntmps64 (by simp) ?_
  refine go ?_
  refine st_box3 (by ((try simp only [ev_tmp, ev_const, ev_func, get_put, get_args, get_putL, get_putL_nil, Nat.reduceEqDiff, reduceIte, List.getD_cons_zero, List.getD_cons_succ, List.getD_nil]); first | done | with_reducible rfl)) (by first | exact True.intro | exact ⟨_, rfl, by ((try simp only [ev_tmp, ev_const, ev_func, get_put, get_args, get_putL, get_putL_nil, Nat.reduceEqDiff, reduceIte, List.getD_cons_zero, List.getD_cons_succ, List.getD_nil, Bool.not_true, Bool.not_false]); first | done | with_reducible rfl)⟩) fun w1 b he1 hb1 hs1 hc0 hc1 hc2 => ?_
  refine go ?_
  refine st_make_nil (by ((try simp only [ev_tmp, ev_const, ev_func, get_put, get_args, get_putL, get_putL_nil, Nat.reduceEqDiff, reduceIte, List.getD_cons_zero, List.getD_cons_succ, List.getD_nil]); first | done | with_reducible rfl)) (by ((try simp only [ev_tmp, ev_const, ev_func, get_put, get_args, get_putL, get_putL_nil, Nat.reduceEqDiff, reduceIte, List.getD_cons_zero, List.getD_cons_succ, List.getD_nil]); first | done | with_reducible rfl)) (by omega) (by omega) (by first | exact True.intro | exact ⟨_, rfl, by ((try simp only [ev_tmp, ev_const, ev_func, get_put, get_args, get_putL, get_putL_nil, Nat.reduceEqDiff, reduceIte, List.getD_cons_zero, List.getD_cons_succ, List.getD_nil, Bool.not_true, Bool.not_false]); first | done | with_reducible rfl)⟩) fun w2 v2 he2 hs2 ho2 => ?_
  have hz1 := he1.size
  have hvb := ho2.toN_block
  have hD0 : Lst 22 w1.heap.size av w2 v2 (List.replicate p.n nilv) (tabL (Tab.fr (canT (Gen (Ents t))) p.n)) := by
    rw [fr_end]
    rw [htl] at ho2
    exact Lst.ofNils ho2 (Nat.le_refl _) (fun h => by have := hbd _ h; omega) (fun g hg => by have := hbd g hg; have := he2.size; omega)
  refine go ?_
  refine r_for p.n (fun k ρ w' => ∃ usd, Has ρ [(1, vt), (2, .pointer (some ⟨b, 0, none⟩)), (5, v2), (6, .int .i64 (p.n - 1 - k))] ∧ Ext w1 w' ∧ Lst 22 w1.heap.size av w' v2 usd (tabL (Tab.fr (canT (Gen (Ents t))) (p.n - k))) ∧ ∀ e, p.n - k ≤ e → t e ≠ none → canT (Gen (Ents t)) e ≠ none) ?_ ?_
  · refine ⟨_, ?_, he2, hD0, fun e h1 h2 => ?_⟩
    · exact hasP
    · have := hf.dep.2 h2
      have := this.lt
      omega
  rintro k ρ w3 hk ⟨usd, hH3, he3, hD, hcn⟩
  refine rwp_has hH3 fun ρ0 => ?_
  refine go ?_
  refine c_if (fun h4 => ?_) (fun h4 => ?_)
  · have hkn : k < p.n := by omega
    obtain ⟨d, hd⟩ : ∃ d, p.n - 1 - k = d := ⟨_, rfl⟩
    have hdn : d < p.n := by omega
    have hd1 : p.n - k = d + 1 := by omega
    have hd2 : p.n - (k + 1) = d := by omega
    rw [hd1] at hD hcn
    refine go ?_
    refine c_if (fun h5 => ?_) (fun h5 => ?_)
    · refine go ?_
      rw [hd, tabL_at t hdn] at h5
      have htn := (rowOf_len (t := t) hdn).1 (by omega)
      refine forQ_normal (by omega) ⟨usd, ?_, he3, ?_, ?_⟩
      · exact hasP
      · rw [hd2, fr_none (hf.canT_none htn)]; exact hD
      · intro e h1 h2
        by_cases ee : e = d
        · subst ee; exact absurd htn h2
        · exact hcn e (by omega) h2
    · rw [hd, tabL_at t hdn] at h5
      obtain ⟨y, hy⟩ : ∃ y, t d = some y := by
        cases e : t d with
        | none => exact absurd ((rowOf_len hdn).2 e) (by omega)
        | some y => exact ⟨y, rfl⟩
      have hye : (tabL t).getD d [] = y.v := by rw [tabL_at t hdn, rowOf_some hy]
      refine go ?_
      have hDr := hD.toRows
      refine r_for k (fun q ρ w' => ∃ vx x, Has ρ [(1, vt), (2, .pointer (some ⟨b, 0, none⟩)), (5, v2), (6, .int .i64 (p.n - 1 - k)), (7, vx), (8, .int .i64 (d + 1 + q : Nat))] ∧ Ext w3 w' ∧ IntsAp (fun g => av g ∨ v2.ownBlock = some g) w' vx (T.v (p := p) (i := 0) x) ∧ CanTo (Gen (Ents t)) d (d + 1 + q) x) ?_ ?_
      · refine ⟨Pc.rowAt vt us (p.n - 1 - k), y, ?_, Ext.refl _, ?_, hf.canTo hy⟩
        · exact hasP
        · have := ((hr.at_ d).ext (he1.trans he3))
          rw [hye] at this
          rw [hd]
          have hz3 := he3.size
          exact ((hr.at_ d).weak (av' := fun g => av g ∨ v2.ownBlock = some g) (fun g hg => hg.imp id fun hg => by rw [hvb] at hg; injection hg with hg; omega)).ext (he1.trans he3) |> fun h => by rw [hye] at h; exact h
      rintro q ρ w4 hq ⟨vx, x, hH4, he4, hx4, hct⟩
      refine rwp_has hH4 fun ρ1 => ?_
      have hxi := hx4.ints
      have hxl := x.inr.len
      refine go ?_
      refine c_if (fun h6 => ?_) (fun h6 => ?_)
      · have hen : d + 1 + q < p.n := by omega
        obtain ⟨e, he⟩ : ∃ e, d + 1 + q = e := ⟨_, rfl⟩
        have hle := tabL_len (Tab.fr (canT (Gen (Ents t))) (d + 1))
        have hrow : (tabL (Tab.fr (canT (Gen (Ents t))) (d + 1))).getD e [] = rowOf (canT (Gen (Ents t))) e := by
          rw [tabL_at _ (by omega)]; unfold rowOf; rw [fr_at _ (by omega)]
        refine go ?_
        refine spd (fun h7 => ?_) (fun h7 => ?_)
        · rw [he, hrow] at h7
          obtain ⟨z, hz⟩ : ∃ z, canT (Gen (Ents t)) e = some z := by
            cases ez : canT (Gen (Ents t)) e with
            | none => exact absurd ((rowOf_len (by omega)).2 ez) (by omega)
            | some z => exact ⟨z, rfl⟩
          have hza := canT_some hz
          have hze : (tabL (Tab.fr (canT (Gen (Ents t))) (d + 1))).getD (d + 1 + q) [] = z.v := by rw [he, hrow, rowOf_some hz]
          refine go ?_
          refine c_if (fun h8 => ?_) (fun h8 => ?_)
          · have hxe := x.inr.rng (d + 1 + q) (by omega)
            have hoe := hv.opos (i := d + 1 + q) (by omega)
            refine go ?_
            refine d_region fun w5 he5 _ => ?_
            refine dgo ?_
            refine dce (l10Pow_ok (p := p) (x := z) hze ?_) (next := fun v6 w6 h6 => ?_)
            · omega
            obtain ⟨he6, hf6⟩ := h6
            refine dce (l08Mul_ok (p := p) (x := x) (y := Grp.pwz z (-(x.v.getD (d + 1 + q) 0))) rfl rfl) (next := fun v7 w7 h7 => ?_)
            obtain ⟨he7, hf7⟩ := h7
            refine dgo ?_
            refine d_end (h := ?_)
            refine go ?_
            have hE := ((he4.trans he5).trans he6).trans he7
            have hz3 := he3.size
            have hz6 := ((he4.trans he5).trans he6).size
            refine forQ_normal (by omega) ⟨v7, x * Grp.pwz z (-(x.v.getD (d + 1 + q) 0)), ?_, hE, IntsAp.ofFr hf7 ?_, ?_⟩
            · exact hasP
            · rintro g (hg | hg)
              · have := hbd g hg; omega
              · have := (hD.lt hg).2; omega
            · rw [show d + 1 + (q + 1) = e + 1 by omega]
              rw [he] at hct ⊢
              exact hct.step hH (by omega) (by omega) hza.mem hza.tl hza.lead
          · refine go ?_
            refine forQ_normal (by omega) ⟨vx, x, ?_, he4, hx4, ?_⟩
            · exact hasP
            · rw [he] at h8 hct
              rw [show d + 1 + (q + 1) = e + 1 by omega]
              exact hct.skip (.inl (Decidable.not_not.1 h8))
        · rw [he, hrow] at h7
          have hce : canT (Gen (Ents t)) e = none := (rowOf_len (by omega)).1 (by omega)
          refine go ?_
          refine forQ_normal (by omega) ⟨vx, x, ?_, he4, hx4, ?_⟩
          · exact hasP
          · rw [he] at hct
            rw [show d + 1 + (q + 1) = e + 1 by omega]
            refine hct.skip (.inr fun hde => ?_)
            exact hcn e (by omega) (hf.dep.1 hde) hce
      · obtain rfl : q = k := by omega
        have hcan := (show CanTo (Gen (Ents t)) d p.n x by rw [show p.n = d + 1 + q by omega]; exact hct).can
        have hD4 := hD.ext he4
        have hO4 := hD4.toOwn hvb
        have hul := hD.len
        rw [tabL_len] at hul
        have hle := tabL_len (Tab.fr (canT (Gen (Ents t))) (d + 1))
        refine go ?_
        refine st_store_val (h := hO4) (by ((try simp only [ev_tmp, ev_const, ev_func, get_put, get_args, get_putL, get_putL_nil, Nat.reduceEqDiff, reduceIte, List.getD_cons_zero, List.getD_cons_succ, List.getD_nil]); first | done | with_reducible rfl)) (by ((try simp only [ev_tmp, ev_const, ev_func, get_put, get_args, get_putL, get_putL_nil, Nat.reduceEqDiff, reduceIte, List.getD_cons_zero, List.getD_cons_succ, List.getD_nil]); first | done | with_reducible rfl)) ?_ ?_ (by first | exact True.intro | exact ⟨_, rfl, by ((try simp only [ev_tmp, ev_const, ev_func, get_put, get_args, get_putL, get_putL_nil, Nat.reduceEqDiff, reduceIte, List.getD_cons_zero, List.getD_cons_succ, List.getD_nil, Bool.not_true, Bool.not_false]); first | done | with_reducible rfl)⟩) fun w5 hc5 hs5 ho5 => ?_
        · exact hxi.sl.one
        · omega
        refine go ?_
        have hD5 := hD4.set hvb hx4 hc5 ho5 (by omega)
        refine forQ_normal (by omega) ⟨usd.set (p.n - 1 - q) vx, ?_, hc5.ext (he3.trans he4) (Nat.le_refl _), ?_, ?_⟩
        · exact hasP
        · rw [hd2, fr_some (canT_eq hH hcan), tabL_set]
          rw [hd] at hD5 ⊢
          exact hD5
        · intro e h1 h2
          by_cases ee : e = d
          · subst ee; rw [canT_eq hH hcan]; simp
          · exact hcn e (by omega) h2
  · obtain rfl : k = p.n := by omega
    rw [Nat.sub_self, fr_zero] at hD
    rw [Nat.sub_self] at hcn
    have hz3 := he3.size
    refine go ?_
    refine st_slice0 (by first | exact True.intro | exact ⟨_, rfl, by ((try simp only [ev_tmp, ev_const, ev_func, get_put, get_args, get_putL, get_putL_nil, Nat.reduceEqDiff, reduceIte, List.getD_cons_zero, List.getD_cons_succ, List.getD_nil, Bool.not_true, Bool.not_false]); first | done | with_reducible rfl)⟩) fun w4 v4 he4 hs4 ho4 => ?_
    have hDr := hD.toRows
    have hDa : RowsAp (fun g => av g ∨ w3.heap.size ≤ g) w3 usd (tabL (canT (Gen (Ents t)))) := hD.rows.weak fun g hg => hg.imp .inl id
    have hL0 : Lst 22 w3.heap.size av w4 v4 [] (canTo (Gen (Ents t)) 0) := Lst.start ho4 (Nat.le_refl _) (fun h => by have := hbd _ h; omega) (fun g hg => by have := hbd g hg; omega)
    have hcl := tabL_len (canT (Gen (Ents t)))
    have hul := hD.len
    refine go ?_
    refine r_for p.n (fun d ρ w' => ∃ vo' uso, Has ρ [(1, vt), (2, .pointer (some ⟨b, 0, none⟩)), (5, v2), (9, vo'), (10, .int .i64 d)] ∧ Ext w3 w' ∧ Lst 22 w3.heap.size av w' vo' uso (canTo (Gen (Ents t)) d)) ?_ ?_
    · refine ⟨_, _, ?_, he4, hL0⟩
      exact hasP
    rintro d ρ w5 hd ⟨vo', uso, hH5, he5, hL⟩
    refine rwp_has hH5 fun ρ1 => ?_
    refine go ?_
    refine c_if (fun h6 => ?_) (fun h6 => ?_)
    · have hdn : d < p.n := by omega
      refine go ?_
      refine c_if (fun h7 => ?_) (fun h7 => ?_)
      · rw [tabL_at _ hdn] at h7
        obtain ⟨z, hz⟩ : ∃ z, canT (Gen (Ents t)) d = some z := by
          cases ez : canT (Gen (Ents t)) d with
          | none => exact absurd ((rowOf_len hdn).2 ez) (by omega)
          | some z => exact ⟨z, rfl⟩
        have hrow := hDa.at_ d
        rw [tabL_at _ hdn, rowOf_some hz] at hrow
        have hri := (hrow.ext he5).ints
        refine go ?_
        refine st_slice1 (u := Pc.rowAt v2 usd d) (by ((try simp only [ev_tmp, ev_const, ev_func, get_put, get_args, get_putL, get_putL_nil, Nat.reduceEqDiff, reduceIte, List.getD_cons_zero, List.getD_cons_succ, List.getD_nil]); first | done | with_reducible rfl)) ?_ ?_ (by first | exact True.intro | exact ⟨_, rfl, by ((try simp only [ev_tmp, ev_const, ev_func, get_put, get_args, get_putL, get_putL_nil, Nat.reduceEqDiff, reduceIte, List.getD_cons_zero, List.getD_cons_succ, List.getD_nil, Bool.not_true, Bool.not_false]); first | done | with_reducible rfl)⟩) fun w6 v6 he6 hs6 ho6 => ?_
        · exact hri.sl.cells
        · rfl
        refine go ?_
        have hL6 := hL.ext he6
        have hO6 := hL6.own
        have hl6 : uso.length ≤ 6 := by rw [hL.len]; have := canTo_len (Gen (Ents t)) d; omega
        have hz5 := he5.size
        have hz6 := he6.size
        refine st_append (hv := hO6) (hy := ho6) (by ((try simp only [ev_tmp, ev_const, ev_func, get_put, get_args, get_putL, get_putL_nil, Nat.reduceEqDiff, reduceIte, List.getD_cons_zero, List.getD_cons_succ, List.getD_nil]); first | done | with_reducible rfl)) (by ((try simp only [ev_tmp, ev_const, ev_func, get_put, get_args, get_putL, get_putL_nil, Nat.reduceEqDiff, reduceIte, List.getD_cons_zero, List.getD_cons_succ, List.getD_nil]); first | done | with_reducible rfl)) rfl ?_ ?_ ?_ ?_ (by first | exact True.intro | exact ⟨_, rfl, by ((try simp only [ev_tmp, ev_const, ev_func, get_put, get_args, get_putL, get_putL_nil, Nat.reduceEqDiff, reduceIte, List.getD_cons_zero, List.getD_cons_succ, List.getD_nil, Bool.not_true, Bool.not_false]); first | done | with_reducible rfl)⟩) fun v7 w7 ho7 hg7 ha7 => ?_
        · intro u hu
          rw [List.mem_singleton.1 hu]
          exact hri.sl.one
        · simp; omega
        · simp [maxLen]; omega
        · omega
        refine go ?_
        refine forQ_normal (by omega) ⟨v7, uso ++ [usd.getD d nilv], ?_, (he5.trans he6).app hg7 (fun k hk => (hL.lt hk).1), ?_⟩
        · exact hasP
        · rw [canTo_some hz]
          refine hL6.push ?_ ho7 hg7 ha7
          refine ((hrow.ext (he5.trans he6)).weak fun g hg => .inl ?_)
          exact hg.imp id fun hg => (hL.lt hg).1
      · rw [tabL_at _ hdn] at h7
        have hcd : canT (Gen (Ents t)) d = none := (rowOf_len hdn).1 (by omega)
        refine go ?_
        refine forQ_normal (by omega) ⟨vo', uso, ?_, he5, ?_⟩
        · exact hasP
        · rw [canTo_none hcd]; exact hL
    · obtain rfl : d = p.n := by omega
      refine go ?_
      refine ret1 ⟨(he1.trans he3).trans he5, uso, ?_⟩
      rw [canTo_end] at hL
      exact hL.mono (by omega)
end Go.Proofs.YtjljbfcdpdckeaaGreat

/-
  Walk: the reference's subgroup generated by a list (l12Close).
  Conditions: the tails at all levels are groups, the list's members are elements.
-/
namespace Go.Proofs.YtjljbfcdpdckeaaGreat
open Go Go.Pc
theorem own_some (v : Value) (s k : Nat) (hk : s ≤ k) (h : ∀ g, v.ownBlock = some g → s ≤ g) : ∃ b, s ≤ b ∧ ∀ g, v.ownBlock = some g → g = b := by
  cases e : v.ownBlock with
  | none => exact ⟨k, hk, fun g h => by cases h⟩
  | some b => exact ⟨b, h b e, fun g h => (Option.some.inj h).symm⟩
/-- The table and the waiting elements, side by side; one element more waits. -/
theorem tw_push {p : Pr} {e s1 s2 : Nat} {w w' : World} {vt vw vw' u : Value} {usT usW : List Value} {t : Tab p} {zs : List (El p)} {x : El p}
    (hT : Lst e s1 (fun g => g < s1 ∨ vw.ownBlock = some g) w vt usT (tabL t)) (hW : Lst e s2 (fun g => g < s2) w vw usW (zs.map (T.v (p := p) (i := 0))))
    (hu : IntsAp (fun g => g < s2 ∨ vw.ownBlock = some g) w u x.v) (ho : OwnN e s2 w' vw' (usW ++ [u])) (hg : w.grownBy w' vw.ownBlock) (hv : vw'.ownBlock = vw.ownBlock ∨ vw'.ownBlock = some w.heap.size) :
    Lst e s1 (fun g => g < s1 ∨ vw'.ownBlock = some g) w' vt usT (tabL t) ∧ Lst e s2 (fun g => g < s2) w' vw' (usW ++ [u]) ((zs ++ [x]).map (T.v (p := p) (i := 0))) := by
  have hW' := hW.push hu ho hg hv
  refine ⟨hT.beside hg (fun g e => .inr e) fun g hg' => ?_, by rw [List.map_append]; exact hW'⟩
  rcases hg' with hg' | hg'
  · exact .inl (.inl hg')
  · rcases hv with e | e
    · rw [e] at hg'; exact .inl (.inr hg')
    · have := (hW'.lt hg').2
      rw [e] at hg'; injection hg' with hg'
      exact .inr ⟨hg'.symm, by omega⟩
/-- The commutators with the entries ahead of a depth. -/
noncomputable def comms {p : Pr} [ConAll p] (t : Tab p) (d : Nat) (y : El p) (e : Nat) : List (El p) := (List.range e).filterMap fun k => if k = d then none else (t k).map (Grp.cm y)
section
variable {p : Pr} [hc : ConAll p] {t : Tab p} {d e : Nat} {y z : El p}
theorem comms_skip (h : e = d ∨ t e = none) : comms t d y (e + 1) = comms t d y e := by
  unfold comms; rw [List.range_succ, List.filterMap_append]
  rcases h with h | h <;> simp [h]
theorem comms_some (hne : e ≠ d) (h : t e = some z) : comms t d y (e + 1) = comms t d y e ++ [Grp.cm y z] := by
  unfold comms; rw [List.range_succ, List.filterMap_append]; simp [h, hne]
theorem comms_len : (comms t d y e).length ≤ e := by unfold comms; exact Nat.le_trans (List.length_filterMap_le _ _) (by simp)
theorem comms_mem {a : El p} : a ∈ comms t d y e ↔ ∃ k z, k < e ∧ k ≠ d ∧ t k = some z ∧ a = Grp.cm y z := by
  unfold comms
  rw [List.mem_filterMap]
  constructor
  · rintro ⟨k, hk, h⟩
    split at h
    · cases h
    · rename_i hne
      cases htk : t k with
      | none => rw [htk] at h; cases h
      | some z => rw [htk] at h; exact ⟨k, z, List.mem_range.1 hk, hne, htk, (Option.some.inj h).symm⟩
  · rintro ⟨k, z, hk, hne, htk, rfl⟩
    exact ⟨k, List.mem_range.2 hk, by simp [hne, htk]⟩
end
set_option maxHeartbeats 4000000 in
theorem l12Close_ok {p : Pr} [hc : ConAll p] {w : World} {vp vl : Value} {us : List Value} {ys : List (El p)} {xss : List (List Int)} {lo hi lo1 hi1 : Nat} [hp : Pres lo hi w vp p] [hl : Pc.Rows lo1 hi1 w vl us xss]
    (hx : xss = ys.map (T.v (p := p) (i := 0))) (hn : ys.length ≤ 200000) :
    Calls Tryz.prog 38 #[vp, vl] w (Ret fun v w' => Ext w w' ∧ ∃ us', Lst 22 w.heap.size (· < w.heap.size) w' v us' (canon (Gen (fun a : El p => a ∈ ys)))) := by
  have hv := hc.valid
  have hn6 := hv.n6
  have hol : p.ord.length = p.n := rfl
  replace hp := hp.wide
  replace hl := hl.wide
  obtain ⟨vo, vpw, vc, ps, cs, css, rfl, h1, h2, h3⟩ := hp.ex
  refine enter (args := [.agg #[vo, vpw, vc], vl]) (l := [.tmp 4]) Tryz.func38 rfl rfl Tryz.ntmps38 (by simp) ?_
  refine go ?_
  refine st_box3 (by ((try simp only [ev_tmp, ev_const, ev_func, get_put, get_args, get_putL, get_putL_nil, Nat.reduceEqDiff, reduceIte, List.getD_cons_zero, List.getD_cons_succ, List.getD_nil]); first | done | with_reducible rfl)) (by first | exact True.intro | exact ⟨_, rfl, by ((try simp only [ev_tmp, ev_const, ev_func, get_put, get_args, get_putL, get_putL_nil, Nat.reduceEqDiff, reduceIte, List.getD_cons_zero, List.getD_cons_succ, List.getD_nil, Bool.not_true, Bool.not_false]); first | done | with_reducible rfl)⟩) fun w1 b he1 hb1 hs1 hc0 hc1 hc2 => ?_
  refine go ?_
  refine st_make_nil (by ((try simp only [ev_tmp, ev_const, ev_func, get_put, get_args, get_putL, get_putL_nil, Nat.reduceEqDiff, reduceIte, List.getD_cons_zero, List.getD_cons_succ, List.getD_nil]); first | done | with_reducible rfl)) (by ((try simp only [ev_tmp, ev_const, ev_func, get_put, get_args, get_putL, get_putL_nil, Nat.reduceEqDiff, reduceIte, List.getD_cons_zero, List.getD_cons_succ, List.getD_nil]); first | done | with_reducible rfl)) (by omega) (by omega) (by first | exact True.intro | exact ⟨_, rfl, by ((try simp only [ev_tmp, ev_const, ev_func, get_put, get_args, get_putL, get_putL_nil, Nat.reduceEqDiff, reduceIte, List.getD_cons_zero, List.getD_cons_succ, List.getD_nil, Bool.not_true, Bool.not_false]); first | done | with_reducible rfl)⟩) fun w2 v2 he2 hs2 ho2 => ?_
  rw [hol] at ho2
  have hz1 := he1.size
  have hvb := ho2.toN_block
  have hxl : xss.length = ys.length := by rw [hx]; simp
  have hxr : ∀ i, (xss.getD i []).length ≤ 2000000 := by
    intro i
    subst hx
    by_cases hi : i < ys.length
    · simp [hi, ys[i].inr.len]; omega
    · simp [hi]
  refine go ?_
  refine rc (l01Own2_ok (xss := xss) hxr ?_) (next := fun v3 w3 h4 => ?_)
  · omega
  obtain ⟨he3, us3, hW3⟩ := h4
  refine go ?_
  have hT3 : Lst 22 w1.heap.size (fun g => g < w1.heap.size ∨ v3.ownBlock = some g) w3 v2 (List.replicate p.n nilv) (tabL (fun _ => none : Tab p)) := by
    have hT2 : Lst 22 w1.heap.size (fun g => g < w1.heap.size) w2 v2 (List.replicate p.n nilv) (tabL (fun _ => none : Tab p)) := by
      rw [tabL_none]
      exact Lst.ofNils ho2 (Nat.le_refl _) (by omega) (fun g hg => by omega)
    refine ⟨(hT2.ext he3).own, ((hT2.rows.weak (av' := fun g => (g < w1.heap.size ∨ v3.ownBlock = some g) ∨ v2.ownBlock = some g) fun g hg => ?_).ext he3), fun g hg h' => ?_, fun g hg => ?_⟩
    · rcases hg with (hg | hg) | hg
      · exact .inl (.inl hg)
      · exact .inr (hW3.lt hg).1
      · exact .inl (.inr hg)
    · rcases h' with h' | h'
      · exact hT2.free g hg h'
      · have := (hW3.lt h').1; have := (hT2.lt hg).2; omega
    · rcases hg with hg | hg
      · have := he2.size; have := he3.size; omega
      · exact (hW3.lt hg).2
  have hW3' : Lst 22 w2.heap.size (fun g => g < w2.heap.size) w3 v3 us3 (ys.map (T.v (p := p) (i := 0))) := hx ▸ hW3
  refine r_loop (fun m ρ w' => ∃ (vw : Value) (usT usW : List Value) (t : Tab p) (zs : List (El p)), Has ρ [(2, .pointer (some ⟨b, 0, none⟩)), (5, .int .i64 p.n), (6, v2), (7, vw)] ∧ Ext w1 w' ∧ Lst 22 w1.heap.size (fun g => g < w1.heap.size ∨ vw.ownBlock = some g) w' v2 usT (tabL t) ∧
    Lst 22 w2.heap.size (fun g => g < w2.heap.size) w' vw usW (zs.map (T.v (p := p) (i := 0))) ∧ Wk (fun a : El p => a ∈ ys) t (fun a => a ∈ zs) ∧ m = 8 * empt t + zs.length ∧ m ≤ ys.length + 48) (8 * empt (fun _ => none : Tab p) + ys.length) ?_ ?_
  · refine ⟨v3, _, us3, fun _ => none, ys, ?_, he2.trans he3, hT3, hW3', Wk.start, rfl, ?_⟩
    · exact hasP
    · have := empt_le (fun _ => none : Tab p); omega
  rintro m ρ w4 ⟨vw, usT, usW, t, zs, hH4, he4, hT, hW, hWk, rfl, hm⟩
  refine rwp_has hH4 fun ρ0 => ?_
  have hTr := hT.toRows
  have hWr := hW.toRows
  have htl := tabL_len t
  refine go ?_
  refine c_if (fun h4 => ?_) (fun h4 => ?_)
  · obtain ⟨zs, x, rfl⟩ : ∃ zs' x, zs = zs' ++ [x] := by
      have hne : zs ≠ [] := by rintro rfl; simp at h4
      exact ⟨zs.dropLast, zs.getLast hne, (List.dropLast_concat_getLast hne).symm⟩
    have hxe : ((zs ++ [x]).map (T.v (p := p) (i := 0))).getD (((zs ++ [x]).map (T.v (p := p) (i := 0))).length - 1) [] = x.v := by simp
    have hul : usW.length = zs.length + 1 := by rw [hW.len]; simp
    have hzl : ((zs ++ [x]).map (T.v (p := p) (i := 0))).length = zs.length + 1 := by simp
    have hzl2 : (zs ++ [x]).length = zs.length + 1 := by simp
    have hcut := hW.cutTo zs.length (by omega)
    have hcx : ((zs ++ [x]).map (T.v (p := p) (i := 0))).take zs.length = zs.map (T.v (p := p) (i := 0)) := by simp
    rw [hcx] at hcut
    refine go ?_
    refine rc (l12Strip_ok hWk.ok (x := x) hxe) (next := fun v5 w5 h5 => ?_)
    obtain ⟨d, vr, r, rfl, he5, hf5, hL⟩ := h5
    rw [hzl, Nat.add_sub_cancel]
    have hz4 := he4.size
    have hz5 := he5.size
    have hT5 : Lst 22 w1.heap.size (fun g => g < w1.heap.size ∨ (cutTo vw zs.length).ownBlock = some g) w5 v2 usT (tabL t) := by rw [cutTo_block]; exact hT.ext he5
    have hW5 := hcut.ext he5
    refine go ?_
    refine c_if (fun h5 => ?_) (fun h5 => ?_)
    · have hr1 : r = 1 := by
        have := hL.tl
        rw [show d = p.n by omega] at this
        exact this.end_
      subst hr1
      refine go ?_
      refine loopQ_normal ?_ ⟨cutTo vw zs.length, usT, _, t, zs, ?_, he4.trans he5, ?_, hW5, hWk.drop hL.stp ?_ ?_, rfl, ?_⟩
      · omega
      · exact hasP
      · exact hT5
      · intro a ha
        rcases List.mem_append.1 ha with ha | ha
        · exact .inr ha
        · exact .inl (List.mem_singleton.1 ha)
      · exact fun a ha => List.mem_append_left _ ha
      · omega
    · have hdn : d < p.n := by have := hL.le; omega
      obtain ⟨htd, hrd⟩ := hL.some hdn
      have hrr := r.inr.rng d hdn
      have hrl := r.inr.len
      have hod := hv.opos hdn
      have hpr := hv.prime d hdn
      have hfi := hf5.ints
      have hr0 : r.v.getD d 0 ≠ 0 := hrd
      refine go ?_
      refine d_order [0, 1, 2, 3, 4, 5, 6, 7, 8, 9, 10, 11, 12, 13] (h := fun w6 he6 _ => ?_)
      refine dgo ?_
      refine dce (l01Inv_ok hpr ?_) (next := fun v7 w7 h7 => ?_)
      · exact ⟨by omega, hrr.2⟩
      obtain ⟨k, rfl, hk1, hk2, hk3, he7⟩ := h7
      refine dce (l10Pow_ok (p := p) (x := r) (k := k) rfl ?_) (next := fun v8 w8 h8 => ?_)
      · omega
      obtain ⟨he8, hf8⟩ := h8
      refine dgo ?_
      refine d_end (h := ?_)
      obtain ⟨y, hy⟩ : ∃ y, Grp.pwz r k = y := ⟨_, rfl⟩
      rw [hy] at hf8
      have hE5 := (he6.trans he7).trans he8
      have hz7 := (he6.trans he7).size
      have hz8 := he8.size
      have hT8 := hT5.ext hE5
      have hW8 := hW5.ext hE5
      have hO8 := hT8.toOwn hvb
      have hz24 : w2.heap.size ≤ w4.heap.size := by have := (hT.lt hvb).2; omega
      have hy8 : IntsAp (fun g => g < w5.heap.size) w8 v8 y.v := IntsAp.ofFr hf8 (fun g h => by omega)
      have hr8 : IntsAp (fun g => g < w4.heap.size) w8 vr r.v := (IntsAp.ofFr hf5 (fun g h => h)).ext hE5
      refine go ?_
      refine st_store_val (h := hO8) (by ((try simp only [ev_tmp, ev_const, ev_func, get_put, get_args, get_putL, get_putL_nil, Nat.reduceEqDiff, reduceIte, List.getD_cons_zero, List.getD_cons_succ, List.getD_nil]); first | done | with_reducible rfl)) (by ((try simp only [ev_tmp, ev_const, ev_func, get_put, get_args, get_putL, get_putL_nil, Nat.reduceEqDiff, reduceIte, List.getD_cons_zero, List.getD_cons_succ, List.getD_nil]); first | done | with_reducible rfl)) ?_ ?_ (by first | exact True.intro | exact ⟨_, rfl, by ((try simp only [ev_tmp, ev_const, ev_func, get_put, get_args, get_putL, get_putL_nil, Nat.reduceEqDiff, reduceIte, List.getD_cons_zero, List.getD_cons_succ, List.getD_nil, Bool.not_true, Bool.not_false]); first | done | with_reducible rfl)⟩) fun w9 hc9 hs9 ho9 => ?_
      · exact hy8.ints.sl.one
      · rw [hT8.len, htl]; exact hdn
      have hT9 : Lst 22 w1.heap.size (fun g => g < w1.heap.size ∨ (cutTo vw zs.length).ownBlock = some g) w9 v2 (usT.set d v8) (tabL (Tab.set t d y)) := by
        rw [tabL_set]
        refine hT8.set hvb (hy8.weak fun g hg => .inl ?_) hc9 ho9 (by rw [hT8.len, htl]; exact hdn)
        rcases hg with (hg | hg) | hg
        · omega
        · exact (hW5.lt hg).2
        · exact (hT5.lt hg).2
      have hW9 := hW8.chg hc9 (by omega)
      have hr9 : IntsAp (fun g => g < w2.heap.size ∨ (cutTo vw zs.length).ownBlock = some g) w9 vr r.v := by
        refine (hr8.chg hc9 (by omega)).weak fun g hg => .inl ?_
        rcases hg with hg | hg
        · omega
        · rw [cutTo_block] at hg; exact (hW.lt hg).2
      have hy9 : IntsAp (fun g => g < w2.heap.size ∨ (cutTo vw zs.length).ownBlock = some g) w9 v8 y.v := by
        refine (hy8.chg hc9 (by omega)).weak fun g hg => .inl ?_
        rcases hg with hg | hg
        · omega
        · exact (hW5.lt hg).2
      have hE9 : Ext w1 w9 := hc9.ext ((he4.trans he5).trans hE5) (Nat.le_refl _)
      refine go ?_
      refine st_slice1 (u := vr) (by ((try simp only [ev_tmp, ev_const, ev_func, get_put, get_args, get_putL, get_putL_nil, Nat.reduceEqDiff, reduceIte, List.getD_cons_zero, List.getD_cons_succ, List.getD_nil]); first | done | with_reducible rfl)) ?_ ?_ (by first | exact True.intro | exact ⟨_, rfl, by ((try simp only [ev_tmp, ev_const, ev_func, get_put, get_args, get_putL, get_putL_nil, Nat.reduceEqDiff, reduceIte, List.getD_cons_zero, List.getD_cons_succ, List.getD_nil, Bool.not_true, Bool.not_false]); first | done | with_reducible rfl)⟩) fun w10 v10 he10 hs10 ho10 => ?_
      · exact hr9.ints.sl.cells
      · rfl
      refine go ?_
      have hT10 := hT9.ext he10
      have hW10 := hW9.ext he10
      have hO10 := hW10.own
      have hl10 : (usW.take zs.length).length = zs.length := by rw [List.length_take]; omega
      have hz9 := hE9.size
      have hz10 := he10.size
      refine st_append (hv := hO10) (hy := ho10) (by ((try simp only [ev_tmp, ev_const, ev_func, get_put, get_args, get_putL, get_putL_nil, Nat.reduceEqDiff, reduceIte, List.getD_cons_zero, List.getD_cons_succ, List.getD_nil]); first | done | with_reducible rfl)) (by ((try simp only [ev_tmp, ev_const, ev_func, get_put, get_args, get_putL, get_putL_nil, Nat.reduceEqDiff, reduceIte, List.getD_cons_zero, List.getD_cons_succ, List.getD_nil]); first | done | with_reducible rfl)) rfl ?_ ?_ ?_ ?_ (by first | exact True.intro | exact ⟨_, rfl, by ((try simp only [ev_tmp, ev_const, ev_func, get_put, get_args, get_putL, get_putL_nil, Nat.reduceEqDiff, reduceIte, List.getD_cons_zero, List.getD_cons_succ, List.getD_nil, Bool.not_true, Bool.not_false]); first | done | with_reducible rfl)⟩) fun v11 w11 ho11 hg11 ha11 => ?_
      · intro u hu
        rw [List.mem_singleton.1 hu]
        exact hr9.ints.sl.one
      · simp only [hl10, List.length_singleton]; omega
      · simp only [hl10, List.length_singleton, maxLen]; omega
      · omega
      obtain ⟨hT11, hW11⟩ := tw_push hT10 hW10 (hr9.ext he10) ho11 hg11 ha11
      have hy11 := (hy9.ext he10).push_ hg11 ha11
      have hE11 : Ext w1 w11 := (hE9.trans he10).app hg11 (fun k hk => by have := (hW10.lt hk).1; omega)
      obtain ⟨b', hb', hvb'⟩ := own_some v11 w2.heap.size w11.heap.size (by have := hg11.size; omega) (fun g h => (hW11.lt h).1)
      have ap1 : Apart 0 w.heap.size b' := ⟨.inr (by omega)⟩
      have ap2 : Apart b (b + 1) b' := ⟨.inr (by omega)⟩
      have hyi := hy11.ints
      refine go ?_
      refine z_order b' (List.range 12) (h := fun w12 he12 _ => ?_)
      refine zgo ?_
      refine zc (l10Pow_ok (p := p) (x := y) rfl ?_) (next := fun v13 w13 h13 => ?_)
      · have hoe : p.o d = p.ord.getD d 0 := rfl
        omega
      obtain ⟨he13, hf13⟩ := h13
      have hoe : p.o d = p.ord.getD d 0 := rfl
      rw [Grp.pwz_of y (by omega), ← hoe] at hf13
      refine z_slice1 (u := v13) (h := (by ((try simp only [ev_tmp, ev_const, ev_func, get_put, get_args, get_putL, get_putL_nil, Nat.reduceEqDiff, reduceIte, List.getD_cons_zero, List.getD_cons_succ, List.getD_nil]); first | done | with_reducible rfl))) (hu := ?_) (hz := ?_) (next := fun w14 v14 he14 hs14 ho14 => ?_)
      · exact hf13.ints.sl.cells
      · rfl
      have hE14 := (he12.trans he13).trans he14
      have hT14 := hT11.ext hE14
      have hW14 := hW11.ext hE14
      have hO14 := hW14.own
      have hz11 := hE11.size
      have hs11 := hg11.size
      have hz14 := hE14.size
      have hz12 := he12.size
      have hz13 := he13.size
      refine z_append (hv := hO14) (hy := ho14) (hs := (by ((try simp only [ev_tmp, ev_const, ev_func, get_put, get_args, get_putL, get_putL_nil, Nat.reduceEqDiff, reduceIte, List.getD_cons_zero, List.getD_cons_succ, List.getD_nil]); first | done | with_reducible rfl))) (hx := (by ((try simp only [ev_tmp, ev_const, ev_func, get_put, get_args, get_putL, get_putL_nil, Nat.reduceEqDiff, reduceIte, List.getD_cons_zero, List.getD_cons_succ, List.getD_nil]); first | done | with_reducible rfl))) (hz := rfl) (h1 := ?_) (hb := ?_) (hl := ?_) (hbase := ?_) (hvb := hvb') (next := fun v15 w15 ho15 hg15 ha15 => ?_)
      · intro u hu
        rw [List.mem_singleton.1 hu]
        exact hf13.ints.sl.one
      · simp only [List.length_append, hl10, List.length_singleton]; omega
      · simp only [List.length_append, hl10, List.length_singleton, maxLen]; omega
      · omega
      have hp14 : IntsAp (fun g => g < w2.heap.size ∨ v11.ownBlock = some g) w14 v13 (Grp.pw y (p.o d).toNat).v :=
        (IntsAp.ofFr hf13 (fun g hg => by
          rcases hg with hg | hg
          · omega
          · have := (hW11.lt hg).2; omega)).ext he14
      obtain ⟨hT15, hW15⟩ := tw_push hT14 hW14 hp14 ho15 hg15 ha15
      have hy15 := (hy11.ext hE14).push_ hg15 ha15
      have hE15 : Ext w1 w15 := (hE11.trans hE14).app hg15 (fun k hk => by have := (hW14.lt hk).1; omega)
      refine zgo ?_
      refine z_end ?_
      clear hT5 hW5 hT8 hW8 hO8 hy8 hr8 hT9 hW9 hr9 hy9 hT10 hW10 hO10 hT11 hW11 hy11 hvb' hT14 hW14 hO14 hp14 ap1 ap2 ho9 ho10 ho11 ho14 ho15 hc9 hTr hWr hyi hfi
      refine go ?_
      refine r_for p.n (fun e ρ w' => ∃ (vw : Value) (usT usW : List Value), Has ρ [(2, .pointer (some ⟨b, 0, none⟩)), (5, .int .i64 p.n), (6, v2), (7, vw), (9, .int .i64 d), (11, v8), (12, .int .i64 e)] ∧ Ext w1 w' ∧
        Lst 22 w1.heap.size (fun g => g < w1.heap.size ∨ vw.ownBlock = some g) w' v2 usT (tabL (Tab.set t d y)) ∧
        Lst 22 w2.heap.size (fun g => g < w2.heap.size) w' vw usW ((zs ++ [r] ++ [Grp.pw y (p.o d).toNat] ++ comms t d y e).map (T.v (p := p) (i := 0))) ∧ IntsAp (fun g => g < w2.heap.size ∨ vw.ownBlock = some g) w' v8 y.v) ?_ ?_
      · refine ⟨v15, _, usW.take zs.length ++ [vr] ++ [v13], ?_, hE15, hT15, ?_, hy15⟩
        · exact hasP
        · have : comms t d y 0 = [] := rfl
          rw [this, List.append_nil]
          exact hW15
      rintro e ρ w16 he ⟨vw2, usT2, usW2, hH16, he16, hT16, hW16, hy16⟩
      refine rwp_has hH16 fun ρ1 => ?_
      have hTr := hT16.toRows
      have htl2 := tabL_len (Tab.set t d y)
      have hyi := hy16.ints
      have hz16 := he16.size
      have hz216 : w2.heap.size ≤ w16.heap.size := by have := (hT16.lt hvb).2; omega
      have hl16 : usW2.length = zs.length + 2 + (comms t d y e).length := by rw [hW16.len]; simp; omega
      have hcl := comms_len (t := t) (d := d) (y := y) (e := e)
      refine go ?_
      refine c_if (fun h6 => ?_) (fun h6 => ?_)
      · have hen : e < p.n := by omega
        have hrow : (tabL (Tab.set t d y)).getD e [] = rowOf (Tab.set t d y) e := tabL_at _ hen
        refine go ?_
        refine spd (fun h7 => ?_) (fun h7 => ?_)
        · have hed : e ≠ d := by omega
          have hte : Tab.set t d y e = t e := by unfold Tab.set; rw [if_neg hed]
          refine go ?_
          refine c_if (fun h8 => ?_) (fun h8 => ?_)
          · rw [hrow] at h8
            obtain ⟨z, hz⟩ : ∃ z, t e = some z := by
              cases ez : t e with
              | none => rw [← hte] at ez; exact absurd ((rowOf_len hen).2 ez) (by omega)
              | some z => exact ⟨z, rfl⟩
            have hze : (tabL (Tab.set t d y)).getD e [] = z.v := by rw [hrow]; exact rowOf_some (by rw [hte]; exact hz)
            obtain ⟨b2, hb2, hvb2⟩ := own_some vw2 w2.heap.size w16.heap.size (by omega) (fun g h => (hW16.lt h).1)
            have ap1 : Apart 0 w.heap.size b2 := ⟨.inr (by omega)⟩
            have ap2 : Apart b (b + 1) b2 := ⟨.inr (by omega)⟩
            have ap3 : Apart w1.heap.size (w1.heap.size + 1) b2 := ⟨.inr (by omega)⟩
            have hul2 : usT2.length = p.n := by rw [hT16.len, htl2]
            have hS16 := (hT16.toOwn hvb).toSl
            refine go ?_
            refine z_order b2 (List.range 11) (h := fun w17 he17 _ => ?_)
            refine zgo ?_
            refine za (h := rz_load_sl (hx := hS16.same (he17.same _ _)) (by ((try simp only [ev_tmp, ev_const, ev_func, get_put, get_args, get_putL, get_putL_nil, Nat.reduceEqDiff, reduceIte, List.getD_cons_zero, List.getD_cons_succ, List.getD_nil]); first | done | with_reducible rfl)) (by omega)) (next := ?_)
            refine zc (l10Comm_ok (p := p) (x := y) (y := z) rfl hze) (next := fun v18 w18 h18 => ?_)
            obtain ⟨he18, hf18⟩ := h18
            refine z_slice1 (u := v18) (h := (by ((try simp only [ev_tmp, ev_const, ev_func, get_put, get_args, get_putL, get_putL_nil, Nat.reduceEqDiff, reduceIte, List.getD_cons_zero, List.getD_cons_succ, List.getD_nil]); first | done | with_reducible rfl))) (hu := ?_) (hz := ?_) (next := fun w19 v19 he19 hs19 ho19 => ?_)
            · exact hf18.ints.sl.cells
            · rfl
            have hE19 := (he17.trans he18).trans he19
            have hT19 := hT16.ext hE19
            have hW19 := hW16.ext hE19
            have hO19 := hW19.own
            have hz19 := hE19.size
            have hz17 := he17.size
            refine z_append (hv := hO19) (hy := ho19) (hs := (by ((try simp only [ev_tmp, ev_const, ev_func, get_put, get_args, get_putL, get_putL_nil, Nat.reduceEqDiff, reduceIte, List.getD_cons_zero, List.getD_cons_succ, List.getD_nil]); first | done | with_reducible rfl))) (hx := (by ((try simp only [ev_tmp, ev_const, ev_func, get_put, get_args, get_putL, get_putL_nil, Nat.reduceEqDiff, reduceIte, List.getD_cons_zero, List.getD_cons_succ, List.getD_nil]); first | done | with_reducible rfl))) (hz := rfl) (h1 := ?_) (hb := ?_) (hl := ?_) (hbase := ?_) (hvb := hvb2) (next := fun v20 w20 ho20 hg20 ha20 => ?_)
            · intro u hu
              rw [List.mem_singleton.1 hu]
              exact hf18.ints.sl.one
            · simp only [List.length_singleton]; omega
            · simp only [List.length_singleton, maxLen]; omega
            · omega
            have hp19 : IntsAp (fun g => g < w2.heap.size ∨ vw2.ownBlock = some g) w19 v18 (Grp.cm y z).v :=
              (IntsAp.ofFr hf18 (fun g hg => by
                rcases hg with hg | hg
                · omega
                · have := (hW16.lt hg).2; omega)).ext he19
            obtain ⟨hT20, hW20⟩ := tw_push hT19 hW19 hp19 ho20 hg20 ha20
            refine zgo ?_
            refine z_end ?_
            refine go ?_
            refine forQ_normal (by omega) ⟨v20, usT2, usW2 ++ [v18], ?_, (he16.trans hE19).app hg20 (fun k hk => by have := (hW19.lt hk).1; omega), hT20, ?_, (hy16.ext hE19).push_ hg20 ha20⟩
            · exact hasP
            · rw [comms_some hed hz, ← List.append_assoc]; exact hW20
          · rw [hrow] at h8
            have hz : t e = none := by rw [← hte]; exact (rowOf_len hen).1 (by omega)
            refine go ?_
            refine forQ_normal (by omega) ⟨vw2, usT2, usW2, ?_, he16, hT16, ?_, hy16⟩
            · exact hasP
            · rw [comms_skip (.inr hz)]; exact hW16
        · have hed : e = d := by omega
          refine go ?_
          refine forQ_normal (by omega) ⟨vw2, usT2, usW2, ?_, he16, hT16, ?_, hy16⟩
          · exact hasP
          · rw [comms_skip (.inl hed)]; exact hW16
      · obtain rfl : e = p.n := by omega
        have hes := empt_set (y := y) hdn htd
        have hyk : y = Grp.pw r k.toNat := by rw [← hy, Grp.pwz_of r (by omega)]
        have hkk : ((k.toNat : Int) * co r d) % p.o d = 1 := by
          rw [Int.toNat_of_nonneg (by omega), Int.mul_comm]; exact hk3
        refine go ?_
        refine loopQ_normal ?_ ⟨vw2, usT2, usW2, Tab.set t d y, zs ++ [r] ++ [Grp.pw y (p.o d).toNat] ++ comms t d y p.n, ?_, he16, hT16, hW16, ?_, rfl, ?_⟩
        · simp only [List.length_append, List.length_singleton]; omega
        · exact hasP
        · refine hWk.fill hdn hL.stp (List.mem_append_right _ (List.mem_singleton.2 rfl)) hL.tl hrd htd hyk hkk ?_ ?_ ?_ ?_ ?_
          · intro a ha
            rcases List.mem_append.1 ha with ha | ha
            · exact .inr (by simp [ha])
            · exact .inl (List.mem_singleton.1 ha)
          · intro a ha
            rcases List.mem_append.1 ha with ha | ha
            · rcases List.mem_append.1 ha with ha | ha
              · rcases List.mem_append.1 ha with ha | ha
                · exact .inl (List.mem_append_left _ ha)
                · exact .inr (.inl (List.mem_singleton.1 ha))
              · exact .inr (.inr (.inl (List.mem_singleton.1 ha)))
            · obtain ⟨k, z, _, _, h8, h9⟩ := comms_mem.1 ha
              exact .inr (.inr (.inr ⟨k, z, h8, .inl h9⟩))
          · simp
          · simp
          · intro e z hz
            have hed : e ≠ d := by rintro rfl; rw [htd] at hz; cases hz
            exact .inl (List.mem_append_right _ (comms_mem.2 ⟨e, z, hWk.ok.lt e z hz, hed, hz, rfl⟩))
        · simp only [List.length_append, List.length_singleton]; omega
  · have hz0 : zs = [] := by
      cases zs with
      | nil => rfl
      | cons a l => exfalso; apply h4; simp
    subst hz0
    have hnone : ∀ a : El p, ¬ a ∈ ([] : List (El p)) := fun a h => by cases h
    have hfull := hWk.full hnone
    have hsz := he4.size
    refine go ?_
    refine rc (l12Full_ok hfull (av := (· < w.heap.size)) (hT.rows.weak fun g hg => .inl (.inl (.inl (by omega)))) (fun g hg => by omega)) (next := fun v5 w5 h5 => ?_)
    obtain ⟨he5, us5, hL5⟩ := h5
    refine go ?_
    rw [hWk.gen hnone] at hL5
    exact ret1 ⟨(he1.trans he4).trans he5, us5, hL5.mono (by omega)⟩
end Go.Proofs.YtjljbfcdpdckeaaGreat

/-
  Walk: the program's addition of elements to a sequence (sequence.add).
  Conditions: the tails at all levels are groups; the sequence's table has no element waiting.
-/
namespace Go.Proofs.YtjljbfcdpdckeaaGreat
open Go Go.Pc
/-- The table and the queue, side by side; one element more waits. -/
theorem tq_push {p : Pr} {e base s b0 : Nat} {av : Nat → Prop} {w w' : World} {vt vw vw' u : Value} {usT usW : List Value} {t : Tab p} {zs : List (El p)} {x : El p}
    (hT : Lst e base (fun g => av g ∨ vw.ownBlock = some g) w vt usT (tabL t)) (hW : QLst e s (fun g => g = b0) w vw usW (vecs zs))
    (hu : IntsAp (fun g => g = b0 ∨ vw.ownBlock = some g) w u x.v) (ho : OwnQ e s w' vw' (usW ++ [u])) (hg : w.grownBy w' vw.ownBlock) (hv : vw'.ownBlock = vw.ownBlock ∨ vw'.ownBlock = some w.heap.size) :
    Lst e base (fun g => av g ∨ vw'.ownBlock = some g) w' vt usT (tabL t) ∧ QLst e s (fun g => g = b0) w' vw' (usW ++ [u]) (vecs (zs ++ [x])) := by
  have hW' := hW.push hu ho hg hv
  refine ⟨hT.beside hg (fun g e => .inr e) fun g hg' => ?_, by unfold vecs; rw [List.map_append]; exact hW'⟩
  rcases hg' with hg' | hg'
  · exact .inl (.inl hg')
  · rcases hv with e | e
    · rw [e] at hg'; exact .inl (.inr hg')
    · have := (hW'.lt hg').2
      rw [e] at hg'; injection hg' with hg'
      exact .inr ⟨hg'.symm, by omega⟩
theorem b_push {A : Nat → Prop} {w w' : World} {v v' u : Value} {xs : List Int} (h : IntsAp (fun g => A g ∨ v.ownBlock = some g) w u xs) (hg : w.grownBy w' v.ownBlock) (hv : v'.ownBlock = v.ownBlock ∨ v'.ownBlock = some w.heap.size) : IntsAp (fun g => A g ∨ v'.ownBlock = some g) w' u xs :=
  h.beside hg (fun g e => .inr e) fun g hg' => by
    rcases hg' with hg' | hg'
    · exact .inl (.inl hg')
    · rcases hv with e | e
      · rw [e] at hg'; exact .inl (.inr hg')
      · rw [e] at hg'; injection hg' with hg'; exact .inr hg'.symm
/-- A sequence in memory: its struct and its table, of which the block b0 is written. -/
structure SeqAt {p : Pr} (bs b0 base : Nat) (av : Nat → Prop) (w : World) (vp vb : Value) (t : Tab p) : Prop where
  c0 : Cell w bs 0 vp
  c1 : Cell w bs 1 vb
  ne : bs ≠ b0
  own : vb.ownBlock = some b0
  lst : ∃ us, Lst 22 base av w vb us (tabL t) ∧ ∀ d, d < p.n → t d = none → us.getD d nilv = nilv
set_option maxHeartbeats 8000000 in
theorem add_ok {p : Pr} [hcon : ConAll p] {S : El p → Prop} {t0 : Tab p} {av : Nat → Prop} {base bs b0 : Nat} {w : World} {vp vb vl : Value} {us : List Value} {ys : List (El p)} {lo hi lo1 hi1 : Nat} [hp : PresP lo hi w vp p] (hhi : hi ≤ w.heap.size) [hap : Apart lo hi b0]
    (hq : SeqAt bs b0 base av w vp vb t0) (hw0 : Wk S t0 (fun _ => False)) [hsl : Sl lo1 hi1 w vl us] (hr : RowsAp (fun g => g = b0) w us (vecs ys)) (hn : ys.length ≤ 100000) :
    Calls Tryz.prog 74 #[.pointer (some ⟨bs, 0, none⟩), vl] w (Ret fun v w' => ∃ (bg : Bool) (t : Tab p), v = .bool bg ∧ Chg b0 w w' ∧ SeqAt bs b0 base av w' vp vb t ∧ Wk (fun a => S a ∨ a ∈ ys) t (fun _ => False) ∧ (bg = true ↔ ∃ a, a ∈ ys ∧ ¬ Gen S a)) := by
  have hv := hcon.valid
  have hn6 := hv.n6
  have hol : p.ord.length = p.n := rfl
  obtain ⟨c0, c1, hbsn, hvb, usT0, hT0, hnil0⟩ := hq
  have hb0l := (hT0.lt hvb).2
  have hbsl := c0.lt
  have hapb : Apart bs (bs + 1) b0 := ⟨by omega⟩
  obtain ⟨g, og, vo, vpw, vc, ps, cs, css, rfl, hg1, hg2, hc0, hc1, hc2, h1, h2, h3⟩ := hp.ex
  have hag : Apart g (g + 1) b0 := ⟨by have := hap.out; omega⟩
  have hul : us.length = ys.length := by rw [hr.len]; simp
  refine enter (args := [.pointer (some ⟨bs, 0, none⟩), vl]) (l := [.tmp 4]) Tryz.func74 rfl rfl Tryz.ntmps74 (by simp) ?_
  refine go ?_
  refine rc (cloneR_ok (us := us) ?_ ?_) (next := fun v1 w1 h4 => ?_)
  · intro u hu
    obtain ⟨i, hi, rfl⟩ := List.getElem_of_mem hu
    have := (hr.at_ i).ints.sl.one
    rwa [show us.getD i nilv = us[i] by simp [hi]] at this
  · omega
  obtain ⟨he1, hO1⟩ := h4
  have hz1 := he1.size
  have hQ1 : QLst 22 w.heap.size (fun g => g = b0) w1 v1 us (vecs ys) := by
    refine ⟨hO1.toQ, (hr.weak fun g hg => ?_).ext he1, fun g hg e => ?_, fun g e => by omega⟩
    · rcases hg with hg | hg
      · exact .inl hg
      · exact .inr (hO1.lt g hg).1
    · have := (hO1.lt g hg).1; omega
  have hT1 : Lst 22 base (fun g => av g ∨ v1.ownBlock = some g) w1 vb usT0 (tabL t0) := by
    refine ⟨(hT0.ext he1).own, ((hT0.rows.weak (av' := fun g => (av g ∨ v1.ownBlock = some g) ∨ vb.ownBlock = some g) fun g hg => ?_).ext he1), fun g hg h' => ?_, fun g hg => ?_⟩
    · rcases hg with (hg | hg) | hg
      · exact .inl (.inl hg)
      · exact .inr (hO1.lt g hg).1
      · exact .inl (.inr hg)
    · rcases h' with h' | h'
      · exact hT0.free g hg h'
      · have := (hO1.lt g h').1; have := (hT0.lt hg).2; omega
    · rcases hg with hg | hg
      · have := hT0.bd g hg; omega
      · exact (hO1.lt g hg).2
  refine go ?_
  refine r_loop (fun m ρ w' => ∃ (vq : Value) (usT usQ : List Value) (t : Tab p) (zs : List (El p)) (bg : Bool), Has ρ [(0, .pointer (some ⟨bs, 0, none⟩)), (5, .bool bg), (6, vq)] ∧ Chg b0 w w' ∧ Lst 22 base (fun g => av g ∨ vq.ownBlock = some g) w' vb usT (tabL t) ∧
    QLst 22 w.heap.size (fun g => g = b0) w' vq usQ (vecs zs) ∧ (∀ d, d < p.n → t d = none → usT.getD d nilv = nilv) ∧ Wk (fun a => S a ∨ a ∈ ys) t (fun a => a ∈ zs) ∧ (bg = true → ∃ d, t0 d = none ∧ t d ≠ none) ∧ (bg = false → t = t0) ∧ (∀ d, t d = none → t0 d = none) ∧
    m = 8 * empt t + zs.length ∧ m ≤ ys.length + 48) (8 * empt t0 + ys.length) ?_ ?_
  · refine ⟨v1, usT0, us, t0, ys, false, ?_, Chg.ofExt he1, hT1, hQ1, hnil0, hw0.more, fun h => (by cases h), fun _ => rfl, fun _ h => h, rfl, ?_⟩
    · exact hasP
    · have := empt_le t0; omega
  clear hQ1 hT1 hO1 he1
  rintro m ρ w4 ⟨vq, usT, usQ, t, zs, bg, hH4, hch4, hT, hQ, hnil, hWk, hbt, hbf, hab, rfl, hm⟩
  refine rwp_has hH4 fun ρ0 => ?_
  have hTr := hT.toRows
  have hQr := hQ.toRows
  have htl := tabL_len t
  have hz4 := hch4.size
  have hcs0 : Cell w4 bs 0 (.pointer (some ⟨g, og, none⟩)) := inferInstance
  have hcs1 : Cell w4 bs 1 vb := inferInstance
  refine go ?_
  refine c_if (fun h4 => ?_) (fun h4 => ?_)
  · cases zs with
    | nil => simp at h4
    | cons x zs =>
    have hQl := hQ.len
    cases usQ with
    | nil => simp at hQl
    | cons u usQ =>
    have hql : usQ.length = zs.length := by simpa using hQl
    have hzl : (vecs (x :: zs)).length = usQ.length + 1 := by simp [hql]
    have hzl2 : (x :: zs).length = zs.length + 1 := rfl
    have hx4 : IntsAp (fun g => g = b0 ∨ vq.ownBlock = some g) w4 (Pc.rowAt vq (u :: usQ) 0) x.v := hQ.rows.at_ 0
    refine go ?_
    refine rc (sift_ok hWk.ok (x := x) hnil hx4 ?_) (next := fun v5 w5 h5 => ?_)
    · rintro g (rfl | hg)
      · omega
      · exact (hQ.lt hg).2
    obtain ⟨he5, r, hr5, hL⟩ := h5
    have hri := hr5.ints
    have hrl := r.inr.len
    refine go ?_
    rw [hzl]
    have hQ5 : QLst 22 w.heap.size (fun g => g = b0) w5 (cut vq 1 (usQ.length + 1)) usQ (vecs zs) := (hQ.ext he5).tail
    have hT5 : Lst 22 base (fun g => av g ∨ (cut vq 1 (usQ.length + 1)).ownBlock = some g) w5 vb usT (tabL t) := by rw [cut_block]; exact hT.ext he5
    rw [← cut_block vq 1 (usQ.length + 1)] at hr5
    have hqb := cut_block vq 1 (usQ.length + 1)
    generalize cut vq 1 (usQ.length + 1) = vq5 at hQ5 hT5 hr5 hqb
    refine rc (depthOf_ok (xs := r.v) ?_) (next := fun v6 w6 h6 => ?_)
    · omega
    obtain ⟨rfl, he6⟩ := h6
    obtain ⟨d, hd⟩ : ∃ d, lead r.v = d := ⟨_, rfl⟩
    rw [hd] at hL ⊢
    refine go ?_
    have hch6 : Chg b0 w w6 := (hch4.grow he5).grow he6
    refine c_if (fun h5 => ?_) (fun h5 => ?_)
    · have hr1 : r = 1 := by
        have := hL.tl
        rw [show d = p.n by omega] at this
        exact this.end_
      subst hr1
      refine go ?_
      refine loopQ_normal ?_ ⟨vq5, usT, usQ, t, zs, bg, ?_, hch6, hT5.ext he6, hQ5.ext he6, hnil, hWk.drop hL.stp ?_ ?_, hbt, hbf, hab, rfl, ?_⟩
      · omega
      · exact hasP
      · intro a ha
        rcases List.mem_cons.1 ha with ha | ha
        · exact .inl ha
        · exact .inr ha
      · exact fun a ha => List.mem_cons_of_mem _ ha
      · omega
    · have hdn : d < p.n := by have := hL.le; omega
      obtain ⟨htd, hrd⟩ := hL.some hdn
      have hrr := r.inr.rng d hdn
      have hod := hv.opos hdn
      have hpr := hv.prime d hdn
      have hr0 : r.v.getD d 0 ≠ 0 := hrd
      refine go ?_
      refine d_region fun w7 he7 _ => ?_
      refine dgo ?_
      refine dce (inverseMod_ok hpr ?_) (next := fun v8 w8 h8 => ?_)
      · exact ⟨by omega, hrr.2⟩
      obtain ⟨k, rfl, hk1, hk2, hk3, he8⟩ := h8
      refine dgo ?_
      refine d_end (h := ?_)
      have hE58 : Ext w5 w8 := he6.trans (he7.trans he8)
      have hT8 := hT5.ext hE58
      have hQ8 := hQ5.ext hE58
      have hr8 := hr5.ext hE58
      have hri8 := hr8.ints
      have hch8 := hch6.grow (he7.trans he8)
      refine go ?_
      refine st_slice1 (u := v5) (by ((try simp only [ev_tmp, ev_const, ev_func, get_put, get_args, get_putL, get_putL_nil, Nat.reduceEqDiff, reduceIte, List.getD_cons_zero, List.getD_cons_succ, List.getD_nil]); first | done | with_reducible rfl)) ?_ ?_ (by first | exact True.intro | exact ⟨_, rfl, by ((try simp only [ev_tmp, ev_const, ev_func, get_put, get_args, get_putL, get_putL_nil, Nat.reduceEqDiff, reduceIte, List.getD_cons_zero, List.getD_cons_succ, List.getD_nil, Bool.not_true, Bool.not_false]); first | done | with_reducible rfl)⟩) fun w9 v9 he9 hs9 ho9 => ?_
      · exact hri8.sl.cells
      · rfl
      refine go ?_
      have hT9 := hT8.ext he9
      have hQ9 := hQ8.ext he9
      have hr9 := hr8.ext he9
      have hO9 := hQ9.own
      have hz8 := hch8.size
      have hz9 := he9.size
      refine st_appendQ (hv := hO9) (hy := ho9) (by ((try simp only [ev_tmp, ev_const, ev_func, get_put, get_args, get_putL, get_putL_nil, Nat.reduceEqDiff, reduceIte, List.getD_cons_zero, List.getD_cons_succ, List.getD_nil]); first | done | with_reducible rfl)) (by ((try simp only [ev_tmp, ev_const, ev_func, get_put, get_args, get_putL, get_putL_nil, Nat.reduceEqDiff, reduceIte, List.getD_cons_zero, List.getD_cons_succ, List.getD_nil]); first | done | with_reducible rfl)) rfl ?_ ?_ ?_ ?_ (by first | exact True.intro | exact ⟨_, rfl, by ((try simp only [ev_tmp, ev_const, ev_func, get_put, get_args, get_putL, get_putL_nil, Nat.reduceEqDiff, reduceIte, List.getD_cons_zero, List.getD_cons_succ, List.getD_nil, Bool.not_true, Bool.not_false]); first | done | with_reducible rfl)⟩) fun v10 w10 ho10 hg10 ha10 => ?_
      · exact hri8.sl.one
      · omega
      · simp only [maxLen]; omega
      · omega
      obtain ⟨hT10, hQ10⟩ := tq_push hT9 hQ9 hr9 ho10 hg10 ha10
      have hr10 := b_push hr9 hg10 ha10
      have hch10 : Chg b0 w w10 := (hch8.grow he9).app hg10 (fun k hk => (hQ9.lt hk).1)
      have hri10 := hr10.ints
      have hz10 := hch10.size
      clear hT5 hQ5 hr5 hri hT8 hQ8 hr8 hri8 hch8 hT9 hQ9 hr9 hO9 hch6 ho9 hQr hTr hx4 hcs0 hcs1
      refine go ?_
      refine rc (power_ok (p := p) (x := r) (Nat.zero_le _) rfl ?_) (next := fun v11 w11 h11 => ?_)
      · omega
      obtain ⟨he11, hf11⟩ := h11
      obtain ⟨y, hy⟩ : ∃ y, Grp.pw r k.toNat = y := ⟨_, rfl⟩
      rw [hy] at hf11
      have hT11 := hT10.ext he11
      have hQ11 := hQ10.ext he11
      have hch11 := hch10.grow he11
      have hy11 : IntsAp (fun g => g < w.heap.size ∨ v10.ownBlock = some g) w11 v11 y.v := IntsAp.ofFr hf11 (fun g hg => by
        rcases hg with hg | hg
        · omega
        · exact (hQ10.lt hg).2)
      have hyi := hy11.ints
      have hz11 := he11.size
      clear hT10 hQ10 hch10 hf11 hr10 hri10
      obtain ⟨b', hb', hvb'⟩ := own_some v10 w.heap.size w11.heap.size (by omega) (fun g h => (hQ11.lt h).1)
      have ap1 : Apart lo hi b' := ⟨.inr (by omega)⟩
      have ap2 : Apart bs (bs + 1) b' := ⟨.inr (by omega)⟩
      have ap3 : Apart g (g + 1) b' := ⟨.inr (by omega)⟩
      have hl11 := hQ11.len
      refine go ?_
      refine z_order b' (List.range 20) (h := fun w12 he12 _ => ?_)
      refine zgo ?_
      refine zc (power_ok (p := p) (x := y) (Nat.zero_le _) rfl ?_) (next := fun v13 w13 h13 => ?_)
      · have hoe : p.o d = p.ord.getD d 0 := rfl
        omega
      obtain ⟨he13, hf13⟩ := h13
      have hoe : p.o d = p.ord.getD d 0 := rfl
      rw [← hoe] at hf13
      refine z_slice1 (u := v13) (h := (by ((try simp only [ev_tmp, ev_const, ev_func, get_put, get_args, get_putL, get_putL_nil, Nat.reduceEqDiff, reduceIte, List.getD_cons_zero, List.getD_cons_succ, List.getD_nil]); first | done | with_reducible rfl))) (hu := ?_) (hz := ?_) (next := fun w14 v14 he14 hs14 ho14 => ?_)
      · exact hf13.ints.sl.cells
      · rfl
      have hE14 := (he12.trans he13).trans he14
      have hT14 := hT11.ext hE14
      have hQ14 := hQ11.ext hE14
      have hO14 := hQ14.own
      have hz14 := hE14.size
      have hz12 := he12.size
      have hz13 := he13.size
      have hl14 : (usQ ++ [v5]).length = zs.length + 1 := by simp [hql]
      refine z_appendQ (hv := hO14) (hy := ho14) (hs := (by ((try simp only [ev_tmp, ev_const, ev_func, get_put, get_args, get_putL, get_putL_nil, Nat.reduceEqDiff, reduceIte, List.getD_cons_zero, List.getD_cons_succ, List.getD_nil]); first | done | with_reducible rfl))) (hx := (by ((try simp only [ev_tmp, ev_const, ev_func, get_put, get_args, get_putL, get_putL_nil, Nat.reduceEqDiff, reduceIte, List.getD_cons_zero, List.getD_cons_succ, List.getD_nil]); first | done | with_reducible rfl))) (hz := rfl) (h1 := ?_) (hb := ?_) (hl := ?_) (hbase := ?_) (hvb := hvb') (next := fun v15 w15 ho15 hg15 ha15 => ?_)
      · exact hf13.ints.sl.one
      · omega
      · simp only [maxLen]; omega
      · omega
      have hp14 : IntsAp (fun g => g = b0 ∨ v10.ownBlock = some g) w14 v13 (Grp.pw y (p.o d).toNat).v :=
        (IntsAp.ofFr hf13 (fun g hg => by
          rcases hg with hg | hg
          · omega
          · have := (hQ11.lt hg).2; omega)).ext he14
      obtain ⟨hT15, hQ15⟩ := tq_push hT14 hQ14 hp14 ho15 hg15 ha15
      have hy15 := b_push (hy11.ext hE14) hg15 ha15
      have hch15 : Chg b0 w w15 := (hch11.grow hE14).app hg15 (fun k hk => (hQ14.lt hk).1)
      refine zgo ?_
      refine z_end ?_
      clear hT11 hQ11 hch11 hy11 hyi hT14 hQ14 hO14 hp14 ap1 ap2 ap3 ho14 hvb'
      have hTr := hT15.toRows
      refine go ?_
      refine r_for p.n (fun e ρ w' => ∃ (vq : Value) (usQ : List Value), Has ρ [(0, .pointer (some ⟨bs, 0, none⟩)), (5, .bool true), (6, vq), (7, v11), (8, .int .i64 d), (82, vb), (83, .int .i64 (tabL t).length), (84, .int .i64 e)] ∧ Chg b0 w w' ∧
        Lst 22 base (fun g => av g ∨ vq.ownBlock = some g) w' vb usT (tabL t) ∧
        QLst 22 w.heap.size (fun g => g = b0) w' vq usQ (vecs (zs ++ [r] ++ [Grp.pw y (p.o d).toNat] ++ commsL t y e)) ∧ IntsAp (fun g => g < w.heap.size ∨ vq.ownBlock = some g) w' v11 y.v) ?_ ?_
      · refine ⟨v15, usQ ++ [v5] ++ [v13], ?_, hch15, hT15, ?_, hy15⟩
        · exact hasP
        · have : commsL t y 0 = [] := rfl
          rw [this, List.append_nil]
          exact hQ15
      clear hT15 hQ15 hch15 hy15 hTr
      rintro e ρ w16 he ⟨vq2, usQ2, hH16, hch16, hT16, hQ16, hy16⟩
      refine rwp_has hH16 fun ρ1 => ?_
      have hTr := hT16.toRows
      have hyi := hy16.ints
      have hz16 := hch16.size
      have hl16 : usQ2.length = zs.length + 2 + (commsL t y e).length := by rw [hQ16.len]; simp; omega
      have hcl := commsL_len (t := t) (y := y) (e := e)
      refine go ?_
      refine c_if (fun h6 => ?_) (fun h6 => ?_)
      · have hen : e < p.n := by omega
        cases hte : t e with
        | none =>
          have hn2 : Pc.rowAt vb usT e = nilv := hnil e hen hte
          have hnb : NilB (Pc.rowAt vb usT e) true := by rw [hn2]; infer_instance
          refine go ?_
          refine forQ_normal (by omega) ⟨vq2, usQ2, ?_, hch16, hT16, ?_, hy16⟩
          · exact hasP
          · rw [commsL_skip hte]; exact hQ16
        | some z =>
          have hze : (tabL t).getD e [] = z.v := by rw [tabL_at t hen, rowOf_some hte]
          have hnb : NilB (Pc.rowAt vb usT e) false := by
            have hrow : Ints 0 w16.heap.size w16 (Pc.rowAt vb usT e) ((tabL t).getD e []) := by infer_instance
            exact hrow.nn (by rw [hze, z.inr.len]; omega)
          refine go ?_
          refine rc (commutator_ok (p := p) (x := z) (y := y) (Nat.zero_le _) hze rfl) (next := fun v18 w18 h18 => ?_)
          obtain ⟨he18, hf18⟩ := h18
          refine go ?_
          refine st_slice1 (u := v18) (by ((try simp only [ev_tmp, ev_const, ev_func, get_put, get_args, get_putL, get_putL_nil, Nat.reduceEqDiff, reduceIte, List.getD_cons_zero, List.getD_cons_succ, List.getD_nil]); first | done | with_reducible rfl)) ?_ ?_ (by first | exact True.intro | exact ⟨_, rfl, by ((try simp only [ev_tmp, ev_const, ev_func, get_put, get_args, get_putL, get_putL_nil, Nat.reduceEqDiff, reduceIte, List.getD_cons_zero, List.getD_cons_succ, List.getD_nil, Bool.not_true, Bool.not_false]); first | done | with_reducible rfl)⟩) fun w19 v19 he19 hs19 ho19 => ?_
          · exact hf18.ints.sl.cells
          · rfl
          have hE19 := he18.trans he19
          have hT19 := hT16.ext hE19
          have hQ19 := hQ16.ext hE19
          have hO19 := hQ19.own
          have hz19 := hE19.size
          refine go ?_
          refine st_appendQ (hv := hO19) (hy := ho19) (by ((try simp only [ev_tmp, ev_const, ev_func, get_put, get_args, get_putL, get_putL_nil, Nat.reduceEqDiff, reduceIte, List.getD_cons_zero, List.getD_cons_succ, List.getD_nil]); first | done | with_reducible rfl)) (by ((try simp only [ev_tmp, ev_const, ev_func, get_put, get_args, get_putL, get_putL_nil, Nat.reduceEqDiff, reduceIte, List.getD_cons_zero, List.getD_cons_succ, List.getD_nil]); first | done | with_reducible rfl)) rfl ?_ ?_ ?_ ?_ (by first | exact True.intro | exact ⟨_, rfl, by ((try simp only [ev_tmp, ev_const, ev_func, get_put, get_args, get_putL, get_putL_nil, Nat.reduceEqDiff, reduceIte, List.getD_cons_zero, List.getD_cons_succ, List.getD_nil, Bool.not_true, Bool.not_false]); first | done | with_reducible rfl)⟩) fun v20 w20 ho20 hg20 ha20 => ?_
          · exact hf18.ints.sl.one
          · omega
          · simp only [maxLen]; omega
          · omega
          have hp19 : IntsAp (fun g => g = b0 ∨ vq2.ownBlock = some g) w19 v18 (Grp.cm z y).v :=
            (IntsAp.ofFr hf18 (fun g hg => by
              rcases hg with hg | hg
              · omega
              · exact (hQ16.lt hg).2)).ext he19
          obtain ⟨hT20, hQ20⟩ := tq_push hT19 hQ19 hp19 ho20 hg20 ha20
          refine go ?_
          refine forQ_normal (by omega) ⟨v20, usQ2 ++ [v18], ?_, (hch16.grow hE19).app hg20 (fun k hk => (hQ19.lt hk).1), hT20, ?_, b_push (hy16.ext hE19) hg20 ha20⟩
          · exact hasP
          · rw [commsL_some hte, ← List.append_assoc]; exact hQ20
      · obtain rfl : e = p.n := by omega
        have hes := empt_set (y := y) hdn htd
        have hyk : y = Grp.pw r k.toNat := hy.symm
        have hkk : ((k.toNat : Int) * co r d) % p.o d = 1 := by
          rw [Int.toNat_of_nonneg (by omega), Int.mul_comm]; exact hk3
        have hO16 := hT16.toOwn hvb
        have hulT : usT.length = p.n := by rw [hT16.len, htl]
        refine go ?_
        refine st_store_val (h := hO16) (by ((try simp only [ev_tmp, ev_const, ev_func, get_put, get_args, get_putL, get_putL_nil, Nat.reduceEqDiff, reduceIte, List.getD_cons_zero, List.getD_cons_succ, List.getD_nil]); first | done | with_reducible rfl)) (by ((try simp only [ev_tmp, ev_const, ev_func, get_put, get_args, get_putL, get_putL_nil, Nat.reduceEqDiff, reduceIte, List.getD_cons_zero, List.getD_cons_succ, List.getD_nil]); first | done | with_reducible rfl)) ?_ ?_ (by first | exact True.intro | exact ⟨_, rfl, by ((try simp only [ev_tmp, ev_const, ev_func, get_put, get_args, get_putL, get_putL_nil, Nat.reduceEqDiff, reduceIte, List.getD_cons_zero, List.getD_cons_succ, List.getD_nil, Bool.not_true, Bool.not_false]); first | done | with_reducible rfl)⟩) fun w21 hc21 hs21 ho21 => ?_
        · exact hyi.sl.one
        · omega
        have hT21 : Lst 22 base (fun g => av g ∨ vq2.ownBlock = some g) w21 vb (usT.set d v11) (tabL (Tab.set t d y)) := by
          rw [tabL_set]
          refine hT16.set hvb (hy16.weak fun g hg => .inl ?_) hc21 ho21 (by omega)
          rcases hg with (hg | hg) | hg
          · exact .inl (hT0.bd g hg)
          · exact .inr hg
          · rw [hvb] at hg; injection hg with hg; exact .inl (by omega)
        have hQ21 := hQ16.chg hc21 rfl
        refine go ?_
        refine loopQ_normal ?_ ⟨vq2, usT.set d v11, usQ2, Tab.set t d y, zs ++ [r] ++ [Grp.pw y (p.o d).toNat] ++ commsL t y p.n, true, ?_, hch16.trans hc21, hT21, hQ21, ?_, ?_, fun _ => ⟨d, ?_, ?_⟩, fun h => (by cases h), fun f hf => ?_, rfl, ?_⟩
        · simp only [List.length_append, List.length_singleton, List.length_cons, List.length_nil]; omega
        · exact hasP
        · intro f hf hfn
          by_cases ef : d = f
          · subst ef; unfold Tab.set at hfn; rw [if_pos rfl] at hfn; cases hfn
          · have : t f = none := by unfold Tab.set at hfn; rw [if_neg (fun e => ef e.symm)] at hfn; exact hfn
            have h8 := hnil f hf this
            rw [List.getD_eq_getElem?_getD, List.getElem?_set_ne ef, ← List.getD_eq_getElem?_getD]
            exact h8
        · refine hWk.fill hdn hL.stp (List.mem_cons_self) hL.tl hrd htd hyk hkk ?_ ?_ ?_ ?_ ?_
          · intro a ha
            rcases List.mem_cons.1 ha with ha | ha
            · exact .inl ha
            · exact .inr (by simp [ha])
          · intro a ha
            rcases List.mem_append.1 ha with ha | ha
            · rcases List.mem_append.1 ha with ha | ha
              · rcases List.mem_append.1 ha with ha | ha
                · exact .inl (List.mem_cons_of_mem _ ha)
                · exact .inr (.inl (List.mem_singleton.1 ha))
              · exact .inr (.inr (.inl (List.mem_singleton.1 ha)))
            · obtain ⟨k, z, _, h8, h9⟩ := commsL_mem.1 ha
              exact .inr (.inr (.inr ⟨k, z, h8, .inr h9⟩))
          · simp
          · simp
          · intro e z hz
            exact .inr (List.mem_append_right _ (commsL_mem.2 ⟨e, z, hWk.ok.lt e z hz, hz, rfl⟩))
        · exact hab d htd
        · unfold Tab.set; rw [if_pos rfl]; simp
        · refine hab f ?_
          unfold Tab.set at hf
          split at hf
          · cases hf
          · exact hf
        · simp only [List.length_append, List.length_singleton, List.length_cons, List.length_nil]; omega
  · have hz0 : zs = [] := by
      cases zs with
      | nil => rfl
      | cons a l => exfalso; apply h4; simp
    subst hz0
    refine go ?_
    have hWk' : Wk (fun a => S a ∨ a ∈ ys) t (fun _ => False) := hWk.congr (fun a => by simp)
    refine ret1 ⟨bg, t, rfl, hch4, ⟨hcs0, hcs1, hbsn, hvb, usT, hT.weak (fun g hg => .inl (.inl hg)) (fun g hg h => hT.free g hg (.inl h)) (fun g hg => hT.bd g (.inl hg)), hnil⟩, hWk', ?_⟩
    cases bg with
    | true =>
      obtain ⟨d, h5, h6⟩ := hbt rfl
      exact ⟨fun _ => hw0.grown hWk' h5 h6, fun _ => rfl⟩
    | false =>
      have := hbf rfl
      subst this
      have hs := hw0.same hWk'
      refine ⟨fun h => (by cases h), ?_⟩
      rintro ⟨a, ha, hna⟩
      exact absurd (hs a ha) hna
end Go.Proofs.YtjljbfcdpdckeaaGreat

/-
  Walk: the program's representative of a coset (representative).
  Conditions: the tails at all levels are groups; the list has leading exponents 1 at ascending depths.
-/
namespace Go.Proofs.YtjljbfcdpdckeaaGreat
open Go Go.Pc
/-- Elements with the leading exponent 1, their depths ascending. -/
structure SeqOk {p : Pr} (ys : List (El p)) : Prop where
  lead1 : ∀ y, y ∈ ys → lead y.v < p.n ∧ co y (lead y.v) = 1
  asc : ys.Pairwise fun a b => lead a.v < lead b.v
/-- What a representative is: it differs by a product of the list's elements, and is zero at their depths. -/
structure RepOf {p : Pr} [ConAll p] (ys : List (El p)) (x r : El p) : Prop where
  mem : ∀ H : El p → Prop, Pc.Sub H → (∀ y, y ∈ ys → H y) → H (x⁻¹ * r)
  zero : ∀ y, y ∈ ys → co r (lead y.v) = 0
  low : ∀ t, (∀ y, y ∈ ys → t < lead y.v) → co r t = co x t
theorem vecs_getD {p : Pr} (ys : List (El p)) {i : Nat} (h : i < ys.length) : (vecs ys).getD i [] = (ys[i]).v := by simp [vecs, h]
set_option maxHeartbeats 2000000 in
theorem representative_ok {p : Pr} [hcon : ConAll p] {ys : List (El p)} (hs : SeqOk ys) {w : World} {vp vu vx : Value} {us : List Value} {x : El p} {xs : List Int} {xss : List (List Int)} {lo hi lo1 hi1 lo2 hi2 : Nat} [hp : PresP lo hi w vp p] [hu : Pc.Rows lo1 hi1 w vu us xss] [hx : Ints lo2 hi2 w vx xs] (hus : xss = vecs ys) (hxs : xs = x.v) (hl : ys.length ≤ 100000) :
    Calls Tryz.prog 103 #[vp, vu, vx] w (Ret fun v w' => Ext w w' ∧ ∃ r : El p, Fr w.heap.size w' v r.v ∧ RepOf ys x r) := by
  subst hus hxs
  have hv := hcon.valid
  have hn6 := hv.n6
  have hxl := x.inr.len
  replace hp := hp.wide
  replace hu := hu.wide
  have hvl : (vecs ys).length = ys.length := by simp
  refine enter (args := [vp, vu, vx]) (l := [.tmp 6]) Tryz.func103 rfl rfl Tryz.ntmps103 (by simp) ?_
  refine go ?_
  refine rc (cloneI_ok (xs := x.v) ?_) (next := fun v1 w1 h4 => ?_)
  · omega
  obtain ⟨he1, hf1⟩ := h4
  refine go ?_
  refine rc (pivots_ok (xss := vecs ys) ?_ ?_) (next := fun v2 w2 h5 => ?_)
  · omega
  · intro i hi
    rw [vecs_getD ys (by omega), (ys[i]'(by omega)).inr.len]
    exact ⟨(hs.lead1 _ (List.getElem_mem _)).1, by omega⟩
  obtain ⟨he2, hf2⟩ := h5
  have hpi := hf2.ints
  have hpl : ((vecs ys).map fun x => (lead x : Int)).length = ys.length := by simp
  have hpg : ∀ i (h : i < ys.length), ((vecs ys).map fun x => (lead x : Int)).getD i 0 = (lead (ys[i]).v : Int) := fun i h => by simp [vecs, h]
  by_cases hn : p.n = 0
  · have hy0 : ys = [] := by
      cases ys with
      | nil => rfl
      | cons y l => have := (hs.lead1 y (List.mem_cons_self)).1; omega
    subst hy0
    refine go ?_
    refine r_for 0 (fun k ρ w' => Has ρ [(7, v1), (14, .int .i64 ((vecs ([] : List (El p))).map fun x => (lead x : Int)).length), (15, .int .i64 k)] ∧ Ext w2 w') ?_ ?_
    · refine ⟨?_, Ext.refl _⟩
      exact hasP
    rintro k ρ w3 hk ⟨hH, he3⟩
    refine rwp_has hH fun ρ0 => ?_
    refine go ?_
    refine c_if (fun h4 => ?_) (fun h4 => ?_)
    · simp at h4; omega
    refine go ?_
    refine ret1 ⟨(he1.trans he2).trans he3, x, hf1.ext' (he2.trans he3), fun H hH _ => by rw [Grp.inv_mul]; exact hH.one, fun y hy => (by cases hy), fun t _ => rfl⟩
  obtain ⟨te, b1, hb1, ho1⟩ := hf1.own (by intro e; rw [e] at hxl; simp at hxl; omega)
  have hbl := ho1.lt
  have ho2 : OwnI te b1 w2 v1 x.v := inferInstance
  have ap1 : Apart 0 w.heap.size b1 := ⟨.inr hb1⟩
  have ap2 : Apart w1.heap.size w2.heap.size b1 := ⟨.inl hbl⟩
  have hE2 := he1.trans he2
  clear hf1 ho1 hf2
  refine go ?_
  refine r_for ys.length (fun k ρ w' => ∃ (r : El p) (xs : List Int), Has ρ [(0, vp), (1, vu), (7, v1), (13, v2), (14, .int .i64 ((vecs ys).map fun x => (lead x : Int)).length), (15, .int .i64 k)] ∧ Chg b1 w2 w' ∧ OwnI te b1 w' v1 xs ∧ xs = r.v ∧
    (∀ H : El p → Prop, Pc.Sub H → (∀ y, y ∈ ys → H y) → H (x⁻¹ * r)) ∧ (∀ i (h : i < ys.length), i < k → co r (lead (ys[i]).v) = 0) ∧ (∀ t, (∀ y, y ∈ ys → t < lead y.v) → co r t = co x t)) ?_ ?_
  · refine ⟨x, _, ?_, Chg.refl _ _, ho2, rfl, fun H hH _ => by rw [Grp.inv_mul]; exact hH.one, fun i h hi => by omega, fun t _ => rfl⟩
    exact hasP
  clear ho2
  rintro k ρ w3 hk ⟨r, xs3, hH, hch3, ho3, hxs3, hm, hz, hlow⟩
  refine rwp_has hH fun ρ0 => ?_
  refine go ?_
  refine c_if (fun h4 => ?_) (fun h4 => ?_)
  · have hkn : k < ys.length := by omega
    have hpk := hpg k hkn
    obtain ⟨d, hd⟩ : ∃ d, lead (ys[k]).v = d := ⟨_, rfl⟩
    obtain ⟨hdn, hy1⟩ := hs.lead1 _ (List.getElem_mem hkn)
    rw [hd] at hpk hdn hy1
    have hyt : Tl d (ys[k]) := by rw [← hd]; exact lead_tl _
    have hod := hv.opos hdn
    have hasc : ∀ i (h : i < ys.length), i < k → lead (ys[i]).v < d := fun i h hi => by
      rw [← hd]; exact List.pairwise_iff_getElem.1 hs.asc i k h hkn hi
    refine go ?_
    rw [hpk]
    refine r_loop (fun m ρ w' => ∃ (r : El p) (xs : List Int), Has ρ [(0, vp), (1, vu), (7, v1), (8, .int .i64 k), (9, .int .i64 d), (13, v2), (14, .int .i64 ((vecs ys).map fun x => (lead x : Int)).length), (15, .int .i64 k)] ∧ Chg b1 w2 w' ∧ OwnI te b1 w' v1 xs ∧ xs = r.v ∧
      (∀ H : El p → Prop, Pc.Sub H → (∀ y, y ∈ ys → H y) → H (x⁻¹ * r)) ∧ (∀ i (h : i < ys.length), i < k → co r (lead (ys[i]).v) = 0) ∧ (∀ t, (∀ y, y ∈ ys → t < lead y.v) → co r t = co x t) ∧ m = if co r d = 0 then 0 else (p.o d - co r d).toNat) (if co r d = 0 then 0 else (p.o d - co r d).toNat) ?_ ?_
    · refine ⟨r, xs3, ?_, hch3, ho3, hxs3, hm, hz, hlow, rfl⟩
      exact hasP
    clear ho3 hm hz hlow hch3
    rintro m ρ w4 ⟨r, xs4, hH4, hch4, ho4, hxs4, hm, hz, hlow, hme⟩
    refine rwp_has hH4 fun ρ1 => ?_
    have hrl : xs4.length = p.n := by rw [hxs4]; exact r.inr.len
    have hrr := co_rng r hdn
    have hco : xs4.getD d 0 = co r d := by rw [hxs4]; rfl
    refine go ?_
    refine c_if (fun h5 => ?_) (fun h5 => ?_)
    · have h5' : co r d ≠ 0 := by rw [← hco]; exact h5
      rw [if_neg h5'] at hme
      refine go ?_
      refine rc (timesVector_ok (p := p) 0 (x := r) (y := ys[k]) (Nat.zero_le _) hxs4 (vecs_getD ys hkn) (fun k hk => absurd hk (Nat.not_lt_zero _))) (next := fun v5 w5 h6 => ?_)
      obtain ⟨hch5, ho5⟩ := h6
      have hlo : ∀ t, t < d → co (r * ys[k]) t = co r t := fun t ht => co_low r hdn hyt ht
      have hat : co (r * ys[k]) d = (co r d + 1) % p.o d := by rw [co_at r hdn hyt, hy1]
      refine go ?_
      refine loopQ_normal ?_ ⟨r * ys[k], _, ?_, hch4.trans hch5, ho5, rfl, fun H hH hy => ?_, fun i h hi => ?_, fun t ht => ?_, rfl⟩
      · rw [hat, hme]
        by_cases h8 : co r d + 1 = p.o d
        · rw [if_pos (by rw [h8, Int.emod_self])]; omega
        · rw [Int.emod_eq_of_lt (by omega) (by omega), if_neg (by omega)]; omega
      · exact hasP
      · rw [← Grp.mul_assoc]
        exact hH.mul _ _ (hm H hH hy) (hy _ (List.getElem_mem hkn))
      · rw [hlo _ (hasc i h hi)]; exact hz i h hi
      · have h9 := ht _ (List.getElem_mem hkn)
        rw [hd] at h9
        rw [hlo t h9]; exact hlow t ht
    · have h5' : co r d = 0 := by rw [← hco]; exact Decidable.not_not.1 h5
      refine go ?_
      refine forQ_normal (by omega) ⟨r, xs4, ?_, hch4, ho4, hxs4, hm, fun i h hi => ?_, hlow⟩
      · exact hasP
      · by_cases e : i = k
        · subst e; rw [hd]; exact h5'
        · exact hz i h (by omega)
  · refine go ?_
    refine ret1 ⟨hch3.ext hE2 hb1, r, ?_, hm, fun y hy => ?_, hlow⟩
    · rw [← hxs3]; exact ho3.toFr hb1
    · obtain ⟨i, hi, rfl⟩ := List.getElem_of_mem hy
      exact hz i hi (by omega)
end Go.Proofs.YtjljbfcdpdckeaaGreat

/-
  Lists of integers that are the call's own, each in a block of its own; what may be written without touching the rest; marks.
  Conditions: none; nothing of the program stands here.
-/
namespace Go.Pc
open Go Go.RowKit
/-- Only blocks of B (and what is new) have turned. -/
inductive Wrt (B : Nat → Prop) : World → World → Prop where
  | refl (w : World) : Wrt B w w
  | step {w w1 w2 : World} {b : Nat} : Wrt B w w1 → B b → Chg b w1 w2 → Wrt B w w2
  | grow {w w1 w2 : World} : Wrt B w w1 → Ext w1 w2 → Wrt B w w2
section
variable {B B' : Nat → Prop} {w w' w0 w1 w2 : World} {b lo hi s : Nat} {v : Value} {xs : List Int}
theorem Wrt.one (hb : B b) (c : Chg b w w') : Wrt B w w' := .step (.refl w) hb c
theorem Wrt.ofExt (x : Ext w w') : Wrt B w w' := .grow (.refl w) x
theorem Wrt.trans (h : Wrt B w w1) (k : Wrt B w1 w2) : Wrt B w w2 := by
  induction k with
  | refl => exact h
  | step _ hb c ih => exact .step ih hb c
  | grow _ x ih => exact .grow ih x
theorem Wrt.mono (h : Wrt B w w1) (hb : ∀ b, B b → B' b) : Wrt B' w w1 := by
  induction h with
  | refl => exact .refl _
  | step _ hB c ih => exact .step ih (hb _ hB) c
  | grow _ x ih => exact .grow ih x
theorem Wrt.size (h : Wrt B w w1) : w.heap.size ≤ w1.heap.size := by
  induction h with
  | refl => exact Nat.le_refl _
  | step _ _ c ih => exact Nat.le_trans ih c.size
  | grow _ x ih => exact Nat.le_trans ih x.size
theorem Wrt.block (h : Wrt B w w1) {k : Nat} (hk : k < w.heap.size) (hn : ¬ B k) : w1.heap[k]? = w.heap[k]? := by
  induction h with
  | refl => rfl
  | @step w1 w2 b h1 hB c ih => rw [← ih]; exact c.by_.block k (Nat.lt_of_lt_of_le hk h1.size) (fun e => by injection e with e; subst e; exact hn hB)
  | @grow w1 w2 h1 x ih => rw [← ih]; exact x.below.block k (Nat.lt_of_lt_of_le hk h1.size)
theorem Wrt.same (h : Wrt B w w1) (hb : ∀ b, B b → b < lo ∨ hi ≤ b) : Same lo hi w w1 := fun k h1 h2 h3 => h.block h3 fun hk => by have := hb k hk; omega
theorem Wrt.ext (h : Wrt B w1 w2) (x : Ext w0 w1) (hb : ∀ b, B b → w0.heap.size ≤ b) : Ext w0 w2 := by
  induction h with
  | refl => exact x
  | step _ hB c ih => exact c.ext ih (hb _ hB)
  | grow _ y ih => exact ih.trans y
theorem OwnI.block (h : OwnI s b w v xs) : v.ownBlock = some b := by obtain ⟨cap, cur, rfl, _⟩ := h.own.ex; rfl
theorem Fr.block (h : Fr s w v xs) (hn : xs ≠ []) : ∃ b, v.ownBlock = some b ∧ s ≤ b ∧ b < w.heap.size := by
  obtain ⟨e, b, hb, ho⟩ := h.own hn
  exact ⟨b, ho.block, hb, ho.lt⟩
theorem Fr.nil_same (h : Fr s w v []) (hs : w.heap.size ≤ w'.heap.size) : Fr s w' v [] := by
  obtain ⟨A, c, hv, hc, hm, hcell⟩ := h.ints.sl.ex
  exact ⟨⟨⟨A, c, hv, hc, hm, fun k u hu => by simp at hu⟩⟩, fun hn => absurd rfl hn⟩
theorem Fr.chg (h : Fr s w v xs) (c : Chg b w w') (hb : xs ≠ [] → v.ownBlock ≠ some b) : Fr s w' v xs := by
  by_cases hn : xs = []
  · subst hn; exact h.nil_same c.size
  · obtain ⟨e, g, hg, ho⟩ := h.own hn
    exact (ho.chg' c (fun e => hb hn (by rw [ho.block, e]))).toFr hg
theorem Fr.wr (h : Fr s w v xs) (k : Wrt B w w') (hb : xs ≠ [] → ∀ b, v.ownBlock = some b → ¬ B b) : Fr s w' v xs := by
  induction k with
  | refl => exact h
  | step _ hB c ih => exact ih.chg c fun hn e => hb hn _ e hB
  | grow _ x ih => exact ih.ext' x
end
/-- Rows that are the call's own, from s on, no two in one block. -/
structure RowsO (s : Nat) (w : World) (rs : List (Value × List Int)) : Prop where
  fr : ∀ r, r ∈ rs → Fr s w r.1 r.2
  sep : rs.Pairwise fun a b => a.2 ≠ [] → b.2 ≠ [] → a.1.ownBlock ≠ b.1.ownBlock
/-- A block of one of the rows. -/
def BlkOf (rs : List (Value × List Int)) (b : Nat) : Prop := ∃ r, r ∈ rs ∧ r.2 ≠ [] ∧ r.1.ownBlock = some b
section
variable {B : Nat → Prop} {w w' : World} {b lo hi s s' : Nat} {u v : Value} {xs : List Int} {rs rs' : List (Value × List Int)}
theorem RowsO.nil (s : Nat) (w : World) : RowsO s w [] := ⟨fun r h => (by cases h), List.Pairwise.nil⟩
theorem RowsO.ext (h : RowsO s w rs) (x : Ext w w') : RowsO s w' rs := ⟨fun r hr => (h.fr r hr).ext' x, h.sep⟩
theorem RowsO.mono (h : RowsO s w rs) (hs : s' ≤ s) : RowsO s' w rs := ⟨fun r hr => (h.fr r hr).mono hs, h.sep⟩
theorem RowsO.wr (h : RowsO s w rs) (k : Wrt B w w') (hb : ∀ b, BlkOf rs b → ¬ B b) : RowsO s w' rs :=
  ⟨fun r hr => (h.fr r hr).wr k fun hn b e => hb b ⟨r, hr, hn, e⟩, h.sep⟩
theorem RowsO.blk (h : RowsO s w rs) (hb : BlkOf rs b) : s ≤ b ∧ b < w.heap.size := by
  obtain ⟨r, hr, hn, e⟩ := hb
  obtain ⟨g, h1, h2, h3⟩ := (h.fr r hr).block hn
  rw [e] at h1; injection h1 with h1; subst h1
  exact ⟨h2, h3⟩
theorem RowsO.cons (h : RowsO s w rs) (x : Ext w w') (hs : s ≤ w.heap.size) (hu : Fr w.heap.size w' u xs) : RowsO s w' ((u, xs) :: rs) := by
  refine ⟨fun r hr => ?_, List.Pairwise.cons (fun r hr h1 h2 e => ?_) h.sep⟩
  · rcases List.mem_cons.1 hr with rfl | hr
    · exact hu.mono hs
    · exact (h.fr r hr).ext' x
  · obtain ⟨g, e1, g1, _⟩ := hu.block h1
    obtain ⟨k, e2, _, k1⟩ := (h.fr r hr).block h2
    rw [e1, e2] at e; injection e with e; omega
theorem RowsO.push (h : RowsO s w rs) (x : Ext w w') (hs : s ≤ w.heap.size) (hu : Fr w.heap.size w' u xs) : RowsO s w' (rs ++ [(u, xs)]) := by
  refine ⟨fun r hr => ?_, List.pairwise_append.2 ⟨h.sep, List.pairwise_singleton _ _, fun r hr q hq h1 h2 e => ?_⟩⟩
  · rcases List.mem_append.1 hr with hr | hr
    · exact (h.fr r hr).ext' x
    · rw [List.mem_singleton.1 hr]; exact hu.mono hs
  · rw [List.mem_singleton.1 hq] at h2 e
    obtain ⟨g, e1, g1, _⟩ := hu.block h2
    obtain ⟨k, e2, _, k1⟩ := (h.fr r hr).block h1
    rw [e1, e2] at e; injection e with e; omega
theorem RowsO.append (h : RowsO s w rs) (x : Ext w w') (hs : s ≤ w.heap.size) (hu : RowsO w.heap.size w' rs') : RowsO s w' (rs ++ rs') := by
  refine ⟨fun r hr => ?_, List.pairwise_append.2 ⟨h.sep, hu.sep, fun r hr q hq h1 h2 e => ?_⟩⟩
  · rcases List.mem_append.1 hr with hr | hr
    · exact (h.fr r hr).ext' x
    · exact (hu.fr r hr).mono hs
  · obtain ⟨g, e1, g1, _⟩ := (hu.fr q hq).block h2
    obtain ⟨k, e2, _, k1⟩ := (h.fr r hr).block h1
    rw [e1, e2] at e; injection e with e; omega
theorem RowsO.left (h : RowsO s w (rs ++ rs')) : RowsO s w rs := ⟨fun r hr => h.fr r (List.mem_append_left _ hr), (List.pairwise_append.1 h.sep).1⟩
theorem RowsO.right (h : RowsO s w (rs ++ rs')) : RowsO s w rs' := ⟨fun r hr => h.fr r (List.mem_append_right _ hr), (List.pairwise_append.1 h.sep).2.1⟩
end
/-! ### marks -/
/-- n numbers from k on. -/
def marks (k : Int) (n : Nat) : List Int := (List.range n).map fun i : Nat => k + (i : Int)
/-- All numbers of the rows. -/
def tot : List (List Int) → Nat
  | [] => 0
  | xs :: l => xs.length + tot l
theorem tot_append : ∀ (l m : List (List Int)), tot (l ++ m) = tot l + tot m
  | [], m => by simp [tot]
  | x :: l, m => by simp [tot, tot_append l, Nat.add_assoc]
theorem tot_le {n : Nat} : ∀ (l : List (List Int)), (∀ x, x ∈ l → x.length ≤ n) → tot l ≤ l.length * n
  | [], _ => by simp [tot]
  | x :: l, h => by
    have h1 := h x (List.mem_cons_self)
    have h2 := tot_le l fun y hy => h y (List.mem_cons_of_mem _ hy)
    simp only [tot, List.length_cons, Nat.add_mul, Nat.one_mul]
    omega
section
variable {s b : Nat} {w : World} {rs : List (Value × List Int)}
end
/-! ### writing one row; spines -/
/-- The cells of v hold us, in blocks apart from A. -/
def SpA (A : Nat → Prop) (w : World) (v : Value) (us : List Value) : Prop := ∃ lo hi, Sl lo hi w v us ∧ ∀ b, A b → b < lo ∨ hi ≤ b
section
variable {A B : Nat → Prop} {s b lo hi : Nat} {w w' : World} {v : Value} {us : List Value} {xss : List (List Int)} {ys : List Int} {rs pre post : List (Value × List Int)} {r : Value × List Int}
theorem SpA.wr (h : SpA A w v us) (k : Wrt B w w') (hb : ∀ b, B b → A b) : SpA A w' v us := by
  obtain ⟨lo, hi, h1, h2⟩ := h
  exact ⟨lo, hi, h1.same (k.same fun b hB => h2 b (hb b hB)), h2⟩
theorem SpA.weak {A' : Nat → Prop} (h : SpA A w v us) (hb : ∀ b, A' b → A b) : SpA A' w v us := by
  obtain ⟨lo, hi, h1, h2⟩ := h
  exact ⟨lo, hi, h1, fun b hB => h2 b (hb b hB)⟩
theorem SpA.sl (h : SpA A w v us) : Sl 0 w.heap.size w v us := by
  obtain ⟨lo, hi, h1, h2⟩ := h
  exact h1.wide
theorem nil_val {α : Type} (l : List (α × List Int)) (i : Nat) (f : α) : i < l.length ∨ ((l.map (·.1)).getD i f = f ∧ (l.map (·.2)).getD i [] = []) := by
  by_cases h : i < l.length
  · exact .inl h
  · right
    constructor
    · rw [List.getD_eq_getElem?_getD, List.getElem?_eq_none (by simp; omega)]; rfl
    · rw [List.getD_eq_getElem?_getD, List.getElem?_eq_none (by simp; omega)]; rfl
theorem RowsO.vals (h : RowsO s w rs) (hs : s ≤ w.heap.size) : RowVals s w.heap.size w (rs.map (·.1)) (rs.map (·.2)) := by
  refine ⟨by simp, fun i => ?_⟩
  rcases nil_val rs i nilv with hi | ⟨e1, e2⟩
  · have := (h.fr rs[i] (List.getElem_mem hi)).ints
    simpa [hi] using this
  · rw [e1, e2]
    exact ⟨⟨none, 0, rfl, Nat.le_refl _, by omega, fun k u hu => by simp at hu⟩⟩
theorem RowsO.rows (h : RowsO s w rs) (hs : Sl 0 w.heap.size w v (rs.map (·.1))) : Rows 0 w.heap.size w v (rs.map (·.1)) (rs.map (·.2)) := by
  refine ⟨hs, by simp, fun i => ?_⟩
  rcases nil_val rs i nilv with hi | ⟨e1, e2⟩
  · have := (h.fr rs[i] (List.getElem_mem hi)).ints.wide
    simpa [hi] using this
  · rw [e1, e2]
    exact ⟨⟨none, 0, rfl, Nat.le_refl _, by omega, fun k u hu => by simp at hu⟩⟩
theorem blkOf_append {b : Nat} : BlkOf (pre ++ post) b ↔ BlkOf pre b ∨ BlkOf post b := by
  constructor
  · rintro ⟨q, hq, h1, h2⟩
    rcases List.mem_append.1 hq with hq | hq
    · exact .inl ⟨q, hq, h1, h2⟩
    · exact .inr ⟨q, hq, h1, h2⟩
  · rintro (⟨q, hq, h1, h2⟩ | ⟨q, hq, h1, h2⟩)
    · exact ⟨q, List.mem_append_left _ hq, h1, h2⟩
    · exact ⟨q, List.mem_append_right _ hq, h1, h2⟩
end
end Go.Pc

/-
  Lists of lists, lists of lists of lists and presentations that are the call's own, within a range of blocks.
  Conditions: none; nothing of the program stands here.
-/
namespace Go.Pc
open Go Go.RowKit
/-- A list of the call's own, in the blocks from s on, below t. -/
structure VecO (s t : Nat) (w : World) (v : Value) (xs : List Int) : Prop where
  ints : Ints s t w v xs
  fr : Fr s w v xs
  lt : xs ≠ [] → ∀ b, v.ownBlock = some b → b < t
structure MatO (s t : Nat) (w : World) (v : Value) (rs : List (Value × List Int)) : Prop where
  rows : Rows s t w v (rs.map (·.1)) (rs.map (·.2))
  own : RowsO s w rs
  lt : ∀ b, BlkOf rs b → b < t
  sp : SpA (fun b => BlkOf rs b ∨ b < s) w v (rs.map (·.1))
/-- All rows of the groups. -/
def flat (gs : List (Value × List (Value × List Int))) : List (Value × List Int) := (gs.map (·.2)).flatten
structure CubO (A : Nat → Prop) (w : World) (v : Value) (gs : List (Value × List (Value × List Int))) : Prop where
  sp0 : SpA A w v (gs.map (·.1))
  sp : ∀ q, q ∈ gs → SpA A w q.1 (q.2.map (·.1))
structure PresO (s t : Nat) (w : World) (v : Value) (p : Pr) : Prop where
  ex : ∃ vo vp vc rp gs, v = .agg #[vo, vp, vc] ∧ RowsO s w ((vo, p.ord) :: (rp ++ flat gs)) ∧ (∀ b, BlkOf ((vo, p.ord) :: (rp ++ flat gs)) b → b < t) ∧
    SpA (BlkOf ((vo, p.ord) :: (rp ++ flat gs))) w vp (rp.map (·.1)) ∧ CubO (BlkOf ((vo, p.ord) :: (rp ++ flat gs))) w vc gs ∧ p.pow = rp.map (·.2) ∧ (p.cnj = gs.map fun q => q.2.map (·.2)) ∧
    Ints s t w vo p.ord ∧ Rows s t w vp (rp.map (·.1)) (rp.map (·.2)) ∧ Rowss s t w vc (gs.map (·.1)) (gs.map fun q => q.2.map (·.1)) (gs.map fun q => q.2.map (·.2))
section
variable {A A' B : Nat → Prop} {e s t s' : Nat} {w w' : World} {v : Value} {us : List Value} {xs : List Int} {rs : List (Value × List Int)} {gs : List (Value × List (Value × List Int))} {p : Pr}
theorem VecO.ofFr (h : Fr s w v xs) : VecO s w.heap.size w v xs := ⟨h.ints, h, fun hn b e => by
  obtain ⟨g, h1, _, h3⟩ := h.block hn
  rw [e] at h1; injection h1 with h1; omega⟩
theorem VecO.wr (h : VecO s t w v xs) (k : Wrt B w w') (hb : ∀ b, B b → b < s ∨ t ≤ b) : VecO s t w' v xs :=
  ⟨h.ints.same (k.same hb), h.fr.wr k (fun hn b e hB => by
    have h1 := h.lt hn b e
    obtain ⟨g, h2, h3, _⟩ := h.fr.block hn
    rw [e] at h2; injection h2 with h2
    have := hb b hB; omega), h.lt⟩
theorem SpA.wr' (h : SpA A w v us) (k : Wrt B w w') (hs : Sl s t w v us) (hb : ∀ b, B b → b < s ∨ t ≤ b) : SpA A w' v us := by
  obtain ⟨lo, hi, h1, h2⟩ := h
  obtain ⟨X, c, rfl, hc, hm, hcell⟩ := h1.ex
  obtain ⟨X', c', hv, _, _, hcell'⟩ := hs.ex
  refine ⟨lo, hi, ⟨⟨X, c, rfl, hc, hm, fun i u hu => ?_⟩⟩, h2⟩
  obtain ⟨a, hA, e1, e2, e3⟩ := hcell i u hu
  obtain ⟨a', hA', g1, g2, g3⟩ := hcell' i u hu
  injection hv with hv _ _
  rw [hA, hA'] at hv; injection hv with hv; subst hv
  have hlt := block_lt e3
  rw [add_block] at hlt
  refine ⟨a, hA, e1, e2, ?_⟩
  rw [World.cell?_of_block (w := w) (w' := w') (by rw [add_block]; exact k.block hlt (fun hB => by have := hb _ hB; omega))]
  exact e3
theorem MatO.wr (h : MatO s t w v rs) (k : Wrt B w w') (hb : ∀ b, B b → b < s ∨ t ≤ b) : MatO s t w' v rs :=
  ⟨h.rows.same (k.same hb), h.own.wr k (fun b hR hB => by
    have h1 := h.lt b hR
    have h2 := (h.own.blk hR).1
    have := hb b hB; omega), h.lt, h.sp.wr' k h.rows.sl hb⟩
theorem MatO.lower (h : MatO s t w v rs) (hs : s' ≤ s) : MatO s' t w v rs := by
  refine ⟨h.rows.mono hs (Nat.le_refl _), h.own.mono hs, h.lt, h.sp.weak fun b hb => hb.imp id fun hb => by omega⟩
theorem MatO.sub (h : MatO s t w v rs) (hs : s' ≤ s) {t' : Nat} (ht : t ≤ t') : MatO s' t' w v rs := by
  refine ⟨h.rows.mono hs ht, h.own.mono hs, fun b hb => Nat.lt_of_lt_of_le (h.lt b hb) ht, h.sp.weak fun b hb => hb.imp id fun hb => by omega⟩
/-- Older spines, when memory has grown and more rows are there. -/
theorem SpA.grow (h : SpA A w v us) (x : Ext w w') (hA : ∀ b, A' b → A b ∨ w.heap.size ≤ b) : SpA A' w' v us := by
  obtain ⟨lo, hi, h1, h2⟩ := h
  obtain ⟨X, c, rfl, hc, hm, hcell⟩ := h1.ex
  have h3 : Sl lo (min hi w.heap.size) w (.slice X us.length c) us := ⟨⟨X, c, rfl, hc, hm, fun i u hu => by
    obtain ⟨a, hX, e1, e2, e3⟩ := hcell i u hu
    have hlt := block_lt e3
    rw [add_block] at hlt
    exact ⟨a, hX, e1, by omega, e3⟩⟩⟩
  refine ⟨lo, _, h3.same (x.same _ _), fun b hb => ?_⟩
  rcases hA b hb with hb | hb
  · have := h2 b hb; omega
  · exact .inr (by omega)
theorem OwnI.sl_in {e b lo hi : Nat} (h : OwnI e b w v xs) (hn : xs ≠ []) (k : Ints lo hi w v xs) : lo ≤ b ∧ b < hi := by
  obtain ⟨cap, cur, hv, _⟩ := h.own.ex
  obtain ⟨X, c, hv', _, _, hcell⟩ := k.sl.ex
  obtain ⟨x, l, rfl⟩ : ∃ x l, xs = x :: l := by cases xs with | nil => exact absurd rfl hn | cons x l => exact ⟨x, l, rfl⟩
  obtain ⟨a, hX, e1, e2, _⟩ := hcell 0 (.int .i64 x) (by simp)
  rw [hv] at hv'
  injection hv' with h1 _ _
  rw [hX] at h1; injection h1 with h1; subst h1
  exact ⟨e1, e2⟩
theorem MatO.ofLst {av : Nat → Prop} (h : Lst e s av w v (rs.map (·.1)) (rs.map (·.2))) (hO : RowsO s w rs) (hr : Rows s w.heap.size w v (rs.map (·.1)) (rs.map (·.2))) : MatO s w.heap.size w v rs := by
  refine ⟨hr, hO, fun b hb => (hO.blk hb).2, ?_⟩
  cases hv : v.ownBlock with
  | none =>
    rcases h.own.own.2 with ⟨rfl, h0⟩ | ⟨g, cap, cur, rfl, _⟩
    · have e0 : rs.map (·.1) = [] := List.eq_nil_of_length_eq_zero h0
      rw [e0]
      exact ⟨0, 0, ⟨⟨none, 0, rfl, Nat.le_refl _, by omega, fun k u hu => by simp at hu⟩⟩, fun b _ => .inr (Nat.zero_le _)⟩
    · cases hv
  | some k =>
    have hk := h.lt hv
    refine ⟨k, k + 1, h.own.toSlAt hv, fun b hb => ?_⟩
    rcases hb with ⟨r, hr1, hn, eb⟩ | hb
    · obtain ⟨i, hi, rfl⟩ := List.getElem_of_mem hr1
      obtain ⟨te, g, _, ho⟩ := (hO.fr _ hr1).own hn
      have hg := ho.block
      rw [eb] at hg; injection hg with hg; subst hg
      obtain ⟨lo, hi', h1, h2, h3⟩ := h.rows.at_ i
      have e1 : (rs.map (·.1)).getD i nilv = rs[i].1 := by simp [hi]
      have e2 : (rs.map (·.2)).getD i [] = rs[i].2 := by simp [hi]
      rw [e1, e2] at h1
      have h4 := ho.sl_in hn h1
      have h5 := h3 k (.inr hv)
      omega
    · omega
theorem CubO.wr (h : CubO A w v gs) (k : Wrt B w w') (hb : ∀ b, B b → A b) : CubO A w' v gs := ⟨h.sp0.wr k hb, fun q hq => (h.sp q hq).wr k hb⟩
theorem PresO.wr (h : PresO s t w v p) (k : Wrt B w w') (hb : ∀ b, B b → b < s ∨ t ≤ b) : PresO s t w' v p := by
  obtain ⟨vo, vp, vc, rp, gs, rfl, hO, hl, hs, hc, h1, h2, h3, h4, h5⟩ := h.ex
  refine ⟨vo, vp, vc, rp, gs, rfl, hO.wr k (fun b hR hB => ?_), hl, hs.wr' k h4.sl hb, ⟨hc.sp0.wr' k h5.sl hb, fun q hq => ?_⟩, h1, h2, h3.same (k.same hb), h4.same (k.same hb), h5.same (k.same hb)⟩
  · have e1 := hl b hR
    have e2 := (hO.blk hR).1
    have := hb b hB; omega
  · obtain ⟨i, hi, rfl⟩ := List.getElem_of_mem hq
    have h6 := (h5.vals.at_ i).sl
    have e1 : (gs.map (·.1)).getD i nilv = gs[i].1 := by simp [hi]
    have e2 : (gs.map fun q => q.2.map (·.1)).getD i [] = gs[i].2.map (·.1) := by simp [hi]
    rw [e1, e2] at h6
    exact (hc.sp _ hq).wr' k h6 hb
theorem Blk.wr {b : Nat} {cs : List Value} (h : Blk w b cs) (k : Wrt B w w') (hb : ¬ B b) : Blk w' b cs := by
  obtain ⟨t, ht⟩ := h.ex
  exact ⟨t, by rw [k.block h.lt hb]; exact ht⟩
theorem blkOf_append' {rs qs : List (Value × List Int)} {b : Nat} : BlkOf (rs ++ qs) b ↔ BlkOf rs b ∨ BlkOf qs b := blkOf_append
/-- The number of a presentation's integers. -/
def totP (p : Pr) : Nat := p.ord.length + (tot p.pow + tot p.cnj.flatten)
theorem tot_flatten {n : Nat} : ∀ (l : List (List (List Int))), (∀ x, x ∈ l → x.length ≤ n ∧ ∀ y, y ∈ x → y.length ≤ n) → tot l.flatten ≤ l.length * (n * n)
  | [], _ => by simp [tot]
  | x :: l, h => by
    have h1 := h x List.mem_cons_self
    have h2 := tot_flatten l fun y hy => h y (List.mem_cons_of_mem _ hy)
    have h3 := tot_le x h1.2
    have h4 : x.length * n ≤ n * n := Nat.mul_le_mul_right _ h1.1
    simp only [List.flatten_cons, tot_append, List.length_cons, Nat.add_mul, Nat.one_mul]
    omega
end
end Go.Pc

/-
  Walks: the program's canonical sequence, and its subgroup generated by a list (canonical, generated).
  Conditions: the tails at all levels are groups.
-/
namespace Go.Proofs.YtjljbfcdpdckeaaGreat
open Go Go.Pc
theorem canElsF_ok {p : Pr} [hcon : ConAll p] (H : El p → Prop) (d : Nat) : SeqOk (canElsF H d) := by
  refine ⟨fun y hy => ?_, ?_⟩
  · obtain ⟨e, h1, h2, h3⟩ := canElsF_mem.1 hy
    have hc := canT_some h3
    have hl := lead_of hc.tl (by rw [hc.lead]; omega)
    rw [hl]
    exact ⟨h2, hc.lead⟩
  · unfold canElsF
    rw [List.pairwise_filterMap]
    refine List.Pairwise.imp ?_ (List.pairwise_lt_range' (s := d) (n := p.n - d))
    intro a b hab x hx y hy
    have ha := canT_some hx
    have hb := canT_some hy
    rw [lead_of ha.tl (by rw [ha.lead]; omega), lead_of hb.tl (by rw [hb.lead]; omega)]
    exact hab
theorem canElsF_lead {p : Pr} [hcon : ConAll p] {H : El p → Prop} {d : Nat} {y : El p} (hy : y ∈ canElsF H d) : d ≤ lead y.v := by
  obtain ⟨e, h1, h2, h3⟩ := canElsF_mem.1 hy
  have hc := canT_some h3
  rw [lead_of hc.tl (by rw [hc.lead]; omega)]
  exact h1
/-- The representative of an entry by the canonical elements behind it is canonical. -/
theorem rep_can {p : Pr} [hcon : ConAll p] {t : Tab p} (hf : Full t) {d : Nat} {y r : El p} (hy : t d = some y) (hcn : ∀ e, d + 1 ≤ e → t e ≠ none → canT (Gen (Ents t)) e ≠ none) (hr : RepOf (canElsF (Gen (Ents t)) (d + 1)) y r) : CanAt (Gen (Ents t)) d r := by
  have hH := Gen.sub (Ents t)
  have hyt := hf.ok.tl d y hy
  have hyl := hf.ok.lead d y hy
  have hym : Gen (Ents t) y := .of y ⟨d, hy⟩
  have hlow : ∀ k, k < d + 1 → co r k = co y k := fun k hk => hr.low k fun z hz => by have := canElsF_lead hz; omega
  refine ⟨?_, fun k hk => ?_, by rw [hlow d (by omega)]; exact hyl, fun e he hne => ?_⟩
  · have h1 := hr.mem (Gen (Ents t)) hH fun z hz => by
      obtain ⟨e, _, _, h3⟩ := canElsF_mem.1 hz
      exact (canT_some h3).mem
    have := hH.mul _ _ hym h1
    rwa [Grp.mul_inv_cancel_left] at this
  · show co r k = 0
    rw [hlow k (by omega)]; exact hyt k hk
  · by_cases h1 : e < d
    · rw [hlow e (by omega)]; exact hyt e h1
    · have hte := hf.dep.1 he
      cases hc : canT (Gen (Ents t)) e with
      | none => exact absurd hc (hcn e (by omega) hte)
      | some z =>
        have hza := canT_some hc
        have h2 := hr.zero z (canElsF_mem.2 ⟨e, by omega, hza.lt, hc⟩)
        rwa [lead_of hza.tl (by rw [hza.lead]; omega)] at h2
set_option maxHeartbeats 2000000 in
theorem canonicalO_ok {p : Pr} [hcon : ConAll p] {t : Tab p} (hf : Full t) {av : Nat → Prop} {base bs b0 : Nat} {w : World} {vp vb : Value} {lo hi : Nat} [hp : PresP lo hi w vp p] (hq : SeqAt bs b0 base av w vp vb t) :
    Calls Tryz.prog 75 #[.pointer (some ⟨bs, 0, none⟩)] w (Ret fun v w' => Ext w w' ∧ ∃ rs, Lst 22 w.heap.size (· < w.heap.size) w' v (rs.map (·.1)) (rs.map (·.2)) ∧ canon (Gen (Ents t)) = rs.map (·.2) ∧ RowsO w.heap.size w' rs) := by
  have hv := hcon.valid
  have hn6 := hv.n6
  have hH := Gen.sub (Ents t)
  have htl := tabL_len t
  obtain ⟨c0, c1, hbsn, hvb, usT, hT, hnil⟩ := hq
  have hTr := hT.toRows
  obtain ⟨g, og, vo, vpw, vc, ps, cs, css, rfl, hg1, hg2, hc0, hc1, hc2, h1, h2, h3⟩ := hp.ex
  refine enter (args := [.pointer (some ⟨bs, 0, none⟩)]) (l := [.tmp 2]) Tryz.func75 rfl rfl Tryz.ntmps75 (by simp) ?_
  refine go ?_
  refine r_for p.n (fun k ρ w' => ∃ vo rs, Has ρ [(0, .pointer (some ⟨bs, 0, none⟩)), (3, vo), (4, .int .i64 (p.n - 1 - k))] ∧ Ext w w' ∧ (Lst 22 w.heap.size (· < w.heap.size) w' vo (rs.map (·.1)) (vecs (canElsF (Gen (Ents t)) (p.n - k))) ∧ vecs (canElsF (Gen (Ents t)) (p.n - k)) = rs.map (·.2) ∧ RowsO w.heap.size w' rs) ∧ ∀ e, p.n - k ≤ e → t e ≠ none → canT (Gen (Ents t)) e ≠ none) ?_ ?_
  · refine ⟨nilv, [], ?_, Ext.refl _, ?_, fun e h1 h2 => ?_⟩
    · exact hasP
    · rw [Nat.sub_zero, canElsF_end]; exact ⟨Lst.nil _ _ _ (fun g hg => hg), rfl, RowsO.nil _ _⟩
    · have := (hf.dep.2 h2).lt; omega
  rintro k ρ w2 hk ⟨vo', rs, hH2, he2, ⟨hL, hrs, hO⟩, hcn⟩
  obtain ⟨us, hus⟩ : ∃ us, rs.map (·.1) = us := ⟨_, rfl⟩
  rw [hus] at hL
  refine rwp_has hH2 fun ρ0 => ?_
  refine go ?_
  refine c_if (fun h4 => ?_) (fun h4 => ?_)
  · have hkn : k < p.n := by omega
    obtain ⟨d, hd⟩ : ∃ d, p.n - 1 - k = d := ⟨_, rfl⟩
    have hdn : d < p.n := by omega
    have hd1 : p.n - k = d + 1 := by omega
    have hd2 : p.n - (k + 1) = d := by omega
    rw [hd1] at hL hcn hrs
    cases htd : t d with
    | none =>
      have hn2 : Pc.rowAt vb usT (p.n - 1 - k) = nilv := by rw [hd]; exact hnil d hdn htd
      have hnb : NilB (Pc.rowAt vb usT (p.n - 1 - k)) true := by rw [hn2]; infer_instance
      refine go ?_
      refine forQ_normal (by omega) ⟨vo', rs, ?_, he2, ?_, fun e h1 h2 => ?_⟩
      · exact hasP
      · rw [hd2, canElsF_none hdn (hf.canT_none htd), hus]; exact ⟨hL, hrs, hO⟩
      · by_cases ee : e = d
        · subst ee; exact absurd htd h2
        · exact hcn e (by omega) h2
    | some y =>
      have hye : (tabL t).getD (p.n - 1 - k) [] = y.v := by rw [hd, tabL_at t hdn, rowOf_some htd]
      have hnb : NilB (Pc.rowAt vb usT (p.n - 1 - k)) false := by
        have hrow : Ints 0 w.heap.size w (Pc.rowAt vb usT (p.n - 1 - k)) ((tabL t).getD (p.n - 1 - k) []) := by infer_instance
        exact hrow.nn (by rw [hye, y.inr.len]; omega)
      have hLr := hL.toRows
      have hll := canElsF_len (Gen (Ents t)) (d + 1)
      have hul := hL.len
      have hul2 : us.length = (canElsF (Gen (Ents t)) (d + 1)).length := by rw [hul]; simp
      refine go ?_
      refine d_region fun w3 he3 _ => ?_
      refine dgo ?_
      refine dce (representative_ok (p := p) (ys := canElsF (Gen (Ents t)) (d + 1)) (x := y) (canElsF_ok _ _) rfl hye ?_) (next := fun v4 w4 h5 => ?_)
      · omega
      obtain ⟨he4, r, hf4, hrep⟩ := h5
      refine dgo ?_
      refine d_end (h := ?_)
      have hcan := rep_can hf htd hcn hrep
      have hE3 := he2.trans he3
      have hE4 := hE3.trans he4
      have hz3 := hE3.size
      have hz4 := hE4.size
      refine go ?_
      refine st_slice1o (u := v4) (by ((try simp only [ev_tmp, ev_const, ev_func, get_put, get_args, get_putL, get_putL_nil, Nat.reduceEqDiff, reduceIte, List.getD_cons_zero, List.getD_cons_succ, List.getD_nil]); first | done | with_reducible rfl)) ?_ ?_ (by first | exact True.intro | exact ⟨_, rfl, by ((try simp only [ev_tmp, ev_const, ev_func, get_put, get_args, get_putL, get_putL_nil, Nat.reduceEqDiff, reduceIte, List.getD_cons_zero, List.getD_cons_succ, List.getD_nil, Bool.not_true, Bool.not_false]); first | done | with_reducible rfl)⟩) fun w5 v5 he5 hs5 ho5 => ?_
      · exact hf4.ints.sl.cells
      · rfl
      have hL4 := hL.ext (he3.trans he4)
      have hL5 := hL4.ext he5
      have hsl5 := hL5.own.toSl
      have hz5 := he5.size
      refine go ?_
      refine st_append (hv := ho5.toN) (hy := hsl5) (by ((try simp only [ev_tmp, ev_const, ev_func, get_put, get_args, get_putL, get_putL_nil, Nat.reduceEqDiff, reduceIte, List.getD_cons_zero, List.getD_cons_succ, List.getD_nil]); first | done | with_reducible rfl)) (by ((try simp only [ev_tmp, ev_const, ev_func, get_put, get_args, get_putL, get_putL_nil, Nat.reduceEqDiff, reduceIte, List.getD_cons_zero, List.getD_cons_succ, List.getD_nil]); first | done | with_reducible rfl)) rfl ?_ ?_ ?_ ?_ (by first | exact True.intro | exact ⟨_, rfl, by ((try simp only [ev_tmp, ev_const, ev_func, get_put, get_args, get_putL, get_putL_nil, Nat.reduceEqDiff, reduceIte, List.getD_cons_zero, List.getD_cons_succ, List.getD_nil, Bool.not_true, Bool.not_false]); first | done | with_reducible rfl)⟩) fun v6 w6 ho6 hg6 ha6 => ?_
      · intro a ha
        obtain ⟨i, hi, rfl⟩ := List.getElem_of_mem ha
        have := (hL5.rows.at_ i).ints.sl.one
        rwa [show us.getD i nilv = us[i] by simp [hi]] at this
      · simp; omega
      · simp [maxLen]; omega
      · omega
      have hob : v5.ownBlock = some w4.heap.size := ho5.toN_block
      rw [hob] at hg6 ha6
      have hru : IntsAp (· < w.heap.size) w4 v4 r.v := IntsAp.ofFr hf4 (fun g hg => by omega)
      have hrL : RowsAp (· < w.heap.size) w4 us (vecs (canElsF (Gen (Ents t)) (d + 1))) := hL4.rows.weak fun g hg => .inl (.inl hg)
      have hL6 := Lst.front (e := 22) (base := w.heap.size) hrL hru (fun g hg => by omega) he5 (Nat.le_refl _) hg6 (ho6.mono (by omega)) (fun g hg => by
        rcases ha6 with e | e
        · rw [e] at hg; injection hg with hg; omega
        · rw [e] at hg; injection hg with hg; omega)
      refine go ?_
      have hO4 := (hO.ext he3).cons he4 (by omega) hf4
      have hO6 := (hO4.ext he5).wr (.one (B := fun g => g = w4.heap.size) rfl ⟨hg6⟩) (fun g hg e => by have := (hO4.blk hg).2; omega)
      refine forQ_normal (by omega) ⟨v6, (v4, r.v) :: rs, ?_, (hE4.trans he5).app hg6 (fun k hk => by injection hk with hk; omega), ?_, fun e h1 h2 => ?_⟩
      · exact hasP
      · rw [hd2, canElsF_some hdn (canT_eq hH hcan)]
        refine ⟨by rw [List.map_cons, hus]; exact hL6, by simp only [vecs, List.map_cons] at hrs ⊢; rw [hrs], hO6⟩
      · by_cases ee : e = d
        · subst ee; rw [canT_eq hH hcan]; simp
        · exact hcn e (by omega) h2
  · obtain rfl : k = p.n := by omega
    refine go ?_
    rw [Nat.sub_self, canElsF_zero, ← canon_vecs] at hL hrs
    refine ret1 ⟨he2, rs, ?_, hrs, hO⟩
    rw [← hrs, hus]; exact hL
set_option maxHeartbeats 1000000 in
theorem generatedO_ok {p : Pr} [hcon : ConAll p] {w : World} {vp vl : Value} {us : List Value} {ys : List (El p)} {xss : List (List Int)} {lo hi lo1 hi1 : Nat} [hp : PresP lo hi w vp p] [hl : Pc.Rows lo1 hi1 w vl us xss] (hx : xss = vecs ys) (hn : ys.length ≤ 100000) :
    Calls Tryz.prog 48 #[vp, vl] w (Ret fun v w' => Ext w w' ∧ ∃ rs, Lst 22 w.heap.size (· < w.heap.size) w' v (rs.map (·.1)) (rs.map (·.2)) ∧ canon (Gen (fun a : El p => a ∈ ys)) = rs.map (·.2) ∧ RowsO w.heap.size w' rs) := by
  subst hx
  have hn6 := hcon.valid.n6
  replace hp := hp.wide
  replace hl := hl.wide
  refine enter (args := [vp, vl]) (l := [.tmp 4]) Tryz.func48 rfl rfl Tryz.ntmps48 (by simp) ?_
  refine go ?_
  refine rc (newSequence_ok (p := p) hn6) (next := fun v1 w1 h1 => ?_)
  obtain ⟨bs, vb, rfl, he1, hc0, hc1, hbs, hvb, ho⟩ := h1
  have hz1 := he1.size
  have hq : SeqAt bs w.heap.size w.heap.size (fun _ => False) w1 vp vb (fun _ => none : Tab p) := by
    refine ⟨hc0, hc1, by omega, hvb, List.replicate p.n nilv, ?_, fun d hd _ => ?_⟩
    · rw [tabL_none]
      exact Lst.ofNils ho (Nat.le_refl _) (fun h => h) (fun g h => h.elim)
    · rw [List.getD_eq_getElem?_getD, List.getElem?_replicate]; split <;> rfl
  have hap : Apart 0 w.heap.size w.heap.size := ⟨.inr (Nat.le_refl _)⟩
  have hr : RowsAp (fun g => g = w.heap.size) w1 us (vecs ys) := (hl.ap (Nat.le_refl _) (fun g hg => .inr (by omega))).ext he1
  have hsl : Sl 0 w.heap.size w1 vl us := inferInstance
  refine go ?_
  refine rc (add_ok (p := p) (S := fun _ => False) hz1 hq Wk.none hr hn) (next := fun v2 w2 h2 => ?_)
  obtain ⟨bg, t, rfl, hch2, hq2, hWk, _⟩ := h2
  have he2 : Ext w w2 := hch2.ext he1 (Nat.le_refl _)
  have hz2 := he2.size
  clear hch2 hsl
  refine go ?_
  refine rc (canonicalO_ok (p := p) (hWk.full (fun _ h => h)) hq2) (next := fun v3 w3 h3 => ?_)
  obtain ⟨he3, us3, hL3, hus3, hO3⟩ := h3
  refine go ?_
  rw [hWk.gen (fun _ h => h)] at hus3
  have e : (fun a : El p => False ∨ a ∈ ys) = fun a => a ∈ ys := by funext a; simp
  rw [e] at hus3
  exact ret1 ⟨he2.trans he3, us3, (hL3.mono hz2).weak (fun g hg => .inl (by omega)) (fun g hg h => by have := (hL3.lt hg).1; omega) (fun g hg => by have := he3.size; omega), hus3, hO3.mono hz2⟩
theorem generatedM_ok {p : Pr} [hcon : ConAll p] {w : World} {vp vl : Value} {us : List Value} {ys : List (El p)} {xss : List (List Int)} {lo hi lo1 hi1 : Nat} [hp : PresP lo hi w vp p] [hl : Pc.Rows lo1 hi1 w vl us xss] (hx : xss = vecs ys) (hn : ys.length ≤ 100000) :
    Calls Tryz.prog 48 #[vp, vl] w (Ret fun v w' => Ext w w' ∧ ∃ rs, canon (Gen (fun a : El p => a ∈ ys)) = rs.map (·.2) ∧ MatO w.heap.size w'.heap.size w' v rs) :=
  Pc.Calls.ret_mono (generatedO_ok hx hn) fun _ _ ⟨h1, rs, h2, h3, h4⟩ => ⟨h1, rs, h3, MatO.ofLst h2 h4 h2.newRows⟩
end Go.Proofs.YtjljbfcdpdckeaaGreat

/-
  Canonical sequences: every depth of a subgroup has its element; representatives are unique; the order.
  Conditions: the tails at all levels are groups; nothing of the program stands here.
-/
namespace Go.Proofs.YtjljbfcdpdckeaaGreat
open Go Go.Pc
section
variable {p : Pr} [hc : ConAll p] {H : El p → Prop} {d : Nat}
theorem dep_one (hH : Pc.Sub H) (h : Dep H d) : ∃ z, H z ∧ Tl d z ∧ co z d = 1 := by
  have hd := h.lt
  obtain ⟨x, h1, h2, h3⟩ := h
  have hr := co_rng x hd
  obtain ⟨k, _, _, hk⟩ := inv_ex (hc.valid.prime d hd) ⟨by omega, hr.2⟩
  exact ⟨Grp.pwz x k, hH.pwz h1 k, h2.pwz (by omega) k, by rw [co_pwz hd h2, Int.mul_comm]; exact hk⟩
theorem can_ex (hH : Pc.Sub H) (h : Dep H d) : ∃ x, CanAt H d x := by
  have key : ∀ m e, e ≤ p.n → p.n - e = m → d < e → (∃ x, CanTo H d e x) → ∃ x, CanTo H d p.n x := by
    intro m
    induction m with
    | zero =>
      intro e h1 h2 _ h4
      obtain rfl : e = p.n := by omega
      exact h4
    | succ m ih =>
      intro e h1 h2 h3 ⟨x, h4⟩
      refine ih (e + 1) (by omega) (by omega) (by omega) ?_
      by_cases hD : Dep H e
      · obtain ⟨z, hz, hzt, hz1⟩ := dep_one hH hD
        exact ⟨_, h4.step hH h3 hD.lt hz hzt hz1⟩
      · exact ⟨x, h4.skip (.inr hD)⟩
  have hd := h.lt
  obtain ⟨z, hz, hzt, hz1⟩ := dep_one hH h
  obtain ⟨x, hx⟩ := key (p.n - (d + 1)) (d + 1) (by omega) rfl (by omega) ⟨z, hz, hzt, hz1, fun k h1 h2 _ => by omega⟩
  exact ⟨x, hx.can⟩
theorem canT_ex (hH : Pc.Sub H) (h : Dep H d) : ∃ x, canT H d = some x := by
  obtain ⟨x, hx⟩ := can_ex hH h
  exact ⟨x, canT_eq hH hx⟩
/-- The elements of a canonical sequence. -/
structure SeqEl (ys : List (El p)) : Prop where
  can : canon (Gen (fun a : El p => a ∈ ys)) = vecs ys
theorem SeqEl.eq {ys : List (El p)} (h : SeqEl ys) : ys = canElsF (Gen (fun a : El p => a ∈ ys)) 0 := by
  have := vecs_inj (h.can.symm.trans (canon_vecs _))
  rw [canElsF_zero]; exact this
theorem SeqEl.ok {ys : List (El p)} (h : SeqEl ys) : SeqOk ys := by
  have := canElsF_ok (Gen (fun a : El p => a ∈ ys)) 0
  rwa [← h.eq] at this
theorem SeqEl.len {ys : List (El p)} (h : SeqEl ys) : ys.length ≤ p.n := by
  have := canElsF_len (Gen (fun a : El p => a ∈ ys)) 0
  rwa [← h.eq] at this
theorem SeqEl.dep {ys : List (El p)} (h : SeqEl ys) {d : Nat} (hd : Dep (Gen (fun a : El p => a ∈ ys)) d) : ∃ y, y ∈ ys ∧ lead y.v = d := by
  obtain ⟨x, hx⟩ := canT_ex (Gen.sub _) hd
  have hm := canElsF_mem.2 ⟨d, Nat.zero_le _, hd.lt, hx⟩
  rw [← h.eq] at hm
  have hca := canT_some hx
  exact ⟨x, hm, lead_of hca.tl (by rw [hca.lead]; omega)⟩
theorem isSeq_iff {xss : List (List Int)} : IsSeq p xss ↔ ∃ ys : List (El p), xss = vecs ys ∧ SeqEl ys :=
  ⟨fun ⟨ys, h1, h2⟩ => ⟨ys, h1, ⟨h2.trans h1⟩⟩, fun ⟨ys, h1, h2⟩ => ⟨ys, h1, h2.can.trans h1.symm⟩⟩
variable {ys : List (El p)} {x r s : El p}
theorem RepOf.gen (h : RepOf ys x r) : Gen (fun a : El p => a ∈ ys) (x⁻¹ * r) := h.mem _ (Gen.sub _) fun y hy => .of y hy
theorem RepOf.unique (hs : SeqEl ys) (h : RepOf ys x r) (k : RepOf ys x s) : r = s := by
  refine rep_unique (Gen.sub (fun a : El p => a ∈ ys)) ?_ fun d hd => ?_
  · have h1 := (Gen.sub (fun a : El p => a ∈ ys)).mul _ _ ((Gen.sub _).inv _ h.gen) k.gen
    rwa [Grp.mul_inv_rev, Grp.inv_inv, Grp.mul_assoc, Grp.mul_inv_cancel_left] at h1
  · obtain ⟨y, hy, rfl⟩ := hs.dep hd
    rw [h.zero y hy, k.zero y hy]
/-- The order that a sequence tells. -/
def ordOf (p : Pr) (ys : List (El p)) : Int := ys.foldl (fun a y => a * p.o (lead y.v)) 1
theorem ordOf_take (ys : List (El p)) {k : Nat} (hk : k < ys.length) : ordOf p (ys.take (k + 1)) = ordOf p (ys.take k) * p.o (lead (ys[k]).v) := by
  unfold ordOf
  rw [List.take_succ_eq_append_getElem hk, List.foldl_append]; rfl
theorem ordOf_bd : ∀ k : Nat, k ≤ ys.length → (∀ y, y ∈ ys → lead y.v < p.n) → 1 ≤ ordOf p (ys.take k) ∧ ordOf p (ys.take k) ≤ (7 ^ k : Nat)
  | 0, _, _ => by simp [ordOf]
  | k + 1, hk, h => by
    have ih := ordOf_bd k (by omega) h
    have ho := hc.valid.opos (h _ (List.getElem_mem (show k < ys.length by omega)))
    rw [ordOf_take ys (by omega)]
    refine ⟨?_, ?_⟩
    · have := Int.mul_le_mul ih.1 (show (1 : Int) ≤ p.o (lead (ys[k]).v) by omega) (by omega) (by omega)
      simpa using this
    · have := Int.mul_le_mul ih.2 ho.2 (by omega) (by omega)
      rw [Nat.pow_succ]
      push_cast
      push_cast at this
      exact this
theorem ordOf_rng {k : Nat} (h6 : ys.length ≤ 6) (hk : k ≤ ys.length) (h : ∀ y, y ∈ ys → lead y.v < p.n) : 1 ≤ ordOf p (ys.take k) ∧ ordOf p (ys.take k) ≤ 117649 := by
  have h1 := ordOf_bd k hk h
  have h2 : 7 ^ k ≤ 7 ^ 6 := Nat.pow_le_pow_right (by omega) (by omega)
  refine ⟨h1.1, ?_⟩
  have h3 : ((7 ^ k : Nat) : Int) ≤ (117649 : Nat) := Int.ofNat_le.2 h2
  omega
end
end Go.Proofs.YtjljbfcdpdckeaaGreat

/-
  Walks: the reference's test of subgroups (l12Is, IsSubgroup).
  Conditions: stated at each theorem.
-/
namespace Go.Proofs.YtjljbfcdpdckeaaGreat
open Go Go.Pc
/-- The presentation is a group, and the list is the canonical sequence of a subgroup of it. -/
def IsSubP (p : Pr) (xss : List (List Int)) : Prop := ∃ h : IsGrp p, @IsSeq p ⟨h.con⟩ xss
end Go.Proofs.YtjljbfcdpdckeaaGreat
