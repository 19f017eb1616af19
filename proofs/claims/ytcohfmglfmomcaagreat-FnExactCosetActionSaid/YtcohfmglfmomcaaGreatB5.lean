/-
  Texts of one proof, put together by program: L01, L02, L03, L04, L05, Open, Ans6, W21, I21, Ans7, W22, Fun, I22.
  Conditions: those told at each part.
-/
import Derived.Test.YtcohfmglfmomcaaGreatB4
import Derived.Deep.Slices
set_option linter.unusedVariables false
set_option linter.unusedSimpArgs false
set_option linter.unusedSectionVars false
set_option linter.constructorNameAsVariable false
set_option linter.unnecessarySimpa false
set_option linter.deprecated false
/-
  Walks: the statement's own helpers on lists: sizes, copies, comparisons (szInt64S, .., toInt64S, .., eqInt64SSS).
  Conditions: stated at each theorem.
-/
namespace Go.Proofs.YtcohfmglfmomcaaGreat
open Go Go.Pc
theorem szInt64S_ok {w : World} {v : Value} {xs : List Int} {k : Int} {lo hi : Nat} [hx : Ints lo hi w v xs] (hk : 0 ≤ k ∧ k ≤ 2000000) :
    Calls Tryz.prog 25 #[v, .int .i64 k] w (Ret fun v w' => ∃ j : Int, v = .int .i64 j ∧ (j < 0 ∨ 0 ≤ j ∧ j ≤ k ∧ (xs.length : Int) ≤ k) ∧ Ext w w') := by
  have hl : xs.length ≤ 9223372036854775807 := by
    obtain ⟨A, c, _, hc, hm, _⟩ := hx.sl.ex
    simp at hc; omega
  refine enter (args := [v, .int .i64 k]) (l := [.tmp 4]) Tryz.func25 rfl rfl Tryz.ntmps25 (by simp) ?_
  refine go ?_
  refine c_if (fun h4 => ?_) (fun h4 => ?_)
  · refine go ?_
    exact ret1 ⟨-1, rfl, .inl (by omega), Ext.refl _⟩
  · refine go ?_
    exact ret1 ⟨k - xs.length, rfl, .inr ⟨by omega, by omega, by omega⟩, Ext.refl _⟩
theorem sl_len {lo hi : Nat} {w : World} {v : Value} {us : List Value} (h : Sl lo hi w v us) : us.length ≤ 9223372036854775807 := by
  obtain ⟨A, c, _, hc, hm, _⟩ := h.ex
  omega
set_option maxHeartbeats 1000000 in
theorem szInt64SS_ok {w : World} {v : Value} {us : List Value} {xss : List (List Int)} {k : Int} {lo hi : Nat} [hx : Pc.Rows lo hi w v us xss] (hk : 0 ≤ k ∧ k ≤ 2000000) :
    Calls Tryz.prog 7 #[v, .int .i64 k] w (Ret fun v w' => ∃ j : Int, v = .int .i64 j ∧ (j < 0 ∨ 0 ≤ j ∧ j ≤ k ∧ (xss.length : Int) ≤ k ∧ ∀ i, ((xss.getD i []).length : Int) ≤ k) ∧ Ext w w') := by
  have hl := sl_len hx.sl
  have hul := hx.vals.len
  refine enter (args := [v, .int .i64 k]) (l := [.tmp 4]) Tryz.func7 rfl rfl Tryz.ntmps7 (by simp) ?_
  refine go ?_
  refine c_if (fun h4 => ?_) (fun h4 => ?_)
  · refine go ?_
    exact ret1 ⟨-1, rfl, .inl (by omega), Ext.refl _⟩
  refine go ?_
  refine r_for xss.length (fun q ρ w' => ∃ j : Int, Has ρ [(0, v), (1, .int .i64 j), (5, .int .i64 q)] ∧ Ext w w' ∧ 0 ≤ j ∧ j ≤ k ∧ ∀ i, i < q → ((xss.getD i []).length : Int) ≤ k) ?_ ?_
  · refine ⟨k - xss.length, ?_, Ext.refl _, by omega, by omega, fun i hi => by omega⟩
    exact hasP
  rintro q ρ w2 hq ⟨j, hH, he2, hj0, hjk, hI⟩
  refine rwp_has hH fun ρ0 => ?_
  refine go ?_
  refine c_if (fun h5 => ?_) (fun h5 => ?_)
  · refine go ?_
    refine rc (szInt64S_ok (xs := xss.getD q []) (k := j) ?_) (next := fun v3 w3 h3 => ?_)
    · omega
    obtain ⟨j3, rfl, hj3, he3⟩ := h3
    refine go ?_
    refine c_if (fun h6 => ?_) (fun h6 => ?_)
    · refine go ?_
      exact ret1 ⟨-1, rfl, .inl (by omega), he2.trans he3⟩
    · have h7 : 0 ≤ j3 ∧ j3 ≤ j ∧ ((xss.getD q []).length : Int) ≤ j := by
        rcases hj3 with h | h
        · omega
        · exact h
      refine go ?_
      refine forQ_normal (by omega) ⟨j3, ?_, he2.trans he3, by omega, by omega, fun i hi => ?_⟩
      · exact hasP
      · by_cases e : i = q
        · subst e; omega
        · exact hI i (by omega)
  · refine go ?_
    refine ret1 ⟨j, rfl, .inr ⟨hj0, hjk, by omega, fun i => ?_⟩, he2⟩
    by_cases hi : i < xss.length
    · exact hI i (by omega)
    · rw [List.getD_eq_getElem?_getD, List.getElem?_eq_none (by omega)]; simp; omega
set_option maxHeartbeats 1000000 in
theorem szInt64SSS_ok {w : World} {v : Value} {us : List Value} {uss : List (List Value)} {xsss : List (List (List Int))} {k : Int} {lo hi : Nat} [hx : Rowss lo hi w v us uss xsss] (hk : 0 ≤ k ∧ k ≤ 2000000) :
    Calls Tryz.prog 26 #[v, .int .i64 k] w (Ret fun v w' => ∃ j : Int, v = .int .i64 j ∧ (j < 0 ∨ 0 ≤ j ∧ j ≤ k ∧ (xsss.length : Int) ≤ k ∧ ∀ i, ((xsss.getD i []).length : Int) ≤ k ∧ ∀ h, (((xsss.getD i []).getD h []).length : Int) ≤ k) ∧ Ext w w') := by
  have hl := sl_len hx.sl
  have hul := hx.vals.len
  refine enter (args := [v, .int .i64 k]) (l := [.tmp 4]) Tryz.func26 rfl rfl Tryz.ntmps26 (by simp) ?_
  refine go ?_
  refine c_if (fun h4 => ?_) (fun h4 => ?_)
  · refine go ?_
    exact ret1 ⟨-1, rfl, .inl (by omega), Ext.refl _⟩
  refine go ?_
  refine r_for xsss.length (fun q ρ w' => ∃ j : Int, Has ρ [(0, v), (1, .int .i64 j), (5, .int .i64 q)] ∧ Ext w w' ∧ 0 ≤ j ∧ j ≤ k ∧ ∀ i, i < q → ((xsss.getD i []).length : Int) ≤ k ∧ ∀ h, (((xsss.getD i []).getD h []).length : Int) ≤ k) ?_ ?_
  · refine ⟨k - xsss.length, ?_, Ext.refl _, by omega, by omega, fun i hi => by omega⟩
    exact hasP
  rintro q ρ w2 hq ⟨j, hH, he2, hj0, hjk, hI⟩
  refine rwp_has hH fun ρ0 => ?_
  refine go ?_
  refine c_if (fun h5 => ?_) (fun h5 => ?_)
  · refine go ?_
    refine rc (szInt64SS_ok (xss := xsss.getD q []) (k := j) ?_) (next := fun v3 w3 h3 => ?_)
    · omega
    obtain ⟨j3, rfl, hj3, he3⟩ := h3
    refine go ?_
    refine c_if (fun h6 => ?_) (fun h6 => ?_)
    · refine go ?_
      exact ret1 ⟨-1, rfl, .inl (by omega), he2.trans he3⟩
    · have h7 : 0 ≤ j3 ∧ j3 ≤ j ∧ ((xsss.getD q []).length : Int) ≤ j ∧ ∀ i, (((xsss.getD q []).getD i []).length : Int) ≤ j := by
        rcases hj3 with h | h
        · omega
        · exact h
      refine go ?_
      refine forQ_normal (by omega) ⟨j3, ?_, he2.trans he3, by omega, by omega, fun i hi => ?_⟩
      · exact hasP
      · by_cases e : i = q
        · subst e; exact ⟨by omega, fun h => by have := h7.2.2.2 h; omega⟩
        · exact hI i (by omega)
  · refine go ?_
    refine ret1 ⟨j, rfl, .inr ⟨hj0, hjk, by omega, fun i => ?_⟩, he2⟩
    by_cases hi : i < xsss.length
    · exact hI i (by omega)
    · rw [List.getD_eq_getElem?_getD, List.getElem?_eq_none (by omega)]; simp; omega
set_option maxHeartbeats 1000000 in
theorem toInt64S_ok {w : World} {v : Value} {xs : List Int} {lo hi : Nat} [hx : Ints lo hi w v xs] (hl : xs.length ≤ 2000000) :
    Calls Tryz.prog 18 #[v] w (Ret fun v' w' => Ext w w' ∧ Fr w.heap.size w' v' xs) := by
  refine enter (args := [v]) (l := [.tmp 2]) Tryz.func18 rfl rfl Tryz.ntmps18 (by simp) ?_
  refine go ?_
  refine st_make_int (by ((try simp only [ev_tmp, ev_const, ev_func, get_put, get_args, get_putL, get_putL_nil, Nat.reduceEqDiff, reduceIte, List.getD_cons_zero, List.getD_cons_succ, List.getD_nil]); first | done | with_reducible rfl)) (by ((try simp only [ev_tmp, ev_const, ev_func, get_put, get_args, get_putL, get_putL_nil, Nat.reduceEqDiff, reduceIte, List.getD_cons_zero, List.getD_cons_succ, List.getD_nil]); first | done | with_reducible rfl)) (by omega) (by omega) (by first | exact True.intro | exact ⟨_, rfl, by ((try simp only [ev_tmp, ev_const, ev_func, get_put, get_args, get_putL, get_putL_nil, Nat.reduceEqDiff, reduceIte, List.getD_cons_zero, List.getD_cons_succ, List.getD_nil, Bool.not_true, Bool.not_false]); first | done | with_reducible rfl)⟩) fun w1 v1 he1 hs1 ho1 => ?_
  replace hx := hx.wide
  have ap : Apart 0 w.heap.size w.heap.size := ⟨.inr (Nat.le_refl _)⟩
  refine go ?_
  refine r_for xs.length (fun k ρ w' => ∃ ys, Has ρ [(0, v), (3, v1), (4, .int .i64 k)] ∧ Chg w.heap.size w1 w' ∧ OwnI 2 w.heap.size w' v1 ys ∧ ys.length = xs.length ∧ ∀ i, i < k → ys.getD i 0 = xs.getD i 0) ?_ ?_
  · refine ⟨_, ?_, Chg.refl _ _, ho1, by simp, fun i hi => by omega⟩
    exact hasP
  clear ho1
  rintro k ρ w2 hk ⟨ys, hH, hc2, ho2, hl2, hI⟩
  refine rwp_has hH fun ρ0 => ?_
  refine go ?_
  refine c_if (fun h4 => ?_) (fun h4 => ?_)
  · refine go ?_
    refine st_store_int (by ((try simp only [ev_tmp, ev_const, ev_func, get_put, get_args, get_putL, get_putL_nil, Nat.reduceEqDiff, reduceIte, List.getD_cons_zero, List.getD_cons_succ, List.getD_nil]); first | done | with_reducible rfl)) (by ((try simp only [ev_tmp, ev_const, ev_func, get_put, get_args, get_putL, get_putL_nil, Nat.reduceEqDiff, reduceIte, List.getD_cons_zero, List.getD_cons_succ, List.getD_nil]); first | done | with_reducible rfl)) ?_ (by first | exact True.intro | exact ⟨_, rfl, by ((try simp only [ev_tmp, ev_const, ev_func, get_put, get_args, get_putL, get_putL_nil, Nat.reduceEqDiff, reduceIte, List.getD_cons_zero, List.getD_cons_succ, List.getD_nil, Bool.not_true, Bool.not_false]); first | done | with_reducible rfl)⟩) fun w3 hc3 hs3 ho3 => ?_
    · omega
    refine go ?_
    refine forQ_normal (by omega) ⟨_, ?_, hc2.trans hc3, ho3, by simp [hl2], fun i hi => ?_⟩
    · exact hasP
    · by_cases e : k = i
      · subst e; rw [Pc.getD_set_eq _ _ _ (by omega)]
      · rw [Pc.getD_set_ne _ _ _ _ e]; exact hI i (by omega)
  · refine go ?_
    have hy : ys = xs := list_ext0 hl2 fun i hi => hI i (by omega)
    subst hy
    exact ret1 ⟨hc2.ext he1 (Nat.le_refl _), ho2.toFr (Nat.le_refl _)⟩
theorem rows_ext {xss yss : List (List Int)} (hl : xss.length = yss.length) (h : ∀ i, i < xss.length → xss.getD i [] = yss.getD i []) : xss = yss := by
  apply List.ext_getElem hl
  intro i h1 h2
  have := h i h1
  simpa [h1, h2] using this
theorem set_nils {α : Type} (l : List α) (z u : α) (m : Nat) : (l ++ List.replicate (m + 1) z).set l.length u = (l ++ [u]) ++ List.replicate m z := by
  simp [List.replicate_succ]
set_option maxHeartbeats 1000000 in
theorem toInt64SSO_ok {w : World} {v : Value} {us : List Value} {xss : List (List Int)} {lo hi : Nat} [hx : Pc.Rows lo hi w v us xss] (hl : xss.length ≤ 2000000) (hr : ∀ i, (xss.getD i []).length ≤ 2000000) :
    Calls Tryz.prog 10 #[v] w (Ret fun v' w' => Ext w w' ∧ ∃ rs, Lst 22 w.heap.size (· < w.heap.size) w' v' (rs.map (·.1)) xss ∧ xss = rs.map (·.2) ∧ RowsO w.heap.size w' rs) := by
  refine enter (args := [v]) (l := [.tmp 2]) Tryz.func10 rfl rfl Tryz.ntmps10 (by simp) ?_
  refine go ?_
  refine st_make_nil (by ((try simp only [ev_tmp, ev_const, ev_func, get_put, get_args, get_putL, get_putL_nil, Nat.reduceEqDiff, reduceIte, List.getD_cons_zero, List.getD_cons_succ, List.getD_nil]); first | done | with_reducible rfl)) (by ((try simp only [ev_tmp, ev_const, ev_func, get_put, get_args, get_putL, get_putL_nil, Nat.reduceEqDiff, reduceIte, List.getD_cons_zero, List.getD_cons_succ, List.getD_nil]); first | done | with_reducible rfl)) (by omega) (by omega) (by first | exact True.intro | exact ⟨_, rfl, by ((try simp only [ev_tmp, ev_const, ev_func, get_put, get_args, get_putL, get_putL_nil, Nat.reduceEqDiff, reduceIte, List.getD_cons_zero, List.getD_cons_succ, List.getD_nil, Bool.not_true, Bool.not_false]); first | done | with_reducible rfl)⟩) fun w1 v1 he1 hs1 ho1 => ?_
  have hvb := ho1.toN_block
  have hL1 : Lst 22 w.heap.size (· < w.heap.size) w1 v1 _ _ := Lst.ofNils ho1 (Nat.le_refl _) (by omega) (fun g hg => by omega)
  refine go ?_
  refine r_for xss.length (fun k ρ w' => ∃ rs : List (Value × List Int), Has ρ [(0, v), (3, v1), (4, .int .i64 k)] ∧ Ext w w' ∧ Lst 22 w.heap.size (· < w.heap.size) w' v1 (rs.map (·.1) ++ List.replicate (xss.length - k) nilv) (rs.map (·.2) ++ List.replicate (xss.length - k) []) ∧ rs.length = k ∧ rs.map (·.2) = xss.take k ∧ RowsO (w.heap.size + 1) w' rs ∧ w.heap.size + 1 ≤ w'.heap.size) ?_ ?_
  · refine ⟨[], ?_, he1, by simpa using hL1, rfl, by simp, RowsO.nil _ _, by omega⟩
    exact hasP
  clear hL1 ho1
  rintro k ρ w2 hk ⟨rs, hH, he2, hL2, hl2, hI, hO2, hsz2⟩
  refine rwp_has hH fun ρ0 => ?_
  have hLr := hL2.toRows
  refine go ?_
  refine c_if (fun h4 => ?_) (fun h4 => ?_)
  · refine go ?_
    refine rc (toInt64S_ok (xs := xss.getD k []) (hr k)) (next := fun v3 w3 h3 => ?_)
    obtain ⟨he3, hf3⟩ := h3
    have hL3 := hL2.ext he3
    have hO3 := hL3.toOwn hvb
    have hz2 := he2.size
    have hul : (rs.map (·.1) ++ List.replicate (xss.length - k) nilv).length = xss.length := by simp; omega
    have hul2 : (rs.map (·.2) ++ List.replicate (xss.length - k) ([] : List Int)).length = xss.length := by simp; omega
    refine go ?_
    refine st_store_val (h := hO3) (by ((try simp only [ev_tmp, ev_const, ev_func, get_put, get_args, get_putL, get_putL_nil, Nat.reduceEqDiff, reduceIte, List.getD_cons_zero, List.getD_cons_succ, List.getD_nil]); first | done | with_reducible rfl)) (by ((try simp only [ev_tmp, ev_const, ev_func, get_put, get_args, get_putL, get_putL_nil, Nat.reduceEqDiff, reduceIte, List.getD_cons_zero, List.getD_cons_succ, List.getD_nil]); first | done | with_reducible rfl)) ?_ ?_ (by first | exact True.intro | exact ⟨_, rfl, by ((try simp only [ev_tmp, ev_const, ev_func, get_put, get_args, get_putL, get_putL_nil, Nat.reduceEqDiff, reduceIte, List.getD_cons_zero, List.getD_cons_succ, List.getD_nil, Bool.not_true, Bool.not_false]); first | done | with_reducible rfl)⟩) fun w4 hc4 hs4 ho4 => ?_
    · exact hf3.ints.sl.one
    · omega
    have hL4 := hL3.set hvb (IntsAp.ofFr hf3 (fun g hg => by
      rcases hg with hg | hg
      · omega
      · exact (hL2.lt hg).2)) hc4 ho4 (by omega)
    have hkn : k < xss.length := by omega
    have e0 : xss.length - k = (xss.length - (k + 1)) + 1 := by omega
    have e1 := set_nils (rs.map (·.1)) nilv v3 (xss.length - (k + 1))
    have e2 := set_nils (rs.map (·.2)) [] (xss.getD k []) (xss.length - (k + 1))
    rw [List.length_map, hl2, ← e0] at e1 e2
    rw [e1, e2] at hL4
    have hO4 := hO2.push he3 hsz2 hf3
    have hO5 := hO4.wr (.one (B := fun b => b = w.heap.size) rfl hc4) fun b hb e => by have := (hO4.blk hb).1; omega
    have hz3 := he3.size
    refine go ?_
    refine forQ_normal (by omega) ⟨rs ++ [(v3, xss.getD k [])], ?_, hc4.ext (he2.trans he3) (Nat.le_refl _), by simpa using hL4, by simp [hl2], ?_, hO5, by omega⟩
    · exact hasP
    · rw [List.take_succ_eq_append_getElem hkn, List.map_append, hI]; simp [hkn]
  · refine go ?_
    obtain rfl : k = xss.length := by omega
    rw [List.take_length] at hI
    refine ret1 ⟨he2, rs, ?_, hI.symm, hO2.mono (by omega)⟩
    simpa [hI] using hL2
theorem toInt64SS_ok {w : World} {v : Value} {us : List Value} {xss : List (List Int)} {lo hi : Nat} [hx : Pc.Rows lo hi w v us xss] (hl : xss.length ≤ 2000000) (hr : ∀ i, (xss.getD i []).length ≤ 2000000) :
    Calls Tryz.prog 10 #[v] w (Ret fun v' w' => Ext w w' ∧ ∃ us', Lst 22 w.heap.size (· < w.heap.size) w' v' us' xss) :=
  Pc.Calls.ret_mono (toInt64SSO_ok hl hr) fun _ _ ⟨h1, _, h2, _⟩ => ⟨h1, _, h2⟩
end Go.Proofs.YtcohfmglfmomcaaGreat

/-
  Walks: the statement's own helpers on presentations: sizes, copies, comparisons (toInt64SSS, szPresentation, toPresentation, eqInt64SSS, eqPresentation).
  Conditions: stated at each theorem.
-/
namespace Go.Proofs.YtcohfmglfmomcaaGreat
open Go Go.Pc
set_option maxHeartbeats 1000000 in
theorem toInt64SSS_ok {w : World} {v : Value} {us : List Value} {uss : List (List Value)} {xsss : List (List (List Int))} {lo hi : Nat} [hx : Rowss lo hi w v us uss xsss] (hl : xsss.length ≤ 2000000) (hr : ∀ i, (xsss.getD i []).length ≤ 2000000 ∧ ∀ j, ((xsss.getD i []).getD j []).length ≤ 2000000) :
    Calls Tryz.prog 30 #[v] w (Ret fun v' w' => Ext w w' ∧ ∃ us' uss', Rowss w.heap.size w'.heap.size w' v' us' uss' xsss) := by
  refine enter (args := [v]) (l := [.tmp 2]) Tryz.func30 rfl rfl Tryz.ntmps30 (by simp) ?_
  refine go ?_
  refine st_make_nil (by ((try simp only [ev_tmp, ev_const, ev_func, get_put, get_args, get_putL, get_putL_nil, Nat.reduceEqDiff, reduceIte, List.getD_cons_zero, List.getD_cons_succ, List.getD_nil]); first | done | with_reducible rfl)) (by ((try simp only [ev_tmp, ev_const, ev_func, get_put, get_args, get_putL, get_putL_nil, Nat.reduceEqDiff, reduceIte, List.getD_cons_zero, List.getD_cons_succ, List.getD_nil]); first | done | with_reducible rfl)) (by omega) (by omega) (by first | exact True.intro | exact ⟨_, rfl, by ((try simp only [ev_tmp, ev_const, ev_func, get_put, get_args, get_putL, get_putL_nil, Nat.reduceEqDiff, reduceIte, List.getD_cons_zero, List.getD_cons_succ, List.getD_nil, Bool.not_true, Bool.not_false]); first | done | with_reducible rfl)⟩) fun w1 v1 he1 hs1 ho1 => ?_
  refine go ?_
  refine r_for xsss.length (fun k ρ w' => ∃ (us' : List Value) (uss' : List (List Value)) (ysss : List (List (List Int))), Has ρ [(0, v), (3, v1), (4, .int .i64 k)] ∧ Ext w w' ∧ Own 23 w.heap.size w' v1 us' ∧ us'.length = xsss.length ∧ uss'.length = xsss.length ∧ ysss.length = xsss.length ∧
    (∀ i, Pc.Rows (w.heap.size + 1) w'.heap.size w' (us'.getD i nilv) (uss'.getD i []) (ysss.getD i [])) ∧ ∀ i, i < k → ysss.getD i [] = xsss.getD i []) ?_ ?_
  · refine ⟨_, List.replicate xsss.length [], List.replicate xsss.length [], ?_, he1, ho1, by simp, by simp, by simp, fun i => ?_, fun i hi => by omega⟩
    · exact hasP
    · have e1 : (List.replicate xsss.length nilv).getD i nilv = nilv := by
        rw [List.getD_eq_getElem?_getD, List.getElem?_replicate]; split <;> rfl
      have e2 : (List.replicate xsss.length ([] : List Value)).getD i [] = [] := by
        rw [List.getD_eq_getElem?_getD, List.getElem?_replicate]; split <;> rfl
      have e3 : (List.replicate xsss.length ([] : List (List Int))).getD i [] = [] := by
        rw [List.getD_eq_getElem?_getD, List.getElem?_replicate]; split <;> rfl
      rw [e1, e2, e3]
      refine ⟨⟨⟨none, 0, rfl, Nat.le_refl _, by omega, fun k u hu => by simp at hu⟩⟩, rfl, fun i => ?_⟩
      exact ⟨⟨none, 0, by simp, by simp, by omega, fun k u hu => by simp at hu⟩⟩
  clear ho1
  rintro k ρ w2 hk ⟨us', uss', ysss, hH, he2, ho2, hl1, hl2, hl3, hR, hI⟩
  refine rwp_has hH fun ρ0 => ?_
  have hsl := ho2.toSl
  refine go ?_
  refine c_if (fun h4 => ?_) (fun h4 => ?_)
  · refine go ?_
    refine rc (toInt64SS_ok (xss := xsss.getD k []) (hr k).1 (hr k).2) (next := fun v3 w3 h3 => ?_)
    obtain ⟨he3, us3, hL3⟩ := h3
    have hN3 := hL3.newRows
    have ho3 : Own 23 w.heap.size w3 v1 us' := Own.ext (h := ho2)
    have hsl3 := ho3.toSl
    have hlen3 := hsl3.toLen
    have hz2 := he2.size
    have hz3 := he3.size
    have hol := ho2.lt
    refine go ?_
    refine st_store_val (h := ho3) (by ((try simp only [ev_tmp, ev_const, ev_func, get_put, get_args, get_putL, get_putL_nil, Nat.reduceEqDiff, reduceIte, List.getD_cons_zero, List.getD_cons_succ, List.getD_nil]); first | done | with_reducible rfl)) (by ((try simp only [ev_tmp, ev_const, ev_func, get_put, get_args, get_putL, get_putL_nil, Nat.reduceEqDiff, reduceIte, List.getD_cons_zero, List.getD_cons_succ, List.getD_nil]); first | done | with_reducible rfl)) ?_ ?_ (by first | exact True.intro | exact ⟨_, rfl, by ((try simp only [ev_tmp, ev_const, ev_func, get_put, get_args, get_putL, get_putL_nil, Nat.reduceEqDiff, reduceIte, List.getD_cons_zero, List.getD_cons_succ, List.getD_nil, Bool.not_true, Bool.not_false]); first | done | with_reducible rfl)⟩) fun w4 hc4 hs4 ho4 => ?_
    · exact hN3.sl.one
    · omega
    refine go ?_
    refine forQ_normal (by omega) ⟨us'.set k v3, uss'.set k us3, ysss.set k (xsss.getD k []), ?_, hc4.ext (he2.trans he3) (Nat.le_refl _), ho4, by simp [hl1], by simp [hl2], by simp [hl3], fun i => ?_, fun i hi => ?_⟩
    · exact hasP
    · by_cases e : k = i
      · subst e
        have e1 : (us'.set k v3).getD k nilv = v3 := by simp [show k < us'.length by omega]
        have e2 : (uss'.set k us3).getD k [] = us3 := by simp [show k < uss'.length by omega]
        have e3 : (ysss.set k (xsss.getD k [])).getD k [] = xsss.getD k [] := by simp [show k < ysss.length by omega]
        rw [e1, e2, e3]
        exact (hN3.same (hc4.same (.inl (by omega)))).mono (by omega) (by omega)
      · have e1 : (us'.set k v3).getD i nilv = us'.getD i nilv := by simp [List.getElem?_set_ne e]
        have e2 : (uss'.set k us3).getD i [] = uss'.getD i [] := by simp [List.getElem?_set_ne e]
        have e3 : (ysss.set k (xsss.getD k [])).getD i [] = ysss.getD i [] := by simp [List.getElem?_set_ne e]
        rw [e1, e2, e3]
        exact (((hR i).same (he3.same _ _)).same (hc4.same (.inl (by omega)))).mono (Nat.le_refl _) (by omega)
    · by_cases e : k = i
      · subst e; simp [show k < ysss.length by omega]
      · have : (ysss.set k (xsss.getD k [])).getD i [] = ysss.getD i [] := by simp [List.getElem?_set_ne e]
        rw [this]; exact hI i (by omega)
  · refine go ?_
    refine ret1 ⟨he2, us', uss', ?_⟩
    have hy : ysss = xsss := by
      apply List.ext_getElem hl3
      intro i h1 h2
      have := hI i (by omega)
      simpa [h1, h2] using this
    subst hy
    exact ⟨hsl.mono (Nat.le_refl _) (by have := ho2.lt; omega), hl1, hl2, fun i => (hR i).mono (by omega) (Nat.le_refl _)⟩
theorem rowss_mono {lo hi lo' hi' : Nat} {w : World} {v : Value} {us : List Value} {uss : List (List Value)} {xsss : List (List (List Int))} (h : Rowss lo hi w v us uss xsss) (h1 : lo' ≤ lo) (h2 : hi ≤ hi') : Rowss lo' hi' w v us uss xsss :=
  ⟨h.sl.mono h1 h2, h.vals.len, h.vals.len', fun i => (h.vals.at_ i).mono h1 h2⟩
/-- The sizes of a presentation, none above k. -/
structure SizeP (p : Pr) (k : Int) : Prop where
  ord : (p.ord.length : Int) ≤ k
  pow : (p.pow.length : Int) ≤ k
  powi : ∀ i, ((p.pow.getD i []).length : Int) ≤ k
  cnj : (p.cnj.length : Int) ≤ k
  cnji : ∀ i, ((p.cnj.getD i []).length : Int) ≤ k
  cnjij : ∀ i j, (((p.cnj.getD i []).getD j []).length : Int) ≤ k
set_option maxHeartbeats 1000000 in
theorem szPresentation_ok {w : World} {v : Value} {p : Pr} {k : Int} {lo hi : Nat} [hp : Pres lo hi w v p] (hk : 0 ≤ k ∧ k ≤ 2000000) :
    Calls Tryz.prog 6 #[v, .int .i64 k] w (Ret fun v w' => ∃ j : Int, v = .int .i64 j ∧ (j < 0 ∨ 0 ≤ j ∧ j ≤ k ∧ SizeP p k) ∧ Ext w w') := by
  obtain ⟨vo, vpw, vc, ps, cs, css, rfl, h1, h2, h3⟩ := hp.ex
  refine enter (args := [.agg #[vo, vpw, vc], .int .i64 k]) (l := [.tmp 4]) Tryz.func6 rfl rfl Tryz.ntmps6 (by simp) ?_
  refine go ?_
  refine st_box3 (by ((try simp only [ev_tmp, ev_const, ev_func, get_put, get_args, get_putL, get_putL_nil, Nat.reduceEqDiff, reduceIte, List.getD_cons_zero, List.getD_cons_succ, List.getD_nil]); first | done | with_reducible rfl)) (by first | exact True.intro | exact ⟨_, rfl, by ((try simp only [ev_tmp, ev_const, ev_func, get_put, get_args, get_putL, get_putL_nil, Nat.reduceEqDiff, reduceIte, List.getD_cons_zero, List.getD_cons_succ, List.getD_nil, Bool.not_true, Bool.not_false]); first | done | with_reducible rfl)⟩) fun w1 b he1 hb1 hs1 hc0 hc1 hc2 => ?_
  refine go ?_
  refine rc (szInt64S_ok (xs := p.ord) hk) (next := fun v2 w2 h4 => ?_)
  obtain ⟨j2, rfl, hj2, he2⟩ := h4
  refine go ?_
  refine c_if (fun h5 => ?_) (fun h5 => ?_)
  · refine go ?_
    exact ret1 ⟨-1, rfl, .inl (by omega), he1.trans he2⟩
  have h6 : 0 ≤ j2 ∧ j2 ≤ k ∧ (p.ord.length : Int) ≤ k := by
    rcases hj2 with h | h
    · omega
    · exact h
  refine go ?_
  refine rc (szInt64SS_ok (xss := p.pow) (k := j2) ?_) (next := fun v3 w3 h7 => ?_)
  · omega
  obtain ⟨j3, rfl, hj3, he3⟩ := h7
  refine go ?_
  refine c_if (fun h8 => ?_) (fun h8 => ?_)
  · refine go ?_
    exact ret1 ⟨-1, rfl, .inl (by omega), (he1.trans he2).trans he3⟩
  have h9 : 0 ≤ j3 ∧ j3 ≤ j2 ∧ (p.pow.length : Int) ≤ j2 ∧ ∀ i, ((p.pow.getD i []).length : Int) ≤ j2 := by
    rcases hj3 with h | h
    · omega
    · exact h
  refine go ?_
  refine rc (szInt64SSS_ok (xsss := p.cnj) (k := j3) ?_) (next := fun v4 w4 h10 => ?_)
  · omega
  obtain ⟨j4, rfl, hj4, he4⟩ := h10
  refine go ?_
  refine c_if (fun h11 => ?_) (fun h11 => ?_)
  · refine go ?_
    exact ret1 ⟨-1, rfl, .inl (by omega), ((he1.trans he2).trans he3).trans he4⟩
  have h12 : 0 ≤ j4 ∧ j4 ≤ j3 ∧ (p.cnj.length : Int) ≤ j3 ∧ ∀ i, ((p.cnj.getD i []).length : Int) ≤ j3 ∧ ∀ h, (((p.cnj.getD i []).getD h []).length : Int) ≤ j3 := by
    rcases hj4 with h | h
    · omega
    · exact h
  refine go ?_
  refine ret1 ⟨j4, rfl, .inr ⟨h12.1, by omega, ⟨h6.2.2, by omega, fun i => by have := h9.2.2.2 i; omega, by omega, fun i => by have := (h12.2.2.2 i).1; omega, fun i j => by have := (h12.2.2.2 i).2 j; omega⟩⟩, ((he1.trans he2).trans he3).trans he4⟩
set_option maxHeartbeats 1000000 in
theorem toPresentation_ok {w : World} {v : Value} {p : Pr} {lo hi : Nat} [hp : Pres lo hi w v p] (hs : SizeP p 2000000) :
    Calls Tryz.prog 9 #[v] w (Ret fun v w' => Ext w w' ∧ Pres w.heap.size w'.heap.size w' v p) := by
  have hs1 := hs.ord
  have hs2 := hs.pow
  have hs3 := hs.cnj
  obtain ⟨vo, vpw, vc, ps, cs, css, rfl, h1, h2, h3⟩ := hp.ex
  refine enter (args := [.agg #[vo, vpw, vc]]) (l := [.cell 2 31]) Tryz.func9 rfl rfl Tryz.ntmps9 (by simp) ?_
  refine go ?_
  refine st_box3 (by ((try simp only [ev_tmp, ev_const, ev_func, get_put, get_args, get_putL, get_putL_nil, Nat.reduceEqDiff, reduceIte, List.getD_cons_zero, List.getD_cons_succ, List.getD_nil]); first | done | with_reducible rfl)) (by first | exact True.intro | exact ⟨_, rfl, by ((try simp only [ev_tmp, ev_const, ev_func, get_put, get_args, get_putL, get_putL_nil, Nat.reduceEqDiff, reduceIte, List.getD_cons_zero, List.getD_cons_succ, List.getD_nil, Bool.not_true, Bool.not_false]); first | done | with_reducible rfl)⟩) fun w1 b he1 hb1 hsz1 hc0 hc1 hc2 => ?_
  refine go ?_
  refine st_alloc (by first | exact True.intro | exact ⟨_, rfl, by ((try simp only [ev_tmp, ev_const, ev_func, get_put, get_args, get_putL, get_putL_nil, Nat.reduceEqDiff, reduceIte, List.getD_cons_zero, List.getD_cons_succ, List.getD_nil, Bool.not_true, Bool.not_false]); first | done | with_reducible rfl)⟩) fun w2 br he2 hbr hsz2 hbk2 => ?_
  refine go ?_
  refine st_alloc (by first | exact True.intro | exact ⟨_, rfl, by ((try simp only [ev_tmp, ev_const, ev_func, get_put, get_args, get_putL, get_putL_nil, Nat.reduceEqDiff, reduceIte, List.getD_cons_zero, List.getD_cons_succ, List.getD_nil, Bool.not_true, Bool.not_false]); first | done | with_reducible rfl)⟩) fun w3 bo he3 hbo hsz3 hbk3 => ?_
  have hE3 := (he1.trans he2).trans he3
  refine go ?_
  refine rc (toInt64S_ok (xs := p.ord) (by omega)) (next := fun v4 w4 h4 => ?_)
  obtain ⟨he4, hf4⟩ := h4
  have hb4 : Blk w4 bo _ := Blk.ext (h := hbk3)
  have hz4 := he4.size
  refine go ?_
  refine st_store_fld (h := hb4) (by ((try simp only [ev_tmp, ev_const, ev_func, get_put, get_args, get_putL, get_putL_nil, Nat.reduceEqDiff, reduceIte, List.getD_cons_zero, List.getD_cons_succ, List.getD_nil]); first | done | with_reducible rfl)) (by ((try simp only [ev_tmp, ev_const, ev_func, get_put, get_args, get_putL, get_putL_nil, Nat.reduceEqDiff, reduceIte, List.getD_cons_zero, List.getD_cons_succ, List.getD_nil]); first | done | with_reducible rfl)) ?_ ?_ (by first | exact True.intro | exact ⟨_, rfl, by ((try simp only [ev_tmp, ev_const, ev_func, get_put, get_args, get_putL, get_putL_nil, Nat.reduceEqDiff, reduceIte, List.getD_cons_zero, List.getD_cons_succ, List.getD_nil, Bool.not_true, Bool.not_false]); first | done | with_reducible rfl)⟩) fun w5 hc5 hs5 hb5 => ?_
  · exact hf4.ints.sl.one
  · simp
  have hE15 : Ext w1 w5 := hc5.ext ((he2.trans he3).trans he4) (by have := he2.size; omega)
  have hz15 := hE15.size
  have hz2 := he2.size
  have hi5 : Ints w3.heap.size w4.heap.size w5 v4 p.ord := hf4.ints.same (hc5.same (.inl (by omega)))
  have hr5 : Blk w5 br _ := (Blk.ext (x := he3.trans he4) (h := hbk2)).chg' hc5 (by omega)
  refine go ?_
  refine rc (toInt64SS_ok (xss := p.pow) (by omega) (fun i => by have := hs.powi i; omega)) (next := fun v6 w6 h6 => ?_)
  obtain ⟨he6, us6, hL6⟩ := h6
  have hN6 := hL6.newRows
  have hb6 : Blk w6 bo _ := Blk.ext (h := hb5)
  have hz6 := he6.size
  refine go ?_
  refine st_store_fld (h := hb6) (by ((try simp only [ev_tmp, ev_const, ev_func, get_put, get_args, get_putL, get_putL_nil, Nat.reduceEqDiff, reduceIte, List.getD_cons_zero, List.getD_cons_succ, List.getD_nil]); first | done | with_reducible rfl)) (by ((try simp only [ev_tmp, ev_const, ev_func, get_put, get_args, get_putL, get_putL_nil, Nat.reduceEqDiff, reduceIte, List.getD_cons_zero, List.getD_cons_succ, List.getD_nil]); first | done | with_reducible rfl)) ?_ ?_ (by first | exact True.intro | exact ⟨_, rfl, by ((try simp only [ev_tmp, ev_const, ev_func, get_put, get_args, get_putL, get_putL_nil, Nat.reduceEqDiff, reduceIte, List.getD_cons_zero, List.getD_cons_succ, List.getD_nil, Bool.not_true, Bool.not_false]); first | done | with_reducible rfl)⟩) fun w7 hc7 hs7 hb7 => ?_
  · exact hN6.sl.one
  · simp
  have hE17 : Ext w1 w7 := hc7.ext (hE15.trans he6) (by omega)
  have hi7 : Ints w3.heap.size w4.heap.size w7 v4 p.ord := (hi5.same (he6.same _ _)).same (hc7.same (.inl (by omega)))
  have hp7 : Pc.Rows w5.heap.size w6.heap.size w7 v6 us6 p.pow := hN6.same (hc7.same (.inl (by omega)))
  have hr7 : Blk w7 br _ := (Blk.ext (x := he6) (h := hr5)).chg' hc7 (by omega)
  refine go ?_
  refine rc (toInt64SSS_ok (xsss := p.cnj) (by omega) (fun i => ⟨by have := hs.cnji i; omega, fun j => by have := hs.cnjij i j; omega⟩)) (next := fun v8 w8 h8 => ?_)
  obtain ⟨he8, us8, uss8, hR8⟩ := h8
  have hb8 : Blk w8 bo _ := Blk.ext (h := hb7)
  have hz8 := he8.size
  refine go ?_
  refine st_store_fld (h := hb8) (by ((try simp only [ev_tmp, ev_const, ev_func, get_put, get_args, get_putL, get_putL_nil, Nat.reduceEqDiff, reduceIte, List.getD_cons_zero, List.getD_cons_succ, List.getD_nil]); first | done | with_reducible rfl)) (by ((try simp only [ev_tmp, ev_const, ev_func, get_put, get_args, get_putL, get_putL_nil, Nat.reduceEqDiff, reduceIte, List.getD_cons_zero, List.getD_cons_succ, List.getD_nil]); first | done | with_reducible rfl)) ?_ ?_ (by first | exact True.intro | exact ⟨_, rfl, by ((try simp only [ev_tmp, ev_const, ev_func, get_put, get_args, get_putL, get_putL_nil, Nat.reduceEqDiff, reduceIte, List.getD_cons_zero, List.getD_cons_succ, List.getD_nil, Bool.not_true, Bool.not_false]); first | done | with_reducible rfl)⟩) fun w9 hc9 hs9 hb9 => ?_
  · exact hR8.sl.one
  · simp
  have hE19 : Ext w1 w9 := hc9.ext (hE17.trans he8) (by omega)
  have hi9 : Ints w3.heap.size w4.heap.size w9 v4 p.ord := (hi7.same (he8.same _ _)).same (hc9.same (.inl (by omega)))
  have hp9 : Pc.Rows w5.heap.size w6.heap.size w9 v6 us6 p.pow := (hp7.same (he8.same _ _)).same (hc9.same (.inl (by omega)))
  have hq9 : Rowss w7.heap.size w8.heap.size w9 v8 us8 uss8 p.cnj := hR8.same (hc9.same (.inl (by omega)))
  have hr9 : Blk w9 br _ := (Blk.ext (x := he8) (h := hr7)).chg' hc9 (by omega)
  refine go ?_
  have hb9' : Blk w9 bo [v4, v6, v8] := hb9
  refine ra (v := .agg #[v4, v6, v8]) (h := rd_load_blk (hb := hb9') (by ((try simp only [ev_tmp, ev_const, ev_func, get_put, get_args, get_putL, get_putL_nil, Nat.reduceEqDiff, reduceIte, List.getD_cons_zero, List.getD_cons_succ, List.getD_nil]); first | done | with_reducible rfl)) rfl) (next := ?_)
  refine st_store_agg (vs := [v4, v6, v8]) (cs := _) (hb := hr9) (by ((try simp only [ev_tmp, ev_const, ev_func, get_put, get_args, get_putL, get_putL_nil, Nat.reduceEqDiff, reduceIte, List.getD_cons_zero, List.getD_cons_succ, List.getD_nil]); first | done | with_reducible rfl)) (by ((try simp only [ev_tmp, ev_const, ev_func, get_put, get_args, get_putL, get_putL_nil, Nat.reduceEqDiff, reduceIte, List.getD_cons_zero, List.getD_cons_succ, List.getD_nil]); first | done | with_reducible rfl)) rfl ?_ ?_ (by first | exact True.intro | exact ⟨_, rfl, by ((try simp only [ev_tmp, ev_const, ev_func, get_put, get_args, get_putL, get_putL_nil, Nat.reduceEqDiff, reduceIte, List.getD_cons_zero, List.getD_cons_succ, List.getD_nil, Bool.not_true, Bool.not_false]); first | done | with_reducible rfl)⟩) fun w10 hc10 hs10 hb10 => ?_
  · rfl
  · have e1 := hi9.sl.one
    have e2 := hp9.sl.one
    have e3 := hq9.sl.one
    simp [e1, e2, e3]
  refine go ?_
  refine retc (b := br) (hb := hb10) ⟨hc10.ext (he1.trans hE19) (by omega), ?_⟩ rfl
  have hi10 := (hi9.same (hc10.same (.inl (by omega)))).mono (lo' := w.heap.size) (hi' := w10.heap.size) (by omega) (by omega)
  have hp10 := (hp9.same (hc10.same (.inl (by omega)))).mono (lo' := w.heap.size) (hi' := w10.heap.size) (by omega) (by omega)
  have hq10 := rowss_mono (lo' := w.heap.size) (hi' := w10.heap.size) (hq9.same (hc10.same (.inl (by omega)))) (by omega) (by omega)
  exact ⟨⟨v4, v6, v8, us6, us8, uss8, rfl, hi10, hp10, hq10⟩⟩
set_option maxHeartbeats 1000000 in
theorem eqInt64SSS_ok {w : World} {va vb : Value} {us vs : List Value} {uss vss : List (List Value)} {xsss ysss : List (List (List Int))} {lo hi lo1 hi1 : Nat} [hx : Rowss lo hi w va us uss xsss] [hy : Rowss lo1 hi1 w vb vs vss ysss] (hm : ∀ i, (xsss.getD i []).length ≤ 2000000 ∧ ∀ j, ((xsss.getD i []).getD j []).length ≤ 2000000) (hl : xsss.length ≤ 10000000) :
    Calls Tryz.prog 33 #[va, vb] w (Ret fun v w' => ∃ b, v = .bool b ∧ (b = true ↔ xsss = ysss) ∧ Ext w w') := by
  have hul := hx.vals.len
  have hvl := hy.vals.len
  refine enter (args := [va, vb]) (l := [.tmp 4]) Tryz.func33 rfl rfl Tryz.ntmps33 (by simp) ?_
  refine go ?_
  refine c_if (fun h1 => ?_) (fun h1 => ?_)
  · refine go ?_
    refine ret1 ⟨_, rfl, ?_, Ext.refl _⟩
    simp only [Bool.false_eq_true, false_iff]
    rintro rfl
    omega
  · have hxy : xsss.length = ysss.length := by omega
    refine go ?_
    refine r_for xsss.length (fun k ρ w' => Has ρ [(0, va), (1, vb), (5, .int .i64 k)] ∧ Ext w w' ∧ ∀ i, i < k → xsss.getD i [] = ysss.getD i []) ?_ ?_
    · refine ⟨?_, Ext.refl _, fun i hi => by omega⟩
      exact hasP
    rintro k ρ w1 hk ⟨hH, he1, hI⟩
    refine rwp_has hH fun ρ0 => ?_
    refine go ?_
    refine c_if (fun h4 => ?_) (fun h4 => ?_)
    · refine go ?_
      refine d_region fun w2 he2 _ => ?_
      refine dgo ?_
      refine dce (eqInt64SS_ok (xss := xsss.getD k []) (yss := ysss.getD k []) (hm k).2 (by have := (hm k).1; omega)) (next := fun v3 w3 h3 => ?_)
      obtain ⟨b3, rfl, hb3, he3⟩ := h3
      refine dgo ?_
      refine d_end (h := ?_)
      refine go ?_
      refine c_b (fun h5 => ?_) (fun h5 => ?_)
      · refine go ?_
        refine ret1 ⟨_, rfl, ?_, (he1.trans he2).trans he3⟩
        simp only [Bool.false_eq_true, false_iff]
        rintro rfl
        have := hb3.2 rfl
        rw [this] at h5; cases h5
      · have h6 := hb3.1 (by simpa using h5)
        refine go ?_
        refine forQ_normal (by omega) ⟨?_, (he1.trans he2).trans he3, fun i hi => ?_⟩
        · exact hasP
        · by_cases e : i = k
          · subst e; exact h6
          · exact hI i (by omega)
    · refine go ?_
      refine ret1 ⟨_, rfl, ?_, he1⟩
      simp only [true_iff]
      apply List.ext_getElem hxy
      intro i h1 h2
      have := hI i (by omega)
      simpa [h1, h2] using this
theorem pr_ext {p q : Pr} (h1 : p.ord = q.ord) (h2 : p.pow = q.pow) (h3 : p.cnj = q.cnj) : p = q := by cases p; cases q; simp_all
set_option maxHeartbeats 1000000 in
theorem eqPresentation_ok {w : World} {va vb : Value} {p q : Pr} {lo hi lo1 hi1 : Nat} [hp : Pres lo hi w va p] [hq : Pres lo1 hi1 w vb q] (hs : SizeP p 2000000) :
    Calls Tryz.prog 13 #[va, vb] w (Ret fun v w' => ∃ b, v = .bool b ∧ (b = true ↔ p = q) ∧ Ext w w') := by
  have hs1 := hs.ord
  have hs2 := hs.pow
  have hs3 := hs.cnj
  obtain ⟨vo, vpw, vc, ps, cs, css, rfl, h1, h2, h3⟩ := hp.ex
  obtain ⟨vo', vpw', vc', ps', cs', css', rfl, h1', h2', h3'⟩ := hq.ex
  refine enter (args := [.agg #[vo, vpw, vc], .agg #[vo', vpw', vc']]) (l := [.tmp 4]) Tryz.func13 rfl rfl Tryz.ntmps13 (by simp) ?_
  refine go ?_
  refine st_box3 (by ((try simp only [ev_tmp, ev_const, ev_func, get_put, get_args, get_putL, get_putL_nil, Nat.reduceEqDiff, reduceIte, List.getD_cons_zero, List.getD_cons_succ, List.getD_nil]); first | done | with_reducible rfl)) (by first | exact True.intro | exact ⟨_, rfl, by ((try simp only [ev_tmp, ev_const, ev_func, get_put, get_args, get_putL, get_putL_nil, Nat.reduceEqDiff, reduceIte, List.getD_cons_zero, List.getD_cons_succ, List.getD_nil, Bool.not_true, Bool.not_false]); first | done | with_reducible rfl)⟩) fun w1 b he1 hb1 hsz1 hc0 hc1 hc2 => ?_
  refine go ?_
  refine st_box3 (by ((try simp only [ev_tmp, ev_const, ev_func, get_put, get_args, get_putL, get_putL_nil, Nat.reduceEqDiff, reduceIte, List.getD_cons_zero, List.getD_cons_succ, List.getD_nil]); first | done | with_reducible rfl)) (by first | exact True.intro | exact ⟨_, rfl, by ((try simp only [ev_tmp, ev_const, ev_func, get_put, get_args, get_putL, get_putL_nil, Nat.reduceEqDiff, reduceIte, List.getD_cons_zero, List.getD_cons_succ, List.getD_nil, Bool.not_true, Bool.not_false]); first | done | with_reducible rfl)⟩) fun w2 b' he2 hb2 hsz2 hc0' hc1' hc2' => ?_
  have hE2 := he1.trans he2
  have no : ∀ {w' : World}, p ≠ q → Ext w w' → ∃ b, Value.bool false = .bool b ∧ (b = true ↔ p = q) ∧ Ext w w' := fun h he => ⟨_, rfl, by simp [h], he⟩
  refine go ?_
  refine rc (eqInt64S_ok (xs := p.ord) (ys := q.ord) (by omega)) (next := fun v3 w3 h4 => ?_)
  obtain ⟨b3, rfl, hb3, he3⟩ := h4
  refine go ?_
  refine c_b (fun h5 => ?_) (fun h5 => ?_)
  · refine go ?_
    refine ret1 (no (fun e => ?_) (hE2.trans he3))
    rw [hb3.2 (by rw [e])] at h5; cases h5
  have e1 := hb3.1 (by simpa using h5)
  refine go ?_
  refine rc (eqInt64SS_ok (xss := p.pow) (yss := q.pow) (fun i => by have := hs.powi i; omega) (by omega)) (next := fun v4 w4 h6 => ?_)
  obtain ⟨b4, rfl, hb4, he4⟩ := h6
  refine go ?_
  refine c_b (fun h7 => ?_) (fun h7 => ?_)
  · refine go ?_
    refine ret1 (no (fun e => ?_) ((hE2.trans he3).trans he4))
    rw [hb4.2 (by rw [e])] at h7; cases h7
  have e2 := hb4.1 (by simpa using h7)
  refine go ?_
  refine rc (eqInt64SSS_ok (xsss := p.cnj) (ysss := q.cnj) (fun i => ⟨by have := hs.cnji i; omega, fun j => by have := hs.cnjij i j; omega⟩) (by omega)) (next := fun v5 w5 h8 => ?_)
  obtain ⟨b5, rfl, hb5, he5⟩ := h8
  refine go ?_
  refine c_b (fun h9 => ?_) (fun h9 => ?_)
  · refine go ?_
    refine ret1 (no (fun e => ?_) (((hE2.trans he3).trans he4).trans he5))
    rw [hb5.2 (by rw [e])] at h9; cases h9
  have e3 := hb5.1 (by simpa using h9)
  refine go ?_
  exact ret1 ⟨_, rfl, ⟨fun _ => pr_ext e1 e2 e3, fun _ => rfl⟩, ((hE2.trans he3).trans he4).trans he5⟩
end Go.Proofs.YtcohfmglfmomcaaGreat

/-
  Walks: the statement's own helpers that mark memory and read the marks (markInt64S, markInt64SS, heldInt64S, heldInt64SS).
  Conditions: stated at each theorem.
-/
namespace Go.Proofs.YtcohfmglfmomcaaGreat
open Go Go.Pc
set_option maxHeartbeats 1000000 in
theorem markInt64S_ok {s : Nat} {w : World} {v : Value} {xs : List Int} {k : Int} (hf : Fr s w v xs) (hk : 0 ≤ k) (hb : k + xs.length ≤ 9000000000000000000) :
    Calls Tryz.prog 21 #[v, .int .i64 k] w (Ret fun v' w' => v' = .int .i64 (k + xs.length) ∧ Fr s w' v (marks k xs.length) ∧ Wrt (fun b => xs ≠ [] ∧ v.ownBlock = some b) w w') := by
  by_cases hn : xs = []
  · subst hn
    have hx := hf.ints
    refine enter (args := [v, .int .i64 k]) (l := [.tmp 4]) Tryz.func21 rfl rfl Tryz.ntmps21 (by simp) ?_
    refine go ?_
    refine r_for 0 (fun i ρ w' => Has ρ [(0, v), (1, .int .i64 k), (5, .int .i64 i)] ∧ w' = w) ?_ ?_
    · refine ⟨?_, rfl⟩
      exact hasP
    rintro i ρ w2 hi ⟨hH, rfl⟩
    refine rwp_has hH fun ρ0 => ?_
    refine go ?_
    refine c_if (fun h4 => ?_) (fun h4 => ?_)
    · simp at h4; omega
    · refine go ?_
      exact ret1 (v := .int .i64 k) ⟨by simp, hf, .refl _⟩
  obtain ⟨e, b, hsb, ho⟩ := hf.own hn
  have hl := sl_len ho.own.toSl
  simp only [List.length_map] at hl
  refine enter (args := [v, .int .i64 k]) (l := [.tmp 4]) Tryz.func21 rfl rfl Tryz.ntmps21 (by simp) ?_
  refine go ?_
  refine r_for xs.length (fun i ρ w' => ∃ ys, Has ρ [(0, v), (1, .int .i64 (k + i)), (5, .int .i64 i)] ∧ Chg b w w' ∧ OwnI e b w' v ys ∧ ys.length = xs.length ∧ ∀ j : Nat, j < i → ys.getD j 0 = k + j) ?_ ?_
  · refine ⟨xs, ?_, Chg.refl _ _, ho, rfl, fun j hj => by omega⟩
    exact hasP
  have hblk := ho.block
  clear ho hf
  rintro i ρ w2 hi ⟨ys, hH, hc2, ho2, hl2, hI⟩
  refine rwp_has hH fun ρ0 => ?_
  refine go ?_
  refine c_if (fun h4 => ?_) (fun h4 => ?_)
  · refine go ?_
    refine st_store_int (by ((try simp only [ev_tmp, ev_const, ev_func, get_put, get_args, get_putL, get_putL_nil, Nat.reduceEqDiff, reduceIte, List.getD_cons_zero, List.getD_cons_succ, List.getD_nil]); first | done | with_reducible rfl)) (by ((try simp only [ev_tmp, ev_const, ev_func, get_put, get_args, get_putL, get_putL_nil, Nat.reduceEqDiff, reduceIte, List.getD_cons_zero, List.getD_cons_succ, List.getD_nil]); first | done | with_reducible rfl)) ?_ (by first | exact True.intro | exact ⟨_, rfl, by ((try simp only [ev_tmp, ev_const, ev_func, get_put, get_args, get_putL, get_putL_nil, Nat.reduceEqDiff, reduceIte, List.getD_cons_zero, List.getD_cons_succ, List.getD_nil, Bool.not_true, Bool.not_false]); first | done | with_reducible rfl)⟩) fun w3 hc3 hs3 ho3 => ?_
    · omega
    refine go ?_
    refine forQ_normal (by omega) ⟨_, ?_, hc2.trans hc3, ho3, by simp [hl2], fun j hj => ?_⟩
    · exact hasP
    · by_cases ee : i = j
      · subst ee; rw [Pc.getD_set_eq _ _ _ (by omega)]
      · rw [Pc.getD_set_ne _ _ _ _ ee]; exact hI j (by omega)
  · refine go ?_
    obtain rfl : i = xs.length := by omega
    have hy : ys = marks k xs.length := list_ext0 (by rw [marks_len]; exact hl2) fun j hj => by rw [hI j (by omega), marks_getD _ (by omega)]
    refine ret1 ⟨rfl, ?_, .one ⟨hn, hblk⟩ hc2⟩
    rw [← hy]
    exact ho2.toFr hsb
set_option maxHeartbeats 1000000 in
theorem heldInt64S_ok {w : World} {v : Value} {k : Int} {n lo hi : Nat} {xs : List Int} [hx : Ints lo hi w v xs] (hxs : xs = marks k n) (hk : 0 ≤ k) (hb : k + n ≤ 9000000000000000000) :
    Calls Tryz.prog 22 #[v, .int .i64 k] w (Ret fun v' w' => v' = .int .i64 (k + n) ∧ Ext w w') := by
  have hl : xs.length = n := by rw [hxs, marks_len]
  have hg : ∀ i, i < n → xs.getD i 0 = k + i := fun i hi => by rw [hxs, marks_getD _ hi]
  have hm : n ≤ 9223372036854775807 := by have := sl_len hx.sl; simp at this; omega
  refine enter (args := [v, .int .i64 k]) (l := [.tmp 4]) Tryz.func22 rfl rfl Tryz.ntmps22 (by simp) ?_
  refine go ?_
  refine r_for n (fun i ρ w' => Has ρ [(0, v), (1, .int .i64 (k + i)), (5, .int .i64 i)] ∧ Ext w w') ?_ ?_
  · refine ⟨?_, Ext.refl _⟩
    exact hasP
  rintro i ρ w2 hi ⟨hH, he2⟩
  refine rwp_has hH fun ρ0 => ?_
  refine go ?_
  refine c_if (fun h4 => ?_) (fun h4 => ?_)
  · have hgi := hg i (by omega)
    refine go ?_
    refine c_if (fun h5 => ?_) (fun h5 => ?_)
    · exact absurd hgi h5
    · refine go ?_
      refine forQ_normal (by omega) ⟨?_, he2⟩
      exact hasP
  · refine go ?_
    obtain rfl : i = n := by omega
    exact ret1 ⟨rfl, he2⟩
set_option maxHeartbeats 1000000 in
theorem heldInt64SS_ok {w : World} {v : Value} {k : Int} {lo hi : Nat} {us : List Value} {xss yss : List (List Int)} [hx : Pc.Rows lo hi w v us xss] (hxs : xss = markL k yss) (hk : 0 ≤ k) (hb : k + tot yss ≤ 9000000000000000000) :
    Calls Tryz.prog 16 #[v, .int .i64 k] w (Ret fun v' w' => v' = .int .i64 (k + tot yss) ∧ Ext w w') := by
  have hl : xss.length = yss.length := by rw [hxs, markL_len]
  have hul := hx.vals.len
  have hm := sl_len hx.sl
  have hg : ∀ i, i < yss.length → xss.getD i [] = marks (k + tot (yss.take i)) (yss.getD i []).length := fun i hi => by rw [hxs, markL_getD _ _ _ hi]
  refine enter (args := [v, .int .i64 k]) (l := [.tmp 4]) Tryz.func16 rfl rfl Tryz.ntmps16 (by simp) ?_
  refine go ?_
  refine r_for yss.length (fun i ρ w' => Has ρ [(0, v), (1, .int .i64 (k + tot (yss.take i))), (5, .int .i64 i)] ∧ Ext w w') ?_ ?_
  · refine ⟨?_, Ext.refl _⟩
    simp only [List.take_zero, tot]
    exact hasP
  rintro i ρ w2 hi ⟨hH, he2⟩
  refine rwp_has hH fun ρ0 => ?_
  have ht := tot_take_le yss i
  refine go ?_
  refine c_if (fun h4 => ?_) (fun h4 => ?_)
  · have hin : i < yss.length := by omega
    have hts := tot_take_succ yss hin
    have ht2 := tot_take_le yss (i + 1)
    refine go ?_
    refine rc (heldInt64S_ok (xs := xss.getD i []) (hg i hin) ?_ ?_) (next := fun v3 w3 h3 => ?_)
    · omega
    · omega
    obtain ⟨rfl, he3⟩ := h3
    refine go ?_
    refine c_if (fun h5 => ?_) (fun h5 => ?_)
    · omega
    · refine go ?_
      refine forQ_normal (by omega) ⟨?_, he2.trans he3⟩
      exact hasP
  · refine go ?_
    obtain rfl : i = yss.length := by omega
    refine ret1 ⟨?_, he2⟩
    rw [List.take_length]
theorem split_at {α : Type} (l : List α) {i : Nat} (h : i < l.length) : l = l.take i ++ l[i] :: l.drop (i + 1) := by
  rw [List.getElem_cons_drop]; exact (List.take_append_drop i l).symm
set_option maxHeartbeats 2000000 in
theorem markInt64SS_ok {A : Nat → Prop} {s : Nat} {w : World} {v : Value} {k : Int} {pre rs post : List (Value × List Int)} (hO : RowsO s w (pre ++ rs ++ post)) (hS : SpA A w v (rs.map (·.1))) (hA : ∀ b, BlkOf rs b → A b) (hk : 0 ≤ k) (hb : k + tot (rs.map (·.2)) ≤ 9000000000000000000) :
    Calls Tryz.prog 15 #[v, .int .i64 k] w (Ret fun v' w' => v' = .int .i64 (k + tot (rs.map (·.2))) ∧ RowsO s w' (pre ++ mkR k rs ++ post) ∧ Wrt (BlkOf rs) w w') := by
  have hm := sl_len hS.sl
  simp only [List.length_map] at hm
  have hsl := hS.sl
  have hlen := hsl.toLen
  refine enter (args := [v, .int .i64 k]) (l := [.tmp 4]) Tryz.func15 rfl rfl Tryz.ntmps15 (by simp) ?_
  refine go ?_
  refine r_for rs.length (fun i ρ w' => Has ρ [(0, v), (1, .int .i64 (k + tot ((rs.take i).map (·.2)))), (5, .int .i64 i)] ∧ RowsO s w' (pre ++ (mkR k (rs.take i) ++ rs.drop i) ++ post) ∧ Wrt (BlkOf rs) w w') ?_ ?_
  · refine ⟨?_, by simpa [mkR] using hO, .refl _⟩
    simp only [List.take_zero, List.map_nil, tot]
    exact hasP
  clear hO hsl hlen
  rintro i ρ w2 hi ⟨hH, hO2, hW2⟩
  refine rwp_has hH fun ρ0 => ?_
  have hS2 := hS.wr hW2 hA
  have hsl2 := hS2.sl
  have hlen2 := hsl2.toLen
  have hll : (rs.map (·.1)).length = rs.length := by simp
  have ht : tot ((rs.take i).map (·.2)) ≤ tot (rs.map (·.2)) := by rw [List.map_take]; exact tot_take_le _ _
  refine go ?_
  refine c_if (fun h4 => ?_) (fun h4 => ?_)
  · have hin : i < rs.length := by simp at h4; omega
    have e1 : Pc.rowAt v (rs.map (·.1)) i = rs[i].1 := by simp [Pc.rowAt, hin]
    have e2 : rs.drop i = rs[i] :: rs.drop (i + 1) := (List.getElem_cons_drop (h := hin)).symm
    have e3 : rs.take (i + 1) = rs.take i ++ [rs[i]] := List.take_succ_eq_append_getElem hin
    have hts : tot ((rs.take (i + 1)).map (·.2)) = tot ((rs.take i).map (·.2)) + (rs[i]).2.length := by rw [e3, List.map_append, tot_append]; simp [tot]
    have ht2 : tot ((rs.take (i + 1)).map (·.2)) ≤ tot (rs.map (·.2)) := by rw [List.map_take]; exact tot_take_le _ _
    have hO3 : RowsO s w2 ((pre ++ mkR k (rs.take i)) ++ rs[i] :: (rs.drop (i + 1) ++ post)) := by
      rw [e2] at hO2
      simpa only [List.append_assoc, List.cons_append] using hO2
    have hfr := hO3.fr rs[i] (by simp)
    refine go ?_
    refine ra (v := Pc.rowAt v (rs.map fun x : Value × List Int => x.1) i) (h := rd_load_sl (us := rs.map fun x : Value × List Int => x.1) (by ((try simp only [ev_tmp, ev_const, ev_func, get_put, get_args, get_putL, get_putL_nil, Nat.reduceEqDiff, reduceIte, List.getD_cons_zero, List.getD_cons_succ, List.getD_nil]); first | done | with_reducible rfl)) (by omega)) (next := ?_)
    rw [e1]
    refine go ?_
    refine rc (markInt64S_ok hfr ?_ ?_) (next := fun v3 w3 h3 => ?_)
    · omega
    · omega
    obtain ⟨rfl, hf3, hW3⟩ := h3
    have hO4 := hO3.upd hW3 hf3 marks_ne.1
    refine go ?_
    refine forQ_normal (by omega) ⟨?_, ?_, hW2.trans (hW3.mono fun b ⟨hn, e⟩ => ⟨_, List.getElem_mem hin, hn, e⟩)⟩
    · exact hasP
    · rw [e3, mkR_append]
      simpa only [mkR, List.append_assoc, List.cons_append, List.nil_append] using hO4
  · refine go ?_
    obtain rfl : i = rs.length := by simp at h4; omega
    rw [List.take_length] at hO2 ⊢
    exact ret1 ⟨rfl, by simpa using hO2, hW2⟩
end Go.Proofs.YtcohfmglfmomcaaGreat

/-
  Walks: copies that are the call's own (toInt64SSS, toPresentation), marks of presentations (markInt64SSS, markPresentation).
  Conditions: stated at each theorem.
-/
namespace Go.Proofs.YtcohfmglfmomcaaGreat
open Go Go.Pc
theorem toInt64SSM_ok {w : World} {v : Value} {us : List Value} {xss : List (List Int)} {lo hi : Nat} [hx : Pc.Rows lo hi w v us xss] (hl : xss.length ≤ 2000000) (hr : ∀ i, (xss.getD i []).length ≤ 2000000) :
    Calls Tryz.prog 10 #[v] w (Ret fun v' w' => Ext w w' ∧ ∃ rs, xss = rs.map (·.2) ∧ MatO w.heap.size w'.heap.size w' v' rs) :=
  Pc.Calls.ret_mono (toInt64SSO_ok hl hr) fun _ _ ⟨h1, rs, h2, h3, h4⟩ => by subst h3; exact ⟨h1, rs, rfl, MatO.ofLst h2 h4 h2.newRows⟩
theorem getD_nils {α : Type} (l : List α) (z : α) (m i : Nat) : (l ++ List.replicate m z).getD i z = l.getD i z := by
  by_cases h : i < l.length
  · simp [List.getElem?_append_left h, h]
  · rw [List.getD_eq_getElem?_getD, List.getElem?_append_right (by omega), List.getElem?_replicate]
    rw [List.getD_eq_getElem?_getD, List.getElem?_eq_none (by omega)]
    split <;> rfl
theorem rowss_of_cub {A : Nat → Prop} {s : Nat} {w : World} {v : Value} {gs : List (Value × List (Value × List Int))} {lo hi : Nat} (hs : Sl lo hi w v (gs.map (·.1))) (hlo : lo ≤ hi) (h : ∀ q, q ∈ gs → Pc.Rows lo hi w q.1 (q.2.map (·.1)) (q.2.map (·.2))) :
    Rowss lo hi w v (gs.map (·.1)) (gs.map fun q => q.2.map (·.1)) (gs.map fun q => q.2.map (·.2)) := by
  refine ⟨hs, by simp, by simp, fun i => ?_⟩
  by_cases hi' : i < gs.length
  · have := h gs[i] (List.getElem_mem hi')
    simpa [hi'] using this
  · have e1 : (gs.map (·.1)).getD i nilv = nilv := by rw [List.getD_eq_getElem?_getD, List.getElem?_eq_none (by simp; omega)]; rfl
    have e2 : (gs.map fun q => q.2.map (·.1)).getD i [] = [] := by rw [List.getD_eq_getElem?_getD, List.getElem?_eq_none (by simp; omega)]; rfl
    have e3 : (gs.map fun q => q.2.map (·.2)).getD i [] = [] := by rw [List.getD_eq_getElem?_getD, List.getElem?_eq_none (by simp; omega)]; rfl
    rw [e1, e2, e3]
    exact ⟨⟨⟨none, 0, rfl, Nat.le_refl _, by omega, fun k u hu => by simp at hu⟩⟩, rfl, fun i => ⟨⟨none, 0, by simp, by simp, by omega, fun k u hu => by simp at hu⟩⟩⟩
set_option maxHeartbeats 2000000 in
theorem toInt64SSSO_ok {w : World} {v : Value} {us : List Value} {uss : List (List Value)} {xsss : List (List (List Int))} {lo hi : Nat} [hx : Rowss lo hi w v us uss xsss] (hl : xsss.length ≤ 2000000) (hr : ∀ i, (xsss.getD i []).length ≤ 2000000 ∧ ∀ j, ((xsss.getD i []).getD j []).length ≤ 2000000) :
    Calls Tryz.prog 30 #[v] w (Ret fun v' w' => Ext w w' ∧ ∃ gs, xsss = gs.map (fun q => q.2.map (·.2)) ∧ RowsO w.heap.size w' (flat gs) ∧ CubO (fun b => BlkOf (flat gs) b ∨ b < w.heap.size) w' v' gs ∧ Rowss w.heap.size w'.heap.size w' v' (gs.map (·.1)) (gs.map fun q => q.2.map (·.1)) xsss) := by
  refine enter (args := [v]) (l := [.tmp 2]) Tryz.func30 rfl rfl Tryz.ntmps30 (by simp) ?_
  refine go ?_
  refine st_make_nil (by ((try simp only [ev_tmp, ev_const, ev_func, get_put, get_args, get_putL, get_putL_nil, Nat.reduceEqDiff, reduceIte, List.getD_cons_zero, List.getD_cons_succ, List.getD_nil]); first | done | with_reducible rfl)) (by ((try simp only [ev_tmp, ev_const, ev_func, get_put, get_args, get_putL, get_putL_nil, Nat.reduceEqDiff, reduceIte, List.getD_cons_zero, List.getD_cons_succ, List.getD_nil]); first | done | with_reducible rfl)) (by omega) (by omega) (by first | exact True.intro | exact ⟨_, rfl, by ((try simp only [ev_tmp, ev_const, ev_func, get_put, get_args, get_putL, get_putL_nil, Nat.reduceEqDiff, reduceIte, List.getD_cons_zero, List.getD_cons_succ, List.getD_nil, Bool.not_true, Bool.not_false]); first | done | with_reducible rfl)⟩) fun w1 v1 he1 hs1 ho1 => ?_
  refine go ?_
  refine r_for xsss.length (fun k ρ w' => ∃ gs : List (Value × List (Value × List Int)), Has ρ [(0, v), (3, v1), (4, .int .i64 k)] ∧ Ext w w' ∧ w.heap.size + 1 ≤ w'.heap.size ∧ Own 23 w.heap.size w' v1 (gs.map (·.1) ++ List.replicate (xsss.length - k) nilv) ∧ gs.length = k ∧ gs.map (fun q => q.2.map (·.2)) = xsss.take k ∧
    RowsO (w.heap.size + 1) w' (flat gs) ∧ (∀ q, q ∈ gs → SpA (fun b => BlkOf (flat gs) b ∨ b < w.heap.size + 1) w' q.1 (q.2.map (·.1))) ∧ ∀ q, q ∈ gs → Pc.Rows (w.heap.size + 1) w'.heap.size w' q.1 (q.2.map (·.1)) (q.2.map (·.2))) ?_ ?_
  · refine ⟨[], ?_, he1, by omega, by simpa using ho1, rfl, by simp, RowsO.nil _ _, fun q hq => (by cases hq), fun q hq => (by cases hq)⟩
    exact hasP
  clear ho1
  rintro k ρ w2 hk ⟨gs, hH, he2, hz2, ho2, hgl, hI, hO2, hS2, hR2⟩
  refine rwp_has hH fun ρ0 => ?_
  have hsl := ho2.toSl
  have hul : (gs.map (·.1) ++ List.replicate (xsss.length - k) nilv).length = xsss.length := by simp; omega
  refine go ?_
  refine c_if (fun h4 => ?_) (fun h4 => ?_)
  · have hkn : k < xsss.length := by omega
    refine go ?_
    refine rc (toInt64SSM_ok (xss := xsss.getD k []) (hr k).1 (hr k).2) (next := fun v3 w3 h3 => ?_)
    obtain ⟨he3, rs, hrs, hM3⟩ := h3
    have ho3 : Own 23 w.heap.size w3 v1 _ := Own.ext (h := ho2)
    have hsl3 := ho3.toSl
    have hlen3 := hsl3.toLen
    have hz3 := he3.size
    have hol := ho2.lt
    refine go ?_
    refine st_store_val (h := ho3) (by ((try simp only [ev_tmp, ev_const, ev_func, get_put, get_args, get_putL, get_putL_nil, Nat.reduceEqDiff, reduceIte, List.getD_cons_zero, List.getD_cons_succ, List.getD_nil]); first | done | with_reducible rfl)) (by ((try simp only [ev_tmp, ev_const, ev_func, get_put, get_args, get_putL, get_putL_nil, Nat.reduceEqDiff, reduceIte, List.getD_cons_zero, List.getD_cons_succ, List.getD_nil]); first | done | with_reducible rfl)) ?_ ?_ (by first | exact True.intro | exact ⟨_, rfl, by ((try simp only [ev_tmp, ev_const, ev_func, get_put, get_args, get_putL, get_putL_nil, Nat.reduceEqDiff, reduceIte, List.getD_cons_zero, List.getD_cons_succ, List.getD_nil, Bool.not_true, Bool.not_false]); first | done | with_reducible rfl)⟩) fun w4 hc4 hs4 ho4 => ?_
    · exact hM3.rows.sl.one
    · omega
    refine go ?_
    have e0 : xsss.length - k = (xsss.length - (k + 1)) + 1 := by omega
    have e1 := set_nils (gs.map (·.1)) nilv v3 (xsss.length - (k + 1))
    rw [List.length_map, hgl, ← e0] at e1
    rw [e1] at ho4
    have hW4 : Wrt (fun b => b = w.heap.size) w3 w4 := .one rfl hc4
    have hM4 := hM3.wr hW4 (fun b hb => .inl (by omega))
    have hf : flat (gs ++ [(v3, rs)]) = flat gs ++ rs := by rw [flat_append, flat_one]
    have hO3 := hO2.append he3 (by omega) hM3.own
    have hO4 := hO3.wr hW4 (fun b hb e => by have := (hO3.blk hb).1; omega)
    refine forQ_normal (by omega) ⟨gs ++ [(v3, rs)], ?_, hc4.ext (he2.trans he3) (Nat.le_refl _), by omega, by simpa using ho4, by simp [hgl], ?_, ?_, fun q hq => ?_, fun q hq => ?_⟩
    · exact hasP
    · rw [List.take_succ_eq_append_getElem hkn, List.map_append, hI]
      simp only [List.map_cons, List.map_nil, ← hrs]
      simp [hkn]
    · rw [hf]; exact hO4
    · rw [hf]
      rcases List.mem_append.1 hq with hq | hq
      · have h5 := (hS2 q hq).grow he3 (A' := fun b => BlkOf (flat gs ++ rs) b ∨ b < w.heap.size + 1) (fun b hb => by
          rcases hb with hb | hb
          · rcases blkOf_append'.1 hb with hb | hb
            · exact .inl (.inl hb)
            · exact .inr (hM3.own.blk hb).1
          · exact .inl (.inr hb))
        exact h5.wr hW4 (fun b hb => .inr (by omega))
      · obtain rfl := List.mem_singleton.1 hq
        refine SpA.weak hM4.sp fun b hb => ?_
        rcases hb with hb | hb
        · rcases blkOf_append'.1 hb with hb | hb
          · exact .inr (hO2.blk hb).2
          · exact .inl hb
        · exact .inr (by omega)
    · rcases List.mem_append.1 hq with hq | hq
      · exact (((hR2 q hq).same (he3.same _ _)).same (hc4.same (.inl (by omega)))).mono (Nat.le_refl _) (by omega)
      · obtain rfl := List.mem_singleton.1 hq
        exact hM4.rows.mono (by omega) (by omega)
  · refine go ?_
    obtain rfl : k = xsss.length := by omega
    rw [List.take_length] at hI
    rw [Nat.sub_self, List.replicate_zero, List.append_nil] at ho2
    have hol := ho2.lt
    refine ret1 ⟨he2, gs, hI.symm, hO2.mono (by omega), ⟨⟨_, _, ho2.toSl, fun b hb => ?_⟩, fun q hq => (hS2 q hq).weak fun b hb => hb.imp id (by omega)⟩, ?_⟩
    · rcases hb with hb | hb
      · have := (hO2.blk hb).1; omega
      · omega
    · rw [← hI]
      exact rowss_of_cub (A := fun _ => True) (s := 0) (ho2.toSl.mono (Nat.le_refl _) (by omega)) (by omega) fun q hq => (hR2 q hq).mono (by omega) (Nat.le_refl _)
theorem flat_blk {gs : List (Value × List (Value × List Int))} {q : Value × List (Value × List Int)} (hq : q ∈ gs) {b : Nat} (h : BlkOf q.2 b) : BlkOf (flat gs) b := by
  obtain ⟨r, hr, h1, h2⟩ := h
  refine ⟨r, ?_, h1, h2⟩
  unfold flat
  rw [List.mem_flatten]
  exact ⟨q.2, List.mem_map.2 ⟨q, hq, rfl⟩, hr⟩
theorem flat_tot (gs : List (Value × List (Value × List Int))) : (flat gs).map (·.2) = (gs.map fun q => q.2.map (·.2)).flatten := by
  unfold flat
  rw [List.map_flatten, List.map_map]; rfl
set_option maxHeartbeats 2000000 in
theorem markInt64SSS_ok {A : Nat → Prop} {s : Nat} {w : World} {v : Value} {k : Int} {gs : List (Value × List (Value × List Int))} {pre post : List (Value × List Int)} (hO : RowsO s w (pre ++ flat gs ++ post)) (hS : CubO A w v gs) (hA : ∀ b, BlkOf (flat gs) b → A b) (hk : 0 ≤ k) (hb : k + tot ((flat gs).map (·.2)) ≤ 9000000000000000000) :
    Calls Tryz.prog 34 #[v, .int .i64 k] w (Ret fun v' w' => v' = .int .i64 (k + tot ((flat gs).map (·.2))) ∧ RowsO s w' (pre ++ mkR k (flat gs) ++ post) ∧ Wrt (BlkOf (flat gs)) w w') := by
  have hm := sl_len hS.sp0.sl
  simp only [List.length_map] at hm
  have hsl := hS.sp0.sl
  have hlen := hsl.toLen
  refine enter (args := [v, .int .i64 k]) (l := [.tmp 4]) Tryz.func34 rfl rfl Tryz.ntmps34 (by simp) ?_
  refine go ?_
  refine r_for gs.length (fun i ρ w' => Has ρ [(0, v), (1, .int .i64 (k + tot ((flat (gs.take i)).map (·.2)))), (5, .int .i64 i)] ∧ RowsO s w' (pre ++ (mkR k (flat (gs.take i)) ++ flat (gs.drop i)) ++ post) ∧ Wrt (BlkOf (flat gs)) w w') ?_ ?_
  · refine ⟨?_, by simpa [mkR, flat] using hO, .refl _⟩
    have e : ((flat (gs.take 0)).map (·.2)) = [] := rfl
    rw [e]
    simp only [tot]
    exact hasP
  clear hO hsl hlen
  rintro i ρ w2 hi ⟨hH, hO2, hW2⟩
  refine rwp_has hH fun ρ0 => ?_
  have hS2 := hS.wr hW2 hA
  have hsl2 := hS2.sp0.sl
  have hlen2 := hsl2.toLen
  have hll : (gs.map (·.1)).length = gs.length := by simp
  have ht0 : ∀ j, tot ((flat (gs.take j)).map (·.2)) ≤ tot ((flat gs).map (·.2)) := fun j => by
    have e : flat gs = flat (gs.take j) ++ flat (gs.drop j) := by rw [← flat_append, List.take_append_drop]
    rw [e, List.map_append, tot_append]; omega
  have ht := ht0 i
  refine go ?_
  refine c_if (fun h4 => ?_) (fun h4 => ?_)
  · have hin : i < gs.length := by simp at h4; omega
    have e1 : Pc.rowAt v (gs.map (·.1)) i = gs[i].1 := by simp [Pc.rowAt, hin]
    have e2 : flat (gs.drop i) = gs[i].2 ++ flat (gs.drop (i + 1)) := by
      have e : gs.drop i = [gs[i]] ++ gs.drop (i + 1) := (List.getElem_cons_drop (h := hin)).symm
      rw [e, flat_append, flat_one]
    have e3 : flat (gs.take (i + 1)) = flat (gs.take i) ++ gs[i].2 := by rw [List.take_succ_eq_append_getElem hin, flat_append, flat_one]
    have hts : tot ((flat (gs.take (i + 1))).map (·.2)) = tot ((flat (gs.take i)).map (·.2)) + tot ((gs[i]).2.map (·.2)) := by rw [e3, List.map_append, tot_append]
    have ht2 := ht0 (i + 1)
    have hmem := List.getElem_mem hin
    have hO3 : RowsO s w2 ((pre ++ mkR k (flat (gs.take i))) ++ gs[i].2 ++ (flat (gs.drop (i + 1)) ++ post)) := by
      rw [e2] at hO2
      simpa only [List.append_assoc] using hO2
    refine go ?_
    refine ra (v := Pc.rowAt v (gs.map fun x : Value × List (Value × List Int) => x.1) i) (h := rd_load_sl (us := gs.map fun x : Value × List (Value × List Int) => x.1) (by ((try simp only [ev_tmp, ev_const, ev_func, get_put, get_args, get_putL, get_putL_nil, Nat.reduceEqDiff, reduceIte, List.getD_cons_zero, List.getD_cons_succ, List.getD_nil]); first | done | with_reducible rfl)) (by omega)) (next := ?_)
    rw [e1]
    refine go ?_
    refine rc (markInt64SS_ok hO3 (hS2.sp _ hmem) (fun b hb => hA b (flat_blk hmem hb)) ?_ ?_) (next := fun v3 w3 h3 => ?_)
    · omega
    · omega
    obtain ⟨rfl, hO4, hW3⟩ := h3
    refine go ?_
    refine forQ_normal (by omega) ⟨?_, ?_, hW2.trans (hW3.mono fun b hb => flat_blk hmem hb)⟩
    · exact hasP
    · rw [e3, mkR_append]
      simpa only [List.append_assoc] using hO4
  · refine go ?_
    obtain rfl : i = gs.length := by simp at h4; omega
    rw [List.take_length] at hO2 ⊢
    exact ret1 ⟨rfl, by simpa [flat] using hO2, hW2⟩
set_option maxHeartbeats 1000000 in
/-- Marks on a presentation that is the call's own. -/
theorem markPresentation_ok {s t : Nat} {w : World} {v : Value} {p : Pr} {k : Int} (hP : PresO s t w v p) (hk : 0 ≤ k) (hb : k + totP p ≤ 9000000000000000000) :
    Calls Tryz.prog 14 #[v, .int .i64 k] w (Ret fun v' w' => v' = .int .i64 (k + totP p) ∧ Wrt (fun b => s ≤ b ∧ b < t) w w') := by
  obtain ⟨vo, vp, vc, rp, gs, rfl, hO, hlt, hsp, hcub, hpow, hcnj, _, _, _⟩ := hP.ex
  have hA : ∀ b, BlkOf ((vo, p.ord) :: (rp ++ flat gs)) b → s ≤ b ∧ b < t := fun b hb => ⟨(hO.blk hb).1, hlt b hb⟩
  have e1 : totP p = p.ord.length + (tot (rp.map (·.2)) + tot ((flat gs).map (·.2))) := by rw [flat_tot, ← hpow, ← hcnj]; rfl
  refine enter (args := [.agg #[vo, vp, vc], .int .i64 k]) (l := [.tmp 4]) Tryz.func14 rfl rfl Tryz.ntmps14 (by simp) ?_
  refine go ?_
  refine st_box3 (by ((try simp only [ev_tmp, ev_const, ev_func, get_put, get_args, get_putL, get_putL_nil, Nat.reduceEqDiff, reduceIte, List.getD_cons_zero, List.getD_cons_succ, List.getD_nil]); first | done | with_reducible rfl)) (by first | exact True.intro | exact ⟨_, rfl, by ((try simp only [ev_tmp, ev_const, ev_func, get_put, get_args, get_putL, get_putL_nil, Nat.reduceEqDiff, reduceIte, List.getD_cons_zero, List.getD_cons_succ, List.getD_nil, Bool.not_true, Bool.not_false]); first | done | with_reducible rfl)⟩) fun w1 b he1 hb1 hs1 hc0 hc1 hc2 => ?_
  have hO1 := hO.ext he1
  have hB1 : ∀ g, BlkOf ((vo, p.ord) :: (rp ++ flat gs)) g → g ≠ b := fun g hg e => by have := (hO.blk hg).2; omega
  have hcell : ∀ {w2 : World} {j : Nat} {u : Value}, Cell w1 b j u → Wrt (BlkOf ((vo, p.ord) :: (rp ++ flat gs))) w1 w2 → Cell w2 b j u := fun h k => h.same (k.same fun g hg => by have := hB1 g hg; omega) k.size
  have hfr : Fr s w1 vo p.ord := hO1.fr _ List.mem_cons_self
  refine go ?_
  refine rc (markInt64S_ok hfr hk ?_) (next := fun v2 w2 h2 => ?_)
  · omega
  obtain ⟨rfl, hf2, hW2⟩ := h2
  have hW2' : Wrt (BlkOf ((vo, p.ord) :: (rp ++ flat gs))) w1 w2 := hW2.mono fun g ⟨hn, e⟩ => ⟨_, List.mem_cons_self, hn, e⟩
  have hO2 : RowsO s w2 ([] ++ (vo, marks k p.ord.length) :: (rp ++ flat gs)) := RowsO.upd (pre := []) (by simpa using hO1) hW2 hf2 marks_ne.1
  have hc0' := hcell hc0 hW2'
  have hc1' := hcell hc1 hW2'
  have hc2' := hcell hc2 hW2'
  have hO2' : RowsO s w2 (([(vo, marks k p.ord.length)]) ++ rp ++ flat gs) := by simpa using hO2
  have hsp2 := (SpA.grow hsp he1 (fun g hg => .inl hg)).wr hW2' (fun g hg => hg)
  refine go ?_
  refine rc (markInt64SS_ok hO2' hsp2 (fun g hg => ?_) ?_ ?_) (next := fun v3 w3 h3 => ?_)
  · obtain ⟨r, h1, h2⟩ := hg
    exact ⟨r, List.mem_cons_of_mem _ (List.mem_append_left _ h1), h2⟩
  · omega
  · omega
  obtain ⟨rfl, hO3, hW3⟩ := h3
  have hW3' : Wrt (BlkOf ((vo, p.ord) :: (rp ++ flat gs))) w2 w3 := hW3.mono fun g ⟨r, h1, h2⟩ => ⟨r, List.mem_cons_of_mem _ (List.mem_append_left _ h1), h2⟩
  have hc2'' := hcell hc2 (hW2'.trans hW3')
  have hO3' : RowsO s w3 (([(vo, marks k p.ord.length)] ++ mkR (k + p.ord.length) rp) ++ flat gs ++ []) := by simpa using hO3
  have hcub3 : CubO (BlkOf ((vo, p.ord) :: (rp ++ flat gs))) w3 vc gs := CubO.wr ⟨(SpA.grow hcub.sp0 he1 (fun g hg => .inl hg)).wr hW2' (fun g hg => hg), fun q hq => (SpA.grow (hcub.sp q hq) he1 (fun g hg => .inl hg)).wr hW2' (fun g hg => hg)⟩ hW3' (fun g hg => hg)
  clear hc0' hc1' hc2'
  refine go ?_
  refine rc (markInt64SSS_ok hO3' hcub3 (fun g hg => ?_) ?_ ?_) (next := fun v4 w4 h4 => ?_)
  · obtain ⟨r, h1, h2⟩ := hg
    exact ⟨r, List.mem_cons_of_mem _ (List.mem_append_right _ h1), h2⟩
  · omega
  · omega
  obtain ⟨rfl, hO4, hW4⟩ := h4
  refine go ?_
  refine ret1 ⟨?_, ?_⟩
  · rw [e1]
    exact int_congr (by omega)
  · refine (Wrt.ofExt he1).trans ((hW2'.mono hA).trans ((hW3'.mono hA).trans (hW4.mono fun g hg => hA g ?_)))
    obtain ⟨r, h1, h2⟩ := hg
    exact ⟨r, List.mem_cons_of_mem _ (List.mem_append_right _ h1), h2⟩
end Go.Proofs.YtcohfmglfmomcaaGreat

/-
  Walk: a copy of a presentation that is the call's own (toPresentation).
  Conditions: stated at the theorem.
-/
namespace Go.Proofs.YtcohfmglfmomcaaGreat
open Go Go.Pc
theorem rd_neqb {ρ : Env} {w : World} {ty tt : TypeId} {x y : Operand} {a b : Bool} (h : ev ρ x = .bool a) (k : ev ρ y = .bool b) : Rd Tryz.prog (.binOp .neq 4 x y tt) ty ρ w (.bool (!(a == b))) := by
  constructor; intro _ _ _ _
  simp [execOp, h, k, eqGuard, binOp, run_equal_bool w 4 a b Tryz.underlying4]
theorem rd_neqb_same {ρ : Env} {w : World} {ty tt : TypeId} {x y : Operand} {a : Bool} (h : ev ρ x = .bool a) (k : ev ρ y = .bool a) : Rd Tryz.prog (.binOp .neq 4 x y tt) ty ρ w (.bool false) := by
  have := rd_neqb (w := w) (ty := ty) (tt := tt) h k
  simpa using this
set_option maxHeartbeats 2000000 in
theorem toPresentationO_ok {w : World} {v : Value} {p : Pr} {lo hi : Nat} [hp : Pres lo hi w v p] (hs : SizeP p 2000000) :
    Calls Tryz.prog 9 #[v] w (Ret fun v w' => Ext w w' ∧ PresO w.heap.size w'.heap.size w' v p) := by
  have hs1 := hs.ord
  have hs2 := hs.pow
  have hs3 := hs.cnj
  obtain ⟨vo, vpw, vc, ps, cs, css, rfl, h1, h2, h3⟩ := hp.ex
  refine enter (args := [.agg #[vo, vpw, vc]]) (l := [.cell 2 31]) Tryz.func9 rfl rfl Tryz.ntmps9 (by simp) ?_
  refine go ?_
  refine st_box3 (by ((try simp only [ev_tmp, ev_const, ev_func, get_put, get_args, get_putL, get_putL_nil, Nat.reduceEqDiff, reduceIte, List.getD_cons_zero, List.getD_cons_succ, List.getD_nil]); first | done | with_reducible rfl)) (by first | exact True.intro | exact ⟨_, rfl, by ((try simp only [ev_tmp, ev_const, ev_func, get_put, get_args, get_putL, get_putL_nil, Nat.reduceEqDiff, reduceIte, List.getD_cons_zero, List.getD_cons_succ, List.getD_nil, Bool.not_true, Bool.not_false]); first | done | with_reducible rfl)⟩) fun w1 b he1 hb1 hsz1 hc0 hc1 hc2 => ?_
  refine go ?_
  refine st_alloc (by first | exact True.intro | exact ⟨_, rfl, by ((try simp only [ev_tmp, ev_const, ev_func, get_put, get_args, get_putL, get_putL_nil, Nat.reduceEqDiff, reduceIte, List.getD_cons_zero, List.getD_cons_succ, List.getD_nil, Bool.not_true, Bool.not_false]); first | done | with_reducible rfl)⟩) fun w2 br he2 hbr hsz2 hbk2 => ?_
  refine go ?_
  refine st_alloc (by first | exact True.intro | exact ⟨_, rfl, by ((try simp only [ev_tmp, ev_const, ev_func, get_put, get_args, get_putL, get_putL_nil, Nat.reduceEqDiff, reduceIte, List.getD_cons_zero, List.getD_cons_succ, List.getD_nil, Bool.not_true, Bool.not_false]); first | done | with_reducible rfl)⟩) fun w3 bo he3 hbo hsz3 hbk3 => ?_
  have hE3 := (he1.trans he2).trans he3
  refine go ?_
  refine rc (toInt64S_ok (xs := p.ord) (by omega)) (next := fun v4 w4 h4 => ?_)
  obtain ⟨he4, hf4⟩ := h4
  have hb4 : Blk w4 bo _ := Blk.ext (h := hbk3)
  have hz4 := he4.size
  refine go ?_
  refine st_store_fld (h := hb4) (by ((try simp only [ev_tmp, ev_const, ev_func, get_put, get_args, get_putL, get_putL_nil, Nat.reduceEqDiff, reduceIte, List.getD_cons_zero, List.getD_cons_succ, List.getD_nil]); first | done | with_reducible rfl)) (by ((try simp only [ev_tmp, ev_const, ev_func, get_put, get_args, get_putL, get_putL_nil, Nat.reduceEqDiff, reduceIte, List.getD_cons_zero, List.getD_cons_succ, List.getD_nil]); first | done | with_reducible rfl)) ?_ ?_ (by first | exact True.intro | exact ⟨_, rfl, by ((try simp only [ev_tmp, ev_const, ev_func, get_put, get_args, get_putL, get_putL_nil, Nat.reduceEqDiff, reduceIte, List.getD_cons_zero, List.getD_cons_succ, List.getD_nil, Bool.not_true, Bool.not_false]); first | done | with_reducible rfl)⟩) fun w5 hc5 hs5 hb5 => ?_
  · exact hf4.ints.sl.one
  · simp
  have hE15 : Ext w1 w5 := hc5.ext ((he2.trans he3).trans he4) (by have := he2.size; omega)
  have hz15 := hE15.size
  have hz2 := he2.size
  have hi5 : Ints w3.heap.size w4.heap.size w5 v4 p.ord := hf4.ints.same (hc5.same (.inl (by omega)))
  have hr5 : Blk w5 br _ := (Blk.ext (x := he3.trans he4) (h := hbk2)).chg' hc5 (by omega)
  have hO4 : RowsO w3.heap.size w4 [(v4, p.ord)] := (RowsO.nil w3.heap.size w3).push he4 (Nat.le_refl _) hf4
  have hO5 : RowsO w3.heap.size w5 [(v4, p.ord)] := hO4.wr (.one (B := fun g => g = bo) rfl hc5) (fun g hg e => by have := (hO4.blk hg).1; omega)
  refine go ?_
  refine rc (toInt64SSM_ok (xss := p.pow) (by omega) (fun i => by have := hs.powi i; omega)) (next := fun v6 w6 h6 => ?_)
  obtain ⟨he6, rp, hrp, hM6⟩ := h6
  have hN6 := hM6.rows
  have hb6 : Blk w6 bo _ := Blk.ext (h := hb5)
  have hz6 := he6.size
  refine go ?_
  refine st_store_fld (h := hb6) (by ((try simp only [ev_tmp, ev_const, ev_func, get_put, get_args, get_putL, get_putL_nil, Nat.reduceEqDiff, reduceIte, List.getD_cons_zero, List.getD_cons_succ, List.getD_nil]); first | done | with_reducible rfl)) (by ((try simp only [ev_tmp, ev_const, ev_func, get_put, get_args, get_putL, get_putL_nil, Nat.reduceEqDiff, reduceIte, List.getD_cons_zero, List.getD_cons_succ, List.getD_nil]); first | done | with_reducible rfl)) ?_ ?_ (by first | exact True.intro | exact ⟨_, rfl, by ((try simp only [ev_tmp, ev_const, ev_func, get_put, get_args, get_putL, get_putL_nil, Nat.reduceEqDiff, reduceIte, List.getD_cons_zero, List.getD_cons_succ, List.getD_nil, Bool.not_true, Bool.not_false]); first | done | with_reducible rfl)⟩) fun w7 hc7 hs7 hb7 => ?_
  · exact hN6.sl.one
  · simp
  have hE17 : Ext w1 w7 := hc7.ext (hE15.trans he6) (by omega)
  have hi7 : Ints w3.heap.size w4.heap.size w7 v4 p.ord := (hi5.same (he6.same _ _)).same (hc7.same (.inl (by omega)))
  have hM7 := hM6.wr (.one (B := fun g => g = bo) rfl hc7) (fun g hg => .inl (by omega))
  have hp7 := hM7.rows
  have hr7 : Blk w7 br _ := (Blk.ext (x := he6) (h := hr5)).chg' hc7 (by omega)
  have hO6 := hO5.append he6 (by omega) hM6.own
  have hO7 := hO6.wr (.one (B := fun g => g = bo) rfl hc7) (fun g hg e => by have := (hO6.blk hg).1; omega)
  refine go ?_
  refine rc (toInt64SSSO_ok (xsss := p.cnj) (by omega) (fun i => ⟨by have := hs.cnji i; omega, fun j => by have := hs.cnjij i j; omega⟩)) (next := fun v8 w8 h8 => ?_)
  obtain ⟨he8, gs, hgs, hOg, hCu, hR8⟩ := h8
  have hb8 : Blk w8 bo _ := Blk.ext (h := hb7)
  have hz8 := he8.size
  have hO8 := hO7.append he8 (by omega) hOg
  have hAll : ∀ g, BlkOf ([(v4, p.ord)] ++ rp ++ flat gs) g → (w3.heap.size ≤ g ∧ g < w5.heap.size) ∨ BlkOf rp g ∨ w7.heap.size ≤ g := fun g hg => by
    rcases blkOf_append'.1 hg with hg | hg
    · rcases blkOf_append'.1 hg with hg | hg
      · exact .inl (hO5.blk hg)
      · exact .inr (.inl hg)
    · exact .inr (.inr (hOg.blk hg).1)
  have hsp8 : SpA (fun g => BlkOf ([(v4, p.ord)] ++ rp ++ flat gs) g ∨ g < w3.heap.size) w8 v6 (rp.map (·.1)) := hM7.sp.grow he8 fun g hg => by
    rcases hg with hg | hg
    · rcases hAll g hg with h | h | h
      · exact .inl (.inr h.2)
      · exact .inl (.inl h)
      · exact .inr h
    · exact .inl (.inr (by omega))
  have hcu8 : CubO (fun g => BlkOf ([(v4, p.ord)] ++ rp ++ flat gs) g ∨ g < w3.heap.size) w8 v8 gs := by
    have hA : ∀ g, (BlkOf ([(v4, p.ord)] ++ rp ++ flat gs) g ∨ g < w3.heap.size) → BlkOf (flat gs) g ∨ g < w7.heap.size := fun g hg => by
      rcases hg with hg | hg
      · rcases blkOf_append'.1 hg with hg | hg
        · have := (hO7.blk hg).2; exact .inr this
        · exact .inl hg
      · exact .inr (by omega)
    exact ⟨hCu.sp0.weak hA, fun q hq => (hCu.sp q hq).weak hA⟩
  refine go ?_
  refine st_store_fld (h := hb8) (by ((try simp only [ev_tmp, ev_const, ev_func, get_put, get_args, get_putL, get_putL_nil, Nat.reduceEqDiff, reduceIte, List.getD_cons_zero, List.getD_cons_succ, List.getD_nil]); first | done | with_reducible rfl)) (by ((try simp only [ev_tmp, ev_const, ev_func, get_put, get_args, get_putL, get_putL_nil, Nat.reduceEqDiff, reduceIte, List.getD_cons_zero, List.getD_cons_succ, List.getD_nil]); first | done | with_reducible rfl)) ?_ ?_ (by first | exact True.intro | exact ⟨_, rfl, by ((try simp only [ev_tmp, ev_const, ev_func, get_put, get_args, get_putL, get_putL_nil, Nat.reduceEqDiff, reduceIte, List.getD_cons_zero, List.getD_cons_succ, List.getD_nil, Bool.not_true, Bool.not_false]); first | done | with_reducible rfl)⟩) fun w9 hc9 hs9 hb9 => ?_
  · exact hR8.sl.one
  · simp
  have hE19 : Ext w1 w9 := hc9.ext (hE17.trans he8) (by omega)
  have hi9 : Ints w3.heap.size w4.heap.size w9 v4 p.ord := (hi7.same (he8.same _ _)).same (hc9.same (.inl (by omega)))
  have hp9 := (hp7.same (he8.same _ _)).same (hc9.same (.inl (by omega)))
  have hq9 := hR8.same (hc9.same (.inl (by omega)))
  have hr9 : Blk w9 br _ := (Blk.ext (x := he8) (h := hr7)).chg' hc9 (by omega)
  refine go ?_
  have hb9' : Blk w9 bo [v4, v6, v8] := hb9
  refine ra (v := .agg #[v4, v6, v8]) (h := rd_load_blk (hb := hb9') (by ((try simp only [ev_tmp, ev_const, ev_func, get_put, get_args, get_putL, get_putL_nil, Nat.reduceEqDiff, reduceIte, List.getD_cons_zero, List.getD_cons_succ, List.getD_nil]); first | done | with_reducible rfl)) rfl) (next := ?_)
  refine st_store_agg (vs := [v4, v6, v8]) (cs := _) (hb := hr9) (by ((try simp only [ev_tmp, ev_const, ev_func, get_put, get_args, get_putL, get_putL_nil, Nat.reduceEqDiff, reduceIte, List.getD_cons_zero, List.getD_cons_succ, List.getD_nil]); first | done | with_reducible rfl)) (by ((try simp only [ev_tmp, ev_const, ev_func, get_put, get_args, get_putL, get_putL_nil, Nat.reduceEqDiff, reduceIte, List.getD_cons_zero, List.getD_cons_succ, List.getD_nil]); first | done | with_reducible rfl)) rfl ?_ ?_ (by first | exact True.intro | exact ⟨_, rfl, by ((try simp only [ev_tmp, ev_const, ev_func, get_put, get_args, get_putL, get_putL_nil, Nat.reduceEqDiff, reduceIte, List.getD_cons_zero, List.getD_cons_succ, List.getD_nil, Bool.not_true, Bool.not_false]); first | done | with_reducible rfl)⟩) fun w10 hc10 hs10 hb10 => ?_
  · rfl
  · have e1 := hi9.sl.one
    have e2 := hp9.sl.one
    have e3 := hq9.sl.one
    simp [e1, e2, e3]
  have hW10 : Wrt (fun g => g = bo ∨ g = br) w8 w10 := (Wrt.one (.inl rfl) hc9).trans (.one (.inr rfl) hc10)
  have hO10 := hO8.wr hW10 (fun g hg e => by have := (hO8.blk hg).1; omega)
  have hlow : ∀ g, (g = bo ∨ g = br) → BlkOf ([(v4, p.ord)] ++ rp ++ flat gs) g ∨ g < w3.heap.size := fun g hg => .inr (by omega)
  refine go ?_
  refine retc (b := br) (hb := hb10) ⟨hc10.ext (he1.trans hE19) (by omega), ?_⟩ rfl
  have hi10 := (hi9.same (hc10.same (.inl (by omega)))).mono (lo' := w.heap.size) (hi' := w10.heap.size) (by omega) (by omega)
  have hp10 := (hp9.same (hc10.same (.inl (by omega)))).mono (lo' := w.heap.size) (hi' := w10.heap.size) (by omega) (by omega)
  have hq10 := rowss_mono (lo' := w.heap.size) (hi' := w10.heap.size) (hq9.same (hc10.same (.inl (by omega)))) (by omega) (by omega)
  have e : (v4, p.ord) :: (rp ++ flat gs) = [(v4, p.ord)] ++ rp ++ flat gs := by simp
  rw [hgs] at hq10
  refine ⟨v4, v6, v8, rp, gs, rfl, ?_, ?_, ?_, ?_, hrp, hgs, hi10, hp10, hq10⟩ <;> rw [e]
  · exact hO10.mono (by omega)
  · exact fun g hg => (hO10.blk hg).2
  · exact (hsp8.wr hW10 hlow).weak fun g hg => .inl hg
  · exact ⟨(hcu8.sp0.wr hW10 hlow).weak fun g hg => .inl hg, fun q hq => ((hcu8.sp q hq).wr hW10 hlow).weak fun g hg => .inl hg⟩
/-- The number of integers of a presentation of bounded sizes. -/
theorem totP_le {p : Pr} (hs : SizeP p 1048576) : totP p ≤ 1048576 + (1048576 * 1048576 + 1048576 * (1048576 * 1048576)) := by
  have h1 := hs.ord
  have h2 := hs.pow
  have h3 := hs.cnj
  have e2 : tot p.pow ≤ p.pow.length * 1048576 := tot_le _ fun x hx => by
    obtain ⟨i, hi, rfl⟩ := List.getElem_of_mem hx
    have := hs.powi i
    simp only [List.getD_eq_getElem?_getD, List.getElem?_eq_getElem hi, Option.getD_some] at this
    omega
  have e3 : tot p.cnj.flatten ≤ p.cnj.length * (1048576 * 1048576) := tot_flatten _ fun x hx => by
    obtain ⟨i, hi, rfl⟩ := List.getElem_of_mem hx
    have h4 := hs.cnji i
    simp only [List.getD_eq_getElem?_getD, List.getElem?_eq_getElem hi, Option.getD_some] at h4
    refine ⟨by omega, fun y hy => ?_⟩
    obtain ⟨j, hj, rfl⟩ := List.getElem_of_mem hy
    have h5 := hs.cnjij i j
    simp only [List.getD_eq_getElem?_getD, List.getElem?_eq_getElem hi, Option.getD_some, List.getElem?_eq_getElem hj] at h5
    omega
  unfold totP
  omega
theorem SizeP.mono {p : Pr} {k j : Int} (h : SizeP p k) (hkj : k ≤ j) : SizeP p j :=
  ⟨by have := h.ord; omega, by have := h.pow; omega, fun i => by have := h.powi i; omega, by have := h.cnj; omega, fun i => by have := h.cnji i; omega, fun i j => by have := h.cnjij i j; omega⟩
theorem tot_rows_le {xss : List (List Int)} {n : Nat} (hl : xss.length ≤ n) (hr : ∀ i, (xss.getD i []).length ≤ n) : tot xss ≤ n * n :=
  Nat.le_trans (tot_le xss fun x hx => by
    obtain ⟨i, hi, rfl⟩ := List.getElem_of_mem hx
    have := hr i
    simpa [hi] using this) (Nat.mul_le_mul_right _ hl)
end Go.Proofs.YtcohfmglfmomcaaGreat

/-
  Arguments that read as slices of integers, slices of slices, slices of slices of slices: what the calculus knows of them.
  Conditions: none; nothing of the program stands here.
-/
namespace Go.Pc
open Go Go.RowKit Go.Deep Go.ChangeShapes Go.WideShapes
section
variable {H : Type} {enc : TypeId × Value → H} {P : Program} {w : World} {base : Nat} {held : Bool} {fuel : Nat} {v : Value} {x : DataW H × List MemPlace}
theorem ints_of_trod {t e : TypeId} (ht : P.underlying t = some (.slice e)) (he : P.underlying e = some (.int .i64)) (hc : P.cellsOf e = 1) (h : DataW.trod enc P w base (fun _ => true) held fuel t [v] = some x) : ∃ xs, Ints 0 w.heap.size w v xs := by
  rcases open_ints ht he hc h with ⟨hcs, _⟩ | ⟨a, len, cap, zs, hcs, _, hl, hm, hz, _, hcell, _⟩
  · have : v = nilv := by simpa using hcs
    subst this
    exact ⟨[], (Ints.nil_ w).mono (Nat.le_refl 0) (Nat.zero_le _)⟩
  · have : v = .slice (some a) len cap := by simpa using hcs
    subst this
    simp only [if_true] at hz
    have hlen : (zs.take len).length = len := by rw [List.length_take]; omega
    refine ⟨zs.take len, ⟨⟨some a, cap, by rw [List.length_map, hlen], by rw [List.length_map, hlen]; omega, by simp only [maxLen] at hm; omega, fun k u hu => ?_⟩⟩⟩
    rw [List.getElem?_map, List.getElem?_take] at hu
    split at hu
    · have hk : k < zs.length := by omega
      have hck := hcell k hk
      rw [List.getElem?_eq_getElem hk] at hu
      simp only [Option.map_some, Option.some.injEq] at hu
      have e : zs.getD k 0 = zs[k] := by simp [hk]
      rw [e, hu] at hck
      exact ⟨a, rfl, Nat.zero_le _, by have := block_lt hck; rwa [add_block] at this, hck⟩
    · cases hu
theorem sl_of {a : Addr} {len cap m : Nat} {V : Nat → Value} (hl : len ≤ cap) (hm : cap ≤ maxLen) (hlm : len ≤ m) (hx : ∀ i, i < m → w.cell? (a.add i) = some (V i)) : Sl 0 w.heap.size w (.slice (some a) len cap) ((List.range len).map V) := by
  refine ⟨⟨some a, cap, by simp, by simpa using hl, by simp only [maxLen] at hm; omega, fun k u hu => ?_⟩⟩
  rw [List.getElem?_map] at hu
  by_cases hk : k < len
  · rw [List.getElem?_range hk] at hu
    simp only [Option.map_some, Option.some.injEq] at hu
    have hck := hx k (by omega)
    rw [hu] at hck
    exact ⟨a, rfl, Nat.zero_le _, by have := block_lt hck; rwa [add_block] at this, hck⟩
  · rw [List.getElem?_eq_none (by simp; omega)] at hu; cases hu
theorem getD_map_range {α : Type} {n i : Nat} {f : Nat → α} {d : α} (h : i < n) : ((List.range n).map f).getD i d = f i := by simp [h]
theorem getD_map_range' {α : Type} {n i : Nat} {f : Nat → α} {d : α} (h : ¬ i < n) : ((List.range n).map f).getD i d = d := by
  rw [List.getD_eq_getElem?_getD, List.getElem?_eq_none (by simp; omega)]; rfl
theorem Rows.nil_ (w : World) : Rows 0 w.heap.size w nilv [] [] :=
  ⟨⟨⟨none, 0, rfl, Nat.le_refl _, by omega, fun k u hu => by simp at hu⟩⟩, rfl, fun i => by simpa using (Ints.nil_ w).mono (Nat.le_refl 0) (Nat.zero_le _)⟩
theorem rows_of_trod {t e q : TypeId} (ht : P.underlying t = some (.slice e)) (he : P.underlying e = some (.slice q)) (hq : P.underlying q = some (.int .i64)) (ce : P.cellsOf e = 1) (cq : P.cellsOf q = 1)
    (h : DataW.trod enc P w base (fun _ => true) held fuel t [v] = some x) : ∃ us xss, Rows 0 w.heap.size w v us xss := by
  rcases open_slice1 ht ce h with ⟨hcs, _⟩ | ⟨a, len, cap, m, n, V, D, Pl, hcs, _, hl, hm, hmm, _, hx⟩
  · have : v = nilv := by simpa using hcs
    subst this
    exact ⟨[], [], Rows.nil_ w⟩
  · have : v = .slice (some a) len cap := by simpa using hcs
    subst this
    simp only [if_true] at hmm
    have hlm : len ≤ m := by omega
    obtain ⟨X, hX⟩ := choose_lt (α := List Int) (n := len) (p := fun i xs => Ints 0 w.heap.size w (V i) xs) fun i hi => ints_of_trod he hq cq (hx i (by omega)).2
    refine ⟨(List.range len).map V, (List.range len).map X, sl_of hl hm hlm fun i hi => (hx i hi).1, by simp, fun i => ?_⟩
    by_cases hi : i < len
    · rw [getD_map_range hi, getD_map_range hi]; exact hX i hi
    · rw [getD_map_range' hi, getD_map_range' hi]; exact (Ints.nil_ w).mono (Nat.le_refl 0) (Nat.zero_le _)
theorem rowss_of_trod {t e q r : TypeId} (ht : P.underlying t = some (.slice e)) (he : P.underlying e = some (.slice q)) (hq : P.underlying q = some (.slice r)) (hr : P.underlying r = some (.int .i64)) (ce : P.cellsOf e = 1) (cq : P.cellsOf q = 1) (cr : P.cellsOf r = 1)
    (h : DataW.trod enc P w base (fun _ => true) held fuel t [v] = some x) : ∃ us uss xsss, Rowss 0 w.heap.size w v us uss xsss := by
  rcases open_slice1 ht ce h with ⟨hcs, _⟩ | ⟨a, len, cap, m, n, V, D, Pl, hcs, _, hl, hm, hmm, _, hx⟩
  · have : v = nilv := by simpa using hcs
    subst this
    exact ⟨[], [], [], ⟨⟨none, 0, rfl, Nat.le_refl _, by omega, fun k u hu => by simp at hu⟩⟩, rfl, rfl, fun i => by simpa using Rows.nil_ w⟩
  · have : v = .slice (some a) len cap := by simpa using hcs
    subst this
    simp only [if_true] at hmm
    have hlm : len ≤ m := by omega
    obtain ⟨X, hX⟩ := choose_lt (α := List Value × List (List Int)) (n := len) (p := fun i y => Rows 0 w.heap.size w (V i) y.1 y.2) fun i hi => by
      obtain ⟨us, xss, hR⟩ := rows_of_trod he hq hr cq cr (hx i (by omega)).2
      exact ⟨(us, xss), hR⟩
    refine ⟨(List.range len).map V, (List.range len).map fun i => (X i).1, (List.range len).map fun i => (X i).2, sl_of hl hm hlm fun i hi => (hx i hi).1, by simp, by simp, fun i => ?_⟩
    by_cases hi : i < len
    · rw [getD_map_range hi, getD_map_range hi, getD_map_range hi]; exact hX i hi
    · rw [getD_map_range' hi, getD_map_range' hi, getD_map_range' hi]; exact Rows.nil_ w
end
end Go.Pc

/-
  Answers: the action on cosets.
  Conditions: none.
-/
namespace Go.Proofs.YtcohfmglfmomcaaGreat
open Go Go.Pc
/-- The element of the transversal with an index. -/
def trE (p : Pr) [hc : ConAll p] (ys : List (El p)) (i : Nat) : El p := elAtT hc.valid (freeL p ys p.n) (fun _ hd => freeL_lt hd) i (by omega)
theorem trE_val {p : Pr} [hc : ConAll p] (ys : List (El p)) (i : Nat) : (trE p ys i).v = elTo p (freeL p ys p.n) (freeL p ys p.n).length (i : Int) := rfl
theorem transL_at {p : Pr} [hc : ConAll p] (ys : List (El p)) {i : Nat} (hi : i < (transL p ys).length) : (transL p ys).getD i [] = (trE p ys i).v := by
  rw [transL_eq hc.valid] at hi ⊢
  simp only [List.length_map, List.length_range] at hi
  simp [hi, trE_val]
theorem transL_len {p : Pr} (hv : Valid p) (ys : List (El p)) : (transL p ys).length = (idxOf p ys).toNat := by rw [transL_eq hv]; simp
def CaAt (p : Pr) [ConAll p] (ys : List (El p)) (x : El p) (i : Nat) (a : Int) : Prop := ∃ r : El p, RepOf ys (x⁻¹ * trE p ys i) r ∧ a = numF p (freeL p ys p.n) r
theorem CaAt.uniq {p : Pr} [ConAll p] {ys : List (El p)} (hs : SeqEl ys) {x : El p} {i : Nat} {a b : Int} (h : CaAt p ys x i a) (k : CaAt p ys x i b) : a = b := by
  obtain ⟨r, h1, h2⟩ := h
  obtain ⟨s, k1, k2⟩ := k
  rw [h2, k2, RepOf.unique hs h1 k1]
def CaV (p : Pr) (xss : List (List Int)) (xs r : List Int) (e : Int) : Prop := ∃ (_ : ConAll p) (ys : List (El p)) (x : El p), xss = vecs ys ∧ xs = x.v ∧ ((128 < idxOf p ys ∧ r = [] ∧ e = 3) ∨ (idxOf p ys ≤ 128 ∧ (r.length = (idxOf p ys).toNat ∧ ∀ i, i < r.length → CaAt p ys x i (r.getD i 0)) ∧ e = 0))
theorem CaV.uniq {p : Pr} {xss : List (List Int)} {xs : List Int} (hS : IsSubP p xss) (a b : List Int) (c d : Int) (h : CaV p xss xs a c) (k : CaV p xss xs b d) : a = b ∧ c = d := by
  obtain ⟨hc, ys, x, h1, hx, h2⟩ := h
  obtain ⟨_, ys', x', k1, kx, k2⟩ := k
  obtain ⟨hG, hq⟩ := hS
  obtain ⟨zs, hzs, hse⟩ := isSeq_iff.1 hq
  obtain rfl : ys = zs := vecs_inj (h1.symm.trans hzs)
  obtain rfl : ys' = ys := vecs_inj (k1.symm.trans hzs)
  obtain rfl : x = x' := T.ext (hx.symm.trans kx)
  rcases h2 with ⟨h3, h4, h5⟩ | ⟨h3, ⟨h4, h6⟩, h5⟩ <;> rcases k2 with ⟨k3, k4, k5⟩ | ⟨k3, ⟨k4, k6⟩, k5⟩
  · exact ⟨by rw [h4, k4], by rw [h5, k5]⟩
  · omega
  · omega
  · exact ⟨list_ext0 (by omega) fun i hi => CaAt.uniq hse (h6 i hi) (k6 i (by omega)), by rw [h5, k5]⟩
theorem CosetAction_sz0 {p : Pr} {xss : List (List Int)} {xs r : List Int} {e : Int} (_ : p.ord.length ≤ 2000000) (h : Ans (IsSubP p xss ∧ InR p xs) (CaV p xss xs) [] r e) : r.length ≤ 2000000 := by
  rcases h with ⟨_, _, ys, x, _, _, ⟨_, rfl, _⟩ | ⟨h3, ⟨h4, _⟩, _⟩⟩ | ⟨_, rfl, _⟩
  · simp
  · omega
  · simp
end Go.Proofs.YtcohfmglfmomcaaGreat

/-
  Walk: the reference's CosetAction.
  Conditions: what the arguments read as.
-/
namespace Go.Proofs.YtcohfmglfmomcaaGreat
open Go Go.Pc
set_option maxHeartbeats 2000000 in
theorem spec_CosetAction_ok {p : Pr} {w : World} {vp vu vx : Value} {us : List Value} {xss : List (List Int)} {xs : List Int} {lo hi lo1 hi1 lo2 hi2 : Nat} [hp : Pres lo hi w vp p] [hu : Pc.Rows lo1 hi1 w vu us xss] [hx : Ints lo2 hi2 w vx xs] (hl : p.ord.length ≤ 2000000) :
    Calls Tryz.prog 17 #[vp, vu, vx] w (Ret fun v w' => ∃ (u : Value) (k : List Int) (e : Int), v = .tuple #[u, .int .i64 e] ∧ Ans (IsSubP p xss ∧ InR p xs) (CaV p xss xs) [] k e ∧ Ext w w' ∧ Ints w.heap.size w'.heap.size w' u k) := by
  obtain ⟨vo, vpw, vc, ps, cs, css, rfl, h1, h2, h3⟩ := hp.ex
  refine enter (args := [.agg #[vo, vpw, vc], vu, vx]) (l := [.tmp 6, .tmp 7]) Tryz.func17 rfl rfl Tryz.ntmps17 (by simp) ?_
  refine go ?_
  refine st_box3 (by ((try simp only [ev_tmp, ev_const, ev_func, get_put, get_args, get_putL, get_putL_nil, Nat.reduceEqDiff, reduceIte, List.getD_cons_zero, List.getD_cons_succ, List.getD_nil]); first | done | with_reducible rfl)) (by first | exact True.intro | exact ⟨_, rfl, by ((try simp only [ev_tmp, ev_const, ev_func, get_put, get_args, get_putL, get_putL_nil, Nat.reduceEqDiff, reduceIte, List.getD_cons_zero, List.getD_cons_succ, List.getD_nil, Bool.not_true, Bool.not_false]); first | done | with_reducible rfl)⟩) fun w1 b he1 hb1 hs1 hc0 hc1 hc2 => ?_
  refine go ?_
  refine rc (spec_IsSubgroup_ok (p := p) (xss := xss) hl) (next := fun v5 w5 h5 => ?_)
  obtain ⟨b5, rfl, hb5, he5⟩ := h5
  have hE5 := he1.trans he5
  refine go ?_
  refine sp (fun e5 => ?_) (fun e5 => ?_)
  · refine go ?_
    refine ret2 ⟨nilv, [], 1, rfl, .inr ⟨fun h => ?_, rfl, rfl⟩, hE5, Ints.nilR _ _ _⟩
    rw [hb5.2 h.1] at e5; cases e5
  have hS := hb5.1 (by simpa using e5)
  obtain ⟨hG, hq⟩ := hS
  haveI : ConAll p := ⟨hG.con⟩
  have hv := hG.valid
  have hn6 := hv.n6
  obtain ⟨ys, hys, hse⟩ := isSeq_iff.1 hq
  have hyl := hse.len
  refine go ?_
  refine rc (l10Element_ok (p := p) (xs := xs) hG.valid) (next := fun v6 w6 h6 => ?_)
  obtain ⟨b6, rfl, hb6, he6⟩ := h6
  have hE6 := hE5.trans he6
  refine go ?_
  refine c_b (fun e6 => ?_) (fun e6 => ?_)
  · refine go ?_
    refine ret2 ⟨nilv, [], 1, rfl, .inr ⟨fun h => ?_, rfl, rfl⟩, hE6, Ints.nilR _ _ _⟩
    rw [hb6.2 h.2] at e6; cases e6
  have hI := hb6.1 (by simpa using e6)
  obtain ⟨x, hx6⟩ : ∃ x : El p, xs = x.v := ⟨⟨xs, hI, fun i hi => absurd hi (Nat.not_lt_zero i)⟩, rfl⟩
  have hir := idx_rng hv ys
  refine go ?_
  refine rc (l14Index_ok (p := p) hse hys) (next := fun v7 w7 h7 => ?_)
  obtain ⟨rfl, he7⟩ := h7
  have hE7 := hE6.trans he7
  refine go ?_
  refine c_if (fun h8 => ?_) (fun h8 => ?_)
  · refine go ?_
    exact ret2 ⟨nilv, [], 3, rfl, .inl ⟨⟨⟨hG, hq⟩, hI⟩, ⟨inferInstance, ys, x, hys, hx6, .inl ⟨by omega, rfl, rfl⟩⟩⟩, hE7, Ints.nilR _ _ _⟩
  refine go ?_
  refine rc (l10Inv_ok (p := p) hx6) (next := fun v8 w8 h9 => ?_)
  obtain ⟨he8, hf8⟩ := h9
  have hE8 := hE7.trans he8
  refine go ?_
  refine st_slice0 (by first | exact True.intro | exact ⟨_, rfl, by ((try simp only [ev_tmp, ev_const, ev_func, get_put, get_args, get_putL, get_putL_nil, Nat.reduceEqDiff, reduceIte, List.getD_cons_zero, List.getD_cons_succ, List.getD_nil, Bool.not_true, Bool.not_false]); first | done | with_reducible rfl)⟩) fun w9 v9 he9 hs9 ho9 => ?_
  have hz8 := hE8.size
  have hp8 : Pres 0 w8.heap.size w8 (.agg #[vo, vpw, vc]) p := Pres.wide inferInstance
  have hu8 : Pc.Rows 0 w8.heap.size w8 vu us xss := Pc.Rows.wide inferInstance
  have hy8 : Ints 0 w8.heap.size w8 v8 (x⁻¹).v := Ints.wide inferInstance
  have hb8 : b + 1 ≤ w8.heap.size := by have := he5.size; have := hE8.size; have := he6.size; have := he7.size; have := he8.size; omega
  have h18 := hp8.ex
  refine go ?_
  refine r_for (idxOf p ys).toNat (fun k ρ w' => ∃ vl rl, Has ρ [(1, vu), (3, .pointer (some ⟨b, 0, none⟩)), (8, v8), (9, vl), (10, .int .i64 k)] ∧ Ext w8 w' ∧ GrowI 2 w8.heap.size w' vl rl ∧ rl.length = k ∧ ∀ i, i < rl.length → CaAt p ys x i (rl.getD i 0)) ?_ ?_
  · refine ⟨v9, [], ?_, he9, GrowI.start ho9 (Nat.le_refl _), rfl, fun i hi => by simp at hi⟩
    exact hasP
  clear ho9
  rintro k ρ wa hk ⟨vl, rl, hH, hea, hga, hrl, hCa⟩
  refine rwp_has hH fun ρ0 => ?_
  refine go ?_
  refine rc (l14Index_ok (p := p) hse hys) (next := fun v10 w10 h10 => ?_)
  obtain ⟨rfl, he10⟩ := h10
  have hE10 := hea.trans he10
  have hz10 := hE10.size
  refine go ?_
  refine c_if (fun h11 => ?_) (fun h11 => ?_)
  · have hga10 : GrowI 2 w8.heap.size w10 vl rl := @GrowI.ext _ _ _ _ _ _ he10 hga
    obtain ⟨b', hb', hvb'⟩ := own_some' vl w8.heap.size w10.heap.size (by omega) (fun g h => (hga10.own.lt g h).1)
    have ap1 : Apart 0 w8.heap.size b' := ⟨.inr (by omega)⟩
    have ap2 : Apart b (b + 1) b' := ⟨.inr (by omega)⟩
    refine go ?_
    refine z_order b' (List.range 14) (h := fun w11 he11 _ => ?_)
    refine zgo ?_
    refine zc (l14Element_ok (p := p) (t := (k : Int)) hse.ok ?_ hys) (next := fun v12 w12 h12 => ?_)
    · omega
    obtain ⟨he12, hf12⟩ := h12
    refine zc (l08Mul_ok (p := p) (x := x⁻¹) (y := trE p ys k) rfl rfl) (next := fun v13 w13 h13 => ?_)
    obtain ⟨he13, hf13⟩ := h13
    refine zc (l14Number_ok (p := p) (x := x⁻¹ * trE p ys k) hse hys rfl) (hR := fun _ _ ⟨_, _, _, h⟩ => h) (next := fun v14 w14 h14 => ?_)
    obtain ⟨r, rfl, hr, he14⟩ := h14
    have hx1014 := ((he11.trans he12).trans he13).trans he14
    refine z_growi (@GrowI.ext _ _ _ _ _ _ hx1014 hga10) (by have := hx1014.size; omega) (by omega) hvb' (next := fun v15 v16 w16 hg16 hx16 hz16 hgs16 => ?_)
    refine zgo ?_
    refine z_end ?_
    refine go ?_
    refine forQ_normal (by omega) ⟨v16, _, ?_, hx16 w8 (hE10.trans hx1014) (Nat.le_refl _), hg16, by simp [hrl], fun i hi => ?_⟩
    · exact hasP
    · by_cases e : i < rl.length
      · have e1 : (rl ++ [numF p (freeL p ys p.n) r]).getD i 0 = rl.getD i 0 := by simp [List.getElem?_append_left e]
        rw [e1]; exact hCa i e
      · have e2 : i = rl.length := by simp at hi; omega
        subst e2
        have e1 : (rl ++ [numF p (freeL p ys p.n) r]).getD rl.length 0 = numF p (freeL p ys p.n) r := by simp
        rw [e1, hrl]
        exact ⟨r, hr, rfl⟩
  · refine go ?_
    refine ret2 ⟨vl, rl, 0, rfl, .inl ⟨⟨⟨hG, hq⟩, hI⟩, ⟨inferInstance, ys, x, hys, hx6, .inr ⟨by omega, ⟨by omega, hCa⟩, rfl⟩⟩⟩, hE8.trans hE10, ?_⟩
    exact ((@GrowI.ext _ _ _ _ _ _ he10 hga).fr.mono hz8).ints
end Go.Proofs.YtcohfmglfmomcaaGreat

/-
  Walk: the program's CosetAction.
  Conditions: what the arguments read as.
-/
namespace Go.Proofs.YtcohfmglfmomcaaGreat
open Go Go.Pc
set_option maxHeartbeats 2000000 in
theorem impl_CosetAction_ok {p : Pr} {w : World} {vp vu vx : Value} {us : List Value} {xss : List (List Int)} {xs : List Int} {lo hi lo1 hi1 lo2 hi2 : Nat} [hp : Pres lo hi w vp p] [hu : Pc.Rows lo1 hi1 w vu us xss] [hx : Ints lo2 hi2 w vx xs] (hl : p.ord.length ≤ 2000000) :
    Calls Tryz.prog 19 #[vp, vu, vx] w (Ret fun v w' => ∃ (u : Value) (k : List Int) (e : Int), v = .tuple #[u, .int .i64 e] ∧ Ans (IsSubP p xss ∧ InR p xs) (CaV p xss xs) [] k e ∧ Ext w w' ∧ Fr w.heap.size w' u k) := by
  obtain ⟨vo, vpw, vc, ps, cs, css, rfl, h1, h2, h3⟩ := hp.ex
  refine enter (args := [.agg #[vo, vpw, vc], vu, vx]) (l := [.tmp 6, .tmp 7]) Tryz.func19 rfl rfl Tryz.ntmps19 (by simp) ?_
  refine go ?_
  refine st_box3 (by ((try simp only [ev_tmp, ev_const, ev_func, get_put, get_args, get_putL, get_putL_nil, Nat.reduceEqDiff, reduceIte, List.getD_cons_zero, List.getD_cons_succ, List.getD_nil]); first | done | with_reducible rfl)) (by first | exact True.intro | exact ⟨_, rfl, by ((try simp only [ev_tmp, ev_const, ev_func, get_put, get_args, get_putL, get_putL_nil, Nat.reduceEqDiff, reduceIte, List.getD_cons_zero, List.getD_cons_succ, List.getD_nil, Bool.not_true, Bool.not_false]); first | done | with_reducible rfl)⟩) fun w1 b he1 hb1 hs1 hc0 hc1 hc2 => ?_
  have hpp := hp.boxed he1 hc0 hc1 hc2
  refine go ?_
  refine st_slice1 (u := vu) (by ((try simp only [ev_tmp, ev_const, ev_func, get_put, get_args, get_putL, get_putL_nil, Nat.reduceEqDiff, reduceIte, List.getD_cons_zero, List.getD_cons_succ, List.getD_nil]); first | done | with_reducible rfl)) ?_ ?_ (by first | exact True.intro | exact ⟨_, rfl, by ((try simp only [ev_tmp, ev_const, ev_func, get_put, get_args, get_putL, get_putL_nil, Nat.reduceEqDiff, reduceIte, List.getD_cons_zero, List.getD_cons_succ, List.getD_nil, Bool.not_true, Bool.not_false]); first | done | with_reducible rfl)⟩) fun w2 v2 he2 hs2 ho2 => ?_
  · exact hu.sl.cells
  · rfl
  have hE2 := he1.trans he2
  have hR := rowss_one (xss := xss) ho2 inferInstance
  refine go ?_
  refine rc (areSubgroups_ok (p := p) (xsss := [xss]) hl (by simp)) (next := fun v5 w5 h5 => ?_)
  obtain ⟨b5, rfl, hb5, he5⟩ := h5
  rw [areSub1] at hb5
  have hE5 := hE2.trans he5
  refine go ?_
  refine sp (fun e5 => ?_) (fun e5 => ?_)
  · refine go ?_
    refine ret2 ⟨nilv, [], 1, rfl, .inr ⟨fun h => ?_, rfl, rfl⟩, hE5, Fr.nilR _ _⟩
    rw [hb5.2 h.1] at e5; cases e5
  have hS := hb5.1 (by simpa using e5)
  obtain ⟨hG, hq⟩ := hS
  haveI : ConAll p := ⟨hG.con⟩
  have hv := hG.valid
  have hn6 := hv.n6
  obtain ⟨ys, hys, hse⟩ := isSeq_iff.1 hq
  have hyl := hse.len
  refine go ?_
  refine rc (isExponents_ok (p := p) (xs := xs) (fun i hi => hv.opos hi) hl) (next := fun v6 w6 h6 => ?_)
  obtain ⟨b6, rfl, hb6, he6⟩ := h6
  have hE6 := hE5.trans he6
  refine go ?_
  refine c_b (fun e6 => ?_) (fun e6 => ?_)
  · refine go ?_
    refine ret2 ⟨nilv, [], 1, rfl, .inr ⟨fun h => ?_, rfl, rfl⟩, hE6, Fr.nilR _ _⟩
    rw [hb6.2 h.2] at e6; cases e6
  have hI := hb6.1 (by simpa using e6)
  obtain ⟨x, hx6⟩ : ∃ x : El p, xs = x.v := ⟨⟨xs, hI, fun i hi => absurd hi (Nat.not_lt_zero i)⟩, rfl⟩
  refine go ?_
  refine rc (indexCode_ok (p := p) (xss := xss) hl) (next := fun v7 w7 h7 => ?_)
  obtain ⟨e7, rfl, hcode, he7⟩ := h7
  have hE7 := hE6.trans he7
  refine go ?_
  refine c_if (fun h8 => ?_) (fun h8 => ?_)
  · refine go ?_
    rcases hcode with ⟨h9, rfl⟩ | ⟨_, _, ys', hys', hse', ⟨h9, rfl⟩ | ⟨h9, rfl⟩⟩
    · exact absurd ⟨hG, hq⟩ h9
    · exact ret2 ⟨nilv, [], 3, rfl, .inl ⟨⟨⟨hG, hq⟩, hI⟩, ⟨inferInstance, ys', x, hys', hx6, .inl ⟨h9, rfl, rfl⟩⟩⟩, hE7, Fr.nilR _ _⟩
    · exact absurd rfl h8
  have he0 : e7 = 0 := Decidable.not_not.1 h8
  subst he0
  have hidx : idxOf p ys ≤ 128 := by
    rcases hcode with ⟨_, h⟩ | ⟨_, _, ys', hys', hse', ⟨_, h⟩ | ⟨h9, _⟩⟩
    · omega
    · omega
    · obtain rfl := vecs_inj (hys.symm.trans hys')
      exact h9
  clear hcode
  refine go ?_
  refine rc (invert_ok (p := p) (i := 0) hx6) (next := fun v8 w8 h9 => ?_)
  obtain ⟨he8, hf8⟩ := h9
  refine go ?_
  refine rc (transversal_ok (p := p) hse.ok (by omega) hys) (next := fun v9 w9 h10 => ?_)
  obtain ⟨he9, rs9, hrs9, hM9⟩ := h10
  have hR9 := hM9.rows
  rw [← hrs9] at hR9
  have hTl := transL_len hv ys
  have hE9 := (hE7.trans he8).trans he9
  have hz9 := hE9.size
  refine go ?_
  refine r_for (transL p ys).length (fun k ρ w' => ∃ vl rl, Has ρ [(1, vu), (3, .pointer (some ⟨b, 0, none⟩)), (9, v8), (10, vl), (30, v9), (31, .int .i64 (transL p ys).length), (32, .int .i64 k)] ∧ Ext w9 w' ∧ GrowI 2 w9.heap.size w' vl rl ∧ rl.length = k ∧ ∀ i, i < rl.length → CaAt p ys x i (rl.getD i 0)) ?_ ?_
  · refine ⟨nilv, [], ?_, Ext.refl _, GrowI.nil _ _ _, rfl, fun i hi => by simp at hi⟩
    exact hasP
  rintro k ρ wa hk ⟨vl, rl, hH, hea, hga, hrl, hCa⟩
  refine rwp_has hH fun ρ0 => ?_
  have hza := hea.size
  refine go ?_
  refine c_if (fun h11 => ?_) (fun h11 => ?_)
  · have hkn : k < (transL p ys).length := by omega
    have hrow := transL_at ys hkn
    refine go ?_
    refine rc (multiply_ok (p := p) (i := 0) (x := x⁻¹) (y := trE p ys k) (Nat.zero_le _) rfl hrow) (next := fun v12 w12 h12 => ?_)
    obtain ⟨he12, hf12⟩ := h12
    refine go ?_
    refine rc (cosetNumber_ok (p := p) (x := x⁻¹ * trE p ys k) hse hys rfl) (next := fun v13 w13 h13 => ?_)
    obtain ⟨r, rfl, hr, he13⟩ := h13
    have hx13 := he12.trans he13
    refine go ?_
    refine st_growi (@GrowI.ext _ _ _ _ _ _ hx13 hga) (by have := hx13.size; omega) (by omega) (next := fun v15 v16 w16 hg16 hx16 hz16 hgs16 => ?_)
    refine go ?_
    refine forQ_normal (by omega) ⟨v16, _, ?_, hx16 w9 (hea.trans hx13) (Nat.le_refl _), hg16, by simp [hrl], fun i hi => ?_⟩
    · exact hasP
    · by_cases e : i < rl.length
      · have e1 : (rl ++ [numF p (freeL p ys p.n) r]).getD i 0 = rl.getD i 0 := by simp [List.getElem?_append_left e]
        rw [e1]; exact hCa i e
      · have e2 : i = rl.length := by simp at hi; omega
        subst e2
        have e1 : (rl ++ [numF p (freeL p ys p.n) r]).getD rl.length 0 = numF p (freeL p ys p.n) r := by simp
        rw [e1, hrl]
        exact ⟨r, hr, rfl⟩
  · refine go ?_
    exact ret2 ⟨vl, rl, 0, rfl, .inl ⟨⟨⟨hG, hq⟩, hI⟩, ⟨inferInstance, ys, x, hys, hx6, .inr ⟨hidx, ⟨by omega, hCa⟩, rfl⟩⟩⟩, hE9.trans hea, hga.fr.mono hz9⟩
end Go.Proofs.YtcohfmglfmomcaaGreat

/-
  Answers: the number of cosets that a subgroup fixes.
  Conditions: none.
-/
namespace Go.Proofs.YtcohfmglfmomcaaGreat
open Go Go.Pc
/-- A representative of a coset is the representative of its own products exactly if the conjugate lies in the subgroup. -/
theorem fix_iff {p : Pr} [hc : ConAll p] {ys : List (El p)} (hs : SeqEl ys) {y t r : El p} (ht : ∀ z, z ∈ ys → co t (lead z.v) = 0) (hr : RepOf ys (y * t) r) : r = t ↔ Gen (fun a : El p => a ∈ ys) (Grp.cj y t) := by
  have hH := Gen.sub (fun a : El p => a ∈ ys)
  have h1 := hr.gen
  have e : (y * t)⁻¹ * t = (Grp.cj y t)⁻¹ := by
    unfold Grp.cj
    rw [Grp.mul_inv_rev, Grp.mul_inv_rev, Grp.mul_inv_rev, Grp.inv_inv]
  have key : ∀ d, Dep (Gen (fun a : El p => a ∈ ys)) d → co r d = co t d := fun d hd => by
    obtain ⟨z, hz, rfl⟩ := hs.dep hd
    rw [hr.zero z hz, ht z hz]
  constructor
  · rintro rfl
    rw [e] at h1
    exact hH.inv_iff.1 h1
  · intro h
    refine rep_unique hH ?_ key
    have h2 : Gen (fun a : El p => a ∈ ys) ((y * t)⁻¹ * t) := by rw [e]; exact hH.inv _ h
    have h3 := hH.mul _ _ (hH.inv _ h1) h2
    have e3 : ((y * t)⁻¹ * r)⁻¹ * ((y * t)⁻¹ * t) = r⁻¹ * t := by
      rw [Grp.mul_inv_rev, Grp.inv_inv, Grp.mul_assoc, Grp.mul_inv_cancel_left]
    rwa [e3] at h3
theorem trE_zero {p : Pr} [hc : ConAll p] (ys : List (El p)) (i : Nat) : ∀ z, z ∈ ys → co (trE p ys i) (lead z.v) = 0 := fun z hz => by
  show (trE p ys i).v.getD (lead z.v) 0 = 0
  rw [trE_val]
  refine elTo_out _ (Nat.le_refl _) _ _ fun h => ?_
  rw [List.take_length] at h
  have := (List.mem_filter.1 h).2
  rw [List.all_eq_true] at this
  have := this z hz
  simp at this
/-- The coset with an index is fixed. -/
def FixAt (p : Pr) [ConAll p] (ys zs : List (El p)) (i : Nat) : Prop := ∀ z, z ∈ zs → Gen (fun a : El p => a ∈ ys) (Grp.cj z (trE p ys i))
open Classical in
noncomputable def fixNum (p : Pr) [ConAll p] (ys zs : List (El p)) (k : Nat) : Nat := (List.range k).countP fun i => decide (FixAt p ys zs i)
theorem fixNum_yes {p : Pr} [ConAll p] {ys zs : List (El p)} {k : Nat} (h : FixAt p ys zs k) : fixNum p ys zs (k + 1) = fixNum p ys zs k + 1 := by
  unfold fixNum; rw [List.range_succ, List.countP_append]; simp [h]
theorem fixNum_no {p : Pr} [ConAll p] {ys zs : List (El p)} {k : Nat} (h : ¬ FixAt p ys zs k) : fixNum p ys zs (k + 1) = fixNum p ys zs k := by
  unfold fixNum; rw [List.range_succ, List.countP_append]; simp [h]
theorem fixNum_le {p : Pr} [ConAll p] (ys zs : List (El p)) (k : Nat) : fixNum p ys zs k ≤ k := by
  unfold fixNum; exact Nat.le_trans List.countP_le_length (by simp)
def FcV (p : Pr) (xss yss : List (List Int)) (k e : Int) : Prop := ∃ (_ : ConAll p) (ys zs : List (El p)), xss = vecs ys ∧ yss = vecs zs ∧ ((128 < idxOf p ys ∧ k = 0 ∧ e = 3) ∨ (idxOf p ys ≤ 128 ∧ k = fixNum p ys zs (idxOf p ys).toNat ∧ e = 0))
theorem FcV.uniq {p : Pr} {xss yss : List (List Int)} (a b c d : Int) (h : FcV p xss yss a c) (k : FcV p xss yss b d) : a = b ∧ c = d := by
  obtain ⟨hc, ys, zs, h1, hx, h2⟩ := h
  obtain ⟨_, ys', zs', k1, kx, k2⟩ := k
  obtain rfl := vecs_inj (h1.symm.trans k1)
  obtain rfl := vecs_inj (hx.symm.trans kx)
  rcases h2 with ⟨h3, h4, h5⟩ | ⟨h3, h4, h5⟩ <;> rcases k2 with ⟨k3, k4, k5⟩ | ⟨k3, k4, k5⟩
  · exact ⟨by rw [h4, k4], by rw [h5, k5]⟩
  · omega
  · omega
  · exact ⟨by rw [h4, k4], by rw [h5, k5]⟩
theorem fix_conj {p : Pr} [hc : ConAll p] {ys zs : List (El p)} {i : Nat} : (∀ y, y ∈ canEls (Gen (fun a : El p => a ∈ zs.map (Grp.cj · (trE p ys i)))) → Gen (fun a : El p => a ∈ ys) y) ↔ FixAt p ys zs i := by
  have hK := Gen.sub (fun a : El p => a ∈ zs.map (Grp.cj · (trE p ys i)))
  constructor
  · intro h z hz
    have h1 : Gen (fun a : El p => a ∈ zs.map (Grp.cj · (trE p ys i))) (Grp.cj z (trE p ys i)) := .of _ (List.mem_map.2 ⟨z, hz, rfl⟩)
    rw [← gen_can_eq hK] at h1
    exact Gen.le (Gen.sub _) h _ h1
  · intro h y hy
    obtain ⟨d, _, hd⟩ := canEls_mem.1 hy
    refine Gen.le (Gen.sub _) (fun a ha => ?_) y (canT_some hd).mem
    obtain ⟨z, hz, rfl⟩ := List.mem_map.1 ha
    exact h z hz
end Go.Proofs.YtcohfmglfmomcaaGreat

/-
  Walk: the reference's FixedCosets.
  Conditions: what the arguments read as.
-/
namespace Go.Proofs.YtcohfmglfmomcaaGreat
open Go Go.Pc
set_option maxHeartbeats 2000000 in
theorem spec_FixedCosets_ok {p : Pr} {w : World} {vp vu vx : Value} {us vs : List Value} {xss yss : List (List Int)} {lo hi lo1 hi1 lo2 hi2 : Nat} [hp : Pres lo hi w vp p] [hu : Pc.Rows lo1 hi1 w vu us xss] [hx : Pc.Rows lo2 hi2 w vx vs yss] (hl : p.ord.length ≤ 2000000) :
    Calls Tryz.prog 23 #[vp, vu, vx] w (Ret fun v w' => ∃ (k e : Int), v = .tuple #[.int .i64 k, .int .i64 e] ∧ Ans (IsSubP p xss ∧ IsSubP p yss) (FcV p xss yss) 0 k e ∧ Ext w w') := by
  obtain ⟨vo, vpw, vc, ps, cs, css, rfl, h1, h2, h3⟩ := hp.ex
  refine enter (args := [.agg #[vo, vpw, vc], vu, vx]) (l := [.tmp 6, .tmp 7]) Tryz.func23 rfl rfl Tryz.ntmps23 (by simp) ?_
  refine go ?_
  refine st_box3 (by ((try simp only [ev_tmp, ev_const, ev_func, get_put, get_args, get_putL, get_putL_nil, Nat.reduceEqDiff, reduceIte, List.getD_cons_zero, List.getD_cons_succ, List.getD_nil]); first | done | with_reducible rfl)) (by first | exact True.intro | exact ⟨_, rfl, by ((try simp only [ev_tmp, ev_const, ev_func, get_put, get_args, get_putL, get_putL_nil, Nat.reduceEqDiff, reduceIte, List.getD_cons_zero, List.getD_cons_succ, List.getD_nil, Bool.not_true, Bool.not_false]); first | done | with_reducible rfl)⟩) fun w1 b he1 hb1 hs1 hc0 hc1 hc2 => ?_
  refine go ?_
  refine rc (l13Two_ok (p := p) (xss := xss) (yss := yss) hl) (next := fun v5 w5 h5 => ?_)
  obtain ⟨b5, rfl, hb5, he5⟩ := h5
  have hE5 := he1.trans he5
  refine go ?_
  refine c_b (fun e5 => ?_) (fun e5 => ?_)
  · refine go ?_
    refine ret2 ⟨0, 1, rfl, .inr ⟨fun h => ?_, rfl, rfl⟩, hE5⟩
    rw [hb5.2 h] at e5; cases e5
  have hS := hb5.1 (by simpa using e5)
  obtain ⟨⟨hG, hq⟩, ⟨_, hI⟩⟩ := hS
  haveI : ConAll p := ⟨hG.con⟩
  have hv := hG.valid
  have hn6 := hv.n6
  obtain ⟨ys, hys, hse⟩ := isSeq_iff.1 hq
  obtain ⟨zs, hzs, hsz⟩ := isSeq_iff.1 hI
  have hyl := hse.len
  have hzl := hsz.len
  have hE6 := hE5
  have hir := idx_rng hv ys
  refine go ?_
  refine rc (l14Index_ok (p := p) hse hys) (next := fun v7 w7 h7 => ?_)
  obtain ⟨rfl, he7⟩ := h7
  have hE7 := hE6.trans he7
  refine go ?_
  refine c_if (fun h8 => ?_) (fun h8 => ?_)
  · refine go ?_
    exact ret2 ⟨0, 3, rfl, .inl ⟨⟨⟨hG, hq⟩, ⟨hG, hI⟩⟩, ⟨inferInstance, ys, zs, hys, hzs, .inl ⟨by omega, rfl, rfl⟩⟩⟩, hE7⟩
  refine go ?_
  refine r_for (idxOf p ys).toNat (fun k ρ w' => Has ρ [(1, vu), (2, vx), (3, .pointer (some ⟨b, 0, none⟩)), (8, .int .i64 (fixNum p ys zs k)), (9, .int .i64 k)] ∧ Ext w7 w') ?_ ?_
  · refine ⟨?_, Ext.refl _⟩
    simp only [fixNum, List.range_zero, List.countP_nil]
    exact hasP
  rintro k ρ wa hk ⟨hH, hea⟩
  refine rwp_has hH fun ρ0 => ?_
  have hfl := fixNum_le ys zs k
  refine go ?_
  refine rc (l14Index_ok (p := p) hse hys) (next := fun v10 w10 h10 => ?_)
  obtain ⟨rfl, he10⟩ := h10
  have hE10 := hea.trans he10
  refine go ?_
  refine c_if (fun h11 => ?_) (fun h11 => ?_)
  · refine go ?_
    refine d_order [0, 1, 2, 3, 4, 5, 8, 6, 7, 9] (h := fun w11 he11 _ => ?_)
    refine dgo ?_
    refine dce (l14Element_ok (p := p) (t := (k : Int)) hse.ok ?_ hys) (next := fun v12 w12 h12 => ?_)
    · omega
    obtain ⟨he12, hf12⟩ := h12
    refine dce (l13Conj_ok (p := p) (ys := zs) (x := trE p ys k) (by omega) hzs rfl) (next := fun v13 w13 h13 => ?_)
    obtain ⟨he13, us13, hR13⟩ := h13
    rw [canon_vecs] at hR13
    have hcl := (seqEl_can (Gen.sub (fun a : El p => a ∈ zs.map (Grp.cj · (trE p ys k))))).len
    refine dce (l12Within_ok (p := p) (ys := canEls (Gen (fun a : El p => a ∈ zs.map (Grp.cj · (trE p ys k))))) hse (by omega) rfl hys) (next := fun v14 w14 h14 => ?_)
    obtain ⟨b14, rfl, hb14, he14⟩ := h14
    rw [fix_conj] at hb14
    refine dgo ?_
    refine d_end (h := ?_)
    have hE14 := (((hE10.trans he11).trans he12).trans he13).trans he14
    refine go ?_
    refine c_b (fun h15 => ?_) (fun h15 => ?_)
    · refine go ?_
      refine forQ_normal (by omega) ⟨?_, hE14⟩
      rw [fixNum_yes (hb14.1 h15)]
      exact hasP
    · refine go ?_
      refine forQ_normal (by omega) ⟨?_, hE14⟩
      rw [fixNum_no (fun h => by rw [hb14.2 h] at h15; cases h15)]
      exact hasP
  · obtain rfl : k = (idxOf p ys).toNat := by omega
    refine go ?_
    exact ret2 ⟨_, 0, rfl, .inl ⟨⟨⟨hG, hq⟩, ⟨hG, hI⟩⟩, ⟨inferInstance, ys, zs, hys, hzs, .inr ⟨by omega, rfl, rfl⟩⟩⟩, hE7.trans hE10⟩
end Go.Proofs.YtcohfmglfmomcaaGreat

/-
  More rules: function values that capture variables; variables of one cell.
  Conditions: none; nothing of the program stands here.
-/
namespace Go.Pc
open Go Go.RowKit
section
variable {P : Program} {N : Nat} {ops : Array Oper} {K : Env → World → Prop} {ρ : Env} {w : World} {l : List Oper}
variable {ty : TypeId} {pos : String} {after : Array Edge} {g : Option (Nat × Bool)} {d : Nat}
theorem cl_clo {f : FuncId} {x : Operand} {xs : Array Operand} {ats : Array TypeId} {args caps : Array Value} [hf : FnT P f] (hx : ev ρ x = .func (.func f) #[] caps) (ha : xs.map (ev ρ) ++ caps = args) :
    Cl P (.call { callee := .value x, args := xs, argTypes := ats }) ty ρ f args := by
  constructor; intro w _ _ _ _
  obtain ⟨fn, c, h1, h2, h3⟩ := hf.ex
  simp [execOp, resolve, hx, Deferred.ofValue, invoke, callFunc, h1, h2, h3, ha]
theorem rd_makeFunc {f : FuncId} {xs : Array Operand} {caps : Array Value} (h : xs.map (ev ρ) = caps) : Rd P (.makeFunc (.func f) #[] xs) ty ρ w (.func (.func f) #[] caps) := by
  constructor; intro _ _ _ _
  simp [execOp, Instr.makeFunc, h]
/-- A variable of one cell, of its zero value. -/
theorem st_alloc1 {t : TypeId} {bytes : Nat} {z : Value} [he : ElT P t 1 bytes z] (hz : z.cells = #[z]) (hg : Wants ops ρ g)
    (next : ∀ w' b, Ext w w' → b = w.heap.size → w'.heap.size = b + 1 → Blk w' b [z] → rops P N ops K l (put ρ d (.pointer (some ⟨b, 0, none⟩))) w') : rops P N ops K (⟨some d, .alloc t, ty, pos, after, g⟩ :: l) ρ w := by
  obtain ⟨i, hi, hs, hby, hz'⟩ := he.ex
  refine st_ex (v := .pointer (some ⟨w.heap.size, 0, none⟩)) (w' := w.alloc (.cells #[z] t)) hg ⟨fun _ _ _ _ => ?_⟩ (next _ _ (Ext.alloc _ _) rfl (by simp) (blk_alloc _ [z] _))
  simp [execOp, Instr.alloc, zeroValue, typeInfo, hi, hz', newVar, newRow, hz]
end
end Go.Pc

/-
  Walk: the program's FixedCosets.
  Conditions: what the arguments read as.
-/
namespace Go.Proofs.YtcohfmglfmomcaaGreat
open Go Go.Pc
set_option maxHeartbeats 400000 in
theorem indexFuncR_ok {f : FuncId} {caps : Array Value} [hf : FnT Tryz.prog f] {w : World} {v : Value} {us : List Value} {xss : List (List Int)} {lo hi : Nat} {bad : Nat → Prop} [hx : Pc.Rows lo hi w v us xss] (hl : xss.length ≤ 2000000)
    (hcall : ∀ {w' : World}, Ext w w' → ∀ i, i < xss.length → Calls Tryz.prog f (#[Pc.rowAt v us i] ++ caps) w' (Ret fun r w'' => ∃ b, r = .bool b ∧ (b = true ↔ bad i) ∧ Ext w' w'')) :
    Calls Tryz.prog 74 #[v, .func (.func f) #[] caps] w (Ret fun r w' => ∃ j : Int, r = .int .i64 j ∧ (0 ≤ j ↔ ∃ i, i < xss.length ∧ bad i) ∧ Ext w w') := by
  refine enter (args := [v, .func (.func f) #[] caps]) (l := [.tmp 4]) Tryz.func74 rfl rfl Tryz.ntmps74 (by simp) ?_
  refine go ?_
  refine r_for xss.length (fun k ρ w' => Has ρ [(0, v), (1, .func (.func f) #[] caps), (7, .int .i64 xss.length), (8, .int .i64 k)] ∧ Ext w w' ∧ ∀ i, i < k → ¬ bad i) ?_ ?_
  · refine ⟨?_, Ext.refl _, fun i hi => by omega⟩
    exact hasP
  rintro k ρ w2 hk ⟨hH, he2, hI⟩
  refine rwp_has hH fun ρ0 => ?_
  refine go ?_
  refine c_if (fun h4 => ?_) (fun h4 => ?_)
  · have hkn : k < xss.length := by omega
    refine go ?_
    refine rc (hcall he2 k hkn) (ho := cl_clo (by ((try simp only [ev_tmp, ev_const, ev_func, get_put, get_args, get_putL, get_putL_nil, Nat.reduceEqDiff, reduceIte, List.getD_cons_zero, List.getD_cons_succ, List.getD_nil]); first | done | with_reducible rfl)) (by simp only [List.map_toArray, List.map_cons, List.map_nil, ev_tmp, ev_const, ev_func, get_put, get_args, get_putL, get_putL_nil, Nat.reduceEqDiff, reduceIte, List.getD_cons_zero, List.getD_cons_succ, List.getD_nil])) (next := fun v3 w3 h3 => ?_)
    obtain ⟨b3, rfl, hb3, he3⟩ := h3
    refine go ?_
    refine c_b (fun h5 => ?_) (fun h5 => ?_)
    · refine go ?_
      exact ret1 ⟨k, rfl, ⟨fun _ => ⟨k, hkn, hb3.1 h5⟩, fun _ => by omega⟩, he2.trans he3⟩
    · refine go ?_
      refine forQ_normal (by omega) ⟨?_, he2.trans he3, fun i hi => ?_⟩
      · exact hasP
      · by_cases e : i = k
        · subst e; exact fun h => by rw [hb3.2 h] at h5; cases h5
        · exact hI i (by omega)
  · refine go ?_
    refine ret1 ⟨-1, rfl, ⟨fun h => by omega, fun ⟨i, hi, h⟩ => absurd h (hI i (by omega))⟩, he2⟩
theorem containsFuncR_ok {f : FuncId} {caps : Array Value} [hf : FnT Tryz.prog f] {w : World} {v : Value} {us : List Value} {xss : List (List Int)} {lo hi : Nat} {bad : Nat → Prop} [hx : Pc.Rows lo hi w v us xss] (hl : xss.length ≤ 2000000)
    (hcall : ∀ {w' : World}, Ext w w' → ∀ i, i < xss.length → Calls Tryz.prog f (#[Pc.rowAt v us i] ++ caps) w' (Ret fun r w'' => ∃ b, r = .bool b ∧ (b = true ↔ bad i) ∧ Ext w' w'')) :
    Calls Tryz.prog 47 #[v, .func (.func f) #[] caps] w (Ret fun r w' => ∃ b, r = .bool b ∧ (b = true ↔ ∃ i, i < xss.length ∧ bad i) ∧ Ext w w') := by
  refine enter (args := [v, .func (.func f) #[] caps]) (l := [.tmp 4]) Tryz.func47 rfl rfl Tryz.ntmps47 (by simp) ?_
  refine go ?_
  refine rc (indexFuncR_ok (bad := bad) hl hcall) (next := fun v1 w1 h1 => ?_)
  obtain ⟨j, rfl, hj, he1⟩ := h1
  refine go ?_
  refine ret1 ⟨_, rfl, ?_, he1⟩
  rw [decide_eq_true_iff]; exact hj
set_option maxHeartbeats 1000000 in
theorem fixedFn_ok {p : Pr} [hc : ConAll p] {ys : List (El p)} (hs : SeqEl ys) {y t : El p} (ht : ∀ z, z ∈ ys → co t (lead z.v) = 0) {w : World} {vp vu vt vy : Value} {us : List Value} {xss : List (List Int)} {ts yv : List Int} {bu bx lo hi lo1 hi1 lo2 hi2 lo3 hi3 : Nat} [hp : PresP lo hi w vp p] [hu : Pc.Rows lo1 hi1 w vu us xss] [hx : Ints lo2 hi2 w vt ts] [hy : Ints lo3 hi3 w vy yv] [hcu : Cell w bu 0 vu] [hct : Cell w bx 0 vt] (hus : xss = vecs ys) (hte : ts = t.v) (hye : yv = y.v) :
    Calls Tryz.prog 48 #[vy, vp, .pointer (some ⟨bu, 0, none⟩), .pointer (some ⟨bx, 0, none⟩)] w (Ret fun v w' => ∃ b, v = .bool b ∧ (b = true ↔ ¬ Gen (fun a : El p => a ∈ ys) (Grp.cj y t)) ∧ Ext w w') := by
  have hn6 := hc.valid.n6
  have hyl := hs.len
  refine enter (args := [vy, vp, .pointer (some ⟨bu, 0, none⟩), .pointer (some ⟨bx, 0, none⟩)]) (l := [.tmp 5]) Tryz.func48 rfl rfl Tryz.ntmps48 (by simp) ?_
  refine go ?_
  refine d_order [0, 1, 2, 5, 3, 4, 6, 7, 8] (h := fun w1 he1 _ => ?_)
  refine dgo ?_
  refine dce (multiply_ok (p := p) (i := 0) (x := y) (y := t) (Nat.zero_le _) hye hte) (next := fun v2 w2 h2 => ?_)
  obtain ⟨he2, hf2⟩ := h2
  refine dce (representative_ok (p := p) (x := y * t) hs.ok hus rfl (by omega)) (next := fun v3 w3 h3 => ?_)
  obtain ⟨he3, r, hf3, hr⟩ := h3
  have hrl := r.inr.len
  refine dce (equalI_ok (xs := r.v) (ys := ts) (by omega)) (next := fun v4 w4 h4 => ?_)
  obtain ⟨b4, rfl, hb4, he4⟩ := h4
  refine dgo ?_
  refine d_end (h := ?_)
  refine go ?_
  refine ret1 ⟨!b4, rfl, ?_, ((he1.trans he2).trans he3).trans he4⟩
  rw [← fix_iff hs ht hr]
  have e : b4 = true ↔ r = t := hb4.trans ⟨fun h => T.ext (h.trans hte), fun h => by rw [h, hte]⟩
  cases b4 <;> simp_all
set_option maxHeartbeats 4000000 in
theorem impl_FixedCosets_ok {p : Pr} {w : World} {vp vu vx : Value} {us vs : List Value} {xss yss : List (List Int)} {lo hi lo1 hi1 lo2 hi2 : Nat} [hp : Pres lo hi w vp p] [hu : Pc.Rows lo1 hi1 w vu us xss] [hx : Pc.Rows lo2 hi2 w vx vs yss] (hl : p.ord.length ≤ 2000000) :
    Calls Tryz.prog 24 #[vp, vu, vx] w (Ret fun v w' => ∃ (k e : Int), v = .tuple #[.int .i64 k, .int .i64 e] ∧ Ans (IsSubP p xss ∧ IsSubP p yss) (FcV p xss yss) 0 k e ∧ Ext w w') := by
  obtain ⟨vo, vpw, vc, ps, cs, css, rfl, h1, h2, h3⟩ := hp.ex
  refine enter (args := [.agg #[vo, vpw, vc], vu, vx]) (l := [.tmp 6, .tmp 7]) Tryz.func24 rfl rfl Tryz.ntmps24 (by simp) ?_
  refine go ?_
  refine st_box3 (by ((try simp only [ev_tmp, ev_const, ev_func, get_put, get_args, get_putL, get_putL_nil, Nat.reduceEqDiff, reduceIte, List.getD_cons_zero, List.getD_cons_succ, List.getD_nil]); first | done | with_reducible rfl)) (by first | exact True.intro | exact ⟨_, rfl, by ((try simp only [ev_tmp, ev_const, ev_func, get_put, get_args, get_putL, get_putL_nil, Nat.reduceEqDiff, reduceIte, List.getD_cons_zero, List.getD_cons_succ, List.getD_nil, Bool.not_true, Bool.not_false]); first | done | with_reducible rfl)⟩) fun w1 b he1 hb1 hs1 hc0 hc1 hc2 => ?_
  have hpp := hp.boxed he1 hc0 hc1 hc2
  refine go ?_
  refine st_box1 (v := vu) (by ((try simp only [ev_tmp, ev_const, ev_func, get_put, get_args, get_putL, get_putL_nil, Nat.reduceEqDiff, reduceIte, List.getD_cons_zero, List.getD_cons_succ, List.getD_nil]); first | done | with_reducible rfl)) hu.sl.cells (by first | exact True.intro | exact ⟨_, rfl, by ((try simp only [ev_tmp, ev_const, ev_func, get_put, get_args, get_putL, get_putL_nil, Nat.reduceEqDiff, reduceIte, List.getD_cons_zero, List.getD_cons_succ, List.getD_nil, Bool.not_true, Bool.not_false]); first | done | with_reducible rfl)⟩) fun w2 bu he2 hbu hs2 hbk2 => ?_
  have hcu := hbk2.cell (k := 0) rfl
  refine go ?_
  refine st_slice2 (u := vu) (v := vx) (by ((try simp only [ev_tmp, ev_const, ev_func, get_put, get_args, get_putL, get_putL_nil, Nat.reduceEqDiff, reduceIte, List.getD_cons_zero, List.getD_cons_succ, List.getD_nil]); first | done | with_reducible rfl)) (by ((try simp only [ev_tmp, ev_const, ev_func, get_put, get_args, get_putL, get_putL_nil, Nat.reduceEqDiff, reduceIte, List.getD_cons_zero, List.getD_cons_succ, List.getD_nil]); first | done | with_reducible rfl)) ?_ ?_ ?_ (by first | exact True.intro | exact ⟨_, rfl, by ((try simp only [ev_tmp, ev_const, ev_func, get_put, get_args, get_putL, get_putL_nil, Nat.reduceEqDiff, reduceIte, List.getD_cons_zero, List.getD_cons_succ, List.getD_nil, Bool.not_true, Bool.not_false]); first | done | with_reducible rfl)⟩) fun w3 v3 he3 hs3 ho3 => ?_
  · exact hu.sl.cells
  · exact hx.sl.cells
  · rfl
  have hE3 := (he1.trans he2).trans he3
  have hu3 : Pc.Rows lo1 hi1 w3 vu us xss := hu.same (hE3.same _ _)
  have hx3 : Pc.Rows lo2 hi2 w3 vx vs yss := hx.same (hE3.same _ _)
  have hR := rowss_two ho3 hu3 hx3
  refine go ?_
  refine rc (areSubgroups_ok (p := p) (xsss := [xss, yss]) hl (by simp)) (next := fun v5 w5 h5 => ?_)
  obtain ⟨b5, rfl, hb5, he5⟩ := h5
  rw [areSub2] at hb5
  have hE5 := hE3.trans he5
  refine go ?_
  refine c_b (fun e5 => ?_) (fun e5 => ?_)
  · refine go ?_
    refine ret2 ⟨0, 1, rfl, .inr ⟨fun h => ?_, rfl, rfl⟩, hE5⟩
    rw [hb5.2 h] at e5; cases e5
  have hS := hb5.1 (by simpa using e5)
  obtain ⟨⟨hG, hq⟩, ⟨_, hI⟩⟩ := hS
  haveI : ConAll p := ⟨hG.con⟩
  have hv := hG.valid
  have hn6 := hv.n6
  obtain ⟨ys, hys, hse⟩ := isSeq_iff.1 hq
  obtain ⟨zs, hzs, hsz⟩ := isSeq_iff.1 hI
  have hyl := hse.len
  have hzl := hsz.len
  clear hR hu3 hx3
  refine go ?_
  refine rc (indexCode_ok (p := p) (xss := xss) hl) (next := fun v7 w7 h7 => ?_)
  obtain ⟨e7, rfl, hcode, he7⟩ := h7
  have hE7 := hE5.trans he7
  refine go ?_
  refine c_if (fun h8 => ?_) (fun h8 => ?_)
  · refine go ?_
    rcases hcode with ⟨h9, rfl⟩ | ⟨_, _, ys', hys', hse', ⟨h9, rfl⟩ | ⟨h9, rfl⟩⟩
    · exact absurd ⟨hG, hq⟩ h9
    · exact ret2 ⟨0, 3, rfl, .inl ⟨⟨⟨hG, hq⟩, ⟨hG, hI⟩⟩, ⟨inferInstance, ys', zs, hys', hzs, .inl ⟨h9, rfl, rfl⟩⟩⟩, hE7⟩
    · exact absurd rfl h8
  have he0 : e7 = 0 := Decidable.not_not.1 h8
  subst he0
  have hidx : idxOf p ys ≤ 128 := by
    rcases hcode with ⟨_, h⟩ | ⟨_, _, ys', hys', hse', ⟨_, h⟩ | ⟨h9, _⟩⟩
    · omega
    · omega
    · obtain rfl := vecs_inj (hys.symm.trans hys')
      exact h9
  clear hcode
  refine go ?_
  refine rc (transversal_ok (p := p) hse.ok (by omega) hys) (next := fun v9 w9 h10 => ?_)
  obtain ⟨he9, rs9, hrs9, hM9⟩ := h10
  have hR9 := hM9.rows
  rw [← hrs9] at hR9
  have hTl := transL_len hv ys
  have hE9 := hE7.trans he9
  have hyz : yss.length = zs.length := by rw [hzs]; simp
  have hpp9 : PresP 0 w9.heap.size w9 (.pointer (some ⟨b, 0, none⟩)) p := PresP.wide inferInstance
  have hu9 : Pc.Rows lo1 hi1 w9 vu us xss := hu.same (hE9.same _ _)
  have hx9 : Pc.Rows lo2 hi2 w9 vx vs yss := hx.same (hE9.same _ _)
  have hcu9 : Cell w9 bu 0 vu := inferInstance
  refine go ?_
  refine r_for (transL p ys).length (fun k ρ w' => Has ρ [(2, vx), (3, .pointer (some ⟨b, 0, none⟩)), (4, .pointer (some ⟨bu, 0, none⟩)), (9, .int .i64 (fixNum p ys zs k)), (23, v9), (24, .int .i64 (transL p ys).length), (25, .int .i64 k)] ∧ Ext w9 w') ?_ ?_
  · refine ⟨?_, Ext.refl _⟩
    simp only [fixNum, List.range_zero, List.countP_nil]
    exact hasP
  rintro k ρ wa hk ⟨hH, hea⟩
  refine rwp_has hH fun ρ0 => ?_
  have hfl := fixNum_le ys zs k
  refine go ?_
  refine c_if (fun h11 => ?_) (fun h11 => ?_)
  · have hkn : k < (transL p ys).length := by omega
    have hrow := transL_at ys hkn
    have hti : Ints w7.heap.size w9.heap.size wa (Pc.rowAt v9 (rs9.map (·.1)) k) ((transL p ys).getD k []) := (hR9.vals.at_ k).same (hea.same _ _)
    refine go ?_
    refine st_alloc1 rfl (by first | exact True.intro | exact ⟨_, rfl, by ((try simp only [ev_tmp, ev_const, ev_func, get_put, get_args, get_putL, get_putL_nil, Nat.reduceEqDiff, reduceIte, List.getD_cons_zero, List.getD_cons_succ, List.getD_nil, Bool.not_true, Bool.not_false]); first | done | with_reducible rfl)⟩) fun wb bx heb hbx hsb hbkb => ?_
    refine go ?_
    refine st_store_fld (h := hbkb) (by ((try simp only [ev_tmp, ev_const, ev_func, get_put, get_args, get_putL, get_putL_nil, Nat.reduceEqDiff, reduceIte, List.getD_cons_zero, List.getD_cons_succ, List.getD_nil]); first | done | with_reducible rfl)) (by ((try simp only [ev_tmp, ev_const, ev_func, get_put, get_args, get_putL, get_putL_nil, Nat.reduceEqDiff, reduceIte, List.getD_cons_zero, List.getD_cons_succ, List.getD_nil]); first | done | with_reducible rfl)) hti.sl.one (by simp) (by first | exact True.intro | exact ⟨_, rfl, by ((try simp only [ev_tmp, ev_const, ev_func, get_put, get_args, get_putL, get_putL_nil, Nat.reduceEqDiff, reduceIte, List.getD_cons_zero, List.getD_cons_succ, List.getD_nil, Bool.not_true, Bool.not_false]); first | done | with_reducible rfl)⟩) fun wc hcc hsc hbkc => ?_
    have hxc : Ext wa wc := hcc.ext heb (by omega)
    have hct : Cell wc bx 0 (Pc.rowAt v9 (rs9.map (·.1)) k) := hbkc.cell rfl
    have hxc9 := hea.trans hxc
    have hvc : Pc.Rows lo2 hi2 wc vx vs yss := hx9.same (hxc9.same _ _)
    refine go ?_
    refine ra (h := rd_makeFunc (caps := #[.pointer (some ⟨b, 0, none⟩), .pointer (some ⟨bu, 0, none⟩), .pointer (some ⟨bx, 0, none⟩)]) (by simp only [List.map_toArray, List.map_cons, List.map_nil, ev_tmp, ev_const, ev_func, get_put, get_args, get_putL, get_putL_nil, Nat.reduceEqDiff, reduceIte, List.getD_cons_zero, List.getD_cons_succ, List.getD_nil])) (next := ?_)
    refine go ?_
    refine rc (containsFuncR_ok (xss := yss) (bad := fun i => ∃ h : i < zs.length, ¬ Gen (fun a : El p => a ∈ ys) (Grp.cj zs[i] (trE p ys k))) (by omega) (fun {w'} x i hi => ?_)) (next := fun vd wd hd => ?_)
    · have hi' : i < zs.length := by omega
      have hzi := vecs_getD zs hi'
      rw [← hzs] at hzi
      have hx' := hxc9.trans x
      have hti' : Ints w7.heap.size w9.heap.size w' (Pc.rowAt v9 (rs9.map (·.1)) k) ((transL p ys).getD k []) := (hR9.vals.at_ k).same (hx'.same _ _)
      have hyi : Ints lo2 hi2 w' (Pc.rowAt vx vs i) (yss.getD i []) := (hx9.vals.at_ i).same (hx'.same _ _)
      have hct' : Cell w' bx 0 (Pc.rowAt v9 (rs9.map (·.1)) k) := hct.same (x.same _ _) x.size
      have hcu' : Cell w' bu 0 vu := hcu9.same (hx'.same _ _) hx'.size
      have hu' : Pc.Rows lo1 hi1 w' vu us xss := hu9.same (hx'.same _ _)
      have hpp' : PresP 0 w9.heap.size w' (.pointer (some ⟨b, 0, none⟩)) p := hpp9.same (hx'.same _ _) hx'.size
      have hcl := fixedFn_ok (p := p) (y := zs[i]) (t := trE p ys k) hse (trE_zero ys k) (w := w') (vp := .pointer (some ⟨b, 0, none⟩)) (vu := vu) (vt := Pc.rowAt v9 (rs9.map fun x : Value × List Int => x.1) k) (vy := Pc.rowAt vx vs i) (bu := bu) (bx := bx) hys hrow hzi
      exact Pc.Calls.ret_mono hcl fun _ _ ⟨b', h1, h2, h3⟩ => ⟨b', h1, h2.trans ⟨fun h => ⟨hi', h⟩, fun ⟨_, h⟩ => h⟩, h3⟩
    obtain ⟨bd, rfl, hbd, hed⟩ := hd
    have hfix : bd = true ↔ ¬ FixAt p ys zs k := by
      rw [hbd]
      constructor
      · rintro ⟨i, hi, h, hn⟩ hf
        exact hn (hf _ (List.getElem_mem h))
      · intro hf
        refine Classical.byContradiction fun hn => hf fun z hz => Classical.byContradiction fun hz' => hn ?_
        obtain ⟨i, hi, rfl⟩ := List.getElem_of_mem hz
        exact ⟨i, by omega, hi, hz'⟩
    refine go ?_
    refine c_b (fun h15 => ?_) (fun h15 => ?_)
    · refine go ?_
      refine forQ_normal (by omega) ⟨?_, hxc9.trans hed⟩
      rw [fixNum_yes (Classical.byContradiction fun h => by rw [hfix.2 h] at h15; cases h15)]
      exact hasP
    · have hbt : bd = true := by simpa using h15
      refine go ?_
      refine forQ_normal (by omega) ⟨?_, hxc9.trans hed⟩
      rw [fixNum_no (hfix.1 hbt)]
      exact hasP
  · obtain rfl : k = (transL p ys).length := by omega
    refine go ?_
    exact ret2 ⟨fixNum p ys zs (transL p ys).length, 0, rfl, .inl ⟨⟨⟨hG, hq⟩, ⟨hG, hI⟩⟩, ⟨inferInstance, ys, zs, hys, hzs, .inr ⟨hidx, by rw [hTl], rfl⟩⟩⟩, hE9.trans hea⟩
end Go.Proofs.YtcohfmglfmomcaaGreat
