/-
  Texts of one proof, put together by program: L01, L02, L03, L04, L05, Prj, Spq, SpqS, Hoa, Ans5, Ser, Ser2, L06, Stk, Hms, Tup, Hmi, W14, W15, W16b, W17, W18, W20, W23, W30, W31, W32, W34, W38, W33, W39, W40, W43.
  Conditions: those told at each part.
-/
import Derived.Test.YtnphljflkpekmaaB3
set_option linter.unusedVariables false
set_option linter.unusedSimpArgs false
set_option linter.unusedSectionVars false
set_option linter.constructorNameAsVariable false
set_option linter.unnecessarySimpa false
set_option linter.deprecated false
/-
  Walks: the statement's own helpers on lists: sizes, copies, comparisons (szInt64S, .., toInt64S, .., eqInt64SSS).
  Conditions: stated at each theorem.
-/
namespace Go.Proofs.Ytnphljflkpekmaa
open Go Go.Pc
theorem szInt64S_ok {w : World} {v : Value} {xs : List Int} {k : Int} {lo hi : Nat} [hx : Ints lo hi w v xs] (hk : 0 ≤ k ∧ k ≤ 2000000) :
    Calls Try.prog 21 #[v, .int .i64 k] w (Ret fun v w' => ∃ j : Int, v = .int .i64 j ∧ (j < 0 ∨ 0 ≤ j ∧ j ≤ k ∧ (xs.length : Int) ≤ k) ∧ Ext w w') := by
  have hl : xs.length ≤ 9223372036854775807 := by
    obtain ⟨A, c, _, hc, hm, _⟩ := hx.sl.ex
    simp at hc; omega
  refine enter (args := [v, .int .i64 k]) (l := [.tmp 4]) Try.func21 rfl rfl Try.ntmps21 (by simp) ?_
  refine go ?_
  refine c_if (fun h4 => ?_) (fun h4 => ?_)
  · refine go ?_
    exact ret1 ⟨-1, rfl, .inl (by omega), Ext.refl _⟩
  · refine go ?_
    exact ret1 ⟨k - xs.length, rfl, .inr ⟨by omega, by omega, by omega⟩, Ext.refl _⟩
theorem sl_len {lo hi : Nat} {w : World} {v : Value} {us : List Value} (h : Sl lo hi w v us) : us.length ≤ 9223372036854775807 := by
  obtain ⟨A, c, _, hc, hm, _⟩ := h.ex
  omega
set_option maxHeartbeats 1000000 in
theorem szInt64SS_ok {w : World} {v : Value} {us : List Value} {xss : List (List Int)} {k : Int} {lo hi : Nat} [hx : Pc.Rows lo hi w v us xss] (hk : 0 ≤ k ∧ k ≤ 2000000) :
    Calls Try.prog 6 #[v, .int .i64 k] w (Ret fun v w' => ∃ j : Int, v = .int .i64 j ∧ (j < 0 ∨ 0 ≤ j ∧ j ≤ k ∧ (xss.length : Int) ≤ k ∧ ∀ i, ((xss.getD i []).length : Int) ≤ k) ∧ Ext w w') := by
  have hl := sl_len hx.sl
  have hul := hx.vals.len
  refine enter (args := [v, .int .i64 k]) (l := [.tmp 4]) Try.func6 rfl rfl Try.ntmps6 (by simp) ?_
  refine go ?_
  refine c_if (fun h4 => ?_) (fun h4 => ?_)
  · refine go ?_
    exact ret1 ⟨-1, rfl, .inl (by omega), Ext.refl _⟩
  refine go ?_
  refine r_for xss.length (fun q ρ w' => ∃ j : Int, Has ρ [(0, v), (1, .int .i64 j), (5, .int .i64 q)] ∧ Ext w w' ∧ 0 ≤ j ∧ j ≤ k ∧ ∀ i, i < q → ((xss.getD i []).length : Int) ≤ k) ?_ ?_
  · refine ⟨k - xss.length, ?_, Ext.refl _, by omega, by omega, fun i hi => by omega⟩
    exact hasP
  rintro q ρ w2 hq ⟨j, hH, he2, hj0, hjk, hI⟩
  refine rwp_has hH fun ρ0 => ?_
  refine go ?_
  refine c_if (fun h5 => ?_) (fun h5 => ?_)
  · refine go ?_
    refine rc (szInt64S_ok (xs := xss.getD q []) (k := j) ?_) (next := fun v3 w3 h3 => ?_)
    · omega
    obtain ⟨j3, rfl, hj3, he3⟩ := h3
    refine go ?_
    refine c_if (fun h6 => ?_) (fun h6 => ?_)
    · refine go ?_
      exact ret1 ⟨-1, rfl, .inl (by omega), he2.trans he3⟩
    · have h7 : 0 ≤ j3 ∧ j3 ≤ j ∧ ((xss.getD q []).length : Int) ≤ j := by
        rcases hj3 with h | h
        · omega
        · exact h
      refine go ?_
      refine forQ_normal (by omega) ⟨j3, ?_, he2.trans he3, by omega, by omega, fun i hi => ?_⟩
      · exact hasP
      · by_cases e : i = q
        · subst e; omega
        · exact hI i (by omega)
  · refine go ?_
    refine ret1 ⟨j, rfl, .inr ⟨hj0, hjk, by omega, fun i => ?_⟩, he2⟩
    by_cases hi : i < xss.length
    · exact hI i (by omega)
    · rw [List.getD_eq_getElem?_getD, List.getElem?_eq_none (by omega)]; simp; omega
set_option maxHeartbeats 1000000 in
theorem szInt64SSS_ok {w : World} {v : Value} {us : List Value} {uss : List (List Value)} {xsss : List (List (List Int))} {k : Int} {lo hi : Nat} [hx : Rowss lo hi w v us uss xsss] (hk : 0 ≤ k ∧ k ≤ 2000000) :
    Calls Try.prog 22 #[v, .int .i64 k] w (Ret fun v w' => ∃ j : Int, v = .int .i64 j ∧ (j < 0 ∨ 0 ≤ j ∧ j ≤ k ∧ (xsss.length : Int) ≤ k ∧ ∀ i, ((xsss.getD i []).length : Int) ≤ k ∧ ∀ h, (((xsss.getD i []).getD h []).length : Int) ≤ k) ∧ Ext w w') := by
  have hl := sl_len hx.sl
  have hul := hx.vals.len
  refine enter (args := [v, .int .i64 k]) (l := [.tmp 4]) Try.func22 rfl rfl Try.ntmps22 (by simp) ?_
  refine go ?_
  refine c_if (fun h4 => ?_) (fun h4 => ?_)
  · refine go ?_
    exact ret1 ⟨-1, rfl, .inl (by omega), Ext.refl _⟩
  refine go ?_
  refine r_for xsss.length (fun q ρ w' => ∃ j : Int, Has ρ [(0, v), (1, .int .i64 j), (5, .int .i64 q)] ∧ Ext w w' ∧ 0 ≤ j ∧ j ≤ k ∧ ∀ i, i < q → ((xsss.getD i []).length : Int) ≤ k ∧ ∀ h, (((xsss.getD i []).getD h []).length : Int) ≤ k) ?_ ?_
  · refine ⟨k - xsss.length, ?_, Ext.refl _, by omega, by omega, fun i hi => by omega⟩
    exact hasP
  rintro q ρ w2 hq ⟨j, hH, he2, hj0, hjk, hI⟩
  refine rwp_has hH fun ρ0 => ?_
  refine go ?_
  refine c_if (fun h5 => ?_) (fun h5 => ?_)
  · refine go ?_
    refine rc (szInt64SS_ok (xss := xsss.getD q []) (k := j) ?_) (next := fun v3 w3 h3 => ?_)
    · omega
    obtain ⟨j3, rfl, hj3, he3⟩ := h3
    refine go ?_
    refine c_if (fun h6 => ?_) (fun h6 => ?_)
    · refine go ?_
      exact ret1 ⟨-1, rfl, .inl (by omega), he2.trans he3⟩
    · have h7 : 0 ≤ j3 ∧ j3 ≤ j ∧ ((xsss.getD q []).length : Int) ≤ j ∧ ∀ i, (((xsss.getD q []).getD i []).length : Int) ≤ j := by
        rcases hj3 with h | h
        · omega
        · exact h
      refine go ?_
      refine forQ_normal (by omega) ⟨j3, ?_, he2.trans he3, by omega, by omega, fun i hi => ?_⟩
      · exact hasP
      · by_cases e : i = q
        · subst e; exact ⟨by omega, fun h => by have := h7.2.2.2 h; omega⟩
        · exact hI i (by omega)
  · refine go ?_
    refine ret1 ⟨j, rfl, .inr ⟨hj0, hjk, by omega, fun i => ?_⟩, he2⟩
    by_cases hi : i < xsss.length
    · exact hI i (by omega)
    · rw [List.getD_eq_getElem?_getD, List.getElem?_eq_none (by omega)]; simp; omega
set_option maxHeartbeats 1000000 in
theorem toInt64S_ok {w : World} {v : Value} {xs : List Int} {lo hi : Nat} [hx : Ints lo hi w v xs] (hl : xs.length ≤ 2000000) :
    Calls Try.prog 25 #[v] w (Ret fun v' w' => Ext w w' ∧ Fr w.heap.size w' v' xs) := by
  refine enter (args := [v]) (l := [.tmp 2]) Try.func25 rfl rfl Try.ntmps25 (by simp) ?_
  refine go ?_
  refine st_make_int (by ((try simp only [ev_tmp, ev_const, ev_func, get_put, get_args, get_putL, get_putL_nil, Nat.reduceEqDiff, reduceIte, List.getD_cons_zero, List.getD_cons_succ, List.getD_nil]); first | done | with_reducible rfl)) (by ((try simp only [ev_tmp, ev_const, ev_func, get_put, get_args, get_putL, get_putL_nil, Nat.reduceEqDiff, reduceIte, List.getD_cons_zero, List.getD_cons_succ, List.getD_nil]); first | done | with_reducible rfl)) (by omega) (by omega) (by first | exact True.intro | exact ⟨_, rfl, by ((try simp only [ev_tmp, ev_const, ev_func, get_put, get_args, get_putL, get_putL_nil, Nat.reduceEqDiff, reduceIte, List.getD_cons_zero, List.getD_cons_succ, List.getD_nil, Bool.not_true, Bool.not_false]); first | done | with_reducible rfl)⟩) fun w1 v1 he1 hs1 ho1 => ?_
  replace hx := hx.wide
  have ap : Apart 0 w.heap.size w.heap.size := ⟨.inr (Nat.le_refl _)⟩
  refine go ?_
  refine r_for xs.length (fun k ρ w' => ∃ ys, Has ρ [(0, v), (3, v1), (4, .int .i64 k)] ∧ Chg w.heap.size w1 w' ∧ OwnI 2 w.heap.size w' v1 ys ∧ ys.length = xs.length ∧ ∀ i, i < k → ys.getD i 0 = xs.getD i 0) ?_ ?_
  · refine ⟨_, ?_, Chg.refl _ _, ho1, by simp, fun i hi => by omega⟩
    exact hasP
  clear ho1
  rintro k ρ w2 hk ⟨ys, hH, hc2, ho2, hl2, hI⟩
  refine rwp_has hH fun ρ0 => ?_
  refine go ?_
  refine c_if (fun h4 => ?_) (fun h4 => ?_)
  · refine go ?_
    refine st_store_int (by ((try simp only [ev_tmp, ev_const, ev_func, get_put, get_args, get_putL, get_putL_nil, Nat.reduceEqDiff, reduceIte, List.getD_cons_zero, List.getD_cons_succ, List.getD_nil]); first | done | with_reducible rfl)) (by ((try simp only [ev_tmp, ev_const, ev_func, get_put, get_args, get_putL, get_putL_nil, Nat.reduceEqDiff, reduceIte, List.getD_cons_zero, List.getD_cons_succ, List.getD_nil]); first | done | with_reducible rfl)) ?_ (by first | exact True.intro | exact ⟨_, rfl, by ((try simp only [ev_tmp, ev_const, ev_func, get_put, get_args, get_putL, get_putL_nil, Nat.reduceEqDiff, reduceIte, List.getD_cons_zero, List.getD_cons_succ, List.getD_nil, Bool.not_true, Bool.not_false]); first | done | with_reducible rfl)⟩) fun w3 hc3 hs3 ho3 => ?_
    · omega
    refine go ?_
    refine forQ_normal (by omega) ⟨_, ?_, hc2.trans hc3, ho3, by simp [hl2], fun i hi => ?_⟩
    · exact hasP
    · by_cases e : k = i
      · subst e; rw [Pc.getD_set_eq _ _ _ (by omega)]
      · rw [Pc.getD_set_ne _ _ _ _ e]; exact hI i (by omega)
  · refine go ?_
    have hy : ys = xs := list_ext0 hl2 fun i hi => hI i (by omega)
    subst hy
    exact ret1 ⟨hc2.ext he1 (Nat.le_refl _), ho2.toFr (Nat.le_refl _)⟩
theorem set_nils {α : Type} (l : List α) (z u : α) (m : Nat) : (l ++ List.replicate (m + 1) z).set l.length u = (l ++ [u]) ++ List.replicate m z := by
  simp [List.replicate_succ]
set_option maxHeartbeats 1000000 in
theorem toInt64SSO_ok {w : World} {v : Value} {us : List Value} {xss : List (List Int)} {lo hi : Nat} [hx : Pc.Rows lo hi w v us xss] (hl : xss.length ≤ 2000000) (hr : ∀ i, (xss.getD i []).length ≤ 2000000) :
    Calls Try.prog 9 #[v] w (Ret fun v' w' => Ext w w' ∧ ∃ rs, Lst 22 w.heap.size (· < w.heap.size) w' v' (rs.map (·.1)) xss ∧ xss = rs.map (·.2) ∧ RowsO w.heap.size w' rs) := by
  refine enter (args := [v]) (l := [.tmp 2]) Try.func9 rfl rfl Try.ntmps9 (by simp) ?_
  refine go ?_
  refine st_make_nil (by ((try simp only [ev_tmp, ev_const, ev_func, get_put, get_args, get_putL, get_putL_nil, Nat.reduceEqDiff, reduceIte, List.getD_cons_zero, List.getD_cons_succ, List.getD_nil]); first | done | with_reducible rfl)) (by ((try simp only [ev_tmp, ev_const, ev_func, get_put, get_args, get_putL, get_putL_nil, Nat.reduceEqDiff, reduceIte, List.getD_cons_zero, List.getD_cons_succ, List.getD_nil]); first | done | with_reducible rfl)) (by omega) (by omega) (by first | exact True.intro | exact ⟨_, rfl, by ((try simp only [ev_tmp, ev_const, ev_func, get_put, get_args, get_putL, get_putL_nil, Nat.reduceEqDiff, reduceIte, List.getD_cons_zero, List.getD_cons_succ, List.getD_nil, Bool.not_true, Bool.not_false]); first | done | with_reducible rfl)⟩) fun w1 v1 he1 hs1 ho1 => ?_
  have hvb := ho1.toN_block
  have hL1 : Lst 22 w.heap.size (· < w.heap.size) w1 v1 _ _ := Lst.ofNils ho1 (Nat.le_refl _) (by omega) (fun g hg => by omega)
  refine go ?_
  refine r_for xss.length (fun k ρ w' => ∃ rs : List (Value × List Int), Has ρ [(0, v), (3, v1), (4, .int .i64 k)] ∧ Ext w w' ∧ Lst 22 w.heap.size (· < w.heap.size) w' v1 (rs.map (·.1) ++ List.replicate (xss.length - k) nilv) (rs.map (·.2) ++ List.replicate (xss.length - k) []) ∧ rs.length = k ∧ rs.map (·.2) = xss.take k ∧ RowsO (w.heap.size + 1) w' rs ∧ w.heap.size + 1 ≤ w'.heap.size) ?_ ?_
  · refine ⟨[], ?_, he1, by simpa using hL1, rfl, by simp, RowsO.nil _ _, by omega⟩
    exact hasP
  clear hL1 ho1
  rintro k ρ w2 hk ⟨rs, hH, he2, hL2, hl2, hI, hO2, hsz2⟩
  refine rwp_has hH fun ρ0 => ?_
  have hLr := hL2.toRows
  refine go ?_
  refine c_if (fun h4 => ?_) (fun h4 => ?_)
  · refine go ?_
    refine rc (toInt64S_ok (xs := xss.getD k []) (hr k)) (next := fun v3 w3 h3 => ?_)
    obtain ⟨he3, hf3⟩ := h3
    have hL3 := hL2.ext he3
    have hO3 := hL3.toOwn hvb
    have hz2 := he2.size
    have hul : (rs.map (·.1) ++ List.replicate (xss.length - k) nilv).length = xss.length := by simp; omega
    have hul2 : (rs.map (·.2) ++ List.replicate (xss.length - k) ([] : List Int)).length = xss.length := by simp; omega
    refine go ?_
    refine st_store_val (h := hO3) (by ((try simp only [ev_tmp, ev_const, ev_func, get_put, get_args, get_putL, get_putL_nil, Nat.reduceEqDiff, reduceIte, List.getD_cons_zero, List.getD_cons_succ, List.getD_nil]); first | done | with_reducible rfl)) (by ((try simp only [ev_tmp, ev_const, ev_func, get_put, get_args, get_putL, get_putL_nil, Nat.reduceEqDiff, reduceIte, List.getD_cons_zero, List.getD_cons_succ, List.getD_nil]); first | done | with_reducible rfl)) ?_ ?_ (by first | exact True.intro | exact ⟨_, rfl, by ((try simp only [ev_tmp, ev_const, ev_func, get_put, get_args, get_putL, get_putL_nil, Nat.reduceEqDiff, reduceIte, List.getD_cons_zero, List.getD_cons_succ, List.getD_nil, Bool.not_true, Bool.not_false]); first | done | with_reducible rfl)⟩) fun w4 hc4 hs4 ho4 => ?_
    · exact hf3.ints.sl.one
    · omega
    have hL4 := hL3.set hvb (IntsAp.ofFr hf3 (fun g hg => by
      rcases hg with hg | hg
      · omega
      · exact (hL2.lt hg).2)) hc4 ho4 (by omega)
    have hkn : k < xss.length := by omega
    have e0 : xss.length - k = (xss.length - (k + 1)) + 1 := by omega
    have e1 := set_nils (rs.map (·.1)) nilv v3 (xss.length - (k + 1))
    have e2 := set_nils (rs.map (·.2)) [] (xss.getD k []) (xss.length - (k + 1))
    rw [List.length_map, hl2, ← e0] at e1 e2
    rw [e1, e2] at hL4
    have hO4 := hO2.push he3 hsz2 hf3
    have hO5 := hO4.wr (.one (B := fun b => b = w.heap.size) rfl hc4) fun b hb e => by have := (hO4.blk hb).1; omega
    have hz3 := he3.size
    refine go ?_
    refine forQ_normal (by omega) ⟨rs ++ [(v3, xss.getD k [])], ?_, hc4.ext (he2.trans he3) (Nat.le_refl _), by simpa using hL4, by simp [hl2], ?_, hO5, by omega⟩
    · exact hasP
    · rw [List.take_succ_eq_append_getElem hkn, List.map_append, hI]; simp [hkn]
  · refine go ?_
    obtain rfl : k = xss.length := by omega
    rw [List.take_length] at hI
    refine ret1 ⟨he2, rs, ?_, hI.symm, hO2.mono (by omega)⟩
    simpa [hI] using hL2
theorem toInt64SS_ok {w : World} {v : Value} {us : List Value} {xss : List (List Int)} {lo hi : Nat} [hx : Pc.Rows lo hi w v us xss] (hl : xss.length ≤ 2000000) (hr : ∀ i, (xss.getD i []).length ≤ 2000000) :
    Calls Try.prog 9 #[v] w (Ret fun v' w' => Ext w w' ∧ ∃ us', Lst 22 w.heap.size (· < w.heap.size) w' v' us' xss) :=
  Pc.Calls.ret_mono (toInt64SSO_ok hl hr) fun _ _ ⟨h1, _, h2, _⟩ => ⟨h1, _, h2⟩
end Go.Proofs.Ytnphljflkpekmaa

/-
  Walks: the statement's own helpers on presentations: sizes, copies, comparisons (toInt64SSS, szPresentation, toPresentation, eqInt64SSS, eqPresentation).
  Conditions: stated at each theorem.
-/
namespace Go.Proofs.Ytnphljflkpekmaa
open Go Go.Pc
set_option maxHeartbeats 1000000 in
theorem toInt64SSS_ok {w : World} {v : Value} {us : List Value} {uss : List (List Value)} {xsss : List (List (List Int))} {lo hi : Nat} [hx : Rowss lo hi w v us uss xsss] (hl : xsss.length ≤ 2000000) (hr : ∀ i, (xsss.getD i []).length ≤ 2000000 ∧ ∀ j, ((xsss.getD i []).getD j []).length ≤ 2000000) :
    Calls Try.prog 26 #[v] w (Ret fun v' w' => Ext w w' ∧ ∃ us' uss', Rowss w.heap.size w'.heap.size w' v' us' uss' xsss) := by
  refine enter (args := [v]) (l := [.tmp 2]) Try.func26 rfl rfl Try.ntmps26 (by simp) ?_
  refine go ?_
  refine st_make_nil (by ((try simp only [ev_tmp, ev_const, ev_func, get_put, get_args, get_putL, get_putL_nil, Nat.reduceEqDiff, reduceIte, List.getD_cons_zero, List.getD_cons_succ, List.getD_nil]); first | done | with_reducible rfl)) (by ((try simp only [ev_tmp, ev_const, ev_func, get_put, get_args, get_putL, get_putL_nil, Nat.reduceEqDiff, reduceIte, List.getD_cons_zero, List.getD_cons_succ, List.getD_nil]); first | done | with_reducible rfl)) (by omega) (by omega) (by first | exact True.intro | exact ⟨_, rfl, by ((try simp only [ev_tmp, ev_const, ev_func, get_put, get_args, get_putL, get_putL_nil, Nat.reduceEqDiff, reduceIte, List.getD_cons_zero, List.getD_cons_succ, List.getD_nil, Bool.not_true, Bool.not_false]); first | done | with_reducible rfl)⟩) fun w1 v1 he1 hs1 ho1 => ?_
  refine go ?_
  refine r_for xsss.length (fun k ρ w' => ∃ (us' : List Value) (uss' : List (List Value)) (ysss : List (List (List Int))), Has ρ [(0, v), (3, v1), (4, .int .i64 k)] ∧ Ext w w' ∧ Own 23 w.heap.size w' v1 us' ∧ us'.length = xsss.length ∧ uss'.length = xsss.length ∧ ysss.length = xsss.length ∧
    (∀ i, Pc.Rows (w.heap.size + 1) w'.heap.size w' (us'.getD i nilv) (uss'.getD i []) (ysss.getD i [])) ∧ ∀ i, i < k → ysss.getD i [] = xsss.getD i []) ?_ ?_
  · refine ⟨_, List.replicate xsss.length [], List.replicate xsss.length [], ?_, he1, ho1, by simp, by simp, by simp, fun i => ?_, fun i hi => by omega⟩
    · exact hasP
    · have e1 : (List.replicate xsss.length nilv).getD i nilv = nilv := by
        rw [List.getD_eq_getElem?_getD, List.getElem?_replicate]; split <;> rfl
      have e2 : (List.replicate xsss.length ([] : List Value)).getD i [] = [] := by
        rw [List.getD_eq_getElem?_getD, List.getElem?_replicate]; split <;> rfl
      have e3 : (List.replicate xsss.length ([] : List (List Int))).getD i [] = [] := by
        rw [List.getD_eq_getElem?_getD, List.getElem?_replicate]; split <;> rfl
      rw [e1, e2, e3]
      refine ⟨⟨⟨none, 0, rfl, Nat.le_refl _, by omega, fun k u hu => by simp at hu⟩⟩, rfl, fun i => ?_⟩
      exact ⟨⟨none, 0, by simp, by simp, by omega, fun k u hu => by simp at hu⟩⟩
  clear ho1
  rintro k ρ w2 hk ⟨us', uss', ysss, hH, he2, ho2, hl1, hl2, hl3, hR, hI⟩
  refine rwp_has hH fun ρ0 => ?_
  have hsl := ho2.toSl
  refine go ?_
  refine c_if (fun h4 => ?_) (fun h4 => ?_)
  · refine go ?_
    refine rc (toInt64SS_ok (xss := xsss.getD k []) (hr k).1 (hr k).2) (next := fun v3 w3 h3 => ?_)
    obtain ⟨he3, us3, hL3⟩ := h3
    have hN3 := hL3.newRows
    have ho3 : Own 23 w.heap.size w3 v1 us' := Own.ext (h := ho2)
    have hsl3 := ho3.toSl
    have hlen3 := hsl3.toLen
    have hz2 := he2.size
    have hz3 := he3.size
    have hol := ho2.lt
    refine go ?_
    refine st_store_val (h := ho3) (by ((try simp only [ev_tmp, ev_const, ev_func, get_put, get_args, get_putL, get_putL_nil, Nat.reduceEqDiff, reduceIte, List.getD_cons_zero, List.getD_cons_succ, List.getD_nil]); first | done | with_reducible rfl)) (by ((try simp only [ev_tmp, ev_const, ev_func, get_put, get_args, get_putL, get_putL_nil, Nat.reduceEqDiff, reduceIte, List.getD_cons_zero, List.getD_cons_succ, List.getD_nil]); first | done | with_reducible rfl)) ?_ ?_ (by first | exact True.intro | exact ⟨_, rfl, by ((try simp only [ev_tmp, ev_const, ev_func, get_put, get_args, get_putL, get_putL_nil, Nat.reduceEqDiff, reduceIte, List.getD_cons_zero, List.getD_cons_succ, List.getD_nil, Bool.not_true, Bool.not_false]); first | done | with_reducible rfl)⟩) fun w4 hc4 hs4 ho4 => ?_
    · exact hN3.sl.one
    · omega
    refine go ?_
    refine forQ_normal (by omega) ⟨us'.set k v3, uss'.set k us3, ysss.set k (xsss.getD k []), ?_, hc4.ext (he2.trans he3) (Nat.le_refl _), ho4, by simp [hl1], by simp [hl2], by simp [hl3], fun i => ?_, fun i hi => ?_⟩
    · exact hasP
    · by_cases e : k = i
      · subst e
        have e1 : (us'.set k v3).getD k nilv = v3 := by simp [show k < us'.length by omega]
        have e2 : (uss'.set k us3).getD k [] = us3 := by simp [show k < uss'.length by omega]
        have e3 : (ysss.set k (xsss.getD k [])).getD k [] = xsss.getD k [] := by simp [show k < ysss.length by omega]
        rw [e1, e2, e3]
        exact (hN3.same (hc4.same (.inl (by omega)))).mono (by omega) (by omega)
      · have e1 : (us'.set k v3).getD i nilv = us'.getD i nilv := by simp [List.getElem?_set_ne e]
        have e2 : (uss'.set k us3).getD i [] = uss'.getD i [] := by simp [List.getElem?_set_ne e]
        have e3 : (ysss.set k (xsss.getD k [])).getD i [] = ysss.getD i [] := by simp [List.getElem?_set_ne e]
        rw [e1, e2, e3]
        exact (((hR i).same (he3.same _ _)).same (hc4.same (.inl (by omega)))).mono (Nat.le_refl _) (by omega)
    · by_cases e : k = i
      · subst e; simp [show k < ysss.length by omega]
      · have : (ysss.set k (xsss.getD k [])).getD i [] = ysss.getD i [] := by simp [List.getElem?_set_ne e]
        rw [this]; exact hI i (by omega)
  · refine go ?_
    refine ret1 ⟨he2, us', uss', ?_⟩
    have hy : ysss = xsss := by
      apply List.ext_getElem hl3
      intro i h1 h2
      have := hI i (by omega)
      simpa [h1, h2] using this
    subst hy
    exact ⟨hsl.mono (Nat.le_refl _) (by have := ho2.lt; omega), hl1, hl2, fun i => (hR i).mono (by omega) (Nat.le_refl _)⟩
theorem rowss_mono {lo hi lo' hi' : Nat} {w : World} {v : Value} {us : List Value} {uss : List (List Value)} {xsss : List (List (List Int))} (h : Rowss lo hi w v us uss xsss) (h1 : lo' ≤ lo) (h2 : hi ≤ hi') : Rowss lo' hi' w v us uss xsss :=
  ⟨h.sl.mono h1 h2, h.vals.len, h.vals.len', fun i => (h.vals.at_ i).mono h1 h2⟩
/-- The sizes of a presentation, none above k. -/
structure SizeP (p : Pr) (k : Int) : Prop where
  ord : (p.ord.length : Int) ≤ k
  pow : (p.pow.length : Int) ≤ k
  powi : ∀ i, ((p.pow.getD i []).length : Int) ≤ k
  cnj : (p.cnj.length : Int) ≤ k
  cnji : ∀ i, ((p.cnj.getD i []).length : Int) ≤ k
  cnjij : ∀ i j, (((p.cnj.getD i []).getD j []).length : Int) ≤ k
set_option maxHeartbeats 1000000 in
theorem szPresentation_ok {w : World} {v : Value} {p : Pr} {k : Int} {lo hi : Nat} [hp : Pres lo hi w v p] (hk : 0 ≤ k ∧ k ≤ 2000000) :
    Calls Try.prog 5 #[v, .int .i64 k] w (Ret fun v w' => ∃ j : Int, v = .int .i64 j ∧ (j < 0 ∨ 0 ≤ j ∧ j ≤ k ∧ SizeP p k) ∧ Ext w w') := by
  obtain ⟨vo, vpw, vc, ps, cs, css, rfl, h1, h2, h3⟩ := hp.ex
  refine enter (args := [.agg #[vo, vpw, vc], .int .i64 k]) (l := [.tmp 4]) Try.func5 rfl rfl Try.ntmps5 (by simp) ?_
  refine go ?_
  refine st_box3 (by ((try simp only [ev_tmp, ev_const, ev_func, get_put, get_args, get_putL, get_putL_nil, Nat.reduceEqDiff, reduceIte, List.getD_cons_zero, List.getD_cons_succ, List.getD_nil]); first | done | with_reducible rfl)) (by first | exact True.intro | exact ⟨_, rfl, by ((try simp only [ev_tmp, ev_const, ev_func, get_put, get_args, get_putL, get_putL_nil, Nat.reduceEqDiff, reduceIte, List.getD_cons_zero, List.getD_cons_succ, List.getD_nil, Bool.not_true, Bool.not_false]); first | done | with_reducible rfl)⟩) fun w1 b he1 hb1 hs1 hc0 hc1 hc2 => ?_
  refine go ?_
  refine rc (szInt64S_ok (xs := p.ord) hk) (next := fun v2 w2 h4 => ?_)
  obtain ⟨j2, rfl, hj2, he2⟩ := h4
  refine go ?_
  refine c_if (fun h5 => ?_) (fun h5 => ?_)
  · refine go ?_
    exact ret1 ⟨-1, rfl, .inl (by omega), he1.trans he2⟩
  have h6 : 0 ≤ j2 ∧ j2 ≤ k ∧ (p.ord.length : Int) ≤ k := by
    rcases hj2 with h | h
    · omega
    · exact h
  refine go ?_
  refine rc (szInt64SS_ok (xss := p.pow) (k := j2) ?_) (next := fun v3 w3 h7 => ?_)
  · omega
  obtain ⟨j3, rfl, hj3, he3⟩ := h7
  refine go ?_
  refine c_if (fun h8 => ?_) (fun h8 => ?_)
  · refine go ?_
    exact ret1 ⟨-1, rfl, .inl (by omega), (he1.trans he2).trans he3⟩
  have h9 : 0 ≤ j3 ∧ j3 ≤ j2 ∧ (p.pow.length : Int) ≤ j2 ∧ ∀ i, ((p.pow.getD i []).length : Int) ≤ j2 := by
    rcases hj3 with h | h
    · omega
    · exact h
  refine go ?_
  refine rc (szInt64SSS_ok (xsss := p.cnj) (k := j3) ?_) (next := fun v4 w4 h10 => ?_)
  · omega
  obtain ⟨j4, rfl, hj4, he4⟩ := h10
  refine go ?_
  refine c_if (fun h11 => ?_) (fun h11 => ?_)
  · refine go ?_
    exact ret1 ⟨-1, rfl, .inl (by omega), ((he1.trans he2).trans he3).trans he4⟩
  have h12 : 0 ≤ j4 ∧ j4 ≤ j3 ∧ (p.cnj.length : Int) ≤ j3 ∧ ∀ i, ((p.cnj.getD i []).length : Int) ≤ j3 ∧ ∀ h, (((p.cnj.getD i []).getD h []).length : Int) ≤ j3 := by
    rcases hj4 with h | h
    · omega
    · exact h
  refine go ?_
  refine ret1 ⟨j4, rfl, .inr ⟨h12.1, by omega, ⟨h6.2.2, by omega, fun i => by have := h9.2.2.2 i; omega, by omega, fun i => by have := (h12.2.2.2 i).1; omega, fun i j => by have := (h12.2.2.2 i).2 j; omega⟩⟩, ((he1.trans he2).trans he3).trans he4⟩
set_option maxHeartbeats 1000000 in
theorem toPresentation_ok {w : World} {v : Value} {p : Pr} {lo hi : Nat} [hp : Pres lo hi w v p] (hs : SizeP p 2000000) :
    Calls Try.prog 8 #[v] w (Ret fun v w' => Ext w w' ∧ Pres w.heap.size w'.heap.size w' v p) := by
  have hs1 := hs.ord
  have hs2 := hs.pow
  have hs3 := hs.cnj
  obtain ⟨vo, vpw, vc, ps, cs, css, rfl, h1, h2, h3⟩ := hp.ex
  refine enter (args := [.agg #[vo, vpw, vc]]) (l := [.cell 2 29]) Try.func8 rfl rfl Try.ntmps8 (by simp) ?_
  refine go ?_
  refine st_box3 (by ((try simp only [ev_tmp, ev_const, ev_func, get_put, get_args, get_putL, get_putL_nil, Nat.reduceEqDiff, reduceIte, List.getD_cons_zero, List.getD_cons_succ, List.getD_nil]); first | done | with_reducible rfl)) (by first | exact True.intro | exact ⟨_, rfl, by ((try simp only [ev_tmp, ev_const, ev_func, get_put, get_args, get_putL, get_putL_nil, Nat.reduceEqDiff, reduceIte, List.getD_cons_zero, List.getD_cons_succ, List.getD_nil, Bool.not_true, Bool.not_false]); first | done | with_reducible rfl)⟩) fun w1 b he1 hb1 hsz1 hc0 hc1 hc2 => ?_
  refine go ?_
  refine st_alloc (by first | exact True.intro | exact ⟨_, rfl, by ((try simp only [ev_tmp, ev_const, ev_func, get_put, get_args, get_putL, get_putL_nil, Nat.reduceEqDiff, reduceIte, List.getD_cons_zero, List.getD_cons_succ, List.getD_nil, Bool.not_true, Bool.not_false]); first | done | with_reducible rfl)⟩) fun w2 br he2 hbr hsz2 hbk2 => ?_
  refine go ?_
  refine st_alloc (by first | exact True.intro | exact ⟨_, rfl, by ((try simp only [ev_tmp, ev_const, ev_func, get_put, get_args, get_putL, get_putL_nil, Nat.reduceEqDiff, reduceIte, List.getD_cons_zero, List.getD_cons_succ, List.getD_nil, Bool.not_true, Bool.not_false]); first | done | with_reducible rfl)⟩) fun w3 bo he3 hbo hsz3 hbk3 => ?_
  have hE3 := (he1.trans he2).trans he3
  refine go ?_
  refine rc (toInt64S_ok (xs := p.ord) (by omega)) (next := fun v4 w4 h4 => ?_)
  obtain ⟨he4, hf4⟩ := h4
  have hb4 : Blk w4 bo _ := Blk.ext (h := hbk3)
  have hz4 := he4.size
  refine go ?_
  refine st_store_fld (h := hb4) (by ((try simp only [ev_tmp, ev_const, ev_func, get_put, get_args, get_putL, get_putL_nil, Nat.reduceEqDiff, reduceIte, List.getD_cons_zero, List.getD_cons_succ, List.getD_nil]); first | done | with_reducible rfl)) (by ((try simp only [ev_tmp, ev_const, ev_func, get_put, get_args, get_putL, get_putL_nil, Nat.reduceEqDiff, reduceIte, List.getD_cons_zero, List.getD_cons_succ, List.getD_nil]); first | done | with_reducible rfl)) ?_ ?_ (by first | exact True.intro | exact ⟨_, rfl, by ((try simp only [ev_tmp, ev_const, ev_func, get_put, get_args, get_putL, get_putL_nil, Nat.reduceEqDiff, reduceIte, List.getD_cons_zero, List.getD_cons_succ, List.getD_nil, Bool.not_true, Bool.not_false]); first | done | with_reducible rfl)⟩) fun w5 hc5 hs5 hb5 => ?_
  · exact hf4.ints.sl.one
  · simp
  have hE15 : Ext w1 w5 := hc5.ext ((he2.trans he3).trans he4) (by have := he2.size; omega)
  have hz15 := hE15.size
  have hz2 := he2.size
  have hi5 : Ints w3.heap.size w4.heap.size w5 v4 p.ord := hf4.ints.same (hc5.same (.inl (by omega)))
  have hr5 : Blk w5 br _ := (Blk.ext (x := he3.trans he4) (h := hbk2)).chg' hc5 (by omega)
  refine go ?_
  refine rc (toInt64SS_ok (xss := p.pow) (by omega) (fun i => by have := hs.powi i; omega)) (next := fun v6 w6 h6 => ?_)
  obtain ⟨he6, us6, hL6⟩ := h6
  have hN6 := hL6.newRows
  have hb6 : Blk w6 bo _ := Blk.ext (h := hb5)
  have hz6 := he6.size
  refine go ?_
  refine st_store_fld (h := hb6) (by ((try simp only [ev_tmp, ev_const, ev_func, get_put, get_args, get_putL, get_putL_nil, Nat.reduceEqDiff, reduceIte, List.getD_cons_zero, List.getD_cons_succ, List.getD_nil]); first | done | with_reducible rfl)) (by ((try simp only [ev_tmp, ev_const, ev_func, get_put, get_args, get_putL, get_putL_nil, Nat.reduceEqDiff, reduceIte, List.getD_cons_zero, List.getD_cons_succ, List.getD_nil]); first | done | with_reducible rfl)) ?_ ?_ (by first | exact True.intro | exact ⟨_, rfl, by ((try simp only [ev_tmp, ev_const, ev_func, get_put, get_args, get_putL, get_putL_nil, Nat.reduceEqDiff, reduceIte, List.getD_cons_zero, List.getD_cons_succ, List.getD_nil, Bool.not_true, Bool.not_false]); first | done | with_reducible rfl)⟩) fun w7 hc7 hs7 hb7 => ?_
  · exact hN6.sl.one
  · simp
  have hE17 : Ext w1 w7 := hc7.ext (hE15.trans he6) (by omega)
  have hi7 : Ints w3.heap.size w4.heap.size w7 v4 p.ord := (hi5.same (he6.same _ _)).same (hc7.same (.inl (by omega)))
  have hp7 : Pc.Rows w5.heap.size w6.heap.size w7 v6 us6 p.pow := hN6.same (hc7.same (.inl (by omega)))
  have hr7 : Blk w7 br _ := (Blk.ext (x := he6) (h := hr5)).chg' hc7 (by omega)
  refine go ?_
  refine rc (toInt64SSS_ok (xsss := p.cnj) (by omega) (fun i => ⟨by have := hs.cnji i; omega, fun j => by have := hs.cnjij i j; omega⟩)) (next := fun v8 w8 h8 => ?_)
  obtain ⟨he8, us8, uss8, hR8⟩ := h8
  have hb8 : Blk w8 bo _ := Blk.ext (h := hb7)
  have hz8 := he8.size
  refine go ?_
  refine st_store_fld (h := hb8) (by ((try simp only [ev_tmp, ev_const, ev_func, get_put, get_args, get_putL, get_putL_nil, Nat.reduceEqDiff, reduceIte, List.getD_cons_zero, List.getD_cons_succ, List.getD_nil]); first | done | with_reducible rfl)) (by ((try simp only [ev_tmp, ev_const, ev_func, get_put, get_args, get_putL, get_putL_nil, Nat.reduceEqDiff, reduceIte, List.getD_cons_zero, List.getD_cons_succ, List.getD_nil]); first | done | with_reducible rfl)) ?_ ?_ (by first | exact True.intro | exact ⟨_, rfl, by ((try simp only [ev_tmp, ev_const, ev_func, get_put, get_args, get_putL, get_putL_nil, Nat.reduceEqDiff, reduceIte, List.getD_cons_zero, List.getD_cons_succ, List.getD_nil, Bool.not_true, Bool.not_false]); first | done | with_reducible rfl)⟩) fun w9 hc9 hs9 hb9 => ?_
  · exact hR8.sl.one
  · simp
  have hE19 : Ext w1 w9 := hc9.ext (hE17.trans he8) (by omega)
  have hi9 : Ints w3.heap.size w4.heap.size w9 v4 p.ord := (hi7.same (he8.same _ _)).same (hc9.same (.inl (by omega)))
  have hp9 : Pc.Rows w5.heap.size w6.heap.size w9 v6 us6 p.pow := (hp7.same (he8.same _ _)).same (hc9.same (.inl (by omega)))
  have hq9 : Rowss w7.heap.size w8.heap.size w9 v8 us8 uss8 p.cnj := hR8.same (hc9.same (.inl (by omega)))
  have hr9 : Blk w9 br _ := (Blk.ext (x := he8) (h := hr7)).chg' hc9 (by omega)
  refine go ?_
  have hb9' : Blk w9 bo [v4, v6, v8] := hb9
  refine ra (v := .agg #[v4, v6, v8]) (h := rd_load_blk (hb := hb9') (by ((try simp only [ev_tmp, ev_const, ev_func, get_put, get_args, get_putL, get_putL_nil, Nat.reduceEqDiff, reduceIte, List.getD_cons_zero, List.getD_cons_succ, List.getD_nil]); first | done | with_reducible rfl)) rfl) (next := ?_)
  refine st_store_agg (vs := [v4, v6, v8]) (cs := _) (hb := hr9) (by ((try simp only [ev_tmp, ev_const, ev_func, get_put, get_args, get_putL, get_putL_nil, Nat.reduceEqDiff, reduceIte, List.getD_cons_zero, List.getD_cons_succ, List.getD_nil]); first | done | with_reducible rfl)) (by ((try simp only [ev_tmp, ev_const, ev_func, get_put, get_args, get_putL, get_putL_nil, Nat.reduceEqDiff, reduceIte, List.getD_cons_zero, List.getD_cons_succ, List.getD_nil]); first | done | with_reducible rfl)) rfl ?_ ?_ (by first | exact True.intro | exact ⟨_, rfl, by ((try simp only [ev_tmp, ev_const, ev_func, get_put, get_args, get_putL, get_putL_nil, Nat.reduceEqDiff, reduceIte, List.getD_cons_zero, List.getD_cons_succ, List.getD_nil, Bool.not_true, Bool.not_false]); first | done | with_reducible rfl)⟩) fun w10 hc10 hs10 hb10 => ?_
  · rfl
  · have e1 := hi9.sl.one
    have e2 := hp9.sl.one
    have e3 := hq9.sl.one
    simp [e1, e2, e3]
  refine go ?_
  refine retc (b := br) (hb := hb10) ⟨hc10.ext (he1.trans hE19) (by omega), ?_⟩ rfl
  have hi10 := (hi9.same (hc10.same (.inl (by omega)))).mono (lo' := w.heap.size) (hi' := w10.heap.size) (by omega) (by omega)
  have hp10 := (hp9.same (hc10.same (.inl (by omega)))).mono (lo' := w.heap.size) (hi' := w10.heap.size) (by omega) (by omega)
  have hq10 := rowss_mono (lo' := w.heap.size) (hi' := w10.heap.size) (hq9.same (hc10.same (.inl (by omega)))) (by omega) (by omega)
  exact ⟨⟨v4, v6, v8, us6, us8, uss8, rfl, hi10, hp10, hq10⟩⟩
set_option maxHeartbeats 1000000 in
theorem eqInt64SSS_ok {w : World} {va vb : Value} {us vs : List Value} {uss vss : List (List Value)} {xsss ysss : List (List (List Int))} {lo hi lo1 hi1 : Nat} [hx : Rowss lo hi w va us uss xsss] [hy : Rowss lo1 hi1 w vb vs vss ysss] (hm : ∀ i, (xsss.getD i []).length ≤ 2000000 ∧ ∀ j, ((xsss.getD i []).getD j []).length ≤ 2000000) (hl : xsss.length ≤ 10000000) :
    Calls Try.prog 30 #[va, vb] w (Ret fun v w' => ∃ b, v = .bool b ∧ (b = true ↔ xsss = ysss) ∧ Ext w w') := by
  have hul := hx.vals.len
  have hvl := hy.vals.len
  refine enter (args := [va, vb]) (l := [.tmp 4]) Try.func30 rfl rfl Try.ntmps30 (by simp) ?_
  refine go ?_
  refine c_if (fun h1 => ?_) (fun h1 => ?_)
  · refine go ?_
    refine ret1 ⟨_, rfl, ?_, Ext.refl _⟩
    simp only [Bool.false_eq_true, false_iff]
    rintro rfl
    omega
  · have hxy : xsss.length = ysss.length := by omega
    refine go ?_
    refine r_for xsss.length (fun k ρ w' => Has ρ [(0, va), (1, vb), (5, .int .i64 k)] ∧ Ext w w' ∧ ∀ i, i < k → xsss.getD i [] = ysss.getD i []) ?_ ?_
    · refine ⟨?_, Ext.refl _, fun i hi => by omega⟩
      exact hasP
    rintro k ρ w1 hk ⟨hH, he1, hI⟩
    refine rwp_has hH fun ρ0 => ?_
    refine go ?_
    refine c_if (fun h4 => ?_) (fun h4 => ?_)
    · refine go ?_
      refine d_region fun w2 he2 _ => ?_
      refine dgo ?_
      refine dce (eqInt64SS_ok (xss := xsss.getD k []) (yss := ysss.getD k []) (hm k).2 (by have := (hm k).1; omega)) (next := fun v3 w3 h3 => ?_)
      obtain ⟨b3, rfl, hb3, he3⟩ := h3
      refine dgo ?_
      refine d_end (h := ?_)
      refine go ?_
      refine c_b (fun h5 => ?_) (fun h5 => ?_)
      · refine go ?_
        refine ret1 ⟨_, rfl, ?_, (he1.trans he2).trans he3⟩
        simp only [Bool.false_eq_true, false_iff]
        rintro rfl
        have := hb3.2 rfl
        rw [this] at h5; cases h5
      · have h6 := hb3.1 (by simpa using h5)
        refine go ?_
        refine forQ_normal (by omega) ⟨?_, (he1.trans he2).trans he3, fun i hi => ?_⟩
        · exact hasP
        · by_cases e : i = k
          · subst e; exact h6
          · exact hI i (by omega)
    · refine go ?_
      refine ret1 ⟨_, rfl, ?_, he1⟩
      simp only [true_iff]
      apply List.ext_getElem hxy
      intro i h1 h2
      have := hI i (by omega)
      simpa [h1, h2] using this
theorem pr_ext {p q : Pr} (h1 : p.ord = q.ord) (h2 : p.pow = q.pow) (h3 : p.cnj = q.cnj) : p = q := by cases p; cases q; simp_all
set_option maxHeartbeats 1000000 in
theorem eqPresentation_ok {w : World} {va vb : Value} {p q : Pr} {lo hi lo1 hi1 : Nat} [hp : Pres lo hi w va p] [hq : Pres lo1 hi1 w vb q] (hs : SizeP p 2000000) :
    Calls Try.prog 11 #[va, vb] w (Ret fun v w' => ∃ b, v = .bool b ∧ (b = true ↔ p = q) ∧ Ext w w') := by
  have hs1 := hs.ord
  have hs2 := hs.pow
  have hs3 := hs.cnj
  obtain ⟨vo, vpw, vc, ps, cs, css, rfl, h1, h2, h3⟩ := hp.ex
  obtain ⟨vo', vpw', vc', ps', cs', css', rfl, h1', h2', h3'⟩ := hq.ex
  refine enter (args := [.agg #[vo, vpw, vc], .agg #[vo', vpw', vc']]) (l := [.tmp 4]) Try.func11 rfl rfl Try.ntmps11 (by simp) ?_
  refine go ?_
  refine st_box3 (by ((try simp only [ev_tmp, ev_const, ev_func, get_put, get_args, get_putL, get_putL_nil, Nat.reduceEqDiff, reduceIte, List.getD_cons_zero, List.getD_cons_succ, List.getD_nil]); first | done | with_reducible rfl)) (by first | exact True.intro | exact ⟨_, rfl, by ((try simp only [ev_tmp, ev_const, ev_func, get_put, get_args, get_putL, get_putL_nil, Nat.reduceEqDiff, reduceIte, List.getD_cons_zero, List.getD_cons_succ, List.getD_nil, Bool.not_true, Bool.not_false]); first | done | with_reducible rfl)⟩) fun w1 b he1 hb1 hsz1 hc0 hc1 hc2 => ?_
  refine go ?_
  refine st_box3 (by ((try simp only [ev_tmp, ev_const, ev_func, get_put, get_args, get_putL, get_putL_nil, Nat.reduceEqDiff, reduceIte, List.getD_cons_zero, List.getD_cons_succ, List.getD_nil]); first | done | with_reducible rfl)) (by first | exact True.intro | exact ⟨_, rfl, by ((try simp only [ev_tmp, ev_const, ev_func, get_put, get_args, get_putL, get_putL_nil, Nat.reduceEqDiff, reduceIte, List.getD_cons_zero, List.getD_cons_succ, List.getD_nil, Bool.not_true, Bool.not_false]); first | done | with_reducible rfl)⟩) fun w2 b' he2 hb2 hsz2 hc0' hc1' hc2' => ?_
  have hE2 := he1.trans he2
  have no : ∀ {w' : World}, p ≠ q → Ext w w' → ∃ b, Value.bool false = .bool b ∧ (b = true ↔ p = q) ∧ Ext w w' := fun h he => ⟨_, rfl, by simp [h], he⟩
  refine go ?_
  refine rc (eqInt64S_ok (xs := p.ord) (ys := q.ord) (by omega)) (next := fun v3 w3 h4 => ?_)
  obtain ⟨b3, rfl, hb3, he3⟩ := h4
  refine go ?_
  refine c_b (fun h5 => ?_) (fun h5 => ?_)
  · refine go ?_
    refine ret1 (no (fun e => ?_) (hE2.trans he3))
    rw [hb3.2 (by rw [e])] at h5; cases h5
  have e1 := hb3.1 (by simpa using h5)
  refine go ?_
  refine rc (eqInt64SS_ok (xss := p.pow) (yss := q.pow) (fun i => by have := hs.powi i; omega) (by omega)) (next := fun v4 w4 h6 => ?_)
  obtain ⟨b4, rfl, hb4, he4⟩ := h6
  refine go ?_
  refine c_b (fun h7 => ?_) (fun h7 => ?_)
  · refine go ?_
    refine ret1 (no (fun e => ?_) ((hE2.trans he3).trans he4))
    rw [hb4.2 (by rw [e])] at h7; cases h7
  have e2 := hb4.1 (by simpa using h7)
  refine go ?_
  refine rc (eqInt64SSS_ok (xsss := p.cnj) (ysss := q.cnj) (fun i => ⟨by have := hs.cnji i; omega, fun j => by have := hs.cnjij i j; omega⟩) (by omega)) (next := fun v5 w5 h8 => ?_)
  obtain ⟨b5, rfl, hb5, he5⟩ := h8
  refine go ?_
  refine c_b (fun h9 => ?_) (fun h9 => ?_)
  · refine go ?_
    refine ret1 (no (fun e => ?_) (((hE2.trans he3).trans he4).trans he5))
    rw [hb5.2 (by rw [e])] at h9; cases h9
  have e3 := hb5.1 (by simpa using h9)
  refine go ?_
  exact ret1 ⟨_, rfl, ⟨fun _ => pr_ext e1 e2 e3, fun _ => rfl⟩, ((hE2.trans he3).trans he4).trans he5⟩
end Go.Proofs.Ytnphljflkpekmaa

/-
  Walks: the statement's own helpers that mark memory and read the marks (markInt64S, markInt64SS, heldInt64S, heldInt64SS).
  Conditions: stated at each theorem.
-/
namespace Go.Proofs.Ytnphljflkpekmaa
open Go Go.Pc
set_option maxHeartbeats 1000000 in
theorem markInt64S_ok {s : Nat} {w : World} {v : Value} {xs : List Int} {k : Int} (hf : Fr s w v xs) (hk : 0 ≤ k) (hb : k + xs.length ≤ 9000000000000000000) :
    Calls Try.prog 31 #[v, .int .i64 k] w (Ret fun v' w' => v' = .int .i64 (k + xs.length) ∧ Fr s w' v (marks k xs.length) ∧ Wrt (fun b => xs ≠ [] ∧ v.ownBlock = some b) w w') := by
  by_cases hn : xs = []
  · subst hn
    have hx := hf.ints
    refine enter (args := [v, .int .i64 k]) (l := [.tmp 4]) Try.func31 rfl rfl Try.ntmps31 (by simp) ?_
    refine go ?_
    refine r_for 0 (fun i ρ w' => Has ρ [(0, v), (1, .int .i64 k), (5, .int .i64 i)] ∧ w' = w) ?_ ?_
    · refine ⟨?_, rfl⟩
      exact hasP
    rintro i ρ w2 hi ⟨hH, rfl⟩
    refine rwp_has hH fun ρ0 => ?_
    refine go ?_
    refine c_if (fun h4 => ?_) (fun h4 => ?_)
    · simp at h4; omega
    · refine go ?_
      exact ret1 (v := .int .i64 k) ⟨by simp, hf, .refl _⟩
  obtain ⟨e, b, hsb, ho⟩ := hf.own hn
  have hl := sl_len ho.own.toSl
  simp only [List.length_map] at hl
  refine enter (args := [v, .int .i64 k]) (l := [.tmp 4]) Try.func31 rfl rfl Try.ntmps31 (by simp) ?_
  refine go ?_
  refine r_for xs.length (fun i ρ w' => ∃ ys, Has ρ [(0, v), (1, .int .i64 (k + i)), (5, .int .i64 i)] ∧ Chg b w w' ∧ OwnI e b w' v ys ∧ ys.length = xs.length ∧ ∀ j : Nat, j < i → ys.getD j 0 = k + j) ?_ ?_
  · refine ⟨xs, ?_, Chg.refl _ _, ho, rfl, fun j hj => by omega⟩
    exact hasP
  have hblk := ho.block
  clear ho hf
  rintro i ρ w2 hi ⟨ys, hH, hc2, ho2, hl2, hI⟩
  refine rwp_has hH fun ρ0 => ?_
  refine go ?_
  refine c_if (fun h4 => ?_) (fun h4 => ?_)
  · refine go ?_
    refine st_store_int (by ((try simp only [ev_tmp, ev_const, ev_func, get_put, get_args, get_putL, get_putL_nil, Nat.reduceEqDiff, reduceIte, List.getD_cons_zero, List.getD_cons_succ, List.getD_nil]); first | done | with_reducible rfl)) (by ((try simp only [ev_tmp, ev_const, ev_func, get_put, get_args, get_putL, get_putL_nil, Nat.reduceEqDiff, reduceIte, List.getD_cons_zero, List.getD_cons_succ, List.getD_nil]); first | done | with_reducible rfl)) ?_ (by first | exact True.intro | exact ⟨_, rfl, by ((try simp only [ev_tmp, ev_const, ev_func, get_put, get_args, get_putL, get_putL_nil, Nat.reduceEqDiff, reduceIte, List.getD_cons_zero, List.getD_cons_succ, List.getD_nil, Bool.not_true, Bool.not_false]); first | done | with_reducible rfl)⟩) fun w3 hc3 hs3 ho3 => ?_
    · omega
    refine go ?_
    refine forQ_normal (by omega) ⟨_, ?_, hc2.trans hc3, ho3, by simp [hl2], fun j hj => ?_⟩
    · exact hasP
    · by_cases ee : i = j
      · subst ee; rw [Pc.getD_set_eq _ _ _ (by omega)]
      · rw [Pc.getD_set_ne _ _ _ _ ee]; exact hI j (by omega)
  · refine go ?_
    obtain rfl : i = xs.length := by omega
    have hy : ys = marks k xs.length := list_ext0 (by rw [marks_len]; exact hl2) fun j hj => by rw [hI j (by omega), marks_getD _ (by omega)]
    refine ret1 ⟨rfl, ?_, .one ⟨hn, hblk⟩ hc2⟩
    rw [← hy]
    exact ho2.toFr hsb
set_option maxHeartbeats 1000000 in
theorem heldInt64S_ok {w : World} {v : Value} {k : Int} {n lo hi : Nat} {xs : List Int} [hx : Ints lo hi w v xs] (hxs : xs = marks k n) (hk : 0 ≤ k) (hb : k + n ≤ 9000000000000000000) :
    Calls Try.prog 33 #[v, .int .i64 k] w (Ret fun v' w' => v' = .int .i64 (k + n) ∧ Ext w w') := by
  have hl : xs.length = n := by rw [hxs, marks_len]
  have hg : ∀ i, i < n → xs.getD i 0 = k + i := fun i hi => by rw [hxs, marks_getD _ hi]
  have hm : n ≤ 9223372036854775807 := by have := sl_len hx.sl; simp at this; omega
  refine enter (args := [v, .int .i64 k]) (l := [.tmp 4]) Try.func33 rfl rfl Try.ntmps33 (by simp) ?_
  refine go ?_
  refine r_for n (fun i ρ w' => Has ρ [(0, v), (1, .int .i64 (k + i)), (5, .int .i64 i)] ∧ Ext w w') ?_ ?_
  · refine ⟨?_, Ext.refl _⟩
    exact hasP
  rintro i ρ w2 hi ⟨hH, he2⟩
  refine rwp_has hH fun ρ0 => ?_
  refine go ?_
  refine c_if (fun h4 => ?_) (fun h4 => ?_)
  · have hgi := hg i (by omega)
    refine go ?_
    refine c_if (fun h5 => ?_) (fun h5 => ?_)
    · exact absurd hgi h5
    · refine go ?_
      refine forQ_normal (by omega) ⟨?_, he2⟩
      exact hasP
  · refine go ?_
    obtain rfl : i = n := by omega
    exact ret1 ⟨rfl, he2⟩
set_option maxHeartbeats 1000000 in
theorem heldInt64SS_ok {w : World} {v : Value} {k : Int} {lo hi : Nat} {us : List Value} {xss yss : List (List Int)} [hx : Pc.Rows lo hi w v us xss] (hxs : xss = markL k yss) (hk : 0 ≤ k) (hb : k + tot yss ≤ 9000000000000000000) :
    Calls Try.prog 34 #[v, .int .i64 k] w (Ret fun v' w' => v' = .int .i64 (k + tot yss) ∧ Ext w w') := by
  have hl : xss.length = yss.length := by rw [hxs, markL_len]
  have hul := hx.vals.len
  have hm := sl_len hx.sl
  have hg : ∀ i, i < yss.length → xss.getD i [] = marks (k + tot (yss.take i)) (yss.getD i []).length := fun i hi => by rw [hxs, markL_getD _ _ _ hi]
  refine enter (args := [v, .int .i64 k]) (l := [.tmp 4]) Try.func34 rfl rfl Try.ntmps34 (by simp) ?_
  refine go ?_
  refine r_for yss.length (fun i ρ w' => Has ρ [(0, v), (1, .int .i64 (k + tot (yss.take i))), (5, .int .i64 i)] ∧ Ext w w') ?_ ?_
  · refine ⟨?_, Ext.refl _⟩
    simp only [List.take_zero, tot]
    exact hasP
  rintro i ρ w2 hi ⟨hH, he2⟩
  refine rwp_has hH fun ρ0 => ?_
  have ht := tot_take_le yss i
  refine go ?_
  refine c_if (fun h4 => ?_) (fun h4 => ?_)
  · have hin : i < yss.length := by omega
    have hts := tot_take_succ yss hin
    have ht2 := tot_take_le yss (i + 1)
    refine go ?_
    refine rc (heldInt64S_ok (xs := xss.getD i []) (hg i hin) ?_ ?_) (next := fun v3 w3 h3 => ?_)
    · omega
    · omega
    obtain ⟨rfl, he3⟩ := h3
    refine go ?_
    refine c_if (fun h5 => ?_) (fun h5 => ?_)
    · omega
    · refine go ?_
      refine forQ_normal (by omega) ⟨?_, he2.trans he3⟩
      exact hasP
  · refine go ?_
    obtain rfl : i = yss.length := by omega
    refine ret1 ⟨?_, he2⟩
    rw [List.take_length]
set_option maxHeartbeats 2000000 in
theorem markInt64SS_ok {A : Nat → Prop} {s : Nat} {w : World} {v : Value} {k : Int} {pre rs post : List (Value × List Int)} (hO : RowsO s w (pre ++ rs ++ post)) (hS : SpA A w v (rs.map (·.1))) (hA : ∀ b, BlkOf rs b → A b) (hk : 0 ≤ k) (hb : k + tot (rs.map (·.2)) ≤ 9000000000000000000) :
    Calls Try.prog 14 #[v, .int .i64 k] w (Ret fun v' w' => v' = .int .i64 (k + tot (rs.map (·.2))) ∧ RowsO s w' (pre ++ mkR k rs ++ post) ∧ Wrt (BlkOf rs) w w') := by
  have hm := sl_len hS.sl
  simp only [List.length_map] at hm
  have hsl := hS.sl
  have hlen := hsl.toLen
  refine enter (args := [v, .int .i64 k]) (l := [.tmp 4]) Try.func14 rfl rfl Try.ntmps14 (by simp) ?_
  refine go ?_
  refine r_for rs.length (fun i ρ w' => Has ρ [(0, v), (1, .int .i64 (k + tot ((rs.take i).map (·.2)))), (5, .int .i64 i)] ∧ RowsO s w' (pre ++ (mkR k (rs.take i) ++ rs.drop i) ++ post) ∧ Wrt (BlkOf rs) w w') ?_ ?_
  · refine ⟨?_, by simpa [mkR] using hO, .refl _⟩
    simp only [List.take_zero, List.map_nil, tot]
    exact hasP
  clear hO hsl hlen
  rintro i ρ w2 hi ⟨hH, hO2, hW2⟩
  refine rwp_has hH fun ρ0 => ?_
  have hS2 := hS.wr hW2 hA
  have hsl2 := hS2.sl
  have hlen2 := hsl2.toLen
  have hll : (rs.map (·.1)).length = rs.length := by simp
  have ht : tot ((rs.take i).map (·.2)) ≤ tot (rs.map (·.2)) := by rw [List.map_take]; exact tot_take_le _ _
  refine go ?_
  refine c_if (fun h4 => ?_) (fun h4 => ?_)
  · have hin : i < rs.length := by simp at h4; omega
    have e1 : Pc.rowAt v (rs.map (·.1)) i = rs[i].1 := by simp [Pc.rowAt, hin]
    have e2 : rs.drop i = rs[i] :: rs.drop (i + 1) := (List.getElem_cons_drop (h := hin)).symm
    have e3 : rs.take (i + 1) = rs.take i ++ [rs[i]] := List.take_succ_eq_append_getElem hin
    have hts : tot ((rs.take (i + 1)).map (·.2)) = tot ((rs.take i).map (·.2)) + (rs[i]).2.length := by rw [e3, List.map_append, tot_append]; simp [tot]
    have ht2 : tot ((rs.take (i + 1)).map (·.2)) ≤ tot (rs.map (·.2)) := by rw [List.map_take]; exact tot_take_le _ _
    have hO3 : RowsO s w2 ((pre ++ mkR k (rs.take i)) ++ rs[i] :: (rs.drop (i + 1) ++ post)) := by
      rw [e2] at hO2
      simpa only [List.append_assoc, List.cons_append] using hO2
    have hfr := hO3.fr rs[i] (by simp)
    refine go ?_
    refine ra (v := Pc.rowAt v (rs.map fun x : Value × List Int => x.1) i) (h := rd_load_sl (us := rs.map fun x : Value × List Int => x.1) (by ((try simp only [ev_tmp, ev_const, ev_func, get_put, get_args, get_putL, get_putL_nil, Nat.reduceEqDiff, reduceIte, List.getD_cons_zero, List.getD_cons_succ, List.getD_nil]); first | done | with_reducible rfl)) (by omega)) (next := ?_)
    rw [e1]
    refine go ?_
    refine rc (markInt64S_ok hfr ?_ ?_) (next := fun v3 w3 h3 => ?_)
    · omega
    · omega
    obtain ⟨rfl, hf3, hW3⟩ := h3
    have hO4 := hO3.upd hW3 hf3 marks_ne.1
    refine go ?_
    refine forQ_normal (by omega) ⟨?_, ?_, hW2.trans (hW3.mono fun b ⟨hn, e⟩ => ⟨_, List.getElem_mem hin, hn, e⟩)⟩
    · exact hasP
    · rw [e3, mkR_append]
      simpa only [mkR, List.append_assoc, List.cons_append, List.nil_append] using hO4
  · refine go ?_
    obtain rfl : i = rs.length := by simp at h4; omega
    rw [List.take_length] at hO2 ⊢
    exact ret1 ⟨rfl, by simpa using hO2, hW2⟩
end Go.Proofs.Ytnphljflkpekmaa

/-
  Walks: copies that are the call's own (toInt64SSS, toPresentation), marks of presentations (markInt64SSS, markPresentation).
  Conditions: stated at each theorem.
-/
namespace Go.Proofs.Ytnphljflkpekmaa
open Go Go.Pc
theorem toInt64SSM_ok {w : World} {v : Value} {us : List Value} {xss : List (List Int)} {lo hi : Nat} [hx : Pc.Rows lo hi w v us xss] (hl : xss.length ≤ 2000000) (hr : ∀ i, (xss.getD i []).length ≤ 2000000) :
    Calls Try.prog 9 #[v] w (Ret fun v' w' => Ext w w' ∧ ∃ rs, xss = rs.map (·.2) ∧ MatO w.heap.size w'.heap.size w' v' rs) :=
  Pc.Calls.ret_mono (toInt64SSO_ok hl hr) fun _ _ ⟨h1, rs, h2, h3, h4⟩ => by subst h3; exact ⟨h1, rs, rfl, MatO.ofLst h2 h4 h2.newRows⟩
theorem rowss_of_cub {A : Nat → Prop} {s : Nat} {w : World} {v : Value} {gs : List (Value × List (Value × List Int))} {lo hi : Nat} (hs : Sl lo hi w v (gs.map (·.1))) (hlo : lo ≤ hi) (h : ∀ q, q ∈ gs → Pc.Rows lo hi w q.1 (q.2.map (·.1)) (q.2.map (·.2))) :
    Rowss lo hi w v (gs.map (·.1)) (gs.map fun q => q.2.map (·.1)) (gs.map fun q => q.2.map (·.2)) := by
  refine ⟨hs, by simp, by simp, fun i => ?_⟩
  by_cases hi' : i < gs.length
  · have := h gs[i] (List.getElem_mem hi')
    simpa [hi'] using this
  · have e1 : (gs.map (·.1)).getD i nilv = nilv := by rw [List.getD_eq_getElem?_getD, List.getElem?_eq_none (by simp; omega)]; rfl
    have e2 : (gs.map fun q => q.2.map (·.1)).getD i [] = [] := by rw [List.getD_eq_getElem?_getD, List.getElem?_eq_none (by simp; omega)]; rfl
    have e3 : (gs.map fun q => q.2.map (·.2)).getD i [] = [] := by rw [List.getD_eq_getElem?_getD, List.getElem?_eq_none (by simp; omega)]; rfl
    rw [e1, e2, e3]
    exact ⟨⟨⟨none, 0, rfl, Nat.le_refl _, by omega, fun k u hu => by simp at hu⟩⟩, rfl, fun i => ⟨⟨none, 0, by simp, by simp, by omega, fun k u hu => by simp at hu⟩⟩⟩
set_option maxHeartbeats 2000000 in
theorem toInt64SSSO_ok {w : World} {v : Value} {us : List Value} {uss : List (List Value)} {xsss : List (List (List Int))} {lo hi : Nat} [hx : Rowss lo hi w v us uss xsss] (hl : xsss.length ≤ 2000000) (hr : ∀ i, (xsss.getD i []).length ≤ 2000000 ∧ ∀ j, ((xsss.getD i []).getD j []).length ≤ 2000000) :
    Calls Try.prog 26 #[v] w (Ret fun v' w' => Ext w w' ∧ ∃ gs, xsss = gs.map (fun q => q.2.map (·.2)) ∧ RowsO w.heap.size w' (flat gs) ∧ CubO (fun b => BlkOf (flat gs) b ∨ b < w.heap.size) w' v' gs ∧ Rowss w.heap.size w'.heap.size w' v' (gs.map (·.1)) (gs.map fun q => q.2.map (·.1)) xsss) := by
  refine enter (args := [v]) (l := [.tmp 2]) Try.func26 rfl rfl Try.ntmps26 (by simp) ?_
  refine go ?_
  refine st_make_nil (by ((try simp only [ev_tmp, ev_const, ev_func, get_put, get_args, get_putL, get_putL_nil, Nat.reduceEqDiff, reduceIte, List.getD_cons_zero, List.getD_cons_succ, List.getD_nil]); first | done | with_reducible rfl)) (by ((try simp only [ev_tmp, ev_const, ev_func, get_put, get_args, get_putL, get_putL_nil, Nat.reduceEqDiff, reduceIte, List.getD_cons_zero, List.getD_cons_succ, List.getD_nil]); first | done | with_reducible rfl)) (by omega) (by omega) (by first | exact True.intro | exact ⟨_, rfl, by ((try simp only [ev_tmp, ev_const, ev_func, get_put, get_args, get_putL, get_putL_nil, Nat.reduceEqDiff, reduceIte, List.getD_cons_zero, List.getD_cons_succ, List.getD_nil, Bool.not_true, Bool.not_false]); first | done | with_reducible rfl)⟩) fun w1 v1 he1 hs1 ho1 => ?_
  refine go ?_
  refine r_for xsss.length (fun k ρ w' => ∃ gs : List (Value × List (Value × List Int)), Has ρ [(0, v), (3, v1), (4, .int .i64 k)] ∧ Ext w w' ∧ w.heap.size + 1 ≤ w'.heap.size ∧ Own 23 w.heap.size w' v1 (gs.map (·.1) ++ List.replicate (xsss.length - k) nilv) ∧ gs.length = k ∧ gs.map (fun q => q.2.map (·.2)) = xsss.take k ∧
    RowsO (w.heap.size + 1) w' (flat gs) ∧ (∀ q, q ∈ gs → SpA (fun b => BlkOf (flat gs) b ∨ b < w.heap.size + 1) w' q.1 (q.2.map (·.1))) ∧ ∀ q, q ∈ gs → Pc.Rows (w.heap.size + 1) w'.heap.size w' q.1 (q.2.map (·.1)) (q.2.map (·.2))) ?_ ?_
  · refine ⟨[], ?_, he1, by omega, by simpa using ho1, rfl, by simp, RowsO.nil _ _, fun q hq => (by cases hq), fun q hq => (by cases hq)⟩
    exact hasP
  clear ho1
  rintro k ρ w2 hk ⟨gs, hH, he2, hz2, ho2, hgl, hI, hO2, hS2, hR2⟩
  refine rwp_has hH fun ρ0 => ?_
  have hsl := ho2.toSl
  have hul : (gs.map (·.1) ++ List.replicate (xsss.length - k) nilv).length = xsss.length := by simp; omega
  refine go ?_
  refine c_if (fun h4 => ?_) (fun h4 => ?_)
  · have hkn : k < xsss.length := by omega
    refine go ?_
    refine rc (toInt64SSM_ok (xss := xsss.getD k []) (hr k).1 (hr k).2) (next := fun v3 w3 h3 => ?_)
    obtain ⟨he3, rs, hrs, hM3⟩ := h3
    have ho3 : Own 23 w.heap.size w3 v1 _ := Own.ext (h := ho2)
    have hsl3 := ho3.toSl
    have hlen3 := hsl3.toLen
    have hz3 := he3.size
    have hol := ho2.lt
    refine go ?_
    refine st_store_val (h := ho3) (by ((try simp only [ev_tmp, ev_const, ev_func, get_put, get_args, get_putL, get_putL_nil, Nat.reduceEqDiff, reduceIte, List.getD_cons_zero, List.getD_cons_succ, List.getD_nil]); first | done | with_reducible rfl)) (by ((try simp only [ev_tmp, ev_const, ev_func, get_put, get_args, get_putL, get_putL_nil, Nat.reduceEqDiff, reduceIte, List.getD_cons_zero, List.getD_cons_succ, List.getD_nil]); first | done | with_reducible rfl)) ?_ ?_ (by first | exact True.intro | exact ⟨_, rfl, by ((try simp only [ev_tmp, ev_const, ev_func, get_put, get_args, get_putL, get_putL_nil, Nat.reduceEqDiff, reduceIte, List.getD_cons_zero, List.getD_cons_succ, List.getD_nil, Bool.not_true, Bool.not_false]); first | done | with_reducible rfl)⟩) fun w4 hc4 hs4 ho4 => ?_
    · exact hM3.rows.sl.one
    · omega
    refine go ?_
    have e0 : xsss.length - k = (xsss.length - (k + 1)) + 1 := by omega
    have e1 := set_nils (gs.map (·.1)) nilv v3 (xsss.length - (k + 1))
    rw [List.length_map, hgl, ← e0] at e1
    rw [e1] at ho4
    have hW4 : Wrt (fun b => b = w.heap.size) w3 w4 := .one rfl hc4
    have hM4 := hM3.wr hW4 (fun b hb => .inl (by omega))
    have hf : flat (gs ++ [(v3, rs)]) = flat gs ++ rs := by rw [flat_append, flat_one]
    have hO3 := hO2.append he3 (by omega) hM3.own
    have hO4 := hO3.wr hW4 (fun b hb e => by have := (hO3.blk hb).1; omega)
    refine forQ_normal (by omega) ⟨gs ++ [(v3, rs)], ?_, hc4.ext (he2.trans he3) (Nat.le_refl _), by omega, by simpa using ho4, by simp [hgl], ?_, ?_, fun q hq => ?_, fun q hq => ?_⟩
    · exact hasP
    · rw [List.take_succ_eq_append_getElem hkn, List.map_append, hI]
      simp only [List.map_cons, List.map_nil, ← hrs]
      simp [hkn]
    · rw [hf]; exact hO4
    · rw [hf]
      rcases List.mem_append.1 hq with hq | hq
      · have h5 := (hS2 q hq).grow he3 (A' := fun b => BlkOf (flat gs ++ rs) b ∨ b < w.heap.size + 1) (fun b hb => by
          rcases hb with hb | hb
          · rcases blkOf_append'.1 hb with hb | hb
            · exact .inl (.inl hb)
            · exact .inr (hM3.own.blk hb).1
          · exact .inl (.inr hb))
        exact h5.wr hW4 (fun b hb => .inr (by omega))
      · obtain rfl := List.mem_singleton.1 hq
        refine SpA.weak hM4.sp fun b hb => ?_
        rcases hb with hb | hb
        · rcases blkOf_append'.1 hb with hb | hb
          · exact .inr (hO2.blk hb).2
          · exact .inl hb
        · exact .inr (by omega)
    · rcases List.mem_append.1 hq with hq | hq
      · exact (((hR2 q hq).same (he3.same _ _)).same (hc4.same (.inl (by omega)))).mono (Nat.le_refl _) (by omega)
      · obtain rfl := List.mem_singleton.1 hq
        exact hM4.rows.mono (by omega) (by omega)
  · refine go ?_
    obtain rfl : k = xsss.length := by omega
    rw [List.take_length] at hI
    rw [Nat.sub_self, List.replicate_zero, List.append_nil] at ho2
    have hol := ho2.lt
    refine ret1 ⟨he2, gs, hI.symm, hO2.mono (by omega), ⟨⟨_, _, ho2.toSl, fun b hb => ?_⟩, fun q hq => (hS2 q hq).weak fun b hb => hb.imp id (by omega)⟩, ?_⟩
    · rcases hb with hb | hb
      · have := (hO2.blk hb).1; omega
      · omega
    · rw [← hI]
      exact rowss_of_cub (A := fun _ => True) (s := 0) (ho2.toSl.mono (Nat.le_refl _) (by omega)) (by omega) fun q hq => (hR2 q hq).mono (by omega) (Nat.le_refl _)
theorem flat_blk {gs : List (Value × List (Value × List Int))} {q : Value × List (Value × List Int)} (hq : q ∈ gs) {b : Nat} (h : BlkOf q.2 b) : BlkOf (flat gs) b := by
  obtain ⟨r, hr, h1, h2⟩ := h
  refine ⟨r, ?_, h1, h2⟩
  unfold flat
  rw [List.mem_flatten]
  exact ⟨q.2, List.mem_map.2 ⟨q, hq, rfl⟩, hr⟩
theorem flat_tot (gs : List (Value × List (Value × List Int))) : (flat gs).map (·.2) = (gs.map fun q => q.2.map (·.2)).flatten := by
  unfold flat
  rw [List.map_flatten, List.map_map]; rfl
set_option maxHeartbeats 2000000 in
theorem markInt64SSS_ok {A : Nat → Prop} {s : Nat} {w : World} {v : Value} {k : Int} {gs : List (Value × List (Value × List Int))} {pre post : List (Value × List Int)} (hO : RowsO s w (pre ++ flat gs ++ post)) (hS : CubO A w v gs) (hA : ∀ b, BlkOf (flat gs) b → A b) (hk : 0 ≤ k) (hb : k + tot ((flat gs).map (·.2)) ≤ 9000000000000000000) :
    Calls Try.prog 32 #[v, .int .i64 k] w (Ret fun v' w' => v' = .int .i64 (k + tot ((flat gs).map (·.2))) ∧ RowsO s w' (pre ++ mkR k (flat gs) ++ post) ∧ Wrt (BlkOf (flat gs)) w w') := by
  have hm := sl_len hS.sp0.sl
  simp only [List.length_map] at hm
  have hsl := hS.sp0.sl
  have hlen := hsl.toLen
  refine enter (args := [v, .int .i64 k]) (l := [.tmp 4]) Try.func32 rfl rfl Try.ntmps32 (by simp) ?_
  refine go ?_
  refine r_for gs.length (fun i ρ w' => Has ρ [(0, v), (1, .int .i64 (k + tot ((flat (gs.take i)).map (·.2)))), (5, .int .i64 i)] ∧ RowsO s w' (pre ++ (mkR k (flat (gs.take i)) ++ flat (gs.drop i)) ++ post) ∧ Wrt (BlkOf (flat gs)) w w') ?_ ?_
  · refine ⟨?_, by simpa [mkR, flat] using hO, .refl _⟩
    have e : ((flat (gs.take 0)).map (·.2)) = [] := rfl
    rw [e]
    simp only [tot]
    exact hasP
  clear hO hsl hlen
  rintro i ρ w2 hi ⟨hH, hO2, hW2⟩
  refine rwp_has hH fun ρ0 => ?_
  have hS2 := hS.wr hW2 hA
  have hsl2 := hS2.sp0.sl
  have hlen2 := hsl2.toLen
  have hll : (gs.map (·.1)).length = gs.length := by simp
  have ht0 : ∀ j, tot ((flat (gs.take j)).map (·.2)) ≤ tot ((flat gs).map (·.2)) := fun j => by
    have e : flat gs = flat (gs.take j) ++ flat (gs.drop j) := by rw [← flat_append, List.take_append_drop]
    rw [e, List.map_append, tot_append]; omega
  have ht := ht0 i
  refine go ?_
  refine c_if (fun h4 => ?_) (fun h4 => ?_)
  · have hin : i < gs.length := by simp at h4; omega
    have e1 : Pc.rowAt v (gs.map (·.1)) i = gs[i].1 := by simp [Pc.rowAt, hin]
    have e2 : flat (gs.drop i) = gs[i].2 ++ flat (gs.drop (i + 1)) := by
      have e : gs.drop i = [gs[i]] ++ gs.drop (i + 1) := (List.getElem_cons_drop (h := hin)).symm
      rw [e, flat_append, flat_one]
    have e3 : flat (gs.take (i + 1)) = flat (gs.take i) ++ gs[i].2 := by rw [List.take_succ_eq_append_getElem hin, flat_append, flat_one]
    have hts : tot ((flat (gs.take (i + 1))).map (·.2)) = tot ((flat (gs.take i)).map (·.2)) + tot ((gs[i]).2.map (·.2)) := by rw [e3, List.map_append, tot_append]
    have ht2 := ht0 (i + 1)
    have hmem := List.getElem_mem hin
    have hO3 : RowsO s w2 ((pre ++ mkR k (flat (gs.take i))) ++ gs[i].2 ++ (flat (gs.drop (i + 1)) ++ post)) := by
      rw [e2] at hO2
      simpa only [List.append_assoc] using hO2
    refine go ?_
    refine ra (v := Pc.rowAt v (gs.map fun x : Value × List (Value × List Int) => x.1) i) (h := rd_load_sl (us := gs.map fun x : Value × List (Value × List Int) => x.1) (by ((try simp only [ev_tmp, ev_const, ev_func, get_put, get_args, get_putL, get_putL_nil, Nat.reduceEqDiff, reduceIte, List.getD_cons_zero, List.getD_cons_succ, List.getD_nil]); first | done | with_reducible rfl)) (by omega)) (next := ?_)
    rw [e1]
    refine go ?_
    refine rc (markInt64SS_ok hO3 (hS2.sp _ hmem) (fun b hb => hA b (flat_blk hmem hb)) ?_ ?_) (next := fun v3 w3 h3 => ?_)
    · omega
    · omega
    obtain ⟨rfl, hO4, hW3⟩ := h3
    refine go ?_
    refine forQ_normal (by omega) ⟨?_, ?_, hW2.trans (hW3.mono fun b hb => flat_blk hmem hb)⟩
    · exact hasP
    · rw [e3, mkR_append]
      simpa only [List.append_assoc] using hO4
  · refine go ?_
    obtain rfl : i = gs.length := by simp at h4; omega
    rw [List.take_length] at hO2 ⊢
    exact ret1 ⟨rfl, by simpa [flat] using hO2, hW2⟩
set_option maxHeartbeats 1000000 in
/-- Marks on a presentation that is the call's own. -/
theorem markPresentation_ok {s t : Nat} {w : World} {v : Value} {p : Pr} {k : Int} (hP : PresO s t w v p) (hk : 0 ≤ k) (hb : k + totP p ≤ 9000000000000000000) :
    Calls Try.prog 13 #[v, .int .i64 k] w (Ret fun v' w' => v' = .int .i64 (k + totP p) ∧ Wrt (fun b => s ≤ b ∧ b < t) w w') := by
  obtain ⟨vo, vp, vc, rp, gs, rfl, hO, hlt, hsp, hcub, hpow, hcnj, _, _, _⟩ := hP.ex
  have hA : ∀ b, BlkOf ((vo, p.ord) :: (rp ++ flat gs)) b → s ≤ b ∧ b < t := fun b hb => ⟨(hO.blk hb).1, hlt b hb⟩
  have e1 : totP p = p.ord.length + (tot (rp.map (·.2)) + tot ((flat gs).map (·.2))) := by rw [flat_tot, ← hpow, ← hcnj]; rfl
  refine enter (args := [.agg #[vo, vp, vc], .int .i64 k]) (l := [.tmp 4]) Try.func13 rfl rfl Try.ntmps13 (by simp) ?_
  refine go ?_
  refine st_box3 (by ((try simp only [ev_tmp, ev_const, ev_func, get_put, get_args, get_putL, get_putL_nil, Nat.reduceEqDiff, reduceIte, List.getD_cons_zero, List.getD_cons_succ, List.getD_nil]); first | done | with_reducible rfl)) (by first | exact True.intro | exact ⟨_, rfl, by ((try simp only [ev_tmp, ev_const, ev_func, get_put, get_args, get_putL, get_putL_nil, Nat.reduceEqDiff, reduceIte, List.getD_cons_zero, List.getD_cons_succ, List.getD_nil, Bool.not_true, Bool.not_false]); first | done | with_reducible rfl)⟩) fun w1 b he1 hb1 hs1 hc0 hc1 hc2 => ?_
  have hO1 := hO.ext he1
  have hB1 : ∀ g, BlkOf ((vo, p.ord) :: (rp ++ flat gs)) g → g ≠ b := fun g hg e => by have := (hO.blk hg).2; omega
  have hcell : ∀ {w2 : World} {j : Nat} {u : Value}, Cell w1 b j u → Wrt (BlkOf ((vo, p.ord) :: (rp ++ flat gs))) w1 w2 → Cell w2 b j u := fun h k => h.same (k.same fun g hg => by have := hB1 g hg; omega) k.size
  have hfr : Fr s w1 vo p.ord := hO1.fr _ List.mem_cons_self
  refine go ?_
  refine rc (markInt64S_ok hfr hk ?_) (next := fun v2 w2 h2 => ?_)
  · omega
  obtain ⟨rfl, hf2, hW2⟩ := h2
  have hW2' : Wrt (BlkOf ((vo, p.ord) :: (rp ++ flat gs))) w1 w2 := hW2.mono fun g ⟨hn, e⟩ => ⟨_, List.mem_cons_self, hn, e⟩
  have hO2 : RowsO s w2 ([] ++ (vo, marks k p.ord.length) :: (rp ++ flat gs)) := RowsO.upd (pre := []) (by simpa using hO1) hW2 hf2 marks_ne.1
  have hc0' := hcell hc0 hW2'
  have hc1' := hcell hc1 hW2'
  have hc2' := hcell hc2 hW2'
  have hO2' : RowsO s w2 (([(vo, marks k p.ord.length)]) ++ rp ++ flat gs) := by simpa using hO2
  have hsp2 := (SpA.grow hsp he1 (fun g hg => .inl hg)).wr hW2' (fun g hg => hg)
  refine go ?_
  refine rc (markInt64SS_ok hO2' hsp2 (fun g hg => ?_) ?_ ?_) (next := fun v3 w3 h3 => ?_)
  · obtain ⟨r, h1, h2⟩ := hg
    exact ⟨r, List.mem_cons_of_mem _ (List.mem_append_left _ h1), h2⟩
  · omega
  · omega
  obtain ⟨rfl, hO3, hW3⟩ := h3
  have hW3' : Wrt (BlkOf ((vo, p.ord) :: (rp ++ flat gs))) w2 w3 := hW3.mono fun g ⟨r, h1, h2⟩ => ⟨r, List.mem_cons_of_mem _ (List.mem_append_left _ h1), h2⟩
  have hc2'' := hcell hc2 (hW2'.trans hW3')
  have hO3' : RowsO s w3 (([(vo, marks k p.ord.length)] ++ mkR (k + p.ord.length) rp) ++ flat gs ++ []) := by simpa using hO3
  have hcub3 : CubO (BlkOf ((vo, p.ord) :: (rp ++ flat gs))) w3 vc gs := CubO.wr ⟨(SpA.grow hcub.sp0 he1 (fun g hg => .inl hg)).wr hW2' (fun g hg => hg), fun q hq => (SpA.grow (hcub.sp q hq) he1 (fun g hg => .inl hg)).wr hW2' (fun g hg => hg)⟩ hW3' (fun g hg => hg)
  clear hc0' hc1' hc2'
  refine go ?_
  refine rc (markInt64SSS_ok hO3' hcub3 (fun g hg => ?_) ?_ ?_) (next := fun v4 w4 h4 => ?_)
  · obtain ⟨r, h1, h2⟩ := hg
    exact ⟨r, List.mem_cons_of_mem _ (List.mem_append_right _ h1), h2⟩
  · omega
  · omega
  obtain ⟨rfl, hO4, hW4⟩ := h4
  refine go ?_
  refine ret1 ⟨?_, ?_⟩
  · rw [e1]
    exact int_congr (by omega)
  · refine (Wrt.ofExt he1).trans ((hW2'.mono hA).trans ((hW3'.mono hA).trans (hW4.mono fun g hg => hA g ?_)))
    obtain ⟨r, h1, h2⟩ := hg
    exact ⟨r, List.mem_cons_of_mem _ (List.mem_append_right _ h1), h2⟩
end Go.Proofs.Ytnphljflkpekmaa

/-
  Walk: a copy of a presentation that is the call's own (toPresentation).
  Conditions: stated at the theorem.
-/
namespace Go.Proofs.Ytnphljflkpekmaa
open Go Go.Pc
set_option maxHeartbeats 2000000 in
theorem toPresentationO_ok {w : World} {v : Value} {p : Pr} {lo hi : Nat} [hp : Pres lo hi w v p] (hs : SizeP p 2000000) :
    Calls Try.prog 8 #[v] w (Ret fun v w' => Ext w w' ∧ PresO w.heap.size w'.heap.size w' v p) := by
  have hs1 := hs.ord
  have hs2 := hs.pow
  have hs3 := hs.cnj
  obtain ⟨vo, vpw, vc, ps, cs, css, rfl, h1, h2, h3⟩ := hp.ex
  refine enter (args := [.agg #[vo, vpw, vc]]) (l := [.cell 2 29]) Try.func8 rfl rfl Try.ntmps8 (by simp) ?_
  refine go ?_
  refine st_box3 (by ((try simp only [ev_tmp, ev_const, ev_func, get_put, get_args, get_putL, get_putL_nil, Nat.reduceEqDiff, reduceIte, List.getD_cons_zero, List.getD_cons_succ, List.getD_nil]); first | done | with_reducible rfl)) (by first | exact True.intro | exact ⟨_, rfl, by ((try simp only [ev_tmp, ev_const, ev_func, get_put, get_args, get_putL, get_putL_nil, Nat.reduceEqDiff, reduceIte, List.getD_cons_zero, List.getD_cons_succ, List.getD_nil, Bool.not_true, Bool.not_false]); first | done | with_reducible rfl)⟩) fun w1 b he1 hb1 hsz1 hc0 hc1 hc2 => ?_
  refine go ?_
  refine st_alloc (by first | exact True.intro | exact ⟨_, rfl, by ((try simp only [ev_tmp, ev_const, ev_func, get_put, get_args, get_putL, get_putL_nil, Nat.reduceEqDiff, reduceIte, List.getD_cons_zero, List.getD_cons_succ, List.getD_nil, Bool.not_true, Bool.not_false]); first | done | with_reducible rfl)⟩) fun w2 br he2 hbr hsz2 hbk2 => ?_
  refine go ?_
  refine st_alloc (by first | exact True.intro | exact ⟨_, rfl, by ((try simp only [ev_tmp, ev_const, ev_func, get_put, get_args, get_putL, get_putL_nil, Nat.reduceEqDiff, reduceIte, List.getD_cons_zero, List.getD_cons_succ, List.getD_nil, Bool.not_true, Bool.not_false]); first | done | with_reducible rfl)⟩) fun w3 bo he3 hbo hsz3 hbk3 => ?_
  have hE3 := (he1.trans he2).trans he3
  refine go ?_
  refine rc (toInt64S_ok (xs := p.ord) (by omega)) (next := fun v4 w4 h4 => ?_)
  obtain ⟨he4, hf4⟩ := h4
  have hb4 : Blk w4 bo _ := Blk.ext (h := hbk3)
  have hz4 := he4.size
  refine go ?_
  refine st_store_fld (h := hb4) (by ((try simp only [ev_tmp, ev_const, ev_func, get_put, get_args, get_putL, get_putL_nil, Nat.reduceEqDiff, reduceIte, List.getD_cons_zero, List.getD_cons_succ, List.getD_nil]); first | done | with_reducible rfl)) (by ((try simp only [ev_tmp, ev_const, ev_func, get_put, get_args, get_putL, get_putL_nil, Nat.reduceEqDiff, reduceIte, List.getD_cons_zero, List.getD_cons_succ, List.getD_nil]); first | done | with_reducible rfl)) ?_ ?_ (by first | exact True.intro | exact ⟨_, rfl, by ((try simp only [ev_tmp, ev_const, ev_func, get_put, get_args, get_putL, get_putL_nil, Nat.reduceEqDiff, reduceIte, List.getD_cons_zero, List.getD_cons_succ, List.getD_nil, Bool.not_true, Bool.not_false]); first | done | with_reducible rfl)⟩) fun w5 hc5 hs5 hb5 => ?_
  · exact hf4.ints.sl.one
  · simp
  have hE15 : Ext w1 w5 := hc5.ext ((he2.trans he3).trans he4) (by have := he2.size; omega)
  have hz15 := hE15.size
  have hz2 := he2.size
  have hi5 : Ints w3.heap.size w4.heap.size w5 v4 p.ord := hf4.ints.same (hc5.same (.inl (by omega)))
  have hr5 : Blk w5 br _ := (Blk.ext (x := he3.trans he4) (h := hbk2)).chg' hc5 (by omega)
  have hO4 : RowsO w3.heap.size w4 [(v4, p.ord)] := (RowsO.nil w3.heap.size w3).push he4 (Nat.le_refl _) hf4
  have hO5 : RowsO w3.heap.size w5 [(v4, p.ord)] := hO4.wr (.one (B := fun g => g = bo) rfl hc5) (fun g hg e => by have := (hO4.blk hg).1; omega)
  refine go ?_
  refine rc (toInt64SSM_ok (xss := p.pow) (by omega) (fun i => by have := hs.powi i; omega)) (next := fun v6 w6 h6 => ?_)
  obtain ⟨he6, rp, hrp, hM6⟩ := h6
  have hN6 := hM6.rows
  have hb6 : Blk w6 bo _ := Blk.ext (h := hb5)
  have hz6 := he6.size
  refine go ?_
  refine st_store_fld (h := hb6) (by ((try simp only [ev_tmp, ev_const, ev_func, get_put, get_args, get_putL, get_putL_nil, Nat.reduceEqDiff, reduceIte, List.getD_cons_zero, List.getD_cons_succ, List.getD_nil]); first | done | with_reducible rfl)) (by ((try simp only [ev_tmp, ev_const, ev_func, get_put, get_args, get_putL, get_putL_nil, Nat.reduceEqDiff, reduceIte, List.getD_cons_zero, List.getD_cons_succ, List.getD_nil]); first | done | with_reducible rfl)) ?_ ?_ (by first | exact True.intro | exact ⟨_, rfl, by ((try simp only [ev_tmp, ev_const, ev_func, get_put, get_args, get_putL, get_putL_nil, Nat.reduceEqDiff, reduceIte, List.getD_cons_zero, List.getD_cons_succ, List.getD_nil, Bool.not_true, Bool.not_false]); first | done | with_reducible rfl)⟩) fun w7 hc7 hs7 hb7 => ?_
  · exact hN6.sl.one
  · simp
  have hE17 : Ext w1 w7 := hc7.ext (hE15.trans he6) (by omega)
  have hi7 : Ints w3.heap.size w4.heap.size w7 v4 p.ord := (hi5.same (he6.same _ _)).same (hc7.same (.inl (by omega)))
  have hM7 := hM6.wr (.one (B := fun g => g = bo) rfl hc7) (fun g hg => .inl (by omega))
  have hp7 := hM7.rows
  have hr7 : Blk w7 br _ := (Blk.ext (x := he6) (h := hr5)).chg' hc7 (by omega)
  have hO6 := hO5.append he6 (by omega) hM6.own
  have hO7 := hO6.wr (.one (B := fun g => g = bo) rfl hc7) (fun g hg e => by have := (hO6.blk hg).1; omega)
  refine go ?_
  refine rc (toInt64SSSO_ok (xsss := p.cnj) (by omega) (fun i => ⟨by have := hs.cnji i; omega, fun j => by have := hs.cnjij i j; omega⟩)) (next := fun v8 w8 h8 => ?_)
  obtain ⟨he8, gs, hgs, hOg, hCu, hR8⟩ := h8
  have hb8 : Blk w8 bo _ := Blk.ext (h := hb7)
  have hz8 := he8.size
  have hO8 := hO7.append he8 (by omega) hOg
  have hAll : ∀ g, BlkOf ([(v4, p.ord)] ++ rp ++ flat gs) g → (w3.heap.size ≤ g ∧ g < w5.heap.size) ∨ BlkOf rp g ∨ w7.heap.size ≤ g := fun g hg => by
    rcases blkOf_append'.1 hg with hg | hg
    · rcases blkOf_append'.1 hg with hg | hg
      · exact .inl (hO5.blk hg)
      · exact .inr (.inl hg)
    · exact .inr (.inr (hOg.blk hg).1)
  have hsp8 : SpA (fun g => BlkOf ([(v4, p.ord)] ++ rp ++ flat gs) g ∨ g < w3.heap.size) w8 v6 (rp.map (·.1)) := hM7.sp.grow he8 fun g hg => by
    rcases hg with hg | hg
    · rcases hAll g hg with h | h | h
      · exact .inl (.inr h.2)
      · exact .inl (.inl h)
      · exact .inr h
    · exact .inl (.inr (by omega))
  have hcu8 : CubO (fun g => BlkOf ([(v4, p.ord)] ++ rp ++ flat gs) g ∨ g < w3.heap.size) w8 v8 gs := by
    have hA : ∀ g, (BlkOf ([(v4, p.ord)] ++ rp ++ flat gs) g ∨ g < w3.heap.size) → BlkOf (flat gs) g ∨ g < w7.heap.size := fun g hg => by
      rcases hg with hg | hg
      · rcases blkOf_append'.1 hg with hg | hg
        · have := (hO7.blk hg).2; exact .inr this
        · exact .inl hg
      · exact .inr (by omega)
    exact ⟨hCu.sp0.weak hA, fun q hq => (hCu.sp q hq).weak hA⟩
  refine go ?_
  refine st_store_fld (h := hb8) (by ((try simp only [ev_tmp, ev_const, ev_func, get_put, get_args, get_putL, get_putL_nil, Nat.reduceEqDiff, reduceIte, List.getD_cons_zero, List.getD_cons_succ, List.getD_nil]); first | done | with_reducible rfl)) (by ((try simp only [ev_tmp, ev_const, ev_func, get_put, get_args, get_putL, get_putL_nil, Nat.reduceEqDiff, reduceIte, List.getD_cons_zero, List.getD_cons_succ, List.getD_nil]); first | done | with_reducible rfl)) ?_ ?_ (by first | exact True.intro | exact ⟨_, rfl, by ((try simp only [ev_tmp, ev_const, ev_func, get_put, get_args, get_putL, get_putL_nil, Nat.reduceEqDiff, reduceIte, List.getD_cons_zero, List.getD_cons_succ, List.getD_nil, Bool.not_true, Bool.not_false]); first | done | with_reducible rfl)⟩) fun w9 hc9 hs9 hb9 => ?_
  · exact hR8.sl.one
  · simp
  have hE19 : Ext w1 w9 := hc9.ext (hE17.trans he8) (by omega)
  have hi9 : Ints w3.heap.size w4.heap.size w9 v4 p.ord := (hi7.same (he8.same _ _)).same (hc9.same (.inl (by omega)))
  have hp9 := (hp7.same (he8.same _ _)).same (hc9.same (.inl (by omega)))
  have hq9 := hR8.same (hc9.same (.inl (by omega)))
  have hr9 : Blk w9 br _ := (Blk.ext (x := he8) (h := hr7)).chg' hc9 (by omega)
  refine go ?_
  have hb9' : Blk w9 bo [v4, v6, v8] := hb9
  refine ra (v := .agg #[v4, v6, v8]) (h := rd_load_blk (hb := hb9') (by ((try simp only [ev_tmp, ev_const, ev_func, get_put, get_args, get_putL, get_putL_nil, Nat.reduceEqDiff, reduceIte, List.getD_cons_zero, List.getD_cons_succ, List.getD_nil]); first | done | with_reducible rfl)) rfl) (next := ?_)
  refine st_store_agg (vs := [v4, v6, v8]) (cs := _) (hb := hr9) (by ((try simp only [ev_tmp, ev_const, ev_func, get_put, get_args, get_putL, get_putL_nil, Nat.reduceEqDiff, reduceIte, List.getD_cons_zero, List.getD_cons_succ, List.getD_nil]); first | done | with_reducible rfl)) (by ((try simp only [ev_tmp, ev_const, ev_func, get_put, get_args, get_putL, get_putL_nil, Nat.reduceEqDiff, reduceIte, List.getD_cons_zero, List.getD_cons_succ, List.getD_nil]); first | done | with_reducible rfl)) rfl ?_ ?_ (by first | exact True.intro | exact ⟨_, rfl, by ((try simp only [ev_tmp, ev_const, ev_func, get_put, get_args, get_putL, get_putL_nil, Nat.reduceEqDiff, reduceIte, List.getD_cons_zero, List.getD_cons_succ, List.getD_nil, Bool.not_true, Bool.not_false]); first | done | with_reducible rfl)⟩) fun w10 hc10 hs10 hb10 => ?_
  · rfl
  · have e1 := hi9.sl.one
    have e2 := hp9.sl.one
    have e3 := hq9.sl.one
    simp [e1, e2, e3]
  have hW10 : Wrt (fun g => g = bo ∨ g = br) w8 w10 := (Wrt.one (.inl rfl) hc9).trans (.one (.inr rfl) hc10)
  have hO10 := hO8.wr hW10 (fun g hg e => by have := (hO8.blk hg).1; omega)
  have hlow : ∀ g, (g = bo ∨ g = br) → BlkOf ([(v4, p.ord)] ++ rp ++ flat gs) g ∨ g < w3.heap.size := fun g hg => .inr (by omega)
  refine go ?_
  refine retc (b := br) (hb := hb10) ⟨hc10.ext (he1.trans hE19) (by omega), ?_⟩ rfl
  have hi10 := (hi9.same (hc10.same (.inl (by omega)))).mono (lo' := w.heap.size) (hi' := w10.heap.size) (by omega) (by omega)
  have hp10 := (hp9.same (hc10.same (.inl (by omega)))).mono (lo' := w.heap.size) (hi' := w10.heap.size) (by omega) (by omega)
  have hq10 := rowss_mono (lo' := w.heap.size) (hi' := w10.heap.size) (hq9.same (hc10.same (.inl (by omega)))) (by omega) (by omega)
  have e : (v4, p.ord) :: (rp ++ flat gs) = [(v4, p.ord)] ++ rp ++ flat gs := by simp
  rw [hgs] at hq10
  refine ⟨v4, v6, v8, rp, gs, rfl, ?_, ?_, ?_, ?_, hrp, hgs, hi10, hp10, hq10⟩ <;> rw [e]
  · exact hO10.mono (by omega)
  · exact fun g hg => (hO10.blk hg).2
  · exact (hsp8.wr hW10 hlow).weak fun g hg => .inl hg
  · exact ⟨(hcu8.sp0.wr hW10 hlow).weak fun g hg => .inl hg, fun q hq => ((hcu8.sp q hq).wr hW10 hlow).weak fun g hg => .inl hg⟩
/-- The number of integers of a presentation of bounded sizes. -/
theorem totP_le {p : Pr} (hs : SizeP p 1048576) : totP p ≤ 1048576 + (1048576 * 1048576 + 1048576 * (1048576 * 1048576)) := by
  have h1 := hs.ord
  have h2 := hs.pow
  have h3 := hs.cnj
  have e2 : tot p.pow ≤ p.pow.length * 1048576 := tot_le _ fun x hx => by
    obtain ⟨i, hi, rfl⟩ := List.getElem_of_mem hx
    have := hs.powi i
    simp only [List.getD_eq_getElem?_getD, List.getElem?_eq_getElem hi, Option.getD_some] at this
    omega
  have e3 : tot p.cnj.flatten ≤ p.cnj.length * (1048576 * 1048576) := tot_flatten _ fun x hx => by
    obtain ⟨i, hi, rfl⟩ := List.getElem_of_mem hx
    have h4 := hs.cnji i
    simp only [List.getD_eq_getElem?_getD, List.getElem?_eq_getElem hi, Option.getD_some] at h4
    refine ⟨by omega, fun y hy => ?_⟩
    obtain ⟨j, hj, rfl⟩ := List.getElem_of_mem hy
    have h5 := hs.cnjij i j
    simp only [List.getD_eq_getElem?_getD, List.getElem?_eq_getElem hi, Option.getD_some, List.getElem?_eq_getElem hj] at h5
    omega
  unfold totP
  omega
theorem SizeP.mono {p : Pr} {k j : Int} (h : SizeP p k) (hkj : k ≤ j) : SizeP p j :=
  ⟨by have := h.ord; omega, by have := h.pow; omega, fun i => by have := h.powi i; omega, by have := h.cnj; omega, fun i => by have := h.cnji i; omega, fun i j => by have := h.cnjij i j; omega⟩
end Go.Proofs.Ytnphljflkpekmaa

/-
  Exponents of cosets: what ProjectElement answers.
  Conditions: none.
-/
namespace Go.Proofs.Ytnphljflkpekmaa
open Go Go.Pc
/-- The exponents of a coset, told by its representative. -/
def prjL (p : Pr) (ys : List (El p)) (y : El p) : List Int := (freeL p ys p.n).map fun d => co y d
def PjV (p : Pr) (xss : List (List Int)) (xs r : List Int) (e : Int) : Prop := (¬ NormP p xss ∧ r = [] ∧ e = 5) ∨ (NormP p xss ∧ (∃ (_ : ConAll p) (ys : List (El p)) (x y : El p), xss = vecs ys ∧ xs = x.v ∧ RepOf ys x y ∧ r = prjL p ys y) ∧ e = 0)
theorem PjV.uniq {p : Pr} {xss : List (List Int)} {xs : List Int} (hS : IsSubP p xss) (a b : List Int) (c d : Int) (h : PjV p xss xs a c) (k : PjV p xss xs b d) : a = b ∧ c = d := by
  rcases h with ⟨h1, rfl, rfl⟩ | ⟨h1, ⟨hc, ys, x, y, h2, h3, h4, rfl⟩, rfl⟩ <;> rcases k with ⟨k1, rfl, rfl⟩ | ⟨k1, ⟨kc, zs, x', y', k2, k3, k4, rfl⟩, rfl⟩
  · exact ⟨rfl, rfl⟩
  · exact absurd k1 h1
  · exact absurd h1 k1
  · obtain ⟨hG, hq⟩ := hS
    haveI : ConAll p := ⟨hG.con⟩
    obtain ⟨us, hus, hse⟩ := isSeq_iff.1 hq
    obtain rfl : ys = us := vecs_inj (h2.symm.trans hus)
    obtain rfl : zs = ys := vecs_inj (k2.symm.trans hus)
    obtain rfl : x = x' := T.ext (h3.symm.trans k3)
    rw [RepOf.unique hse h4 k4]
    exact ⟨rfl, rfl⟩
end Go.Proofs.Ytnphljflkpekmaa

/-
  The presentations of subgroups and quotients, as lists; what SubgroupPresentation, QuotientPresentation and LiftElement answer.
  Conditions: none.
-/
namespace Go.Proofs.Ytnphljflkpekmaa
open Go Go.Pc
/-- A presentation out of its entries. -/
def tabP (m : Nat) (o : Nat → Int) (f : Nat → List Int) (g : Nat → Nat → List Int) : Pr :=
  ⟨(List.range m).map o, (List.range m).map f, (List.range m).map fun i => (List.range (m - (i + 1))).map fun k => g i (i + 1 + k)⟩
section
variable {m : Nat} {o : Nat → Int} {f : Nat → List Int} {g : Nat → Nat → List Int}
end
section
variable {p : Pr} [hc : ConAll p]
noncomputable def subPow (ys : List (El p)) (i : Nat) : List Int := expsL ys (Grp.pwz (ys.getD i 1) (p.o (lead (ys.getD i 1).v))) ys.length
noncomputable def subCnj (ys : List (El p)) (i j : Nat) : List Int := expsL ys (Grp.cj (ys.getD j 1) (ys.getD i 1)) ys.length
/-- The presentation of a subgroup. -/
noncomputable def subPr (ys : List (El p)) : Pr := tabP ys.length (fun i => p.o (lead (ys.getD i 1).v)) (subPow ys) (subCnj ys)
/-- The representative of a coset. -/
noncomputable def repE (ys : List (El p)) (x : El p) : El p := open Classical in if h : ∃ r, RepOf ys x r then Classical.choose h else 1
noncomputable def prjE (ys : List (El p)) (x : El p) : List Int := prjL p ys (repE ys x)
/-- The place of a coset's generator. -/
def frA (p : Pr) (ys : List (El p)) (i : Nat) : Nat := (freeL p ys p.n).getD i 0
def frN (p : Pr) (ys : List (El p)) : Nat := (freeL p ys p.n).length
noncomputable def quoPow (ys : List (El p)) (i : Nat) : List Int := prjE ys (Grp.pwz (gOf p 0 (frA p ys i)) (p.o (frA p ys i)))
noncomputable def quoCnj (ys : List (El p)) (i j : Nat) : List Int := prjE ys (Grp.cj (gOf p 0 (frA p ys j)) (gOf p 0 (frA p ys i)))
/-- The presentation of a quotient. -/
noncomputable def quoPr (ys : List (El p)) : Pr := tabP (frN p ys) (fun i => p.o (frA p ys i)) (quoPow ys) (quoCnj ys)
end
def noP : Pr := ⟨[], [], []⟩
def SpV (p : Pr) (xss : List (List Int)) (r : Pr) (e : Int) : Prop := (∃ (_ : ConAll p) (ys : List (El p)), xss = vecs ys ∧ r = subPr ys) ∧ e = 0
theorem SpV.uniq {p : Pr} {xss : List (List Int)} (a b : Pr) (c d : Int) (h : SpV p xss a c) (k : SpV p xss b d) : a = b ∧ c = d := by
  obtain ⟨⟨hc, ys, h2, h3⟩, h5⟩ := h
  obtain ⟨⟨hc', ys', k2, k3⟩, k5⟩ := k
  obtain rfl := vecs_inj (h2.symm.trans k2)
  exact ⟨by rw [h3, k3], by rw [h5, k5]⟩
def QpV (p : Pr) (xss : List (List Int)) (r : Pr) (e : Int) : Prop := (¬ NormP p xss ∧ r = noP ∧ e = 5) ∨ (NormP p xss ∧ (∃ (_ : ConAll p) (ys : List (El p)), xss = vecs ys ∧ r = quoPr ys) ∧ e = 0)
theorem QpV.uniq {p : Pr} {xss : List (List Int)} (a b : Pr) (c d : Int) (h : QpV p xss a c) (k : QpV p xss b d) : a = b ∧ c = d := by
  rcases h with ⟨h1, rfl, rfl⟩ | ⟨h1, ⟨hc, ys, h2, rfl⟩, rfl⟩ <;> rcases k with ⟨k1, rfl, rfl⟩ | ⟨k1, ⟨kc, zs, k2, rfl⟩, rfl⟩
  · exact ⟨rfl, rfl⟩
  · exact absurd k1 h1
  · exact absurd h1 k1
  · obtain rfl := vecs_inj (h2.symm.trans k2)
    exact ⟨rfl, rfl⟩
end Go.Proofs.Ytnphljflkpekmaa

/-
  The sizes of the presentations of subgroups and quotients.
  Conditions: none.
-/
namespace Go.Proofs.Ytnphljflkpekmaa
open Go Go.Pc
end Go.Proofs.Ytnphljflkpekmaa

/-
  What InclusionHom, NaturalHom and ComposeHoms answer.
  Conditions: none.
-/
namespace Go.Proofs.Ytnphljflkpekmaa
open Go Go.Pc
def noH : Pr × Pr × List (List Int) := (noP, noP, [])
def SzH (k : Pr × Pr × List (List Int)) : Prop := (SizeP k.1 2000000 ∧ SizeP k.2.1 2000000 ∧ k.2.2.length ≤ 2000000 ∧ ∀ i, (k.2.2.getD i []).length ≤ 2000000) ∧ totP k.1 + totP k.2.1 + tot k.2.2 ≤ 4000000000000
theorem valid_szP {p : Pr} (hv : Valid p) : SizeP p 2000000 ∧ totP p ≤ 1000 := by
  have h6 := hv.n6
  have h1 : p.ord.length = p.n := rfl
  have h2 := hv.lenw
  have h3 := hv.lenc
  exact ⟨⟨by omega, by omega, fun i => by have := valid_pow hv i; omega, by omega, fun i => by have := valid_cnji hv i; omega, fun i j => by have := valid_cnjij hv i j; omega⟩, valid_totP hv⟩
theorem valid_sz6 {p : Pr} (hv : Valid p) : SizeP p 6 := by
  have h6 := hv.n6
  have h1 : p.ord.length = p.n := rfl
  have h2 := hv.lenw
  have h3 := hv.lenc
  exact ⟨by omega, by omega, fun i => by have := valid_pow hv i; omega, by omega, fun i => by have := valid_cnji hv i; omega, fun i j => by have := valid_cnjij hv i j; omega⟩
theorem szH_of {p q : Pr} {xss : List (List Int)} (hp : SizeP p 2000000 ∧ totP p ≤ 1000) (hq : SizeP q 2000000 ∧ totP q ≤ 1000) (hl : xss.length ≤ 6) (hx : ∀ x, x ∈ xss → x.length ≤ 6) : SzH (p, q, xss) := by
  have ht := tot_le xss hx
  refine ⟨⟨hp.1, hq.1, by simp only; omega, fun i => ?_⟩, by have := hp.2; have := hq.2; simp only; omega⟩
  by_cases h : i < xss.length
  · have e : xss.getD i [] = xss[i] := by simp [h]
    have := hx _ (List.getElem_mem h)
    rw [e]; omega
  · have e : xss.getD i [] = [] := by rw [List.getD_eq_getElem?_getD, List.getElem?_eq_none (by omega)]; rfl
    rw [e]; exact Nat.zero_le _
theorem vecs_row {p : Pr} {ys : List (El p)} (h6 : p.n ≤ 6) : ∀ x, x ∈ vecs ys → x.length ≤ 6 := fun x hx => by
  obtain ⟨y, _, rfl⟩ := List.mem_map.1 hx
  have := y.inr.len
  omega
/-- The inclusion of a subgroup. -/
def IhV (p : Pr) (xss : List (List Int)) (k : Pr × Pr × List (List Int)) (e : Int) : Prop := (∃ (_ : ConAll p) (ys : List (El p)), xss = vecs ys ∧ k = (subPr ys, p, vecs ys)) ∧ e = 0
theorem IhV.uniq {p : Pr} {xss : List (List Int)} (a b : Pr × Pr × List (List Int)) (c d : Int) (h : IhV p xss a c) (k : IhV p xss b d) : a = b ∧ c = d := by
  obtain ⟨⟨hc, ys, h2, h3⟩, h5⟩ := h
  obtain ⟨⟨hc', ys', k2, k3⟩, k5⟩ := k
  obtain rfl := vecs_inj (h2.symm.trans k2)
  exact ⟨by rw [h3, k3], by rw [h5, k5]⟩
/-- The natural homomorphism. -/
def NhV (p : Pr) (xss : List (List Int)) (k : Pr × Pr × List (List Int)) (e : Int) : Prop := (¬ NormP p xss ∧ k = noH ∧ e = 5) ∨ (NormP p xss ∧ (∃ (_ : ConAll p) (ys : List (El p)), xss = vecs ys ∧ k = (p, quoPr ys, (List.range p.n).map fun i => prjE ys (gOf p 0 i))) ∧ e = 0)
theorem NhV.uniq {p : Pr} {xss : List (List Int)} (a b : Pr × Pr × List (List Int)) (c d : Int) (h : NhV p xss a c) (k : NhV p xss b d) : a = b ∧ c = d := by
  rcases h with ⟨h1, rfl, rfl⟩ | ⟨h1, ⟨hc, ys, h2, rfl⟩, rfl⟩ <;> rcases k with ⟨k1, rfl, rfl⟩ | ⟨k1, ⟨kc, zs, k2, rfl⟩, rfl⟩
  · exact ⟨rfl, rfl⟩
  · exact absurd k1 h1
  · exact absurd h1 k1
  · obtain rfl := vecs_inj (h2.symm.trans k2)
    exact ⟨rfl, rfl⟩
/-- The composition of two homomorphisms. -/
def HcV (p q : Pr) (xss : List (List Int)) (p' q' : Pr) (yss : List (List Int)) (k : Pr × Pr × List (List Int)) (e : Int) : Prop := (q ≠ p' ∧ k = noH ∧ e = 5) ∨ (q = p' ∧ (∃ (_ : ConAll q') (ys : List (El q')), yss = vecs ys ∧ k = (p, q', xss.map fun x => (imgE ys x).v)) ∧ e = 0)
theorem HcV.uniq {p q p' q' : Pr} {xss yss : List (List Int)} (a b : Pr × Pr × List (List Int)) (c d : Int) (h : HcV p q xss p' q' yss a c) (k : HcV p q xss p' q' yss b d) : a = b ∧ c = d := by
  rcases h with ⟨h1, rfl, rfl⟩ | ⟨h1, ⟨hc, ys, h2, rfl⟩, rfl⟩ <;> rcases k with ⟨k1, rfl, rfl⟩ | ⟨k1, ⟨kc, zs, k2, rfl⟩, rfl⟩
  · exact ⟨rfl, rfl⟩
  · exact absurd k1 h1
  · exact absurd h1 k1
  · obtain rfl := vecs_inj (h2.symm.trans k2)
    exact ⟨rfl, rfl⟩
end Go.Proofs.Ytnphljflkpekmaa

/-
  Answers: joins, normal closures, commutator subgroups.
  Conditions: none.
-/
namespace Go.Proofs.Ytnphljflkpekmaa
open Go Go.Pc
def JoinV (p : Pr) (xss yss r : List (List Int)) (e : Int) : Prop := (∃ (_ : ConAll p) (ys zs : List (El p)), xss = vecs ys ∧ yss = vecs zs ∧ r = canon (Gen (fun a : El p => a ∈ ys ++ zs))) ∧ e = 0
theorem JoinV.uniq {p : Pr} {xss yss : List (List Int)} (a b : List (List Int)) (c d : Int) (h : JoinV p xss yss a c) (k : JoinV p xss yss b d) : a = b ∧ c = d := by
  obtain ⟨⟨hc, ys, zs, h2, h3, h4⟩, h5⟩ := h
  obtain ⟨⟨hc', ys', zs', k2, k3, k4⟩, k5⟩ := k
  obtain rfl := vecs_inj (h2.symm.trans k2)
  obtain rfl := vecs_inj (h3.symm.trans k3)
  exact ⟨by rw [h4, k4], by rw [h5, k5]⟩
def CommV (p : Pr) (xss yss r : List (List Int)) (e : Int) : Prop := (∃ (_ : ConAll p) (ys zs : List (El p)), xss = vecs ys ∧ yss = vecs zs ∧ r = canon (CommC ys zs)) ∧ e = 0
theorem CommV.uniq {p : Pr} {xss yss : List (List Int)} (a b : List (List Int)) (c d : Int) (h : CommV p xss yss a c) (k : CommV p xss yss b d) : a = b ∧ c = d := by
  obtain ⟨⟨hc, ys, zs, h2, h3, h4⟩, h5⟩ := h
  obtain ⟨⟨hc', ys', zs', k2, k3, k4⟩, k5⟩ := k
  obtain rfl := vecs_inj (h2.symm.trans k2)
  obtain rfl := vecs_inj (h3.symm.trans k3)
  exact ⟨by rw [h4, k4], by rw [h5, k5]⟩
def NclV (p : Pr) (xss r : List (List Int)) (e : Int) : Prop := (∃ (_ : ConAll p) (ys : List (El p)), xss = vecs ys ∧ r = canon (Clo (fun a : El p => a ∈ ys) (fun a : El p => a ∈ gensL p))) ∧ e = 0
theorem NclV.uniq {p : Pr} {xss : List (List Int)} (a b : List (List Int)) (c d : Int) (h : NclV p xss a c) (k : NclV p xss b d) : a = b ∧ c = d := by
  obtain ⟨⟨hc, ys, h2, h4⟩, h5⟩ := h
  obtain ⟨⟨hc', ys', k2, k4⟩, k5⟩ := k
  obtain rfl := vecs_inj (h2.symm.trans k2)
  exact ⟨by rw [h4, k4], by rw [h5, k5]⟩
end Go.Proofs.Ytnphljflkpekmaa

/-
  Series of subgroups: steps until one stands still; the derived and the lower central series.
  Conditions: the tails at all levels are groups.
-/
namespace Go.Proofs.Ytnphljflkpekmaa
open Go Go.Pc
def itL {α : Type} (f : α → α) (y : α) : Nat → α
  | 0 => y
  | k + 1 => f (itL f y k)
def SerR {α : Type} (f : α → α) (y : α) (K : Nat) : Prop := itL f y (K + 1) = itL f y K ∧ ∀ j, j < K → itL f y (j + 1) ≠ itL f y j
theorem SerR.uniq {α : Type} {f : α → α} {y : α} {K J : Nat} (h : SerR f y K) (k : SerR f y J) : K = J := by
  rcases Nat.lt_trichotomy K J with e | e | e
  · exact absurd h.1 (k.2 K e)
  · exact e
  · exact absurd k.1 (h.2 J e)
section
variable {p : Pr} [hc : ConAll p] {ys zs : List (El p)}
theorem seq_len_le (hy : SeqEl ys) (hz : SeqEl zs) (hle : ∀ a, Gen (fun a : El p => a ∈ zs) a → Gen (fun a : El p => a ∈ ys) a) : zs.length ≤ ys.length := by
  have := can_len_le (Gen.sub _) (Gen.sub _) hle
  rwa [hy.els, hz.els] at this
theorem seq_len_iff (hy : SeqEl ys) (hz : SeqEl zs) (hle : ∀ a, Gen (fun a : El p => a ∈ zs) a → Gen (fun a : El p => a ∈ ys) a) : zs.length = ys.length ↔ zs = ys := by
  refine ⟨fun h => ?_, fun h => by rw [h]⟩
  have h2 := same_of_len (Gen.sub _) (Gen.sub _) hle (by rw [hy.els, hz.els]; omega)
  have e : Gen (fun a : El p => a ∈ zs) = Gen (fun a : El p => a ∈ ys) := by
    funext a; exact propext ⟨hle a, h2 a⟩
  rw [← hz.els, ← hy.els, e]
/-- What the walks need of a series. -/
structure SerOk (f : List (El p) → List (El p)) (y0 : List (El p)) : Prop where
  seq : ∀ k, SeqEl (itL f y0 k)
  eqv : ∀ k, (itL f y0 (k + 1)).length = (itL f y0 k).length ↔ itL f y0 (k + 1) = itL f y0 k
  bd : ∀ K, (∀ j, j < K → itL f y0 (j + 1) ≠ itL f y0 j) → K ≤ p.n
/-- A series that goes up. -/
theorem SerOk.up {f : List (El p) → List (El p)} {y0 : List (El p)} (Good : List (El p) → Prop) (h0 : Good y0) (hseq : ∀ ys, Good ys → SeqEl ys) (hf : ∀ ys, Good ys → Good (f ys))
    (hle : ∀ ys, Good ys → ∀ a, Gen (fun a : El p => a ∈ ys) a → Gen (fun a : El p => a ∈ f ys) a) : SerOk f y0 := by
  have hg : ∀ k, Good (itL f y0 k) := by
    intro k
    induction k with
    | zero => exact h0
    | succ k ih => exact hf _ ih
  have hs : ∀ k, SeqEl (itL f y0 k) := fun k => hseq _ (hg k)
  have he : ∀ k, (itL f y0 (k + 1)).length = (itL f y0 k).length ↔ itL f y0 (k + 1) = itL f y0 k := fun k => by
    have := seq_len_iff (hs (k + 1)) (hs k) (hle _ (hg k))
    exact ⟨fun h => (this.1 h.symm).symm, fun h => by rw [h]⟩
  refine ⟨hs, he, fun K hK => ?_⟩
  have key : ∀ k, k ≤ K → k ≤ (itL f y0 k).length := by
    intro k
    induction k with
    | zero => exact fun _ => Nat.zero_le _
    | succ k ih =>
      intro hk
      have h1 := ih (by omega)
      have h2 := seq_len_le (hs (k + 1)) (hs k) (hle _ (hg k))
      have h3 := hK k (by omega)
      rw [Ne, ← he k] at h3
      omega
  have h1 := key K (Nat.le_refl _)
  have h2 := (hs K).len
  omega
noncomputable def lowF (ys : List (El p)) : List (El p) := canEls (CommC ys (gensL p))
end
/-- What a series is, with its code. -/
def SrV (p : Pr) (C : ConAll p → (List (El p) → List (El p)) × List (El p)) (r : List (List (List Int))) (e : Int) : Prop := ∃ (c : ConAll p) (K : Nat), SerR (C c).1 (C c).2 K ∧ r = (List.range (K + 1)).map (fun j => vecs (itL (C c).1 (C c).2 j)) ∧ e = 0
theorem SrV.uniq {p : Pr} {C : ConAll p → (List (El p) → List (El p)) × List (El p)} (a b : List (List (List Int))) (c d : Int) (h : SrV p C a c) (g : SrV p C b d) : a = b ∧ c = d := by
  obtain ⟨_, K, h1, rfl, rfl⟩ := h
  obtain ⟨_, J, g1, rfl, rfl⟩ := g
  obtain rfl := h1.uniq g1
  exact ⟨rfl, rfl⟩
/-- The class of a nilpotent group, with its code. -/
def NcV (p : Pr) (r e : Int) : Prop := ∃ (c : ConAll p) (K : Nat), SerR (lowF (p := p)) (gensL p) K ∧ ((0 < (itL (lowF (p := p)) (gensL p) K).length ∧ r = 0 ∧ e = 4) ∨ ((itL (lowF (p := p)) (gensL p) K).length = 0 ∧ r = K ∧ e = 0))
theorem NcV.uniq {p : Pr} (a b c d : Int) (h : NcV p a c) (g : NcV p b d) : a = b ∧ c = d := by
  obtain ⟨_, K, h1, h2⟩ := h
  obtain ⟨_, J, g1, g2⟩ := g
  obtain rfl := h1.uniq g1
  rcases h2 with ⟨h3, rfl, rfl⟩ | ⟨h3, rfl, rfl⟩ <;> rcases g2 with ⟨g3, rfl, rfl⟩ | ⟨g3, rfl, rfl⟩
  · exact ⟨rfl, rfl⟩
  · omega
  · omega
  · exact ⟨rfl, rfl⟩
end Go.Proofs.Ytnphljflkpekmaa

/-
  The upper central series and the lower exponent series.
  Conditions: the tails at all levels are groups.
-/
namespace Go.Proofs.Ytnphljflkpekmaa
open Go Go.Pc
section
variable {p : Pr} [hc : ConAll p]
noncomputable def expL (q : Int) (ys : List (El p)) : List (El p) := lowF ys ++ ys.map fun y => Grp.pwz y q
noncomputable def expF (q : Int) (ys : List (El p)) : List (El p) := canEls (Gen (fun a : El p => a ∈ expL q ys))
end
noncomputable def ExpC (p : Pr) (q : Int) (c : ConAll p) : (List (El p) → List (El p)) × List (El p) := (expF q, gensL p)
/-- What a series for a prime is, with its code. -/
def ExV (p : Pr) (q : Int) (r : List (List (List Int))) (e : Int) : Prop := (¬ (q = 2 ∨ q = 3 ∨ q = 5 ∨ q = 7) ∧ r = [] ∧ e = 2) ∨ ((q = 2 ∨ q = 3 ∨ q = 5 ∨ q = 7) ∧ SrV p (ExpC p q) r e)
theorem ExV.uniq {p : Pr} {q : Int} (a b : List (List (List Int))) (c d : Int) (h : ExV p q a c) (g : ExV p q b d) : a = b ∧ c = d := by
  rcases h with ⟨h1, rfl, rfl⟩ | ⟨h1, h2⟩ <;> rcases g with ⟨g1, rfl, rfl⟩ | ⟨g1, g2⟩
  · exact ⟨rfl, rfl⟩
  · exact absurd g1 h1
  · exact absurd h1 g1
  · exact h2.uniq _ _ _ _ g2
end Go.Proofs.Ytnphljflkpekmaa

/-
  Walks: the check of marks on lists of lists of lists (heldInt64SSS); sizes of series.
  Conditions: stated at each theorem.
-/
namespace Go.Proofs.Ytnphljflkpekmaa
open Go Go.Pc
def markC (k : Int) : List (List (List Int)) → List (List (List Int))
  | [] => []
  | x :: l => markL k x :: markC (k + tot x) l
def mkC (k : Int) : List (Value × List (Value × List Int)) → List (Value × List (Value × List Int))
  | [] => []
  | q :: l => (q.1, mkR k q.2) :: mkC (k + tot (q.2.map (·.2))) l
theorem mkC_fst : ∀ (gs : List (Value × List (Value × List Int))) (k : Int), (mkC k gs).map (·.1) = gs.map (·.1)
  | [], _ => rfl
  | q :: l, k => by simp [mkC, mkC_fst l]
theorem mkC_snd : ∀ (gs : List (Value × List (Value × List Int))) (k : Int), ((mkC k gs).map fun q => q.2.map (·.2)) = markC k (gs.map fun q => q.2.map (·.2))
  | [], _ => rfl
  | q :: l, k => by
    show (mkR k q.2).map (·.2) :: ((mkC (k + tot (q.2.map (·.2))) l).map fun q => q.2.map (·.2)) = _
    rw [mkR_snd, mkC_snd l]; rfl
theorem flat_cons (q : Value × List (Value × List Int)) (l : List (Value × List (Value × List Int))) : flat (q :: l) = q.2 ++ flat l := by simp [flat]
theorem flat_mkC : ∀ (gs : List (Value × List (Value × List Int))) (k : Int), flat (mkC k gs) = mkR k (flat gs)
  | [], _ => rfl
  | q :: l, k => by
    rw [flat_cons, mkR_append, ← flat_mkC l]
    show flat ((q.1, mkR k q.2) :: mkC (k + tot (q.2.map (·.2))) l) = _
    rw [flat_cons]
theorem markC_len : ∀ (l : List (List (List Int))) (k : Int), (markC k l).length = l.length
  | [], _ => rfl
  | x :: l, k => by simp [markC, markC_len l]
theorem markC_getD : ∀ (l : List (List (List Int))) (k : Int) (i : Nat), i < l.length → (markC k l).getD i [] = markL (k + tot (l.take i).flatten) (l.getD i [])
  | [], _, _, h => by simp at h
  | x :: l, k, 0, _ => by simp [markC, tot]
  | x :: l, k, i + 1, h => by
    have := markC_getD l (k + tot x) i (by simpa using h)
    simp only [markC, List.getD_cons_succ, this, List.take_succ_cons, List.flatten_cons, tot_append]
    rw [Int.add_assoc]; simp
theorem tot_takeF_le (l : List (List (List Int))) (k : Nat) : tot (l.take k).flatten ≤ tot l.flatten := by
  have e : l.flatten = (l.take k).flatten ++ (l.drop k).flatten := by rw [← List.flatten_append, List.take_append_drop]
  rw [e, tot_append]; omega
theorem tot_takeF_succ (l : List (List (List Int))) {k : Nat} (hk : k < l.length) : tot (l.take (k + 1)).flatten = tot (l.take k).flatten + tot (l.getD k []) := by
  rw [List.take_succ_eq_append_getElem hk, List.flatten_append, tot_append]
  simp [hk]
theorem mkC_mem {gs : List (Value × List (Value × List Int))} {k : Int} {q : Value × List (Value × List Int)} (hq : q ∈ mkC k gs) : ∃ q', q' ∈ gs ∧ q.1 = q'.1 ∧ q.2.map (·.1) = q'.2.map (·.1) := by
  induction gs generalizing k with
  | nil => cases hq
  | cons g l ih =>
    rcases List.mem_cons.1 hq with rfl | hq
    · exact ⟨g, List.mem_cons_self, rfl, mkR_fst _ _⟩
    · obtain ⟨q', h1, h2⟩ := ih hq
      exact ⟨q', List.mem_cons_of_mem _ h1, h2⟩
theorem RowsO.ofFlat {s : Nat} {w : World} {gs : List (Value × List (Value × List Int))} (h : RowsO s w (flat gs)) {q : Value × List (Value × List Int)} (hq : q ∈ gs) : RowsO s w q.2 := by
  have hs : List.Sublist q.2 (flat gs) := List.sublist_flatten_of_mem (List.mem_map.2 ⟨q, hq, rfl⟩)
  exact ⟨fun r hr => h.fr r (hs.subset hr), h.sep.sublist hs⟩
set_option maxHeartbeats 1000000 in
theorem heldInt64SSS_ok {w : World} {v : Value} {k : Int} {lo hi : Nat} {us : List Value} {uss : List (List Value)} {xsss ysss : List (List (List Int))} [hx : Rowss lo hi w v us uss xsss] (hxs : xsss = markC k ysss) (hk : 0 ≤ k) (hb : k + tot ysss.flatten ≤ 9000000000000000000) :
    Calls Try.prog 35 #[v, .int .i64 k] w (Ret fun v' w' => v' = .int .i64 (k + tot ysss.flatten) ∧ Ext w w') := by
  have hl : xsss.length = ysss.length := by rw [hxs, markC_len]
  have hul := hx.vals.len
  have hm := sl_len hx.sl
  have hg : ∀ i, i < ysss.length → xsss.getD i [] = markL (k + tot (ysss.take i).flatten) (ysss.getD i []) := fun i hi => by rw [hxs, markC_getD _ _ _ hi]
  refine enter (args := [v, .int .i64 k]) (l := [.tmp 4]) Try.func35 rfl rfl Try.ntmps35 (by simp) ?_
  refine go ?_
  refine r_for ysss.length (fun i ρ w' => Has ρ [(0, v), (1, .int .i64 (k + tot (ysss.take i).flatten)), (5, .int .i64 i)] ∧ Ext w w') ?_ ?_
  · refine ⟨?_, Ext.refl _⟩
    simp only [List.take_zero, List.flatten_nil, tot]
    exact hasP
  rintro i ρ w2 hi ⟨hH, he2⟩
  refine rwp_has hH fun ρ0 => ?_
  have ht := tot_takeF_le ysss i
  refine go ?_
  refine c_if (fun h4 => ?_) (fun h4 => ?_)
  · have hin : i < ysss.length := by omega
    have hts := tot_takeF_succ ysss hin
    have ht2 := tot_takeF_le ysss (i + 1)
    refine go ?_
    refine rc (heldInt64SS_ok (xss := xsss.getD i []) (yss := ysss.getD i []) (hg i hin) ?_ ?_) (next := fun v3 w3 h3 => ?_)
    · omega
    · omega
    obtain ⟨rfl, he3⟩ := h3
    refine go ?_
    refine c_if (fun h5 => ?_) (fun h5 => ?_)
    · omega
    · refine go ?_
      refine forQ_normal (by omega) ⟨?_, he2.trans he3⟩
      exact hasP
  · refine go ?_
    obtain rfl : i = ysss.length := by omega
    refine ret1 ⟨?_, he2⟩
    rw [List.take_length]
end Go.Proofs.Ytnphljflkpekmaa

/-
  Lists of structs of seven cells: what an append does, what is read of them.
  Conditions: none; nothing of the program stands here.
-/
namespace Go.Pc
open Go Go.RowKit
/-- A list of structs of seven cells of the call's own. -/
structure OwnS (e s : Nat) (w : World) (v : Value) (n : Nat) (us : List Value) : Prop where
  own : w.ownsRow s e 7 v n us
/-- A list of structs of seven cells that is read. -/
class SlS (lo hi : outParam Nat) (w : World) (v : Value) (n : outParam Nat) (us : outParam (List Value)) : Prop where
  ex : ∃ A c, v = .slice A n c ∧ us.length = n * 7 ∧ n ≤ c ∧ c ≤ 9223372036854775807 ∧ (0 < n → ∃ g, A = some ⟨g, 0, none⟩ ∧ lo ≤ g ∧ g < hi ∧ ∀ j, j < n * 7 → Cell w g j (us.getD j nilv))
section
variable {B : Nat → Prop} {e s lo hi lo' hi' n : Nat} {w w' : World} {v : Value} {us : List Value}
theorem OwnS.nil (e s : Nat) (w : World) : OwnS e s w nilv 0 [] := ⟨World.ownsRow_nil w s e 7⟩
theorem OwnS.lt (h : OwnS e s w v n us) : ∀ k, v.ownBlock = some k → s ≤ k ∧ k < w.heap.size := h.own.lt
theorem OwnS.ext (h : OwnS e s w v n us) (x : Ext w w') : OwnS e s w' v n us :=
  ⟨h.own.kept (row := none) ⟨x.below.os, x.below.tape, x.below.output, x.below.size, fun k hk _ => x.below.block k hk⟩ (by cases hv : v.ownBlock <;> simp)⟩
theorem OwnS.other {b : Nat} (h : OwnS e s w v n us) (c : Chg b w w') (hb : v.ownBlock ≠ some b) : OwnS e s w' v n us := ⟨h.own.kept c.by_ (.inr hb)⟩
theorem OwnS.wr (h : OwnS e s w v n us) (k : Wrt B w w') (hb : ∀ b, v.ownBlock = some b → ¬ B b) : OwnS e s w' v n us := by
  induction k with
  | refl => exact h
  | step _ hB c ih => exact ih.other c (fun e => hb _ e hB)
  | grow _ x ih => exact ih.ext x
theorem OwnS.len (h : OwnS e s w v n us) : us.length = n * 7 := h.own.1
theorem OwnS.slS (h : OwnS e s w v n us) (hl : ∀ b, v.ownBlock = some b → lo ≤ b ∧ b < hi) : SlS lo hi w v n us := by
  have hlen := h.own.1
  rcases h.own.2 with ⟨rfl, h0⟩ | ⟨g, cap, cur, hv, hb, hg, hn, hm, hs, ht⟩
  · subst h0
    exact ⟨⟨none, 0, rfl, by simpa using hlen, Nat.le_refl _, by omega, fun h => by omega⟩⟩
  · have hr := hl g (by rw [hv]; rfl)
    refine ⟨⟨some ⟨g, 0, none⟩, cap, hv, hlen, hn, by simp only [maxLen] at hm; omega, fun _ => ⟨g, rfl, hr.1, hr.2, fun j hj => ⟨?_, (Array.getElem?_eq_some_iff.1 hg).1⟩⟩⟩⟩
    rw [cell_of_row w g j cur e (0, 0) hg]
    have hj' : j < us.length := by omega
    have h1 : (cur.toList.take (n * 7))[j]? = us[j]? := by rw [ht]
    rw [List.getElem?_take, if_pos hj] at h1
    rw [List.getD_eq_getElem?_getD, ← h1]
    have h2 : j < cur.size := by rw [hs]; exact Nat.lt_of_lt_of_le hj (Nat.mul_le_mul_right _ hn)
    simp [h2]
theorem SlS.toLen (h : SlS lo hi w v n us) : Len w v n := by
  obtain ⟨A, c, rfl, hl, hc, hm, hA⟩ := h.ex
  exact ⟨A, c, rfl, hc, hm, fun hp => by obtain ⟨g, h, _⟩ := hA hp; exact ⟨_, h⟩⟩
theorem SlS.same (h : SlS lo hi w v n us) (k : Same lo hi w w') (hs : w.heap.size ≤ w'.heap.size) : SlS lo hi w' v n us := by
  obtain ⟨A, c, rfl, hl, hc, hm, hA⟩ := h.ex
  refine ⟨⟨A, c, rfl, hl, hc, hm, fun hp => ?_⟩⟩
  obtain ⟨g, rfl, h1, h2, h3⟩ := hA hp
  exact ⟨g, rfl, h1, h2, fun j hj => (h3 j hj).same (fun b k1 k2 k3 => k b (by omega) (by omega) k3) hs⟩
theorem SlS.mono (h : SlS lo hi w v n us) (h1 : lo' ≤ lo) (h2 : hi ≤ hi') : SlS lo' hi' w v n us := by
  obtain ⟨A, c, rfl, hl, hc, hm, hA⟩ := h.ex
  refine ⟨⟨A, c, rfl, hl, hc, hm, fun hp => ?_⟩⟩
  obtain ⟨g, rfl, k1, k2, k3⟩ := hA hp
  exact ⟨g, rfl, by omega, by omega, k3⟩
theorem SlS.wide (h : SlS lo hi w v n us) : SlS 0 w.heap.size w v n us := by
  obtain ⟨A, c, rfl, hl, hc, hm, hA⟩ := h.ex
  refine ⟨⟨A, c, rfl, hl, hc, hm, fun hp => ?_⟩⟩
  obtain ⟨g, rfl, k1, k2, k3⟩ := hA hp
  exact ⟨g, rfl, Nat.zero_le _, (k3 0 (by omega)).lt, k3⟩
end
section
variable {P : Program} {N lo hi n : Nat} {ops : Array Oper} {K : Env → World → Prop} {l : List Oper} {ρ : Env} {w w1 : World} {d d2 : Nat} {v : Value} {us : List Value} {ty ty2 : TypeId} {pos pos2 : String} {after after2 : Array Edge} {g g2 : Option (Nat × Bool)}
theorem rd_indexS {x ix : Operand} {v : Value} {t e n m lo hi bytes : Nat} {z : Value} {us : List Value} (h : ev ρ x = v) (hk : ev ρ ix = .int .i64 (m : Int)) [ht : SlT P t e] [he : ElT P e 7 bytes z] [hl : SlS lo hi w v n us] (h1 : m < n) {gb : Nat} (hb : v.ownBlock = some gb) : Rd P (.indexAddr t x ix) ty ρ w (.pointer (some ⟨gb, m * 7, none⟩)) := by
  obtain ⟨A, c, rfl, hl, hc, _, hA⟩ := hl.ex
  obtain ⟨b, rfl, _⟩ := hA (by omega)
  injection hb with hb
  subst hb
  obtain ⟨i, hi, hs, _, _⟩ := he.ex
  constructor; intro _ _ _ _
  simp [execOp, h, hk, Instr.indexAt, asIntOf, run_underlying ht.eq, sizeOf, typeInfo, hi, hs, addr_add, h1]
theorem rd_load_agg7o {x : Operand} {b o t : Nat} {v0 v1 v2 v3 v4 v5 v6 : Value} (h : ev ρ x = .pointer (some ⟨b, o, none⟩)) [hp : StructT P t 7] [h0 : Cell w b o v0] [h1 : Cell w b (o + 1) v1] [h2 : Cell w b (o + 2) v2] [h3 : Cell w b (o + 3) v3] [h4 : Cell w b (o + 4) v4] [h5 : Cell w b (o + 5) v5] [h6 : Cell w b (o + 6) v6] : Rd P (.load t x) ty ρ w (.agg #[v0, v1, v2, v3, v4, v5, v6]) := by
  constructor; intro _ _ _ _
  obtain ⟨fs, i, hu, hi, hs⟩ := hp.ex
  have e0 := h0.eq
  have e1 := h1.eq
  have e2 := h2.eq
  have e3 := h3.eq
  have e4 := h4.eq
  have e5 := h5.eq
  have e6 := h6.eq
  simp [execOp, h, Instr.loadAt, Instr.sureAddr, loadVar, isAgg, run_underlying hu, sizeOf, typeInfo, hi, hs, loadCells, loadCellsFrom, addr_add, e0, e1, e2, e3, e4, e5, e6]
theorem rd_loadS {x : Operand} {v : Value} {t n m lo hi gb : Nat} {us : List Value} (h : ev ρ x = .pointer (some ⟨gb, m * 7, none⟩)) [hp : StructT P t 7] [hl : SlS lo hi w v n us] (h1 : m < n) (hb : v.ownBlock = some gb) :
    Rd P (.load t x) ty ρ w (.agg #[us.getD (m * 7 + 0) nilv, us.getD (m * 7 + 1) nilv, us.getD (m * 7 + 2) nilv, us.getD (m * 7 + 3) nilv, us.getD (m * 7 + 4) nilv, us.getD (m * 7 + 5) nilv, us.getD (m * 7 + 6) nilv]) := by
  obtain ⟨A, c, rfl, hl, hc, _, hA⟩ := hl.ex
  obtain ⟨b, rfl, _, _, h3⟩ := hA (by omega)
  injection hb with hb
  subst hb
  have c0 := h3 (m * 7 + 0) (by omega)
  have c1 := h3 (m * 7 + 1) (by omega)
  have c2 := h3 (m * 7 + 2) (by omega)
  have c3 := h3 (m * 7 + 3) (by omega)
  have c4 := h3 (m * 7 + 4) (by omega)
  have c5 := h3 (m * 7 + 5) (by omega)
  have c6 := h3 (m * 7 + 6) (by omega)
  exact rd_load_agg7o h
theorem rs_indexS {x ix : Operand} {v : Value} {t e n m lo hi bytes : Nat} {z : Value} {us : List Value} (h : ev ρ x = v) (hk : ev ρ ix = .int .i64 (m : Int)) [ht : SlT P t e] [he : ElT P e 7 bytes z] [hl : SlS lo hi w v n us] (h1 : m < n) {gb : Nat} (hb : v.ownBlock = some gb) : RdS P (.indexAddr t x ix) ty ρ w (.pointer (some ⟨gb, m * 7, none⟩)) :=
  ⟨fun _ x => rd_indexS (hl := hl.same (x.same _ _) x.size) h hk h1 hb⟩
theorem rs_loadS {x : Operand} {v : Value} {t n m lo hi gb : Nat} {us : List Value} (h : ev ρ x = .pointer (some ⟨gb, m * 7, none⟩)) [hp : StructT P t 7] [hl : SlS lo hi w v n us] (h1 : m < n) (hb : v.ownBlock = some gb) :
    RdS P (.load t x) ty ρ w (.agg #[us.getD (m * 7 + 0) nilv, us.getD (m * 7 + 1) nilv, us.getD (m * 7 + 2) nilv, us.getD (m * 7 + 3) nilv, us.getD (m * 7 + 4) nilv, us.getD (m * 7 + 5) nilv, us.getD (m * 7 + 6) nilv]) :=
  ⟨fun _ x => rd_loadS (hl := hl.same (x.same _ _) x.size) h h1 hb⟩
theorem SlS.own (h : SlS lo hi w v n us) (hn : 0 < n) : ∃ gb, v.ownBlock = some gb := by
  obtain ⟨A, c, rfl, _, _, _, hA⟩ := h.ex
  obtain ⟨g, rfl, _⟩ := hA hn
  exact ⟨g, rfl⟩
theorem SlS.cells (h : SlS lo hi w v n us) {gb : Nat} (hb : v.ownBlock = some gb) {j : Nat} (hj : j < n * 7) : Cell w gb j (us.getD j nilv) := by
  obtain ⟨A, c, rfl, _, _, _, hA⟩ := h.ex
  obtain ⟨g, rfl, _, _, h3⟩ := hA (by omega)
  injection hb with hb
  subst hb
  exact h3 j hj
theorem run_slice1S {t e bytes : Nat} {x : Operand} {z : Value} {u0 u1 u2 u3 u4 u5 u6 : Value} [ht : SlT P t e] [he : ElT P e 7 bytes z] (h : ev ρ x = .agg #[u0, u1, u2, u3, u4, u5, u6]) (hz : z.cells.size = 7) :
    Ex P (.buildSlice t 1 #[(0, x)]) ty ρ w (.slice (some ⟨w.heap.size, 0, none⟩) 1 1) (w.alloc (.cells #[u0, u1, u2, u3, u4, u5, u6] e)) := by
  obtain ⟨i, hi, hs, hby, hz'⟩ := he.ex
  constructor; intro _ _ _ _
  simp [execOp, h, Instr.buildSlice, run_underlying ht.eq, sizeOf, typeInfo, hi, hs, zeroValue, hz', Instr.fill, Value.cells, newRow]
  refine congrArg (fun a => w.alloc (Obj.cells a e)) (Array.ext (by simp [hz]) fun j h1 h2 => ?_)
  have : j = 0 ∨ j = 1 ∨ j = 2 ∨ j = 3 ∨ j = 4 ∨ j = 5 ∨ j = 6 := by simp at h2; omega
  rcases this with rfl | rfl | rfl | rfl | rfl | rfl | rfl <;> simp
/-- 'append(s, x)', x a struct of seven cells, s the call's own. -/
theorem st_growS {s x : Operand} {t e bytes sb n : Nat} {z v u0 u1 u2 u3 u4 u5 u6 : Value} {us : List Value} [ht : SlT P t e] [he : ElT P e 7 bytes z] (hO : OwnS e sb w1 v n us)
    (h1 : ∀ u ∈ [u0, u1, u2, u3, u4, u5, u6], u.oneCell' = true) (hs0 : sb ≤ w1.heap.size) (hn : n ≤ 100000)
    (next : ∀ v1 v' w', OwnS e sb w' v' (n + 1) (us ++ [u0, u1, u2, u3, u4, u5, u6]) → (∀ wb, Ext wb w1 → wb.heap.size ≤ sb → Ext wb w') → w1.heap.size ≤ w'.heap.size → GStep w1 w' v v' → rops P N ops K l (put (put ρ d v1) d2 v') w')
    (hx : ev ρ x = .agg #[u0, u1, u2, u3, u4, u5, u6] := by ((try simp only [ev_tmp, ev_const, ev_func, get_put, get_args, get_putL, get_putL_nil, Nat.reduceEqDiff, reduceIte, List.getD_cons_zero, List.getD_cons_succ, List.getD_nil]); first | done | with_reducible rfl)) (hs : ∀ v1, ev (put ρ d v1) s = v := by intro v1; ((try simp only [ev_tmp, ev_const, ev_func, get_put, get_args, get_putL, get_putL_nil, Nat.reduceEqDiff, reduceIte, List.getD_cons_zero, List.getD_cons_succ, List.getD_nil]); first | done | with_reducible rfl)) (hd : ∀ v1, ev (put ρ d v1) (.tmp d) = v1 := by intro v1; ((try simp only [ev_tmp, ev_const, ev_func, get_put, get_args, get_putL, get_putL_nil, Nat.reduceEqDiff, reduceIte, List.getD_cons_zero, List.getD_cons_succ, List.getD_nil]); first | done | with_reducible rfl)) (hz : z.cells.size = 7 := by rfl) (hby : bytes ≤ 200 := by decide) (hg1 : Wants ops ρ g := by first | exact True.intro | exact ⟨_, rfl, by ((try simp only [ev_tmp, ev_const, ev_func, get_put, get_args, get_putL, get_putL_nil, Nat.reduceEqDiff, reduceIte, List.getD_cons_zero, List.getD_cons_succ, List.getD_nil, Bool.not_true, Bool.not_false]); first | done | with_reducible rfl)⟩) (hg2 : ∀ v1, Wants ops (put ρ d v1) g2 := by intro v1; first | exact True.intro | exact ⟨_, rfl, by ((try simp only [ev_tmp, ev_const, ev_func, get_put, get_args, get_putL, get_putL_nil, Nat.reduceEqDiff, reduceIte, List.getD_cons_zero, List.getD_cons_succ, List.getD_nil, Bool.not_true, Bool.not_false]); first | done | with_reducible rfl)⟩) :
    rops P N ops K (⟨some d, .buildSlice t 1 #[(0, x)], ty, pos, after, g⟩ :: ⟨some d2, .call { callee := .builtin .append, args := #[s, .tmp d], argTypes := #[t, t] }, ty2, pos2, after2, g2⟩ :: l) ρ w1 := by
  refine st_ex hg1 (run_slice1S hx hz) ?_
  have he2 : Ext w1 (w1.alloc (.cells #[u0, u1, u2, u3, u4, u5, u6] e)) := Ext.alloc _ _
  have hz2 := he2.size
  have hO2 := hO.ext he2
  have hcells : ∀ j u, [u0, u1, u2, u3, u4, u5, u6][j]? = some u → (w1.alloc (.cells #[u0, u1, u2, u3, u4, u5, u6] e)).cell? ((Addr.mk w1.heap.size 0 none).add j) = some u := fun j u hu => by
    rw [addr_add, Nat.zero_add, cell_of_row _ _ _ #[u0, u1, u2, u3, u4, u5, u6] e (0, 0) (heap_alloc_new w1 _)]
    simpa using hu
  obtain ⟨i, hi, hsz, hb, hz'⟩ := he.ex
  have hbb : (n + 1) * bytes ≤ 100001 * 200 := Nat.mul_le_mul (by omega) hby
  obtain ⟨v', w', hrun, h2, h3, _, h5⟩ := run_append_own_at (P := P) (w1.alloc (.cells #[u0, u1, u2, u3, u4, u5, u6] e)) sb t ty2 e i z 7 bytes ht.eq hi hz' hsz hb hz (by omega) v n us hO2.own ⟨w1.heap.size, 0, none⟩ 1 1 [u0, u1, u2, u3, u4, u5, u6] (by simp) hcells h1 (by simp only [maxLen]; omega) (by omega) (by omega)
  refine st_ex (hg2 _) ⟨fun _ _ _ _ => ?_⟩ (next _ v' w' ⟨h2⟩ (fun wb hb1 hb2 => (hb1.trans he2).app h3 (fun k hk => by have := (hO2.lt k hk).1; omega)) (Nat.le_trans hz2 h3.size) ⟨_, he2, h3, h5⟩)
  simp [execOp, resolve, invoke, builtin, hs, hd, hrun]
end
end Go.Pc

/-
  Lists of homomorphisms: of the call's own, and as they read; marks on all their numbers.
  Conditions: none; nothing of the program stands here.
-/
namespace Go.Proofs.Ytnphljflkpekmaa
open Go Go.Pc
/-- One homomorphism's lists, as they lie. -/
structure HE where
  vo : Value
  od : List Int
  vp : Value
  rp : List (Value × List Int)
  vc : Value
  gs : List (Value × List (Value × List Int))
  uo : Value
  oe : List Int
  up : Value
  rq : List (Value × List Int)
  uc : Value
  hs : List (Value × List (Value × List Int))
  vi : Value
  ri : List (Value × List Int)
namespace HE
def cells (h : HE) : List Value := [h.vo, h.vp, h.vc, h.uo, h.up, h.uc, h.vi]
def rows (h : HE) : List (Value × List Int) := (h.vo, h.od) :: (h.rp ++ (flat h.gs ++ ((h.uo, h.oe) :: (h.rq ++ (flat h.hs ++ h.ri)))))
def p (h : HE) : Pr := ⟨h.od, h.rp.map (·.2), h.gs.map fun q => q.2.map (·.2)⟩
def q (h : HE) : Pr := ⟨h.oe, h.rq.map (·.2), h.hs.map fun q => q.2.map (·.2)⟩
def x (h : HE) : List (List Int) := h.ri.map (·.2)
def val (h : HE) : Pr × Pr × List (List Int) := (h.p, h.q, h.x)
def tt (h : HE) : Nat := tot (h.rows.map (·.2))
def mark (k : Int) (h : HE) : HE :=
  { h with
    od := marks k h.od.length
    rp := mkR (k + h.od.length) h.rp
    gs := mkC (k + h.od.length + tot (h.rp.map (·.2))) h.gs
    oe := marks (k + h.od.length + tot (h.rp.map (·.2)) + tot ((flat h.gs).map (·.2))) h.oe.length
    rq := mkR (k + h.od.length + tot (h.rp.map (·.2)) + tot ((flat h.gs).map (·.2)) + h.oe.length) h.rq
    hs := mkC (k + h.od.length + tot (h.rp.map (·.2)) + tot ((flat h.gs).map (·.2)) + h.oe.length + tot (h.rq.map (·.2))) h.hs
    ri := mkR (k + h.od.length + tot (h.rp.map (·.2)) + tot ((flat h.gs).map (·.2)) + h.oe.length + tot (h.rq.map (·.2)) + tot ((flat h.hs).map (·.2))) h.ri }
theorem mark_rows (k : Int) (h : HE) : (h.mark k).rows = mkR k h.rows := by
  simp only [rows, mark, mkR, mkR_append, flat_mkC]
theorem mark_cells (k : Int) (h : HE) : (h.mark k).cells = h.cells := rfl
theorem tt_eq (h : HE) : h.tt = h.od.length + tot (h.rp.map (·.2)) + tot ((flat h.gs).map (·.2)) + h.oe.length + tot (h.rq.map (·.2)) + tot ((flat h.hs).map (·.2)) + tot (h.ri.map (·.2)) := by
  unfold tt rows
  simp only [List.map_cons, List.map_append, tot, tot_append]
  omega
theorem tt_val (h : HE) : h.tt = totP h.p + totP h.q + tot h.x := by
  rw [tt_eq]
  unfold totP HE.p HE.q HE.x
  simp only [flat_tot]
  omega
structure Ok (A : Nat → Prop) (w : World) (h : HE) : Prop where
  p : SpA A w h.vp (h.rp.map (·.1))
  c : CubO A w h.vc h.gs
  q : SpA A w h.up (h.rq.map (·.1))
  d : CubO A w h.uc h.hs
  i : SpA A w h.vi (h.ri.map (·.1))
variable {A A' B : Nat → Prop} {w w' : World} {h : HE}
theorem Ok.wr (o : Ok A w h) (k : Wrt B w w') (hb : ∀ b, B b → A b) : Ok A w' h := ⟨o.p.wr k hb, o.c.wr k hb, o.q.wr k hb, o.d.wr k hb, o.i.wr k hb⟩
theorem Ok.weak (o : Ok A w h) (hb : ∀ b, A' b → A b) : Ok A' w h := ⟨o.p.weak hb, ⟨o.c.sp0.weak hb, fun q hq => (o.c.sp q hq).weak hb⟩, o.q.weak hb, ⟨o.d.sp0.weak hb, fun q hq => (o.d.sp q hq).weak hb⟩, o.i.weak hb⟩
theorem cub_mk {v : Value} {k : Int} {gs : List (Value × List (Value × List Int))} (o : CubO A w v gs) : CubO A w v (mkC k gs) :=
  ⟨by rw [mkC_fst]; exact o.sp0, fun q hq => by
    obtain ⟨q', h1, h2, h3⟩ := mkC_mem hq
    rw [h2, h3]
    exact o.sp _ h1⟩
theorem Ok.mark (o : Ok A w h) (k : Int) : Ok A w (h.mark k) :=
  ⟨by rw [show (h.mark k).rp.map (·.1) = h.rp.map (·.1) from mkR_fst _ _]; exact o.p, cub_mk o.c, by rw [show (h.mark k).rq.map (·.1) = h.rq.map (·.1) from mkR_fst _ _]; exact o.q, cub_mk o.d, by rw [show (h.mark k).ri.map (·.1) = h.ri.map (·.1) from mkR_fst _ _]; exact o.i⟩
end HE
def allR (es : List HE) : List (Value × List Int) := es.flatMap HE.rows
def allC (es : List HE) : List Value := es.flatMap HE.cells
theorem allR_cons (h : HE) (es : List HE) : allR (h :: es) = h.rows ++ allR es := by simp [allR]
theorem allR_append (es fs : List HE) : allR (es ++ fs) = allR es ++ allR fs := by simp [allR]
theorem allR_mem {h : HE} {es : List HE} (hh : h ∈ es) {r : Value × List Int} (hr : r ∈ h.rows) : r ∈ allR es := List.mem_flatMap.2 ⟨h, hh, hr⟩
theorem allC_get : ∀ (es : List HE) (i : Nat) (hi : i < es.length) (f : Nat), f < 7 → (allC es).getD (i * 7 + f) nilv = (es[i]).cells.getD f nilv
  | h :: es, 0, _, f, hf => by
    have hl : f < h.cells.length := by simpa [HE.cells] using hf
    simp only [allC, List.flatMap_cons, Nat.zero_mul, Nat.zero_add, List.getD_eq_getElem?_getD]
    rw [List.getElem?_append_left hl]
    rfl
  | h :: es, i + 1, hi, f, hf => by
    have ih := allC_get es i (by simpa using hi) f hf
    have hl : h.cells.length = 7 := rfl
    simp only [allC, List.flatMap_cons, List.getD_eq_getElem?_getD] at ih ⊢
    rw [List.getElem?_append_right (by rw [hl]; omega), hl, show (i + 1) * 7 + f - 7 = i * 7 + f by omega]
    exact ih
/-- A list of homomorphisms of the call's own. -/
structure HomsO (e s t : Nat) (w : World) (v : Value) (es : List HE) : Prop where
  own : OwnS e s w v es.length (allC es)
  vt : ∀ b, v.ownBlock = some b → b < t ∧ ¬ BlkOf (allR es) b
  rows : RowsO s w (allR es)
  lt : ∀ b, BlkOf (allR es) b → b < t
  ok : ∀ h, h ∈ es → HE.Ok (fun b => BlkOf (allR es) b ∨ b < s ∨ t ≤ b) w h
/-- A list of homomorphisms that is read. -/
class HomsV (lo hi : outParam Nat) (w : World) (v : Value) (ks : outParam (List (Pr × Pr × List (List Int)))) : Prop where
  ex : ∃ us, SlS lo hi w v ks.length us ∧ ∀ i (hi' : i < ks.length), HomV lo hi w (.agg #[us.getD (i * 7 + 0) nilv, us.getD (i * 7 + 1) nilv, us.getD (i * 7 + 2) nilv, us.getD (i * 7 + 3) nilv, us.getD (i * 7 + 4) nilv, us.getD (i * 7 + 5) nilv, us.getD (i * 7 + 6) nilv]) ks[i].1 ks[i].2.1 ks[i].2.2
section
variable {B : Nat → Prop} {e s t lo hi lo' hi' : Nat} {w w' : World} {v : Value} {es : List HE} {ks : List (Pr × Pr × List (List Int))}
theorem HomsO.wr (h : HomsO e s t w v es) (k : Wrt B w w') (hb : ∀ b, B b → b < s ∨ t ≤ b) : HomsO e s t w' v es :=
  ⟨h.own.wr k fun b e1 hB => by
    have h1 := h.own.lt b e1
    have h2 := (h.vt b e1).1
    have := hb b hB; omega, h.vt, h.rows.wr k fun b e1 hB => by
    have h1 := (h.rows.blk e1).1
    have h2 := h.lt b e1
    have := hb b hB; omega, h.lt, fun x hx => (h.ok x hx).wr k fun b hB => .inr (hb b hB)⟩
theorem RowsO.part {s : Nat} {w : World} {rs L : List (Value × List Int)} (h : RowsO s w L) (hs : rs.Sublist L) : RowsO s w rs := ⟨fun r hr => h.fr r (hs.mem hr), h.sep.sublist hs⟩
theorem HE.parts (h : HE) : [(h.vo, h.od)].Sublist h.rows ∧ h.rp.Sublist h.rows ∧ (flat h.gs).Sublist h.rows ∧ [(h.uo, h.oe)].Sublist h.rows ∧ h.rq.Sublist h.rows ∧ (flat h.hs).Sublist h.rows ∧ h.ri.Sublist h.rows := by
  have k1 : (h.rp ++ (flat h.gs ++ ((h.uo, h.oe) :: (h.rq ++ (flat h.hs ++ h.ri))))).Sublist h.rows := List.sublist_cons_self _ _
  have k2 : (flat h.gs ++ ((h.uo, h.oe) :: (h.rq ++ (flat h.hs ++ h.ri)))).Sublist h.rows := (List.sublist_append_right _ _).trans k1
  have k3 : ((h.uo, h.oe) :: (h.rq ++ (flat h.hs ++ h.ri))).Sublist h.rows := (List.sublist_append_right _ _).trans k2
  have k4 : (h.rq ++ (flat h.hs ++ h.ri)).Sublist h.rows := (List.sublist_cons_self _ _).trans k3
  have k5 : (flat h.hs ++ h.ri).Sublist h.rows := (List.sublist_append_right _ _).trans k4
  exact ⟨List.singleton_sublist.2 List.mem_cons_self, (List.sublist_append_left _ _).trans k1, (List.sublist_append_left _ _).trans k2, (List.singleton_sublist.2 List.mem_cons_self).trans k3, (List.sublist_append_left _ _).trans k4, (List.sublist_append_left _ _).trans k5, (List.sublist_append_right _ _).trans k5⟩
theorem allR_sub {h : HE} : ∀ {es : List HE}, h ∈ es → h.rows.Sublist (allR es)
  | g :: es, hh => by
    rw [allR_cons]
    rcases List.mem_cons.1 hh with rfl | hh
    · exact List.sublist_append_left _ _
    · exact (allR_sub hh).trans (List.sublist_append_right _ _)
/-- What one homomorphism of the list reads as. -/
theorem HE.reads {A : Nat → Prop} {h : HE} (hR : RowsO s w h.rows) (o : HE.Ok A w h) : Ints 0 w.heap.size w h.vo h.od ∧ Pc.Rows 0 w.heap.size w h.vp (h.rp.map (·.1)) (h.rp.map (·.2)) ∧ Rowss 0 w.heap.size w h.vc (h.gs.map (·.1)) (h.gs.map fun q => q.2.map (·.1)) (h.gs.map fun q => q.2.map (·.2)) ∧
    Ints 0 w.heap.size w h.uo h.oe ∧ Pc.Rows 0 w.heap.size w h.up (h.rq.map (·.1)) (h.rq.map (·.2)) ∧ Rowss 0 w.heap.size w h.uc (h.hs.map (·.1)) (h.hs.map fun q => q.2.map (·.1)) (h.hs.map fun q => q.2.map (·.2)) ∧ Pc.Rows 0 w.heap.size w h.vi (h.ri.map (·.1)) (h.ri.map (·.2)) := by
  obtain ⟨s1, s2, s3, s4, s5, s6, s7⟩ := h.parts
  exact ⟨((RowsO.part hR s1).fr _ List.mem_cons_self).ints.wide, (RowsO.part hR s2).rows o.p.sl, rowss_of_cub (A := fun _ => True) (s := 0) o.c.sp0.sl (Nat.zero_le _) fun q hq => (RowsO.ofFlat (RowsO.part hR s3) hq).rows (o.c.sp q hq).sl,
    ((RowsO.part hR s4).fr _ List.mem_cons_self).ints.wide, (RowsO.part hR s5).rows o.q.sl, rowss_of_cub (A := fun _ => True) (s := 0) o.d.sp0.sl (Nat.zero_le _) fun q hq => (RowsO.ofFlat (RowsO.part hR s6) hq).rows (o.d.sp q hq).sl, (RowsO.part hR s7).rows o.i.sl⟩
theorem HomsO.slS (h : HomsO e s t w v es) : SlS 0 w.heap.size w v es.length (allC es) := h.own.slS fun b hb => ⟨Nat.zero_le _, (h.own.lt b hb).2⟩
theorem HomsO.homs (h : HomsO e s t w v es) : HomsV 0 w.heap.size w v (es.map HE.val) := by
  refine ⟨allC es, by rw [List.length_map]; exact h.slS, fun i hi => ?_⟩
  have hi' : i < es.length := by simpa using hi
  have hm := List.getElem_mem hi'
  obtain ⟨r1, r2, r3, r4, r5, r6, r7⟩ := HE.reads (RowsO.part h.rows (allR_sub hm)) (h.ok _ hm)
  have g := allC_get es i hi'
  rw [g 0 (by omega), g 1 (by omega), g 2 (by omega), g 3 (by omega), g 4 (by omega), g 5 (by omega), g 6 (by omega)]
  rw [List.getElem_map]
  exact ⟨⟨_, _, _, _, _, _, _, _, rfl, ⟨⟨_, _, _, _, _, _, rfl, r1, r2, r3⟩⟩, ⟨⟨_, _, _, _, _, _, rfl, r4, r5, r6⟩⟩, r7⟩⟩
theorem HomsV.same (h : HomsV lo hi w v ks) (k : Same lo hi w w') (hs : w.heap.size ≤ w'.heap.size) : HomsV lo hi w' v ks := by
  obtain ⟨us, h1, h2⟩ := h.ex
  exact ⟨us, h1.same k hs, fun i hi => (h2 i hi).same k⟩
theorem HomsV.wide (h : HomsV lo hi w v ks) : HomsV 0 w.heap.size w v ks := by
  obtain ⟨us, h1, h2⟩ := h.ex
  exact ⟨us, h1.wide, fun i hi => (h2 i hi).wide⟩
instance (priority := low) HomsV.ext [x : Ext w w'] [h : HomsV lo hi w v ks] : HomsV lo hi w' v ks := h.same (x.same _ _) x.size
theorem HomsV.toLen (h : HomsV lo hi w v ks) : Len w v ks.length := by
  obtain ⟨us, h1, _⟩ := h.ex
  exact h1.toLen
/-- All numbers. -/
def totH : List (Pr × Pr × List (List Int)) → Nat
  | [] => 0
  | k :: ks => (totP k.1 + totP k.2.1 + tot k.2.2) + totH ks
theorem totH_all : ∀ es : List HE, tot ((allR es).map (·.2)) = totH (es.map HE.val)
  | [] => rfl
  | h :: es => by
    rw [allR_cons, List.map_append, tot_append, totH_all es]
    have := h.tt_val
    unfold HE.tt at this
    simp only [List.map_cons, totH, HE.val]
    omega
def markEs (k : Int) : List HE → List HE
  | [] => []
  | h :: es => h.mark k :: markEs (k + h.tt) es
theorem markEs_rows : ∀ (es : List HE) (k : Int), allR (markEs k es) = mkR k (allR es)
  | [], _ => rfl
  | h :: es, k => by
    rw [markEs, allR_cons, allR_cons, mkR_append, HE.mark_rows, markEs_rows es]
    rfl
theorem markEs_cells : ∀ (es : List HE) (k : Int), allC (markEs k es) = allC es
  | [], _ => rfl
  | h :: es, k => by
    have := markEs_cells es (k + h.tt)
    simp only [allC, markEs, List.flatMap_cons, HE.mark_cells] at this ⊢
    rw [this]
theorem markEs_len : ∀ (es : List HE) (k : Int), (markEs k es).length = es.length
  | [], _ => rfl
  | h :: es, k => by simp [markEs, markEs_len es]
theorem markEs_mem {h : HE} : ∀ {es : List HE} {k : Int}, h ∈ markEs k es → ∃ g j, g ∈ es ∧ h = g.mark j
  | g :: es, k, hh => by
    rcases List.mem_cons.1 hh with rfl | hh
    · exact ⟨g, k, List.mem_cons_self, rfl⟩
    · obtain ⟨g', j, h1, h2⟩ := markEs_mem hh
      exact ⟨g', j, List.mem_cons_of_mem _ h1, h2⟩
/-- The list, its numbers marked. -/
theorem HomsO.marked (h : HomsO e s t w v es) {k : Int} (hR : RowsO s w' (mkR k (allR es))) (hW : Wrt (BlkOf (allR es)) w w') : HomsO e s t w' v (markEs k es) := by
  have hB : ∀ b, BlkOf (allR (markEs k es)) b ↔ BlkOf (allR es) b := fun b => by rw [markEs_rows]; exact blkOf_mkR _ _ _
  refine ⟨?_, fun b hb => ⟨(h.vt b hb).1, fun hb' => (h.vt b hb).2 ((hB b).1 hb')⟩, by rw [markEs_rows]; exact hR, fun b hb => h.lt b ((hB b).1 hb), fun x hx => ?_⟩
  · rw [markEs_len, markEs_cells]
    exact h.own.wr hW fun b hb => (h.vt b hb).2
  · obtain ⟨g, j, h1, rfl⟩ := markEs_mem hx
    exact (((h.ok g h1).wr hW fun b hb => .inl hb).mark j).weak fun b hb => hb.imp (hB b).1 id
end
end Go.Proofs.Ytnphljflkpekmaa

/-
  Lists of elements by their numbers; how many of them are images of a homomorphism.
  Conditions: none.
-/
namespace Go.Proofs.Ytnphljflkpekmaa
open Go Go.Pc
/-- The number of lists of elements, or a number beyond the limit. -/
def tupC (N : Nat) : Nat → Nat
  | 0 => 1
  | k + 1 => if tupC N k ≤ 4096 then tupC N k * N else tupC N k
theorem tupC_stay {N k : Nat} (h : 4096 < tupC N k) : ∀ j, 4096 < tupC N (k + j)
  | 0 => h
  | j + 1 => by
    have ih := tupC_stay h j
    show 4096 < if tupC N (k + j) ≤ 4096 then tupC N (k + j) * N else tupC N (k + j)
    rw [if_neg (by omega)]; exact ih
theorem tupC_rng {N : Nat} (h1 : 1 ≤ N) (h2 : N ≤ 117649) : ∀ k, 1 ≤ tupC N k ∧ tupC N k ≤ 4096 * 117649
  | 0 => by simp [tupC]
  | k + 1 => by
    have ih := tupC_rng h1 h2 k
    show 1 ≤ (if tupC N k ≤ 4096 then tupC N k * N else tupC N k) ∧ (if tupC N k ≤ 4096 then tupC N k * N else tupC N k) ≤ 4096 * 117649
    split
    · rename_i h
      exact ⟨Nat.mul_pos ih.1 h1, Nat.mul_le_mul h h2⟩
    · exact ih
section
variable {q : Pr} [hc : ConAll q]
/-- The list of n elements with a number. -/
def tupE (q : Pr) [hc : ConAll q] (n t : Nat) : List (El q) := (List.range n).map fun i => allE q (t / ordN q ^ (n - 1 - i) % ordN q)
theorem tupE_len (n t : Nat) : (tupE q n t).length = n := by simp [tupE]
/-- The last k members. -/
def tupTo (q : Pr) [hc : ConAll q] (n t k : Nat) : List (List Int) := (List.range n).map fun i => if n ≤ i + k then (allE q (t / ordN q ^ (n - 1 - i) % ordN q)).v else []
theorem tupTo_len (n t k : Nat) : (tupTo q n t k).length = n := by simp [tupTo]
theorem tupTo_zero (n t : Nat) : tupTo q n t 0 = List.replicate n [] := by
  refine List.ext_getElem (by simp [tupTo]) fun i h1 h2 => ?_
  have hi : i < n := by simpa [tupTo] using h1
  simp [tupTo, show ¬ n ≤ i by omega]
theorem tupTo_all (n t : Nat) : tupTo q n t n = vecs (tupE q n t) := by
  refine List.ext_getElem (by simp [tupTo, tupE]) fun i h1 h2 => ?_
  have hi : i < n := by simpa [tupTo] using h1
  simp [tupTo, tupE, vecs]
theorem tupTo_step {n t k : Nat} (hk : k < n) : tupTo q n t (k + 1) = (tupTo q n t k).set (n - 1 - k) (allE q (t / ordN q ^ k % ordN q)).v := by
  refine List.ext_getElem (by simp [tupTo]) fun i h1 h2 => ?_
  have hi : i < n := by simpa [tupTo] using h1
  rw [List.getElem_set]
  by_cases e : n - 1 - k = i
  · rw [if_pos e]
    have e2 : n - 1 - i = k := by omega
    simp [tupTo, e2, show n ≤ i + (k + 1) by omega]
  · rw [if_neg e]
    by_cases e3 : n ≤ i + k
    · simp [tupTo, e3, show n ≤ i + (k + 1) by omega]
    · simp [tupTo, e3, show ¬ n ≤ i + (k + 1) by omega]
open Classical in
/-- How many of the first lists are images of a homomorphism. -/
noncomputable def cntH (p q : Pr) [hc : ConAll q] : Nat → Nat
  | 0 => 0
  | k + 1 => cntH p q k + if RelOk p (tupE q p.n k) then 1 else 0
theorem cntH_yes {p : Pr} {k : Nat} (h : RelOk p (tupE q p.n k)) : cntH p q (k + 1) = cntH p q k + 1 := by simp only [cntH, if_pos h]
theorem cntH_no {p : Pr} {k : Nat} (h : ¬ RelOk p (tupE q p.n k)) : cntH p q (k + 1) = cntH p q k := by simp only [cntH, if_neg h, Nat.add_zero]
theorem cntH_le (p : Pr) : ∀ k, cntH p q k ≤ k
  | 0 => Nat.le_refl _
  | k + 1 => by
    have := cntH_le p k
    simp only [cntH]
    split <;> omega
end
/-- The answer of CountHoms. -/
def ChV (p q : Pr) (r e : Int) : Prop := ∃ _ : ConAll q, (4096 < tupC (ordN q) p.n ∧ r = 0 ∧ e = 3) ∨ (tupC (ordN q) p.n ≤ 4096 ∧ r = (cntH p q (tupC (ordN q) p.n) : Nat) ∧ e = 0)
theorem ChV.uniq {p q : Pr} (a b c d : Int) (h : ChV p q a c) (k : ChV p q b d) : a = b ∧ c = d := by
  obtain ⟨_, h⟩ := h
  obtain ⟨_, k⟩ := k
  rcases h with ⟨h1, rfl, rfl⟩ | ⟨h1, rfl, rfl⟩ <;> rcases k with ⟨k1, rfl, rfl⟩ | ⟨k1, rfl, rfl⟩
  · exact ⟨rfl, rfl⟩
  · omega
  · omega
  · exact ⟨rfl, rfl⟩
end Go.Proofs.Ytnphljflkpekmaa

/-
  Lists of homomorphisms while they grow, with the lists of images that are still to be used; the answer of AllHoms.
  Conditions: none; nothing of the program stands here.
-/
namespace Go.Proofs.Ytnphljflkpekmaa
open Go Go.Pc
section
variable {A B : Nat → Prop} {e s t a b c lo hi : Nat} {w w' w0 w1 w2 w3 : World} {v v' u : Value} {us : List Value} {xs : List Int} {rs qs : List (Value × List Int)} {p q : Pr}
theorem RowsO.perm (h : RowsO s w rs) (k : rs.Perm qs) : RowsO s w qs :=
  ⟨fun r hr => h.fr r (k.mem_iff.2 hr), (k.pairwise_iff (fun h => fun h1 h2 e => h h2 h1 e.symm)).1 h.sep⟩
theorem RowsO.join (h : RowsO s w rs) (k : RowsO s w qs) (hd : ∀ b, BlkOf rs b → ¬ BlkOf qs b) : RowsO s w (rs ++ qs) :=
  ⟨fun r hr => (List.mem_append.1 hr).elim (h.fr r) (k.fr r), List.pairwise_append.2 ⟨h.sep, k.sep, fun r hr q hq h1 h2 e => by
    obtain ⟨b, e1, _⟩ := (h.fr r hr).block h1
    exact hd b ⟨r, hr, h1, e1⟩ ⟨q, hq, h2, by rw [← e]; exact e1⟩⟩⟩
theorem BlkOf.perm {b : Nat} (h : BlkOf rs b) (k : rs.Perm qs) : BlkOf qs b := by
  obtain ⟨r, h1, h2, h3⟩ := h
  exact ⟨r, k.mem_iff.1 h1, h2, h3⟩
theorem RowsO.set {i : Nat} (h : RowsO s w rs) (hi : i < rs.length) (x : Ext w w') (hs : s ≤ w.heap.size) (hu : Fr w.heap.size w' u xs) : RowsO s w' (rs.set i (u, xs)) := by
  have h1 : RowsO s w (rs.take i ++ rs.drop (i + 1)) := RowsO.part h (by rw [← List.eraseIdx_eq_take_drop_succ]; exact List.eraseIdx_sublist _ _)
  refine RowsO.perm (h1.cons x hs hu) ?_
  rw [List.set_eq_take_append_cons_drop, if_pos hi]
  exact List.perm_middle.symm
theorem blkOf_set {i b : Nat} (h : BlkOf (rs.set i (u, xs)) b) : BlkOf rs b ∨ (xs ≠ [] ∧ u.ownBlock = some b) := by
  obtain ⟨r, hr, hn, e⟩ := h
  rcases List.mem_or_eq_of_mem_set hr with hr | rfl
  · exact .inl ⟨r, hr, hn, e⟩
  · exact .inr ⟨hn, e⟩
theorem RowsO.nils (s : Nat) (w : World) (n : Nat) : RowsO s w (List.replicate n (nilv, [])) := by
  refine ⟨fun r hr => ?_, List.pairwise_of_forall_mem_list fun a ha b _ h => ?_⟩
  · rw [(List.mem_replicate.1 hr).2]; exact Fr.nilR _ _
  · rw [(List.mem_replicate.1 ha).2] at h; exact absurd rfl h
theorem SpA.inn (h : SpA A w v us) (hs : Sl s t w v us) : SpA (fun b => A b ∨ b < s ∨ t ≤ b) w v us := by
  obtain ⟨lo, hi, h1, h2⟩ := h
  obtain ⟨X, c, rfl, hc, hm, hcell⟩ := h1.ex
  obtain ⟨X', c', hv, _, _, hcell'⟩ := hs.ex
  refine ⟨max lo s, min hi t, ⟨⟨X, c, rfl, hc, hm, fun i u hu => ?_⟩⟩, fun b hb => ?_⟩
  · obtain ⟨a, hA, e1, e2, e3⟩ := hcell i u hu
    obtain ⟨a', hA', g1, g2, g3⟩ := hcell' i u hu
    injection hv with hv _ _
    rw [hA, hA'] at hv; injection hv with hv; subst hv
    exact ⟨a, hA, by omega, by omega, e3⟩
  · rcases hb with hb | hb
    · have := h2 b hb; omega
    · omega
theorem HomV.mono {lo' hi' : Nat} {xss : List (List Int)} (h : HomV lo hi w v p q xss) (h1 : lo' ≤ lo) (h2 : hi ≤ hi') : HomV lo' hi' w v p q xss := by
  obtain ⟨a0, a1, a2, a3, a4, a5, a6, us, rfl, hp, hq, hx⟩ := h.ex
  exact ⟨⟨a0, a1, a2, a3, a4, a5, a6, us, rfl, hp.mono h1 h2, hq.mono h1 h2, hx.mono h1 h2⟩⟩
/-- What the spines of a growing list of homomorphisms lie apart from. -/
def Av (s : Nat) (w : World) (v : Value) (R : List (Value × List Int)) (b : Nat) : Prop := BlkOf R b ∨ v.ownBlock = some b ∨ b < s ∨ w.heap.size ≤ b
/-- A list of homomorphisms that grows; lists of images that are still to be used. -/
structure InvA (e s : Nat) (w : World) (v : Value) (es : List HE) (gs : List (Value × List (Value × List Int))) : Prop where
  own : OwnS e s w v es.length (allC es)
  rows : RowsO s w (allR es ++ flat gs)
  off : ∀ b, v.ownBlock = some b → ¬ BlkOf (allR es ++ flat gs) b
  ok : ∀ h, h ∈ es → HE.Ok (Av s w v (allR es ++ flat gs)) w h
  sp : ∀ q, q ∈ gs → SpA (Av s w v (allR es ++ flat gs)) w q.1 (q.2.map (·.1))
theorem InvA.start {eo ei : Nat} {vg : Value} {gs : List (Value × List (Value × List Int))} (h : GrC eo ei t w vg gs) (hs : s ≤ t) : InvA e s w nilv [] gs :=
  ⟨OwnS.nil _ _ _, by simpa [allR] using h.rows.mono hs, fun b hb => (by cases hb), fun h hh => (by cases hh), fun q hq => (h.inn q hq).spA fun b hb hA => by
    have h1 := (h.inn q hq).lt b hb
    rcases hA with hA | hA | hA
    · exact h.offi q hq b hb (by simpa [allR] using hA)
    · cases hA
    · omega⟩
theorem InvA.done {es : List HE} (h : InvA e s w v es []) : HomsO e s w.heap.size w v es := by
  have e0 : allR es ++ flat [] = allR es := by simp [flat]
  have hR := h.rows
  have hok := h.ok
  have hoff := h.off
  rw [e0] at hR hok hoff
  exact ⟨h.own, fun b hb => ⟨(h.own.lt b hb).2, hoff b hb⟩, hR, fun b hb => (hR.blk hb).2, fun x hx => (hok x hx).weak fun b hb => by
    rcases hb with hb | hb
    · exact .inl hb
    · exact .inr (.inr hb)⟩
theorem InvA.ext {es : List HE} {gs : List (Value × List (Value × List Int))} (h : InvA e s w v es gs) (x : Ext w w') : InvA e s w' v es gs := by
  have z := x.size
  have hA : ∀ b, Av s w' v (allR es ++ flat gs) b → Av s w v (allR es ++ flat gs) b := fun b hb => by
    rcases hb with hb | hb | hb | hb
    · exact .inl hb
    · exact .inr (.inl hb)
    · exact .inr (.inr (.inl hb))
    · exact .inr (.inr (.inr (by omega)))
  exact ⟨h.own.ext x, h.rows.ext x, h.off, fun y hy => ((h.ok y hy).wr (.ofExt (B := fun _ => False) x) fun b hb => hb.elim).weak hA, fun q hq => ((h.sp q hq).wr (.ofExt (B := fun _ => False) x) fun b hb => hb.elim).weak hA⟩
theorem HE.Ok.grow {A' : Nat → Prop} {h : HE} (o : HE.Ok A w h) (x : Ext w w') (hA : ∀ b, A' b → A b ∨ w.heap.size ≤ b) : HE.Ok A' w' h :=
  ⟨SpA.grow o.p x hA, ⟨SpA.grow o.c.sp0 x hA, fun q hq => SpA.grow (o.c.sp q hq) x hA⟩, SpA.grow o.q x hA, ⟨SpA.grow o.d.sp0 x hA, fun q hq => SpA.grow (o.d.sp q hq) x hA⟩, SpA.grow o.i x hA⟩
theorem presO_parts {y0 y1 y2 : Value} (h : PresO a b w (.agg #[y0, y1, y2]) p) : ∃ rp gs, RowsO a w ((y0, p.ord) :: (rp ++ flat gs)) ∧ (∀ g, BlkOf ((y0, p.ord) :: (rp ++ flat gs)) g → g < b) ∧
    SpA (fun g => BlkOf ((y0, p.ord) :: (rp ++ flat gs)) g ∨ g < a ∨ b ≤ g) w y1 (rp.map (·.1)) ∧ CubO (fun g => BlkOf ((y0, p.ord) :: (rp ++ flat gs)) g ∨ g < a ∨ b ≤ g) w y2 gs ∧ p = ⟨p.ord, rp.map (·.2), gs.map fun q => q.2.map (·.2)⟩ := by
  obtain ⟨vo, vp, vc, rp, gs, e, hO, hl, hs, hc, h1, h2, h3, h4, h5⟩ := h.ex
  injection e with e
  have f : ∀ i, (#[y0, y1, y2] : Array Value).getD i undef = (#[vo, vp, vc] : Array Value).getD i undef := fun i => by rw [e]
  obtain rfl : y0 = vo := by simpa using f 0
  obtain rfl : y1 = vp := by simpa using f 1
  obtain rfl : y2 = vc := by simpa using f 2
  refine ⟨rp, gs, hO, hl, SpA.inn hs h4.sl, ⟨SpA.inn hc.sp0 h5.sl, fun q hq => ?_⟩, by rw [← h1, ← h2]⟩
  obtain ⟨i, hi, rfl⟩ := List.getElem_of_mem hq
  have h6 := (h5.vals.at_ i).sl
  have e1 : (gs.map (·.1)).getD i nilv = gs[i].1 := by simp [hi]
  have e2 : (gs.map fun q => q.2.map (·.1)).getD i [] = gs[i].2.map (·.1) := by simp [hi]
  rw [e1, e2] at h6
  exact SpA.inn (hc.sp _ hq) h6
set_option maxHeartbeats 1000000 in
/-- One more homomorphism, with the next list of images. -/
theorem InvA.push {b' : Nat} {es : List HE} {gs : List (Value × List (Value × List Int))} {g : Value × List (Value × List Int)} {y0 y1 y2 y3 y4 y5 : Value} {n : Nat} {cs : List Value} (I : InvA e s w0 v es (g :: gs)) (x : Ext w0 w2) (hs : s ≤ w0.heap.size)
    (hP : PresO a b w2 (.agg #[y0, y1, y2]) p) (hQ : PresO b' c w2 (.agg #[y3, y4, y5]) q) (ha : w0.heap.size ≤ a) (hb : b ≤ b') (hc : c ≤ w2.heap.size) (hab : a ≤ b) (hbc : b' ≤ c)
    (ho : OwnS e s w3 v' n cs) (hn : n = es.length + 1) (hcs : cs = allC es ++ [y0, y1, y2, y3, y4, y5, g.1]) (hst : Pc.GStep w2 w3 v v') : ∃ h : HE, h.val = (p, q, g.2.map (·.2)) ∧ InvA e s w3 v' (es ++ [h]) gs := by
  obtain ⟨rp, gP, hO1, hl1, hs1, hc1, ep⟩ := presO_parts hP
  obtain ⟨rq, gQ, hO2, hl2, hs2, hc2, eq⟩ := presO_parts hQ
  subst hn hcs
  have zx := x.size
  have hW := hst.wrt
  have z3 := hW.size
  refine ⟨⟨y0, p.ord, y1, rp, y2, gP, y3, q.ord, y4, rq, y5, gQ, g.1, g.2⟩, ?_, ?_⟩
  · unfold HE.val HE.p HE.q HE.x
    exact Prod.ext ep.symm (Prod.ext eq.symm rfl)
  generalize hR1 : (y0, p.ord) :: (rp ++ flat gP) = R1 at *
  generalize hR2 : (y3, q.ord) :: (rq ++ flat gQ) = R2 at *
  have hrow : HE.rows ⟨y0, p.ord, y1, rp, y2, gP, y3, q.ord, y4, rq, y5, gQ, g.1, g.2⟩ = R1 ++ (R2 ++ g.2) := by
    rw [← hR1, ← hR2]
    simp only [HE.rows, List.append_assoc, List.cons_append]
  have hB1 : ∀ k, BlkOf R1 k → a ≤ k ∧ k < b := fun k hk => ⟨(hO1.blk hk).1, hl1 k hk⟩
  have hB2 : ∀ k, BlkOf R2 k → b' ≤ k ∧ k < c := fun k hk => ⟨(hO2.blk hk).1, hl2 k hk⟩
  have h12 : RowsO w0.heap.size w2 (R1 ++ R2) := RowsO.join (hO1.mono ha) (hO2.mono (by omega)) fun k h1 h2 => by
    have := hB1 k h1; have := hB2 k h2; omega
  have hR := I.rows.append x hs h12
  have hfl : flat (g :: gs) = g.2 ++ flat gs := flat_cons _ _
  have hperm : ((allR es ++ flat (g :: gs)) ++ (R1 ++ R2)).Perm (allR (es ++ [⟨y0, p.ord, y1, rp, y2, gP, y3, q.ord, y4, rq, y5, gQ, g.1, g.2⟩]) ++ flat gs) := by
    rw [allR_append, show allR [(⟨y0, p.ord, y1, rp, y2, gP, y3, q.ord, y4, rq, y5, gQ, g.1, g.2⟩ : HE)] = R1 ++ (R2 ++ g.2) by rw [← hrow]; simp [allR], hfl]
    simp only [List.append_assoc]
    refine List.Perm.append_left _ ?_
    have h1 := List.perm_append_comm (l₁ := g.2 ++ flat gs) (l₂ := R1 ++ R2)
    simpa only [List.append_assoc] using h1
  have hR' := RowsO.perm hR hperm
  have hblk : ∀ k, BlkOf (allR (es ++ [⟨y0, p.ord, y1, rp, y2, gP, y3, q.ord, y4, rq, y5, gQ, g.1, g.2⟩]) ++ flat gs) k → BlkOf (allR es ++ flat (g :: gs)) k ∨ BlkOf R1 k ∨ BlkOf R2 k := fun k hk => by
    have := BlkOf.perm hk hperm.symm
    rcases blkOf_append'.1 this with h | h
    · exact .inl h
    · exact .inr (blkOf_append'.1 h)
  generalize hnew : allR (es ++ [⟨y0, p.ord, y1, rp, y2, gP, y3, q.ord, y4, rq, y5, gQ, g.1, g.2⟩]) ++ flat gs = RN at *
  have hold : ∀ k, BlkOf (allR es ++ flat (g :: gs)) k → s ≤ k ∧ k < w0.heap.size := fun k hk => I.rows.blk hk
  have hv0 : ∀ k, v.ownBlock = some k → k < w0.heap.size := fun k hk => (I.own.lt k hk).2
  have hoffN : ∀ k, v.ownBlock = some k → ¬ BlkOf RN k := fun k hk hB => by
    have h0 := hv0 k hk
    rcases hblk k hB with h | h | h
    · exact I.off k hk h
    · have := hB1 k h; omega
    · have := hB2 k h; omega
  have hA2 : ∀ k, (Av s w3 v' RN k ∨ v.ownBlock = some k) → (BlkOf (allR es ++ flat (g :: gs)) k ∨ v.ownBlock = some k ∨ k < s) ∨ BlkOf R1 k ∨ BlkOf R2 k ∨ w2.heap.size ≤ k := fun k hk => by
    rcases hk with (hk | hk | hk | hk) | hk
    · rcases hblk k hk with h | h | h
      · exact .inl (.inl h)
      · exact .inr (.inl h)
      · exact .inr (.inr (.inl h))
    · rcases hst.new hk with h | h
      · exact .inl (.inr (.inl h))
      · exact .inr (.inr (.inr h))
    · exact .inl (.inr (.inr hk))
    · exact .inr (.inr (.inr (by omega)))
    · exact .inl (.inr (.inl hk))
  have hA0 : ∀ k, (Av s w3 v' RN k ∨ v.ownBlock = some k) → Av s w0 v (allR es ++ flat (g :: gs)) k ∨ w0.heap.size ≤ k := fun k hk => by
    rcases hA2 k hk with (h | h | h) | h | h | h
    · exact .inl (.inl h)
    · exact .inl (.inr (.inl h))
    · exact .inl (.inr (.inr (.inl h)))
    · have := hB1 k h; exact .inr (by omega)
    · have := hB2 k h; exact .inr (by omega)
    · exact .inr (by omega)
  have hAP : ∀ k, (Av s w3 v' RN k ∨ v.ownBlock = some k) → BlkOf R1 k ∨ k < a ∨ b ≤ k := fun k hk => by
    rcases hA2 k hk with (h | h | h) | h | h | h
    · have := hold k h; exact .inr (.inl (by omega))
    · have := hv0 k h; exact .inr (.inl (by omega))
    · exact .inr (.inl (by omega))
    · exact .inl h
    · have := hB2 k h; exact .inr (.inr (by omega))
    · exact .inr (.inr (by omega))
  have hAQ : ∀ k, (Av s w3 v' RN k ∨ v.ownBlock = some k) → BlkOf R2 k ∨ k < b' ∨ c ≤ k := fun k hk => by
    rcases hA2 k hk with (h | h | h) | h | h | h
    · have := hold k h; exact .inr (.inl (by omega))
    · have := hv0 k h; exact .inr (.inl (by omega))
    · exact .inr (.inl (by omega))
    · have := hB1 k h; exact .inr (.inl (by omega))
    · exact .inl h
    · exact .inr (.inr (by omega))
  refine ⟨by simpa [allC, HE.cells] using ho, ?_, fun k hk hB => ?_, fun h hh => ?_, fun r hr => ?_⟩
  · rw [hnew]; exact hR'.wr hW fun k hk hB => hoffN k hB hk
  · rw [hnew] at hB
    rcases hst.new hk with h | h
    · exact hoffN k h hB
    · rcases hblk k hB with h1 | h1 | h1
      · have := hold k h1; omega
      · have := hB1 k h1; omega
      · have := hB2 k h1; omega
  · rw [hnew]
    rcases List.mem_append.1 hh with hh | hh
    · exact (((I.ok h hh).grow x hA0).wr hW fun k hk => .inr hk).weak fun k hk => .inl hk
    · obtain rfl := List.mem_singleton.1 hh
      exact ⟨((hs1.weak hAP).wr hW fun k hk => .inr hk).weak fun k hk => .inl hk,
        ⟨((hc1.sp0.weak hAP).wr hW fun k hk => .inr hk).weak fun k hk => .inl hk, fun q hq => (((hc1.sp q hq).weak hAP).wr hW fun k hk => .inr hk).weak fun k hk => .inl hk⟩,
        ((hs2.weak hAQ).wr hW fun k hk => .inr hk).weak fun k hk => .inl hk,
        ⟨((hc2.sp0.weak hAQ).wr hW fun k hk => .inr hk).weak fun k hk => .inl hk, fun q hq => (((hc2.sp q hq).weak hAQ).wr hW fun k hk => .inr hk).weak fun k hk => .inl hk⟩,
        ((SpA.grow (I.sp g List.mem_cons_self) x hA0).wr hW fun k hk => .inr hk).weak fun k hk => .inl hk⟩
  · rw [hnew]
    exact ((SpA.grow (I.sp r (List.mem_cons_of_mem _ hr)) x hA0).wr hW fun k hk => .inr hk).weak fun k hk => .inl hk
/-- A list of homomorphisms that grows and is only read. -/
structure InvS (e s : Nat) (w : World) (v : Value) (ks : List (Pr × Pr × List (List Int))) : Prop where
  ex : ∃ us, OwnS e s w v ks.length us ∧ ∀ i (hi : i < ks.length), ∃ lo hi, s ≤ lo ∧ hi ≤ w.heap.size ∧ (∀ b, v.ownBlock = some b → b < lo ∨ hi ≤ b) ∧ HomV lo hi w (.agg #[us.getD (i * 7 + 0) nilv, us.getD (i * 7 + 1) nilv, us.getD (i * 7 + 2) nilv, us.getD (i * 7 + 3) nilv, us.getD (i * 7 + 4) nilv, us.getD (i * 7 + 5) nilv, us.getD (i * 7 + 6) nilv]) ks[i].1 ks[i].2.1 ks[i].2.2
theorem InvS.nil (e s : Nat) (w : World) : InvS e s w nilv [] := ⟨[], OwnS.nil _ _ _, fun i hi => absurd hi (by simp)⟩
theorem InvS.ext {ks : List (Pr × Pr × List (List Int))} (h : InvS e s w v ks) (x : Ext w w') : InvS e s w' v ks := by
  obtain ⟨us, h1, h2⟩ := h.ex
  refine ⟨us, h1.ext x, fun i hi => ?_⟩
  obtain ⟨lo, hi', k1, k2, k3, k4⟩ := h2 i hi
  exact ⟨lo, hi', k1, Nat.le_trans k2 x.size, k3, k4.same (x.same _ _)⟩
theorem InvS.homs {ks : List (Pr × Pr × List (List Int))} (h : InvS e s w v ks) (hs : s ≤ w.heap.size) : HomsV s w.heap.size w v ks := by
  obtain ⟨us, h1, h2⟩ := h.ex
  refine ⟨us, h1.slS fun b hb => h1.lt b hb, fun i hi => ?_⟩
  obtain ⟨lo, hi', k1, k2, k3, k4⟩ := h2 i hi
  exact HomV.mono k4 k1 k2
theorem InvS.push {ks : List (Pr × Pr × List (List Int))} {us cs : List Value} {n : Nat} {u0 u1 u2 u3 u4 u5 u6 : Value} {xss : List (List Int)} (h1 : OwnS e s w0 v ks.length us) (h2 : ∀ i (hi : i < ks.length), ∃ lo hi, s ≤ lo ∧ hi ≤ w0.heap.size ∧ (∀ b, v.ownBlock = some b → b < lo ∨ hi ≤ b) ∧ HomV lo hi w0 (.agg #[us.getD (i * 7 + 0) nilv, us.getD (i * 7 + 1) nilv, us.getD (i * 7 + 2) nilv, us.getD (i * 7 + 3) nilv, us.getD (i * 7 + 4) nilv, us.getD (i * 7 + 5) nilv, us.getD (i * 7 + 6) nilv]) ks[i].1 ks[i].2.1 ks[i].2.2)
    (x : Ext w0 w2) (hs : s ≤ w0.heap.size) (hV : HomV w0.heap.size w2.heap.size w2 (.agg #[u0, u1, u2, u3, u4, u5, u6]) p q xss)
    (ho : OwnS e s w3 v' n cs) (hn : n = ks.length + 1) (hcs : cs = us ++ [u0, u1, u2, u3, u4, u5, u6]) (hst : Pc.GStep w2 w3 v v') : InvS e s w3 v' (ks ++ [(p, q, xss)]) := by
  subst hn hcs
  have hW := hst.wrt
  have z3 := hW.size
  have zx := x.size
  have hl := h1.len
  refine ⟨us ++ [u0, u1, u2, u3, u4, u5, u6], by simpa using ho, fun i hi => ?_⟩
  by_cases hin : i < ks.length
  · obtain ⟨lo, hi', k1, k2, k3, k4⟩ := h2 i hin
    have e1 : ∀ f, f < 7 → (us ++ [u0, u1, u2, u3, u4, u5, u6]).getD (i * 7 + f) nilv = us.getD (i * 7 + f) nilv := fun f hf => by
      rw [List.getD_eq_getElem?_getD, List.getD_eq_getElem?_getD, List.getElem?_append_left (by omega)]
    refine ⟨lo, hi', k1, by omega, fun b hb => ?_, ?_⟩
    · rcases hst.new hb with h | h
      · exact k3 b h
      · exact .inr (by omega)
    · rw [e1 0 (by omega), e1 1 (by omega), e1 2 (by omega), e1 3 (by omega), e1 4 (by omega), e1 5 (by omega), e1 6 (by omega), List.getElem_append_left hin]
      exact (k4.same (x.same _ _)).same (hW.same fun b hb => k3 b hb)
  · have hi2 : i = ks.length := by simp at hi; omega
    have e1 : ∀ f, f < 7 → (us ++ [u0, u1, u2, u3, u4, u5, u6]).getD (i * 7 + f) nilv = [u0, u1, u2, u3, u4, u5, u6].getD f nilv := fun f hf => by
      rw [List.getD_eq_getElem?_getD, List.getD_eq_getElem?_getD, List.getElem?_append_right (by omega), show i * 7 + f - us.length = f by omega]
    refine ⟨w0.heap.size, w2.heap.size, hs, by omega, fun b hb => ?_, ?_⟩
    · rcases hst.new hb with h | h
      · exact .inl (h1.lt b h).2
      · exact .inr h
    · rw [e1 0 (by omega), e1 1 (by omega), e1 2 (by omega), e1 3 (by omega), e1 4 (by omega), e1 5 (by omega), e1 6 (by omega)]
      subst hi2
      rw [List.getElem_append_right (Nat.le_refl _)]
      simp only [Nat.sub_self, List.getElem_cons_zero]
      exact hV.same (hW.same fun b hb => .inl (h1.lt b hb).2)
end
theorem HomsV.mono {lo hi lo' hi' : Nat} {w : World} {v : Value} {ks : List (Pr × Pr × List (List Int))} (h : HomsV lo hi w v ks) (h1 : lo' ≤ lo) (h2 : hi ≤ hi') : HomsV lo' hi' w v ks := by
  obtain ⟨us, k1, k2⟩ := h.ex
  exact ⟨us, k1.mono h1 h2, fun i hi => HomV.mono (k2 i hi) h1 h2⟩
/-! ### the answer -/
open Classical in
/-- The lists of images of the first k tuples that respect the relators. -/
noncomputable def imgL (p q : Pr) [hc : ConAll q] : Nat → List (List (List Int))
  | 0 => []
  | k + 1 => imgL p q k ++ if RelOk p (tupE q p.n k) then [vecs (tupE q p.n k)] else []
section
variable {p q : Pr} [hc : ConAll q]
theorem imgL_yes {k : Nat} (h : RelOk p (tupE q p.n k)) : imgL p q (k + 1) = imgL p q k ++ [vecs (tupE q p.n k)] := by simp only [imgL, if_pos h]
theorem imgL_no {k : Nat} (h : ¬ RelOk p (tupE q p.n k)) : imgL p q (k + 1) = imgL p q k := by simp only [imgL, if_neg h, List.append_nil]
theorem imgL_len (p : Pr) : ∀ k, (imgL p q k).length = cntH p q k
  | 0 => rfl
  | k + 1 => by
    by_cases h : RelOk p (tupE q p.n k)
    · rw [imgL_yes h, cntH_yes h, List.length_append, imgL_len p k]; rfl
    · rw [imgL_no h, cntH_no h, imgL_len p k]
theorem imgL_mem (p : Pr) : ∀ {k : Nat} {x : List (List Int)}, x ∈ imgL p q k → ∃ t, t < k ∧ x = vecs (tupE q p.n t)
  | 0, x, h => by cases h
  | k + 1, x, h => by
    by_cases hr : RelOk p (tupE q p.n k)
    · rw [imgL_yes hr] at h
      rcases List.mem_append.1 h with h | h
      · obtain ⟨t, h1, h2⟩ := imgL_mem p h
        exact ⟨t, by omega, h2⟩
      · exact ⟨k, by omega, List.mem_singleton.1 h⟩
    · rw [imgL_no hr] at h
      obtain ⟨t, h1, h2⟩ := imgL_mem p h
      exact ⟨t, by omega, h2⟩
end
/-- What homImages gives. -/
def ImV (p q : Pr) (r : List (List (List Int))) (e : Int) : Prop := ∃ _ : ConAll q, (4096 < tupC (ordN q) p.n ∧ r = [] ∧ e = 3) ∨ (tupC (ordN q) p.n ≤ 4096 ∧ r = imgL p q (tupC (ordN q) p.n) ∧ e = 0)
/-- The answer of AllHoms. -/
def AhV (p q : Pr) (r : List (Pr × Pr × List (List Int))) (e : Int) : Prop := ∃ _ : ConAll q, ((4096 < tupC (ordN q) p.n ∨ 200 < cntH p q (tupC (ordN q) p.n)) ∧ r = [] ∧ e = 3) ∨ (tupC (ordN q) p.n ≤ 4096 ∧ cntH p q (tupC (ordN q) p.n) ≤ 200 ∧ (r = (imgL p q (tupC (ordN q) p.n)).map fun x => (p, q, x)) ∧ e = 0)
theorem AhV.uniq {p q : Pr} (a b : List (Pr × Pr × List (List Int))) (c d : Int) (h : AhV p q a c) (k : AhV p q b d) : a = b ∧ c = d := by
  obtain ⟨_, h⟩ := h
  obtain ⟨_, k⟩ := k
  rcases h with ⟨h1, rfl, rfl⟩ | ⟨h1, h2, rfl, rfl⟩ <;> rcases k with ⟨k1, rfl, rfl⟩ | ⟨k1, k2, rfl, rfl⟩
  · exact ⟨rfl, rfl⟩
  · omega
  · omega
  · exact ⟨rfl, rfl⟩
end Go.Proofs.Ytnphljflkpekmaa

/-
  Walks: the reference's IsMember and IsSubset.
  Conditions: what the arguments read as.
-/
namespace Go.Proofs.Ytnphljflkpekmaa
open Go Go.Pc
end Go.Proofs.Ytnphljflkpekmaa

/-
  Walks: the reference's CosetRepresentative.
  Conditions: what the arguments read as.
-/
namespace Go.Proofs.Ytnphljflkpekmaa
open Go Go.Pc
end Go.Proofs.Ytnphljflkpekmaa

/-
  Walks: the reference's closure under conjugation, its test of normality (l13Stable, l13Normal).
  Conditions: the tails at all levels are groups; the lists are those told.
-/
namespace Go.Proofs.Ytnphljflkpekmaa
open Go Go.Pc
/-- One round: the elements, and their conjugates. -/
structure Rnd {p : Pr} [ConAll p] (os bs ls : List (El p)) (i j : Nat) : Prop where
  mem : ∀ a, a ∈ ls → a ∈ os ∨ ∃ o, o ∈ os ∧ ∃ b, b ∈ bs ∧ a = Grp.cj o b
  old : ∀ o, o ∈ os → o ∈ ls
  rows : ∀ i' (h : i' < bs.length), i' < i → ∀ o, o ∈ os → Grp.cj o bs[i'] ∈ ls
  part : ∀ (h : i < bs.length) j' (h' : j' < os.length), j' < j → Grp.cj os[j'] bs[i] ∈ ls
  len : ls.length ≤ 6 + i * 6 + j
theorem Rnd.step {p : Pr} [ConAll p] {os bs ls : List (El p)} {i j : Nat} (h : Rnd os bs ls i j) (hi : i < bs.length) (hj : j < os.length) : Rnd os bs (ls ++ [Grp.cj os[j] bs[i]]) i (j + 1) where
  mem a ha := by
    rcases List.mem_append.1 ha with ha | ha
    · exact h.mem a ha
    · exact .inr ⟨_, List.getElem_mem hj, _, List.getElem_mem hi, List.mem_singleton.1 ha⟩
  old o ho := List.mem_append_left _ (h.old o ho)
  rows i' h1 h2 o ho := List.mem_append_left _ (h.rows i' h1 h2 o ho)
  part h1 j' h2 h3 := by
    by_cases e : j' = j
    · subst e; simp
    · exact List.mem_append_left _ (h.part h1 j' h2 (by omega))
  len := by have := h.len; simp only [List.length_append, List.length_singleton]; omega
theorem Rnd.next {p : Pr} [ConAll p] {os bs ls : List (El p)} {i : Nat} (h : Rnd os bs ls i os.length) (hi : i < bs.length) (h6 : os.length ≤ 6) : Rnd os bs ls (i + 1) 0 where
  mem := h.mem
  old := h.old
  rows i' h1 h2 o ho := by
    by_cases e : i' = i
    · subst e
      obtain ⟨j, hj, rfl⟩ := List.getElem_of_mem ho
      exact h.part h1 j hj hj
    · exact h.rows i' h1 (by omega) o ho
  part h1 j' h2 h3 := absurd h3 (Nat.not_lt_zero _)
  len := by have := h.len; omega
end Go.Proofs.Ytnphljflkpekmaa

/-
  Walks: the reference's GeneratedSubgroup, ConjugateSubgroup, IsNormalSubgroup, SubgroupIndex, SubgroupDepths.
  Conditions: what the arguments read as.
-/
namespace Go.Proofs.Ytnphljflkpekmaa
open Go Go.Pc
end Go.Proofs.Ytnphljflkpekmaa

/-
  Walks: the reference's CosetNumber, MemberElement, MemberExponents.
  Conditions: what the arguments read as.
-/
namespace Go.Proofs.Ytnphljflkpekmaa
open Go Go.Pc
theorem l10One_ok {p : Pr} [hc : ConAll p] {w : World} {vp : Value} {lo hi : Nat} [hp : Pres lo hi w vp p] :
    Calls Try.prog 95 #[vp] w (Ret fun v w' => Ext w w' ∧ Fr w.heap.size w' v (1 : El p).v) := by
  have hn6 := hc.valid.n6
  have hol : p.ord.length = p.n := rfl
  obtain ⟨vo, vpw, vc, ps, cs, css, rfl, h1, h2, h3⟩ := hp.ex
  refine enter (args := [.agg #[vo, vpw, vc]]) (l := [.tmp 2]) Try.func95 rfl rfl Try.ntmps95 (by simp) ?_
  refine go ?_
  refine st_box3 (by ((try simp only [ev_tmp, ev_const, ev_func, get_put, get_args, get_putL, get_putL_nil, Nat.reduceEqDiff, reduceIte, List.getD_cons_zero, List.getD_cons_succ, List.getD_nil]); first | done | with_reducible rfl)) (by first | exact True.intro | exact ⟨_, rfl, by ((try simp only [ev_tmp, ev_const, ev_func, get_put, get_args, get_putL, get_putL_nil, Nat.reduceEqDiff, reduceIte, List.getD_cons_zero, List.getD_cons_succ, List.getD_nil, Bool.not_true, Bool.not_false]); first | done | with_reducible rfl)⟩) fun w1 b he1 hb1 hs1 hc0 hc1 hc2 => ?_
  refine go ?_
  refine st_make_int (by ((try simp only [ev_tmp, ev_const, ev_func, get_put, get_args, get_putL, get_putL_nil, Nat.reduceEqDiff, reduceIte, List.getD_cons_zero, List.getD_cons_succ, List.getD_nil]); first | done | with_reducible rfl)) (by ((try simp only [ev_tmp, ev_const, ev_func, get_put, get_args, get_putL, get_putL_nil, Nat.reduceEqDiff, reduceIte, List.getD_cons_zero, List.getD_cons_succ, List.getD_nil]); first | done | with_reducible rfl)) (by omega) (by omega) (by first | exact True.intro | exact ⟨_, rfl, by ((try simp only [ev_tmp, ev_const, ev_func, get_put, get_args, get_putL, get_putL_nil, Nat.reduceEqDiff, reduceIte, List.getD_cons_zero, List.getD_cons_succ, List.getD_nil, Bool.not_true, Bool.not_false]); first | done | with_reducible rfl)⟩) fun w2 v2 he2 hs2 ho2 => ?_
  refine go ?_
  exact ret1 ⟨he1.trans he2, (ho2.toFr (lo := w1.heap.size) (Nat.le_refl _)).mono he1.size⟩
end Go.Proofs.Ytnphljflkpekmaa

/-
  Walks: the reference's order, index, transversal elements; Transversal.
  Conditions: stated at each theorem.
-/
namespace Go.Proofs.Ytnphljflkpekmaa
open Go Go.Pc
set_option maxHeartbeats 1000000 in
theorem l10Order_ok {p : Pr} (hv : Valid p) {w : World} {vp : Value} {lo hi : Nat} [hp : Pres lo hi w vp p] :
    Calls Try.prog 59 #[vp] w (Ret fun v w' => v = .int .i64 (ordL p (List.range p.n)) ∧ Ext w w') := by
  have hn6 := hv.n6
  have hol : p.ord.length = p.n := rfl
  have hrl : (List.range p.n).length = p.n := by simp
  obtain ⟨vo, vpw, vc, ps, cs, css, rfl, h1, h2, h3⟩ := hp.ex
  refine enter (args := [.agg #[vo, vpw, vc]]) (l := [.tmp 2]) Try.func59 rfl rfl Try.ntmps59 (by simp) ?_
  refine go ?_
  refine st_box3 (by ((try simp only [ev_tmp, ev_const, ev_func, get_put, get_args, get_putL, get_putL_nil, Nat.reduceEqDiff, reduceIte, List.getD_cons_zero, List.getD_cons_succ, List.getD_nil]); first | done | with_reducible rfl)) (by first | exact True.intro | exact ⟨_, rfl, by ((try simp only [ev_tmp, ev_const, ev_func, get_put, get_args, get_putL, get_putL_nil, Nat.reduceEqDiff, reduceIte, List.getD_cons_zero, List.getD_cons_succ, List.getD_nil, Bool.not_true, Bool.not_false]); first | done | with_reducible rfl)⟩) fun w1 b he1 hb1 hs1 hc0 hc1 hc2 => ?_
  refine go ?_
  refine r_for p.n (fun k ρ w' => Has ρ [(1, .pointer (some ⟨b, 0, none⟩)), (3, .int .i64 (ordL p ((List.range p.n).take k))), (4, .int .i64 k)] ∧ Ext w1 w') ?_ ?_
  · refine ⟨?_, Ext.refl _⟩
    exact hasP
  rintro k ρ w2 hk ⟨hH, he2⟩
  refine rwp_has hH fun ρ0 => ?_
  refine go ?_
  refine c_if (fun h4 => ?_) (fun h4 => ?_)
  · have hkn : k < p.n := by omega
    have hod := hv.opos hkn
    have hr := ordL_rng hv (l := List.range p.n) (fun d hd => List.mem_range.1 hd) (by omega) (k := k) (by omega)
    have hm : 0 ≤ ordL p ((List.range p.n).take k) * p.o k ∧ ordL p ((List.range p.n).take k) * p.o k ≤ 117649 * 7 := ⟨Int.mul_nonneg (by omega) (by omega), Int.mul_le_mul hr.2 hod.2 (by omega) (by omega)⟩
    have hmb : -9223372036854775808 ≤ ordL p ((List.range p.n).take k) * p.o k ∧ ordL p ((List.range p.n).take k) * p.o k ≤ 9223372036854775807 := ⟨by omega, by omega⟩
    have hst := ordL_take (p := p) (List.range p.n) (show k < (List.range p.n).length by omega)
    rw [show (List.range p.n).getD k 0 = k by simp [hkn]] at hst
    refine go ?_
    rw [show p.ord.getD k 0 = p.o k from rfl]
    refine ra (h := rd_mul (by ((try simp only [ev_tmp, ev_const, ev_func, get_put, get_args, get_putL, get_putL_nil, Nat.reduceEqDiff, reduceIte, List.getD_cons_zero, List.getD_cons_succ, List.getD_nil]); first | done | with_reducible rfl)) (by ((try simp only [ev_tmp, ev_const, ev_func, get_put, get_args, get_putL, get_putL_nil, Nat.reduceEqDiff, reduceIte, List.getD_cons_zero, List.getD_cons_succ, List.getD_nil]); first | done | with_reducible rfl)) hmb) (next := ?_)
    refine go ?_
    refine forQ_normal (by omega) ⟨?_, he2⟩
    rw [hst]
    exact hasP
  · refine go ?_
    have e : (List.range p.n).take k = List.range p.n := by rw [show k = p.n by omega, List.take_of_length_le (by omega)]
    rw [e]
    exact ret1 ⟨rfl, he1.trans he2⟩
end Go.Proofs.Ytnphljflkpekmaa

/-
  Walks: the reference's element with a number, the elements above a subgroup; Center.
  Conditions: stated at each theorem.
-/
namespace Go.Proofs.Ytnphljflkpekmaa
open Go Go.Pc
set_option maxHeartbeats 2000000 in
theorem l10At_ok {p : Pr} [hc : ConAll p] {t : Nat} (ht : t ≤ 1000000) {w : World} {vp : Value} {lo hi : Nat} [hp : Pres lo hi w vp p] :
    Calls Try.prog 60 #[vp, .int .i64 t] w (Ret fun v w' => Ext w w' ∧ Fr w.heap.size w' v (allE p t).v) := by
  have hv := hc.valid
  have hn6 := hv.n6
  have hol : p.ord.length = p.n := rfl
  rw [allE_val]
  obtain ⟨l, hl⟩ : ∃ l, List.range p.n = l := ⟨_, rfl⟩
  have hll : l.length = p.n := by rw [← hl]; simp
  have hlt : ∀ d, d ∈ l → d < p.n := fun d hd => by rw [← hl] at hd; exact List.mem_range.1 hd
  have hnd : l.Nodup := by rw [← hl]; exact List.nodup_range
  have hlg : ∀ i, i < p.n → l.getD i 0 = i := fun i hi => by rw [← hl]; simp [hi]
  rw [hl]
  replace hp := hp.wide
  obtain ⟨vo, vpw, vc, ps, cs, css, rfl, h1, h2, h3⟩ := hp.ex
  refine enter (args := [.agg #[vo, vpw, vc], .int .i64 t]) (l := [.tmp 4]) Try.func60 rfl rfl Try.ntmps60 (by simp) ?_
  refine go ?_
  refine st_box3 (by ((try simp only [ev_tmp, ev_const, ev_func, get_put, get_args, get_putL, get_putL_nil, Nat.reduceEqDiff, reduceIte, List.getD_cons_zero, List.getD_cons_succ, List.getD_nil]); first | done | with_reducible rfl)) (by first | exact True.intro | exact ⟨_, rfl, by ((try simp only [ev_tmp, ev_const, ev_func, get_put, get_args, get_putL, get_putL_nil, Nat.reduceEqDiff, reduceIte, List.getD_cons_zero, List.getD_cons_succ, List.getD_nil, Bool.not_true, Bool.not_false]); first | done | with_reducible rfl)⟩) fun w1 b he1 hb1 hs1 hc0 hc1 hc2 => ?_
  have hz1 := he1.size
  refine go ?_
  refine rc (l10One_ok (p := p)) (next := fun v2 w2 h4 => ?_)
  obtain ⟨he2, hf2⟩ := h4
  have hz2 := he2.size
  have hlen2 : Len w2 v2 p.n := by
    have h := hf2.ints
    have h5 : Len w2 v2 (1 : El p).v.length := inferInstance
    rwa [(1 : El p).inr.len] at h5
  by_cases hn0 : p.n = 0
  · refine go ?_
    refine r_for 0 (fun k ρ w' => Has ρ [(5, v2), (6, .int .i64 (-1))] ∧ w' = w2) ?_ ?_
    · refine ⟨?_, rfl⟩
      rw [hn0]
      exact hasP
    rintro k ρ w4 hk ⟨hH, rfl⟩
    refine rwp_has hH fun ρ0 => ?_
    refine go ?_
    refine c_if (fun h4 => ?_) (fun h4 => ?_)
    · omega
    refine go ?_
    refine ret1 ⟨he1.trans he2, ?_⟩
    have e : elTo p l l.length t = (1 : El p).v := list_ext0 (by rw [elTo_len, (1 : El p).inr.len]) fun d hd => by rw [elTo_len] at hd; omega
    rw [e]
    exact hf2.mono hz1
  obtain ⟨te, b2, hb2, ho2⟩ := hf2.own (by intro e; have := (1 : El p).inr.len; rw [e] at this; simp at this; omega)
  have hbl := ho2.lt
  have ho3 : OwnI te b2 w2 v2 (zeros p.n) := ho2
  have ap1 : Apart 0 w.heap.size b2 := ⟨.inr (by omega)⟩
  have ap2 : Apart b (b + 1) b2 := ⟨.inr (by omega)⟩
  have hE2 := he1.trans he2
  have hzl := zeros_len p.n
  clear hf2 ho2
  refine go ?_
  refine r_for p.n (fun k ρ w' => ∃ (tk : Int) (xs : List Int), Has ρ [(1, .int .i64 tk), (2, .pointer (some ⟨b, 0, none⟩)), (5, v2), (6, .int .i64 (p.n - 1 - k))] ∧ Chg b2 w2 w' ∧ OwnI te b2 w' v2 xs ∧ xs.length = p.n ∧ 0 ≤ tk ∧ tk ≤ 1000000 ∧ fillTo p l (p.n - k) tk xs = elTo p l l.length t) ?_ ?_
  · refine ⟨t, zeros p.n, ?_, Chg.refl _ _, ho3, hzl, by omega, by omega, ?_⟩
    · exact hasP
    · have := fill_eq hnd hlt (t : Int)
      rwa [hll] at this ⊢
  clear ho3
  rintro k ρ w4 hk ⟨tk, xs, hH, hch4, ho4, hxl, ht0, ht1, hfill⟩
  refine rwp_has hH fun ρ0 => ?_
  refine go ?_
  refine c_if (fun h4 => ?_) (fun h4 => ?_)
  · have hkn : k < p.n := by omega
    obtain ⟨i, hi⟩ : ∃ i, p.n - 1 - k = i := ⟨_, rfl⟩
    have hil : i < p.n := by omega
    have hcast : ((p.n : Int) - 1 - k) = (i : Int) := by omega
    have hod := hv.opos hil
    have hmod : 0 ≤ tk % p.o i ∧ tk % p.o i < p.o i := ⟨Int.emod_nonneg _ (by omega), Int.emod_lt_of_pos _ (by omega)⟩
    have hdiv : 0 ≤ tk / p.o i ∧ tk / p.o i ≤ 1000000 := ⟨Int.ediv_nonneg ht0 (by omega), Int.le_trans (Int.ediv_le_self _ ht0) ht1⟩
    have hstep : fillTo p l (p.n - (k + 1)) (tk / p.o i) (xs.set i (tk % p.o i)) = elTo p l l.length t := by
      rw [← hfill, show p.n - k = i + 1 by omega, show p.n - (k + 1) = i by omega]
      show _ = fillTo p l i (tk / p.o (l.getD i 0)) (xs.set (l.getD i 0) (tk % p.o (l.getD i 0)))
      rw [hlg i hil]
    rw [hcast]
    refine go ?_
    first
      | rw [show p.ord.getD i 0 = p.o i from rfl]
      | rw [show p.ord.getD ((i : Int).toNat) 0 = p.o i from rfl]
    refine go ?_
    refine st_store_int (h := ho4) (by ((try simp only [ev_tmp, ev_const, ev_func, get_put, get_args, get_putL, get_putL_nil, Nat.reduceEqDiff, reduceIte, List.getD_cons_zero, List.getD_cons_succ, List.getD_nil]); first | done | with_reducible rfl)) (by ((try simp only [ev_tmp, ev_const, ev_func, get_put, get_args, get_putL, get_putL_nil, Nat.reduceEqDiff, reduceIte, List.getD_cons_zero, List.getD_cons_succ, List.getD_nil]); first | done | with_reducible rfl)) ?_ (by first | exact True.intro | exact ⟨_, rfl, by ((try simp only [ev_tmp, ev_const, ev_func, get_put, get_args, get_putL, get_putL_nil, Nat.reduceEqDiff, reduceIte, List.getD_cons_zero, List.getD_cons_succ, List.getD_nil, Bool.not_true, Bool.not_false]); first | done | with_reducible rfl)⟩) fun w6 hc6 hs6 ho6 => ?_
    · omega
    have hch6 : Chg b2 w2 w6 := hch4.trans hc6
    clear hch4 hc6 ho4
    refine go ?_
    first
      | rw [show p.ord.getD i 0 = p.o i from rfl]
      | rw [show p.ord.getD ((i : Int).toNat) 0 = p.o i from rfl]
    refine go ?_
    refine forQ_normal (by omega) ⟨tk / p.o i, _, ?_, hch6, ho6, by simp [hxl], hdiv.1, hdiv.2, hstep⟩
    exact hasP
  · refine go ?_
    obtain rfl : k = p.n := by omega
    rw [Nat.sub_self] at hfill
    have hx : xs = elTo p l l.length t := hfill
    refine ret1 ⟨hch4.ext hE2 (by omega), ?_⟩
    rw [← hx]
    exact ho4.toFr (by omega)
end Go.Proofs.Ytnphljflkpekmaa

/-
  Walks: the reference's words, relators and values of words (l07Word, l06Invert, l07Relators, l10Eval, l16Relators, l10Elements).
  Conditions: stated at each theorem.
-/
namespace Go.Proofs.Ytnphljflkpekmaa
open Go Go.Pc
theorem app_repl (w : List Int) (m : Nat) (a : Int) : (w ++ List.replicate m a) ++ [a] = w ++ List.replicate (m + 1) a := by
  rw [List.append_assoc]
  congr 1
  exact (List.replicate_succ' (n := m) (a := a)).symm
set_option maxHeartbeats 2000000 in
theorem l07Word_ok {e : List Int} {w : World} {vx : Value} {lo hi : Nat} [hx : Ints lo hi w vx e] (hl : e.length ≤ 100) (hr : ∀ i, i < e.length → 0 ≤ e.getD i 0 ∧ e.getD i 0 ≤ 100) :
    Calls Try.prog 97 #[vx] w (Ret fun v w' => Ext w w' ∧ GrowI 2 w.heap.size w' v (wordV e)) := by
  have hwl : ∀ k, (wordV (e.take k)).length ≤ 10000 := fun k => by
    have h1 := wordA_len (b := 100) (e.take k) 0 fun x hx => by
      obtain ⟨i, hi, rfl⟩ := List.getElem_of_mem (List.mem_of_mem_take hx)
      have := (hr i hi).2
      simpa [hi] using this
    have h2 : (e.take k).length * 100 ≤ 100 * 100 := Nat.mul_le_mul_right _ (by rw [List.length_take]; omega)
    exact Nat.le_trans h1 h2
  refine enter (args := [vx]) (l := [.tmp 2]) Try.func97 rfl rfl Try.ntmps97 (by simp) ?_
  refine go ?_
  refine st_slice0 (by first | exact True.intro | exact ⟨_, rfl, by ((try simp only [ev_tmp, ev_const, ev_func, get_put, get_args, get_putL, get_putL_nil, Nat.reduceEqDiff, reduceIte, List.getD_cons_zero, List.getD_cons_succ, List.getD_nil, Bool.not_true, Bool.not_false]); first | done | with_reducible rfl)⟩) fun w0 v0 he0 hs0 ho0 => ?_
  refine go ?_
  refine r_for e.length (fun k ρ w' => ∃ vl, Has ρ [(0, vx), (3, vl), (4, .int .i64 k)] ∧ Ext w w' ∧ GrowI 2 w.heap.size w' vl (wordV (e.take k))) ?_ ?_
  · refine ⟨v0, ?_, he0, GrowI.start ho0 (Nat.le_refl _)⟩
    exact hasP
  clear ho0
  rintro k ρ w2 hk ⟨vl, hH, he2, hG2⟩
  refine rwp_has hH fun ρ0 => ?_
  refine go ?_
  refine c_if (fun h4 => ?_) (fun h4 => ?_)
  · have hkn : k < e.length := by omega
    have hrk := hr k hkn
    have hst := wordV_take hkn
    have hwk := hwl k
    refine go ?_
    refine r_for (e.getD k 0).toNat (fun j ρ w' => ∃ vl, Has ρ [(0, vx), (3, vl), (4, .int .i64 k), (5, .int .i64 j)] ∧ Ext w w' ∧ GrowI 2 w.heap.size w' vl (wordV (e.take k) ++ List.replicate j ((k : Int) + 1))) ?_ ?_
    · refine ⟨vl, ?_, he2, by simpa using hG2⟩
      exact hasP
    clear hG2 he2
    rintro j ρ w3 hj ⟨vl, hH3, he3, hG3⟩
    refine rwp_has hH3 fun ρ1 => ?_
    have hz3 := he3.size
    refine go ?_
    refine c_if (fun h5 => ?_) (fun h5 => ?_)
    · refine go ?_
      refine st_growi hG3 hz3 (by simp only [List.length_append, List.length_replicate]; omega) (next := fun v4 v5 w5 hG5 hx5 hz5 hgs5 => ?_)
      refine go ?_
      refine forQ_normal (by omega) ⟨v5, ?_, hx5 w he3 (Nat.le_refl _), ?_⟩
      · exact hasP
      · rw [← app_repl]; exact hG5
    · obtain rfl : j = (e.getD k 0).toNat := by omega
      rw [← hst] at hG3
      refine go ?_
      refine forQ_normal (by omega) ⟨vl, ?_, he3, hG3⟩
      exact hasP
  · obtain rfl : k = e.length := by omega
    rw [List.take_length] at hG2
    refine go ?_
    exact ret1 ⟨he2, hG2⟩
set_option maxHeartbeats 2000000 in
theorem l06Invert_ok {e : List Int} {w : World} {vx : Value} {lo hi : Nat} [hx : Ints lo hi w vx e] (hl : e.length ≤ 100000) (hr : ∀ i, i < e.length → -1000000 ≤ e.getD i 0 ∧ e.getD i 0 ≤ 1000000) :
    Calls Try.prog 96 #[vx] w (Ret fun v w' => Ext w w' ∧ GrowI 2 w.heap.size w' v (invW e)) := by
  refine enter (args := [vx]) (l := [.tmp 2]) Try.func96 rfl rfl Try.ntmps96 (by simp) ?_
  refine go ?_
  refine st_slice0 (by first | exact True.intro | exact ⟨_, rfl, by ((try simp only [ev_tmp, ev_const, ev_func, get_put, get_args, get_putL, get_putL_nil, Nat.reduceEqDiff, reduceIte, List.getD_cons_zero, List.getD_cons_succ, List.getD_nil, Bool.not_true, Bool.not_false]); first | done | with_reducible rfl)⟩) fun w0 v0 he0 hs0 ho0 => ?_
  refine go ?_
  refine r_for e.length (fun k ρ w' => ∃ vl, Has ρ [(0, vx), (3, vl), (4, .int .i64 ((e.length : Int) - 1 - k))] ∧ Ext w w' ∧ GrowI 2 w.heap.size w' vl (((e.map fun x => -x).reverse).take k)) ?_ ?_
  · refine ⟨v0, ?_, he0, GrowI.start ho0 (Nat.le_refl _)⟩
    exact hasP
  clear ho0
  rintro k ρ w2 hk ⟨vl, hH, he2, hG2⟩
  refine rwp_has hH fun ρ0 => ?_
  have hz2 := he2.size
  refine go ?_
  refine c_if (fun h4 => ?_) (fun h4 => ?_)
  · have hkn : k < e.length := by omega
    obtain ⟨i, hi⟩ : ∃ i, e.length - 1 - k = i := ⟨_, rfl⟩
    have hin : i < e.length := by omega
    have hcast : ((e.length : Int) - 1 - k) = (i : Int) := by omega
    have hri := hr i hin
    have hrl : ((e.map fun x => -x).reverse).length = e.length := by simp
    have hst : ((e.map fun x => -x).reverse).take (k + 1) = ((e.map fun x => -x).reverse).take k ++ [-(e.getD i 0)] := by
      rw [List.take_succ_eq_append_getElem (by omega)]
      congr 2
      rw [List.getElem_reverse, List.getElem_map]
      simp only [List.length_map]
      have e1 : e.getD i 0 = e[i] := by simp [hin]
      rw [e1]
      congr 1
      simp only [hi]
    rw [hcast]
    refine go ?_
    refine st_growi hG2 hz2 (by rw [List.length_take]; omega) (next := fun v4 v5 w5 hG5 hx5 hz5 hgs5 => ?_)
    refine go ?_
    refine forQ_normal (by omega) ⟨v5, ?_, hx5 w he2 (Nat.le_refl _), ?_⟩
    · exact hasP
    · rw [hst]; exact hG5
  · obtain rfl : k = e.length := by omega
    have e0 : ((e.map fun x => -x).reverse).take e.length = invW e := List.take_of_length_le (by simp)
    rw [e0] at hG2
    refine go ?_
    exact ret1 ⟨he2, hG2⟩
theorem ints_bd {e : List Int} {n : Nat} (hl : LetW n e) (hn : n ≤ 6) : ∀ i, i < e.length → -1000000 ≤ e.getD i 0 ∧ e.getD i 0 ≤ 1000000 := fun i hi => by
  have e1 : e.getD i 0 = e[i] := by simp [hi]
  have := hl _ (List.getElem_mem hi)
  omega
set_option maxHeartbeats 4000000 in
theorem l07Relators_ok {p : Pr} (hv : Valid p) {w : World} {vp : Value} {lo hi : Nat} [hp : Pres lo hi w vp p] :
    Calls Try.prog 61 #[vp] w (Ret fun v w' => Ext w w' ∧ ∃ rs, rs.map (·.2) = rels p ∧ GrowL 22 w.heap.size w' v rs) := by
  have hn6 := hv.n6
  have hol : p.ord.length = p.n := rfl
  have hwl := hv.lenw
  have hcl := hv.lenc
  replace hp := hp.wide
  obtain ⟨vo, vpw, vc, ps, cs, css, rfl, h1, h2, h3⟩ := hp.ex
  refine enter (args := [.agg #[vo, vpw, vc]]) (l := [.tmp 2]) Try.func61 rfl rfl Try.ntmps61 (by simp) ?_
  refine go ?_
  refine st_box3 (by ((try simp only [ev_tmp, ev_const, ev_func, get_put, get_args, get_putL, get_putL_nil, Nat.reduceEqDiff, reduceIte, List.getD_cons_zero, List.getD_cons_succ, List.getD_nil]); first | done | with_reducible rfl)) (by first | exact True.intro | exact ⟨_, rfl, by ((try simp only [ev_tmp, ev_const, ev_func, get_put, get_args, get_putL, get_putL_nil, Nat.reduceEqDiff, reduceIte, List.getD_cons_zero, List.getD_cons_succ, List.getD_nil, Bool.not_true, Bool.not_false]); first | done | with_reducible rfl)⟩) fun w1 b he1 hb1 hs1 hc0 hc1 hc2 => ?_
  have hz1 := he1.size
  refine go ?_
  refine st_slice0 (by first | exact True.intro | exact ⟨_, rfl, by ((try simp only [ev_tmp, ev_const, ev_func, get_put, get_args, get_putL, get_putL_nil, Nat.reduceEqDiff, reduceIte, List.getD_cons_zero, List.getD_cons_succ, List.getD_nil, Bool.not_true, Bool.not_false]); first | done | with_reducible rfl)⟩) fun w2 v2 he2 hs2 ho2 => ?_
  refine go ?_
  refine r_for p.n (fun i ρ w' => ∃ vl rs, Has ρ [(1, .pointer (some ⟨b, 0, none⟩)), (3, vl), (4, .int .i64 p.n), (5, .int .i64 i)] ∧ Ext w1 w' ∧ GrowL 22 w1.heap.size w' vl rs ∧ rs.map (·.2) = (List.range i).map (relP p)) ?_ ?_
  · refine ⟨v2, [], ?_, he2, GrowL.start ho2 (Nat.le_refl _), rfl⟩
    exact hasP
  clear ho2
  rintro i ρ w3 hi ⟨vl, rs, hH, he3, hG3, hrs3⟩
  refine rwp_has hH fun ρ0 => ?_
  have hz3 := he3.size
  have hE3 := he1.trans he3
  have hrl3 : rs.length = i := by have := congrArg List.length hrs3; simpa using this
  refine go ?_
  refine c_if (fun h4 => ?_) (fun h4 => ?_)
  · have hin : i < p.n := by omega
    have ho := hv.opos hin
    have hoi : p.ord.getD i 0 = p.o i := rfl
    refine go ?_
    refine st_slice0 (by first | exact True.intro | exact ⟨_, rfl, by ((try simp only [ev_tmp, ev_const, ev_func, get_put, get_args, get_putL, get_putL_nil, Nat.reduceEqDiff, reduceIte, List.getD_cons_zero, List.getD_cons_succ, List.getD_nil, Bool.not_true, Bool.not_false]); first | done | with_reducible rfl)⟩) fun w4 v4 he4 hs4 ho4 => ?_
    refine go ?_
    refine r_for (p.o i).toNat (fun k ρ w' => ∃ vw, Has ρ [(1, .pointer (some ⟨b, 0, none⟩)), (3, vl), (4, .int .i64 p.n), (5, .int .i64 i), (6, vw), (7, .int .i64 k)] ∧ Ext w3 w' ∧ GrowI 2 w3.heap.size w' vw (List.replicate k ((i : Int) + 1))) ?_ ?_
    · refine ⟨v4, ?_, he4, GrowI.start ho4 (Nat.le_refl _)⟩
      exact hasP
    clear ho4
    rintro k ρ w5 hk ⟨vw, hH5, he5, hG5⟩
    refine rwp_has hH5 fun ρ1 => ?_
    have hz5 := he5.size
    have hE5 := hE3.trans he5
    refine go ?_
    refine c_if (fun h6 => ?_) (fun h6 => ?_)
    · refine go ?_
      refine st_growi hG5 hz5 (by simp only [List.length_replicate]; omega) (next := fun v6 v7 w7 hG7 hx7 hz7 hgs7 => ?_)
      refine go ?_
      refine forQ_normal (by omega) ⟨v7, ?_, hx7 w3 he5 (Nat.le_refl _), ?_⟩
      · exact hasP
      · rw [List.replicate_succ']; exact hG7
    · obtain rfl : k = (p.o i).toNat := by omega
      have hiw := invec_word hv (hv.w_in i hin)
      have hpw : p.w i = p.pow.getD i [] := rfl
      rw [hpw] at hiw
      refine go ?_
      refine rc (l07Word_ok (e := p.pow.getD i []) (by omega) (fun j hj => by have := hiw.2.2 j hj; omega)) (next := fun v6 w6 h7 => ?_)
      obtain ⟨he6, hG6⟩ := h7
      have hi6 := hG6.fr.ints
      have hlw := letW_word hiw.1
      refine go ?_
      refine rc (l06Invert_ok (e := wordV (p.pow.getD i [])) (by omega) (ints_bd hlw hn6)) (next := fun v7 w7 h8 => ?_)
      obtain ⟨he7, hG7⟩ := h8
      have hG57 : GrowI 2 w3.heap.size w7 vw (List.replicate (p.o i).toNat ((i : Int) + 1)) := @GrowI.ext _ _ _ _ _ _ (he6.trans he7) hG5
      have hz7 := (he5.trans (he6.trans he7)).size
      refine go ?_
      refine st_appi hG57 hG7.fr.ints hz7 (by simp only [List.length_replicate, invW_len]; omega) (next := fun v8 w8 hG8 hx8 hz8 => ?_)
      have hx38 := hx8 w3 (he5.trans (he6.trans he7)) (Nat.le_refl _)
      refine go ?_
      refine st_grow hG3 hx38 hG8.fr hz3 (by omega) (next := fun v9 v10 w10 hG10 hx10 hz10 hgs10 => ?_)
      refine go ?_
      refine forQ_normal (by omega) ⟨v10, _, ?_, hx10 w1 (he3.trans hx38) (Nat.le_refl _), hG10, ?_⟩
      · exact hasP
      · rw [List.map_append, hrs3, List.range_succ, List.map_append]; rfl
  · obtain rfl : i = p.n := by omega
    have hrs0 : rs.map (·.2) = relL p 0 := by rw [hrs3]; simp [relL]
    have hrb : ∀ m, m ≤ p.n → (relL p m).length ≤ 100 := fun m hm => by
      have h := (rels_props hv).1
      have : (relL p m).length ≤ (rels p).length := by
        unfold rels relL
        simp only [List.length_append]
        have e : List.range p.n = List.range m ++ (List.range (p.n - m)).map (m + ·) := by
          rw [← List.range_add, show m + (p.n - m) = p.n by omega]
        rw [e, List.flatMap_append, List.length_append]
        simp only [List.length_append, List.length_map, List.length_range]
        omega
      omega
    clear hrs3
    refine go ?_
    refine r_for p.n (fun i ρ w' => ∃ vl rs, Has ρ [(1, .pointer (some ⟨b, 0, none⟩)), (3, vl), (4, .int .i64 p.n), (8, .int .i64 i)] ∧ Ext w1 w' ∧ GrowL 22 w1.heap.size w' vl rs ∧ rs.map (·.2) = relL p i) ?_ ?_
    · refine ⟨vl, rs, ?_, he3, hG3, hrs0⟩
      exact hasP
    clear hG3 he3 hrs0 hrl3 hz3 hE3
    rintro i ρ w3 hi ⟨vl, rs, hH3, he3, hG3, hrs3⟩
    refine rwp_has hH3 fun ρ1 => ?_
    have hz3 := he3.size
    have hE3 := he1.trans he3
    refine go ?_
    refine c_if (fun h5 => ?_) (fun h5 => ?_)
    · have hin : i < p.n := by omega
      refine go ?_
      refine r_for (p.n - 1 - i) (fun k ρ w' => ∃ vl rs, Has ρ [(1, .pointer (some ⟨b, 0, none⟩)), (3, vl), (4, .int .i64 p.n), (8, .int .i64 i), (9, .int .i64 ((i + 1 + k : Nat) : Int))] ∧ Ext w1 w' ∧ GrowL 22 w1.heap.size w' vl rs ∧ rs.map (·.2) = relL p i ++ relCs p i k) ?_ ?_
      · refine ⟨vl, rs, ?_, he3, hG3, by simpa [relCs] using hrs3⟩
        exact hasP
      clear hG3 he3 hrs3 hz3 hE3
      rintro k ρ w4 hk ⟨vl, rs, hH4, he4, hG4, hrs4⟩
      refine rwp_has hH4 fun ρ2 => ?_
      have hz4 := he4.size
      have hE4 := he1.trans he4
      have hrl4 : rs.length ≤ 1000 := by
        have h := congrArg List.length hrs4
        have h2 := hrb i (by omega)
        simp only [List.length_map, List.length_append, relCs, List.length_range] at h
        omega
      refine go ?_
      refine c_if (fun h6 => ?_) (fun h6 => ?_)
      · have hkn : k < p.n - 1 - i := by omega
        have hci := hv.lenci i hin
        refine go ?_
        refine st_slice3i (a := -(i : Int) - 1) (b := ((i + 1 + k : Nat) : Int) + 1) (c := (i : Int) + 1) (by ((try simp only [ev_tmp, ev_const, ev_func, get_put, get_args, get_putL, get_putL_nil, Nat.reduceEqDiff, reduceIte, List.getD_cons_zero, List.getD_cons_succ, List.getD_nil]); first | done | with_reducible rfl)) (by ((try simp only [ev_tmp, ev_const, ev_func, get_put, get_args, get_putL, get_putL_nil, Nat.reduceEqDiff, reduceIte, List.getD_cons_zero, List.getD_cons_succ, List.getD_nil]); first | done | with_reducible rfl)) (by ((try simp only [ev_tmp, ev_const, ev_func, get_put, get_args, get_putL, get_putL_nil, Nat.reduceEqDiff, reduceIte, List.getD_cons_zero, List.getD_cons_succ, List.getD_nil]); first | done | with_reducible rfl)) ?_ (by first | exact True.intro | exact ⟨_, rfl, by ((try simp only [ev_tmp, ev_const, ev_func, get_put, get_args, get_putL, get_putL_nil, Nat.reduceEqDiff, reduceIte, List.getD_cons_zero, List.getD_cons_succ, List.getD_nil, Bool.not_true, Bool.not_false]); first | done | with_reducible rfl)⟩) fun w5 v5 he5 hG5 => ?_
        · rfl
        have hiw := invec_word hv (hv.c_in i (i + 1 + k) (by omega) (by omega))
        have hw : p.c i (i + 1 + k) = (p.cnj.getD i []).getD k [] := by
          show (p.cnj.getD i []).getD (i + 1 + k - (i + 1)) [] = _
          rw [show i + 1 + k - (i + 1) = k by omega]
        rw [hw] at hiw
        have hixn : i + 1 + k - i - 1 = k := by omega
        refine go ?_
        rw [hixn]
        refine rc (l07Word_ok (e := (p.cnj.getD i []).getD k []) (by omega) (fun j hj => by have := hiw.2.2 j hj; omega)) (next := fun v6 w6 h7 => ?_)
        obtain ⟨he6, hG6⟩ := h7
        have hi6 := hG6.fr.ints
        have hlw := letW_word hiw.1
        refine go ?_
        refine rc (l06Invert_ok (e := wordV ((p.cnj.getD i []).getD k [])) (by omega) (ints_bd hlw hn6)) (next := fun v7 w7 h8 => ?_)
        obtain ⟨he7, hG7⟩ := h8
        have hG57 := @GrowI.ext _ _ _ _ _ _ (he6.trans he7) hG5
        have hz7 := (he5.trans (he6.trans he7)).size
        refine go ?_
        refine st_appi hG57 hG7.fr.ints hz7 (by simp only [List.length_cons, List.length_nil, invW_len]; omega) (next := fun v8 w8 hG8 hx8 hz8 => ?_)
        have hx48 := hx8 w4 (he5.trans (he6.trans he7)) (Nat.le_refl _)
        refine go ?_
        refine st_grow hG4 hx48 hG8.fr hz4 (by omega) (next := fun v9 v10 w10 hG10 hx10 hz10 hgs10 => ?_)
        refine go ?_
        refine forQ_normal (by omega) ⟨v10, _, ?_, hx10 w1 (he4.trans hx48) (Nat.le_refl _), hG10, ?_⟩
        · exact hasP
        · rw [List.map_append, hrs4, relCs_succ, List.append_assoc]; rfl
      · obtain rfl : k = p.n - 1 - i := by omega
        rw [← relL_succ] at hrs4
        refine go ?_
        refine forQ_normal (by omega) ⟨vl, rs, ?_, he4, hG4, hrs4⟩
        exact hasP
    · obtain rfl : i = p.n := by omega
      refine go ?_
      exact ret1 ⟨hE3, rs, hrs3, hG3.lower hz1 hE3.size⟩
end Go.Proofs.Ytnphljflkpekmaa

/-
  Walks: the reference's values of words, tests of homomorphisms (l10Eval, l10Elements, l16Relators, l16Apply).
  Conditions: stated at each theorem.
-/
namespace Go.Proofs.Ytnphljflkpekmaa
open Go Go.Pc
theorem letW_at {n : Nat} {w : List Int} (h : LetW n w) {k : Nat} (hk : k < w.length) : w.getD k 0 ≠ 0 ∧ -(n : Int) ≤ w.getD k 0 ∧ w.getD k 0 ≤ n := by
  have e1 : w.getD k 0 = w[k] := by simp [hk]
  rw [e1]
  exact h _ (List.getElem_mem hk)
set_option maxHeartbeats 2000000 in
theorem l10Eval_ok {q : Pr} [hc : ConAll q] {ys : List (El q)} {ws : List Int} (hw : LetW ys.length ws) (hwl : ws.length ≤ 100000) (hyl : ys.length ≤ 1000) {w : World} {vq vw vi : Value} {us : List Value} {xss : List (List Int)} {lo hi lo1 hi1 lo2 hi2 : Nat} [hp : Pres lo hi w vq q] [hx : Ints lo1 hi1 w vw ws] [hu : Pc.Rows lo2 hi2 w vi us xss] (hus : xss = vecs ys) :
    Calls Try.prog 63 #[vq, vw, vi] w (Ret fun v w' => Ext w w' ∧ Fr w.heap.size w' v (evalW ys ws).v) := by
  subst hus
  have hvl : (vecs ys).length = ys.length := by simp
  obtain ⟨vo, vpw, vc, ps, cs, css, rfl, h1, h2, h3⟩ := hp.ex
  refine enter (args := [.agg #[vo, vpw, vc], vw, vi]) (l := [.tmp 6]) Try.func63 rfl rfl Try.ntmps63 (by simp) ?_
  refine go ?_
  refine st_box3 (by ((try simp only [ev_tmp, ev_const, ev_func, get_put, get_args, get_putL, get_putL_nil, Nat.reduceEqDiff, reduceIte, List.getD_cons_zero, List.getD_cons_succ, List.getD_nil]); first | done | with_reducible rfl)) (by first | exact True.intro | exact ⟨_, rfl, by ((try simp only [ev_tmp, ev_const, ev_func, get_put, get_args, get_putL, get_putL_nil, Nat.reduceEqDiff, reduceIte, List.getD_cons_zero, List.getD_cons_succ, List.getD_nil, Bool.not_true, Bool.not_false]); first | done | with_reducible rfl)⟩) fun w1 b he1 hb1 hs1 hc0 hc1 hc2 => ?_
  have hz1 := he1.size
  refine go ?_
  refine rc (l10One_ok (p := q)) (next := fun v2 w2 h4 => ?_)
  obtain ⟨he2, hf2⟩ := h4
  refine go ?_
  refine r_for ws.length (fun k ρ w' => ∃ vr, Has ρ [(1, vw), (2, vi), (3, .pointer (some ⟨b, 0, none⟩)), (7, vr), (8, .int .i64 k)] ∧ Ext w1 w' ∧ Fr w1.heap.size w' vr (evalW ys (ws.take k)).v) ?_ ?_
  · refine ⟨v2, ?_, he2, hf2⟩
    exact hasP
  clear hf2
  rintro k ρ w3 hk ⟨vr, hH, he3, hf3⟩
  refine rwp_has hH fun ρ0 => ?_
  have hz3 := he3.size
  have hi3 := hf3.ints
  refine go ?_
  refine c_if (fun h4 => ?_) (fun h4 => ?_)
  · have hkn : k < ws.length := by omega
    have hlk := letW_at hw hkn
    have hst := evalW_take (ys := ys) hkn
    refine go ?_
    refine c_if (fun h5 => ?_) (fun h5 => ?_)
    · have hjn : ((ws.getD k 0).toNat - 1) < ys.length := by omega
      have hgj : (vecs ys).getD ((ws.getD k 0).toNat - 1) [] = (ys.getD ((ws.getD k 0).toNat - 1) 1).v := by rw [vecs_getD ys hjn, getD_one hjn]
      have hlv : letV ys (ws.getD k 0) = ys.getD ((ws.getD k 0).toNat - 1) 1 := by unfold letV; rw [if_pos (by omega), show (ws.getD k 0 - 1).toNat = (ws.getD k 0).toNat - 1 by omega]
      refine go ?_
      refine d_region fun w4 he4 _ => ?_
      refine dgo ?_
      refine dce (l08Mul_ok (p := q) (x := evalW ys (ws.take k)) (y := ys.getD ((ws.getD k 0).toNat - 1) 1) rfl hgj) (next := fun v6 w6 h6 => ?_)
      obtain ⟨he6, hf6⟩ := h6
      refine dgo ?_
      refine d_end (h := ?_)
      refine go ?_
      refine forQ_normal (by omega) ⟨v6, ?_, (he3.trans he4).trans he6, ?_⟩
      · exact hasP
      · rw [hst, hlv]
        exact hf6.mono (he3.trans he4).size
    · have hjn : ((-ws.getD k 0).toNat - 1) < ys.length := by omega
      have hgj : (vecs ys).getD ((-ws.getD k 0).toNat - 1) [] = (ys.getD ((-ws.getD k 0).toNat - 1) 1).v := by rw [vecs_getD ys hjn, getD_one hjn]
      have hlv : letV ys (ws.getD k 0) = (ys.getD ((-ws.getD k 0).toNat - 1) 1)⁻¹ := by unfold letV; rw [if_neg (by omega), show (-ws.getD k 0 - 1).toNat = (-ws.getD k 0).toNat - 1 by omega]
      refine go ?_
      refine d_region fun w4 he4 _ => ?_
      refine dgo ?_
      refine dce (l10Inv_ok (p := q) (x := ys.getD ((-ws.getD k 0).toNat - 1) 1) hgj) (next := fun v5 w5 h5 => ?_)
      obtain ⟨he5, hf5⟩ := h5
      refine dce (l08Mul_ok (p := q) (x := evalW ys (ws.take k)) (y := (ys.getD ((-ws.getD k 0).toNat - 1) 1)⁻¹) rfl rfl) (next := fun v6 w6 h6 => ?_)
      obtain ⟨he6, hf6⟩ := h6
      refine dgo ?_
      refine d_end (h := ?_)
      refine go ?_
      have hE := (he3.trans he4).trans he5
      refine forQ_normal (by omega) ⟨v6, ?_, hE.trans he6, ?_⟩
      · exact hasP
      · rw [hst, hlv]
        exact hf6.mono hE.size
  · obtain rfl : k = ws.length := by omega
    rw [List.take_length] at hf3
    refine go ?_
    exact ret1 ⟨he1.trans he3, hf3.mono hz1⟩
set_option maxHeartbeats 2000000 in
theorem l16Relators_ok {p q : Pr} (hvp : Valid p) [hc : ConAll q] {ys : List (El q)} (hyl : ys.length = p.n) {w : World} {vp vq vi : Value} {us : List Value} {xss : List (List Int)} {lo hi lo1 hi1 lo2 hi2 : Nat} [hp : Pres lo hi w vp p] [hq : Pres lo1 hi1 w vq q] [hu : Pc.Rows lo2 hi2 w vi us xss] (hus : xss = vecs ys) :
    Calls Try.prog 39 #[vp, vq, vi] w (Ret fun v w' => ∃ b, v = .bool b ∧ (b = true ↔ RelOk p ys) ∧ Ext w w') := by
  subst hus
  have hn6 := hvp.n6
  have hq6 := hc.valid.n6
  have hvl : (vecs ys).length = ys.length := by simp
  have hrp := rels_props hvp
  replace hp := hp.wide
  replace hq := hq.wide
  replace hu := hu.wide
  obtain ⟨vo, vpw, vc, ps, cs, css, rfl, h1, h2, h3⟩ := hp.ex
  obtain ⟨uo, upw, uc, qs, ds, dss, rfl, k1, k2, k3⟩ := hq.ex
  refine enter (args := [.agg #[vo, vpw, vc], .agg #[uo, upw, uc], vi]) (l := [.tmp 6]) Try.func39 rfl rfl Try.ntmps39 (by simp) ?_
  refine go ?_
  refine st_box3 (by ((try simp only [ev_tmp, ev_const, ev_func, get_put, get_args, get_putL, get_putL_nil, Nat.reduceEqDiff, reduceIte, List.getD_cons_zero, List.getD_cons_succ, List.getD_nil]); first | done | with_reducible rfl)) (by first | exact True.intro | exact ⟨_, rfl, by ((try simp only [ev_tmp, ev_const, ev_func, get_put, get_args, get_putL, get_putL_nil, Nat.reduceEqDiff, reduceIte, List.getD_cons_zero, List.getD_cons_succ, List.getD_nil, Bool.not_true, Bool.not_false]); first | done | with_reducible rfl)⟩) fun w0 b0 he0 hb0 hs0 ha0 ha1 ha2 => ?_
  refine go ?_
  refine st_box3 (by ((try simp only [ev_tmp, ev_const, ev_func, get_put, get_args, get_putL, get_putL_nil, Nat.reduceEqDiff, reduceIte, List.getD_cons_zero, List.getD_cons_succ, List.getD_nil]); first | done | with_reducible rfl)) (by first | exact True.intro | exact ⟨_, rfl, by ((try simp only [ev_tmp, ev_const, ev_func, get_put, get_args, get_putL, get_putL_nil, Nat.reduceEqDiff, reduceIte, List.getD_cons_zero, List.getD_cons_succ, List.getD_nil, Bool.not_true, Bool.not_false]); first | done | with_reducible rfl)⟩) fun w1 b he1 hb1 hs1 hc0 hc1 hc2 => ?_
  have hE1 := he0.trans he1
  refine go ?_
  refine rc (l07Relators_ok (p := p) hvp) (next := fun v2 w2 h4 => ?_)
  obtain ⟨he2, rs, hrs, hG2⟩ := h4
  have hR2 := hG2.rows
  rw [hrs] at hR2
  have hul2 := hR2.vals.len
  have hE2 := hE1.trans he2
  refine go ?_
  refine r_for (rels p).length (fun k ρ w' => Has ρ [(2, vi), (4, .pointer (some ⟨b, 0, none⟩)), (7, v2), (8, .int .i64 k)] ∧ Ext w2 w' ∧ ∀ j, j < k → evalW ys ((rels p).getD j []) = 1) ?_ ?_
  · refine ⟨?_, Ext.refl _, fun j hj => by omega⟩
    exact hasP
  rintro k ρ w3 hk ⟨hH, he3, hI⟩
  refine rwp_has hH fun ρ0 => ?_
  have hE3 := hE2.trans he3
  refine go ?_
  refine c_if (fun h4 => ?_) (fun h4 => ?_)
  · have hkn : k < (rels p).length := by omega
    have e1 : (rels p).getD k [] = (rels p)[k] := by simp [hkn]
    have hwk := hrp.2 _ (List.getElem_mem hkn)
    rw [← e1, ← hyl] at hwk
    have hel := (evalW ys ((rels p).getD k [])).inr.len
    refine go ?_
    refine d_region fun w4 he4 _ => ?_
    refine dgo ?_
    refine dce (l10Eval_ok (q := q) (ys := ys) (ws := (rels p).getD k []) hwk.2 (by omega) (by omega) rfl) (next := fun v5 w5 h5 => ?_)
    obtain ⟨he5, hf5⟩ := h5
    have hi5 := hf5.ints
    refine dce (l01Zero_ok (xs := (evalW ys ((rels p).getD k [])).v) (by omega)) (next := fun v6 w6 h6 => ?_)
    obtain ⟨b6, rfl, hb6, he6⟩ := h6
    rw [← el_one_iff] at hb6
    refine dgo ?_
    refine d_end (h := ?_)
    have hE6 := (he4.trans he5).trans he6
    refine go ?_
    refine c_b (fun h7 => ?_) (fun h7 => ?_)
    · refine go ?_
      refine ret1 ⟨false, rfl, ⟨fun h => (by cases h), fun h => ?_⟩, hE3.trans hE6⟩
      rw [hb6.2 (h k hkn)] at h7; cases h7
    · refine go ?_
      refine forQ_normal (by omega) ⟨?_, he3.trans hE6, fun j hj => ?_⟩
      · exact hasP
      · by_cases e : j = k
        · subst e; exact hb6.1 (by simpa using h7)
        · exact hI j (by omega)
  · refine go ?_
    exact ret1 ⟨true, rfl, ⟨fun _ j hj => hI j (by omega), fun _ => rfl⟩, hE3⟩
end Go.Proofs.Ytnphljflkpekmaa

/-
  Walks: the reference's IsAutomorphism, IsIsomorphism, ApplyAutomorphism, ComposeAutomorphisms.
  Conditions: stated at each theorem.
-/
namespace Go.Proofs.Ytnphljflkpekmaa
open Go Go.Pc
end Go.Proofs.Ytnphljflkpekmaa

/-
  Walks: the reference's CountHoms.
  Conditions: stated at each theorem.
-/
namespace Go.Proofs.Ytnphljflkpekmaa
open Go Go.Pc
set_option maxHeartbeats 1000000 in
theorem l16Tuples_ok {p q : Pr} (hvp : Valid p) [hc : ConAll q] {w : World} {vp vq : Value} {lo hi lo1 hi1 : Nat} [hp : Pres lo hi w vp p] [hq : Pres lo1 hi1 w vq q] :
    Calls Try.prog 37 #[vp, vq] w (Ret fun v w' => v = .int .i64 (tupC (ordN q) p.n : Nat) ∧ Ext w w') := by
  have hn6 := hvp.n6
  have hol : p.ord.length = p.n := rfl
  obtain ⟨hoe, ho1, ho2⟩ := ordN_rng q
  obtain ⟨vo, vpw, vc, ps, cs, css, rfl, h1, h2, h3⟩ := hp.ex
  obtain ⟨uo, upw, uc, qs, ds, dss, rfl, k1, k2, k3⟩ := hq.ex
  refine enter (args := [.agg #[vo, vpw, vc], .agg #[uo, upw, uc]]) (l := [.tmp 4]) Try.func37 rfl rfl Try.ntmps37 (by simp) ?_
  refine go ?_
  refine st_box3 (by ((try simp only [ev_tmp, ev_const, ev_func, get_put, get_args, get_putL, get_putL_nil, Nat.reduceEqDiff, reduceIte, List.getD_cons_zero, List.getD_cons_succ, List.getD_nil]); first | done | with_reducible rfl)) (by first | exact True.intro | exact ⟨_, rfl, by ((try simp only [ev_tmp, ev_const, ev_func, get_put, get_args, get_putL, get_putL_nil, Nat.reduceEqDiff, reduceIte, List.getD_cons_zero, List.getD_cons_succ, List.getD_nil, Bool.not_true, Bool.not_false]); first | done | with_reducible rfl)⟩) fun w0 b0 he0 hb0 hs0 ha0 ha1 ha2 => ?_
  refine go ?_
  refine st_box3 (by ((try simp only [ev_tmp, ev_const, ev_func, get_put, get_args, get_putL, get_putL_nil, Nat.reduceEqDiff, reduceIte, List.getD_cons_zero, List.getD_cons_succ, List.getD_nil]); first | done | with_reducible rfl)) (by first | exact True.intro | exact ⟨_, rfl, by ((try simp only [ev_tmp, ev_const, ev_func, get_put, get_args, get_putL, get_putL_nil, Nat.reduceEqDiff, reduceIte, List.getD_cons_zero, List.getD_cons_succ, List.getD_nil, Bool.not_true, Bool.not_false]); first | done | with_reducible rfl)⟩) fun w1 b he1 hb1 hs1 hc0 hc1 hc2 => ?_
  have hE1 := he0.trans he1
  refine go ?_
  refine r_for p.n (fun k ρ w' => Has ρ [(2, .pointer (some ⟨b0, 0, none⟩)), (3, .pointer (some ⟨b, 0, none⟩)), (5, .int .i64 (tupC (ordN q) k : Nat)), (6, .int .i64 k)] ∧ Ext w1 w') ?_ ?_
  · refine ⟨?_, Ext.refl _⟩
    exact hasP
  rintro k ρ w2 hk ⟨hH, he2⟩
  refine rwp_has hH fun ρ0 => ?_
  have hE2 := hE1.trans he2
  have htr := tupC_rng ho1 ho2 k
  refine go ?_
  refine c_if (fun h4 => ?_) (fun h4 => ?_)
  · have hkn : k < p.n := by omega
    refine go ?_
    refine c_if (fun h5 => ?_) (fun h5 => ?_)
    · have hle : tupC (ordN q) k ≤ 4096 := by omega
      have hst : tupC (ordN q) (k + 1) = tupC (ordN q) k * ordN q := by
        show (if tupC (ordN q) k ≤ 4096 then tupC (ordN q) k * ordN q else tupC (ordN q) k) = _
        rw [if_pos hle]
      have htr1 := tupC_rng ho1 ho2 (k + 1)
      rw [hst] at htr1
      have hcast : ((tupC (ordN q) k : Nat) : Int) * ((ordN q : Nat) : Int) = ((tupC (ordN q) k * ordN q : Nat) : Int) := (Int.natCast_mul _ _).symm
      refine go ?_
      refine rc (l10Order_ok (p := q) hc.valid) (next := fun v5 w5 h6 => ?_)
      obtain ⟨rfl, he5⟩ := h6
      rw [hoe]
      refine go ?_
      refine ra (v := .int .i64 ((tupC (ordN q) k * ordN q : Nat) : Int)) (h := by rw [← hcast]; exact rd_mul (by ((try simp only [ev_tmp, ev_const, ev_func, get_put, get_args, get_putL, get_putL_nil, Nat.reduceEqDiff, reduceIte, List.getD_cons_zero, List.getD_cons_succ, List.getD_nil]); first | done | with_reducible rfl)) (by ((try simp only [ev_tmp, ev_const, ev_func, get_put, get_args, get_putL, get_putL_nil, Nat.reduceEqDiff, reduceIte, List.getD_cons_zero, List.getD_cons_succ, List.getD_nil]); first | done | with_reducible rfl)) (by rw [hcast]; omega)) (next := ?_)
      refine go ?_
      refine forQ_normal (by omega) ⟨?_, he2.trans he5⟩
      rw [hst]
      exact hasP
    · have hst : tupC (ordN q) (k + 1) = tupC (ordN q) k := by
        show (if tupC (ordN q) k ≤ 4096 then tupC (ordN q) k * ordN q else tupC (ordN q) k) = _
        rw [if_neg (by omega)]
      refine go ?_
      refine forQ_normal (by omega) ⟨?_, he2⟩
      rw [hst]
      exact hasP
  · obtain rfl : k = p.n := by omega
    refine go ?_
    exact ret1 ⟨rfl, hE2⟩
set_option maxHeartbeats 2000000 in
theorem l16Tuple_ok {q : Pr} [hc : ConAll q] {n t : Nat} (hn : n ≤ 100) (ht : t ≤ 1000000) {w : World} {vq : Value} {lo hi : Nat} [hq : Pres lo hi w vq q] :
    Calls Try.prog 38 #[vq, .int .i64 n, .int .i64 t] w (Ret fun v w' => Ext w w' ∧ ∃ us', Pc.Rows 0 w'.heap.size w' v us' (vecs (tupE q n t))) := by
  obtain ⟨hoe, ho1, ho2⟩ := ordN_rng q
  replace hq := hq.wide
  obtain ⟨uo, upw, uc, qs, ds, dss, rfl, k1, k2, k3⟩ := hq.ex
  refine enter (args := [.agg #[uo, upw, uc], .int .i64 n, .int .i64 t]) (l := [.tmp 6]) Try.func38 rfl rfl Try.ntmps38 (by simp) ?_
  refine go ?_
  refine st_box3 (by ((try simp only [ev_tmp, ev_const, ev_func, get_put, get_args, get_putL, get_putL_nil, Nat.reduceEqDiff, reduceIte, List.getD_cons_zero, List.getD_cons_succ, List.getD_nil]); first | done | with_reducible rfl)) (by first | exact True.intro | exact ⟨_, rfl, by ((try simp only [ev_tmp, ev_const, ev_func, get_put, get_args, get_putL, get_putL_nil, Nat.reduceEqDiff, reduceIte, List.getD_cons_zero, List.getD_cons_succ, List.getD_nil, Bool.not_true, Bool.not_false]); first | done | with_reducible rfl)⟩) fun w1 b he1 hb1 hs1 hc0 hc1 hc2 => ?_
  have hz1 := he1.size
  refine go ?_
  refine st_make_nil (by ((try simp only [ev_tmp, ev_const, ev_func, get_put, get_args, get_putL, get_putL_nil, Nat.reduceEqDiff, reduceIte, List.getD_cons_zero, List.getD_cons_succ, List.getD_nil]); first | done | with_reducible rfl)) (by ((try simp only [ev_tmp, ev_const, ev_func, get_put, get_args, get_putL, get_putL_nil, Nat.reduceEqDiff, reduceIte, List.getD_cons_zero, List.getD_cons_succ, List.getD_nil]); first | done | with_reducible rfl)) (by omega) (by omega) (by first | exact True.intro | exact ⟨_, rfl, by ((try simp only [ev_tmp, ev_const, ev_func, get_put, get_args, get_putL, get_putL_nil, Nat.reduceEqDiff, reduceIte, List.getD_cons_zero, List.getD_cons_succ, List.getD_nil, Bool.not_true, Bool.not_false]); first | done | with_reducible rfl)⟩) fun w2 v2 he2 hs2 ho2' => ?_
  have hvb := ho2'.toN_block
  have hL2 : Lst 22 w.heap.size (fun _ => False) w2 v2 _ _ := Lst.ofNils ho2' hz1 (fun h => h) (fun g h => h.elim)
  rw [← tupTo_zero (q := q) n t] at hL2
  clear ho2'
  have hE2 := he1.trans he2
  have ap1 : Apart 0 w.heap.size w1.heap.size := ⟨.inr hz1⟩
  have ap2 : Apart b (b + 1) w1.heap.size := ⟨.inr (by omega)⟩
  refine go ?_
  refine r_for n (fun k ρ w' => ∃ (us' : List Value) (tk : Nat), Has ρ [(2, .int .i64 tk), (3, .pointer (some ⟨b, 0, none⟩)), (7, v2), (8, .int .i64 ((n : Int) - 1 - k))] ∧ Ext w w' ∧ Chg w1.heap.size w2 w' ∧ Lst 22 w.heap.size (fun _ => False) w' v2 us' (tupTo q n t k) ∧ tk = t / ordN q ^ k) ?_ ?_
  · refine ⟨_, t, ?_, hE2, Chg.refl _ _, hL2, by simp⟩
    exact hasP
  clear hL2
  rintro k ρ w3 hk ⟨us3, tk, hH, he3, hch3, hL3, htk⟩
  refine rwp_has hH fun ρ0 => ?_
  have hz3 := he3.size
  have htl := tupTo_len (q := q) n t k
  have hul3 := hL3.len
  have htk1 : tk ≤ t := by rw [htk]; exact Nat.div_le_self _ _
  refine go ?_
  refine c_if (fun h4 => ?_) (fun h4 => ?_)
  · have hkn : k < n := by omega
    obtain ⟨i, hi⟩ : ∃ i, n - 1 - k = i := ⟨_, rfl⟩
    have hcast : ((n : Int) - 1 - k) = (i : Int) := by omega
    have hcast2 : ((n : Int) - 1 - ((k + 1 : Nat) : Int)) = (i : Int) - 1 := by omega
    have hmod : (tk : Int) % (ordN q : Int) = ((tk % ordN q : Nat) : Int) := (Int.natCast_emod _ _).symm
    have hdiv : (tk : Int) / (ordN q : Int) = ((tk / ordN q : Nat) : Int) := (Int.natCast_ediv _ _).symm
    have hmle : tk % ordN q ≤ tk := Nat.mod_le _ _
    rw [hcast]
    refine go ?_
    refine z_order w1.heap.size [0, 1, 2, 3, 4, 5, 6, 7, 8, 9] (h := fun w4 he4 _ => ?_)
    have hSl4 := ((hL3.ext he4).toOwn hvb).toSl
    have hlen4 := hSl4.toLen
    clear hSl4
    refine zgo ?_
    refine zc (l10Order_ok (p := q) hc.valid) (next := fun v5 w5 h6 => ?_)
    obtain ⟨rfl, he5⟩ := h6
    rw [hoe]
    refine zgo ?_
    rw [hmod]
    refine zc (l10At_ok (p := q) (t := tk % ordN q) (by omega)) (next := fun v6 w6 h7 => ?_)
    obtain ⟨he6, hf6⟩ := h7
    have hL6 := hL3.ext ((he4.trans he5).trans he6)
    have hO6 := hL6.toOwn hvb
    refine zgo ?_
    refine z_store_val (h := hO6) (hx := (by ((try simp only [ev_tmp, ev_const, ev_func, get_put, get_args, get_putL, get_putL_nil, Nat.reduceEqDiff, reduceIte, List.getD_cons_zero, List.getD_cons_succ, List.getD_nil]); first | done | with_reducible rfl))) (hy := (by ((try simp only [ev_tmp, ev_const, ev_func, get_put, get_args, get_putL, get_putL_nil, Nat.reduceEqDiff, reduceIte, List.getD_cons_zero, List.getD_cons_succ, List.getD_nil]); first | done | with_reducible rfl))) (hu := ?_) (hm := ?_) (next := fun w7 hc7 hs7 ho7 => ?_)
    · exact hf6.ints.sl.one
    · omega
    refine z_end ?_
    have hx36 := (he4.trans he5).trans he6
    have hz5 := ((hch3.grow he4).grow he5).size
    have hwb : w1.heap.size < w5.heap.size := by omega
    have hu6 : IntsAp (fun g => False ∨ v2.ownBlock = some g) w6 v6 (allE q (tk % ordN q)).v := IntsAp.ofFr hf6 (fun g hg => by
      rcases hg with hg | hg
      · exact hg.elim
      · rw [hvb] at hg; injection hg with hg; omega)
    have hL7 := hL6.set hvb hu6 hc7 ho7 (by omega)
    have e7 : tupTo q n t (k + 1) = (tupTo q n t k).set i (allE q (tk % ordN q)).v := by rw [tupTo_step hkn, hi, htk]
    have hE7 : Ext w w7 := hc7.ext (he3.trans hx36) hz1
    refine go ?_
    refine rc (l10Order_ok (p := q) hc.valid) (next := fun v8 w8 h8 => ?_)
    obtain ⟨rfl, he8⟩ := h8
    rw [hoe]
    refine go ?_
    rw [hdiv]
    refine forQ_normal (by omega) ⟨_, tk / ordN q, ?_, hE7.trans he8, ((hch3.grow hx36).trans hc7).grow he8, by rw [e7]; exact hL7.ext he8, by rw [htk, Nat.div_div_eq_div_mul, Nat.pow_succ]⟩
    rw [hcast2]
    exact hasP
  · obtain rfl : k = n := by omega
    rw [tupTo_all] at hL3
    refine go ?_
    exact ret1 ⟨he3, us3, hL3.toRows⟩
set_option maxHeartbeats 2000000 in
theorem spec_CountHoms_ok {p q : Pr} {w : World} {vp vq : Value} {lo hi lo1 hi1 : Nat} [hp : Pres lo hi w vp p] [hq : Pres lo1 hi1 w vq q] (hl : p.ord.length ≤ 2000000) (hlq : q.ord.length ≤ 2000000) :
    Calls Try.prog 36 #[vp, vq] w (Ret fun v w' => ∃ (k e : Int), v = .tuple #[.int .i64 k, .int .i64 e] ∧ Ans (IsGrp p ∧ IsGrp q) (ChV p q) 0 k e ∧ Ext w w') := by
  have hol : p.ord.length = p.n := rfl
  have hcode : ∀ {w : World} {vp vq : Value} {lo hi lo1 hi1 : Nat} [hp : Pres lo hi w vp p] [hq : Pres lo1 hi1 w vq q], Calls Try.prog 58 #[vp, vq] w (Ret fun v w' => ∃ e : Int, v = .int .i64 e ∧ ((¬ (IsGrp p ∧ IsGrp q) ∧ e = 1) ∨ ((IsGrp p ∧ IsGrp q) ∧ 4096 < tupC (ordN q) p.n ∧ e = 3) ∨ ((IsGrp p ∧ IsGrp q) ∧ tupC (ordN q) p.n ≤ 4096 ∧ e = 0)) ∧ Ext w w') := by
    intro w vp vq lo hi lo1 hi1 hp hq
    replace hp := hp.wide
    replace hq := hq.wide
    obtain ⟨vo, vpw, vc, ps, cs, css, rfl, h1, h2, h3⟩ := hp.ex
    obtain ⟨uo, upw, uc, qs, ds, dss, rfl, k1, k2, k3⟩ := hq.ex
    refine enter (args := [.agg #[vo, vpw, vc], .agg #[uo, upw, uc]]) (l := [.tmp 4]) Try.func58 rfl rfl Try.ntmps58 (by simp) ?_
    refine go ?_
    refine st_box3 (by ((try simp only [ev_tmp, ev_const, ev_func, get_put, get_args, get_putL, get_putL_nil, Nat.reduceEqDiff, reduceIte, List.getD_cons_zero, List.getD_cons_succ, List.getD_nil]); first | done | with_reducible rfl)) (by first | exact True.intro | exact ⟨_, rfl, by ((try simp only [ev_tmp, ev_const, ev_func, get_put, get_args, get_putL, get_putL_nil, Nat.reduceEqDiff, reduceIte, List.getD_cons_zero, List.getD_cons_succ, List.getD_nil, Bool.not_true, Bool.not_false]); first | done | with_reducible rfl)⟩) fun w0 b0 he0 hb0 hs0 ha0 ha1 ha2 => ?_
    refine go ?_
    refine st_box3 (by ((try simp only [ev_tmp, ev_const, ev_func, get_put, get_args, get_putL, get_putL_nil, Nat.reduceEqDiff, reduceIte, List.getD_cons_zero, List.getD_cons_succ, List.getD_nil]); first | done | with_reducible rfl)) (by first | exact True.intro | exact ⟨_, rfl, by ((try simp only [ev_tmp, ev_const, ev_func, get_put, get_args, get_putL, get_putL_nil, Nat.reduceEqDiff, reduceIte, List.getD_cons_zero, List.getD_cons_succ, List.getD_nil, Bool.not_true, Bool.not_false]); first | done | with_reducible rfl)⟩) fun w1 b he1 hb1 hs1 hc0 hc1 hc2 => ?_
    have hE1 := he0.trans he1
    refine go ?_
    refine rc (l08Group_ok (p := p) hl) (next := fun v5 w5 h5 => ?_)
    obtain ⟨b5, rfl, hb5, he5⟩ := h5
    have hE5 := hE1.trans he5
    refine ra (next := ?_)
    refine ra (next := ?_)
    refine sp (fun e5 => ?_) (fun e5 => ?_)
    · have e5' : b5 = false := by simpa using e5
      refine go ?_
      refine ret1 ⟨1, rfl, .inl ⟨fun h => ?_, rfl⟩, hE5⟩
      rw [hb5.2 h.1] at e5'; cases e5'
    have hG := hb5.1 (by simpa using e5)
    refine go ?_
    refine rc (l08Group_ok (p := q) hlq) (next := fun v6 w6 h6 => ?_)
    obtain ⟨b6, rfl, hb6, he6⟩ := h6
    have hE6 := hE5.trans he6
    refine go ?_
    refine c_b (fun e6 => ?_) (fun e6 => ?_)
    · refine go ?_
      refine ret1 ⟨1, rfl, .inl ⟨fun h => ?_, rfl⟩, hE6⟩
      rw [hb6.2 h.2] at e6; cases e6
    have hGq := hb6.1 (by simpa using e6)
    haveI : ConAll q := ⟨hGq.con⟩
    refine go ?_
    refine rc (l16Tuples_ok (p := p) (q := q) hG.valid) (next := fun v7 w7 h7 => ?_)
    obtain ⟨rfl, he7⟩ := h7
    refine go ?_
    refine c_if (fun h8 => ?_) (fun h8 => ?_)
    · refine go ?_
      exact ret1 ⟨3, rfl, .inr (.inl ⟨⟨hG, hGq⟩, by omega, rfl⟩), hE6.trans he7⟩
    · refine go ?_
      exact ret1 ⟨0, rfl, .inr (.inr ⟨⟨hG, hGq⟩, by omega, rfl⟩), hE6.trans he7⟩
  replace hp := hp.wide
  replace hq := hq.wide
  obtain ⟨vo, vpw, vc, ps, cs, css, rfl, h1, h2, h3⟩ := hp.ex
  obtain ⟨uo, upw, uc, qs, ds, dss, rfl, k1, k2, k3⟩ := hq.ex
  refine enter (args := [.agg #[vo, vpw, vc], .agg #[uo, upw, uc]]) (l := [.tmp 4, .tmp 5]) Try.func36 rfl rfl Try.ntmps36 (by simp) ?_
  refine go ?_
  refine st_box3 (by ((try simp only [ev_tmp, ev_const, ev_func, get_put, get_args, get_putL, get_putL_nil, Nat.reduceEqDiff, reduceIte, List.getD_cons_zero, List.getD_cons_succ, List.getD_nil]); first | done | with_reducible rfl)) (by first | exact True.intro | exact ⟨_, rfl, by ((try simp only [ev_tmp, ev_const, ev_func, get_put, get_args, get_putL, get_putL_nil, Nat.reduceEqDiff, reduceIte, List.getD_cons_zero, List.getD_cons_succ, List.getD_nil, Bool.not_true, Bool.not_false]); first | done | with_reducible rfl)⟩) fun w0 b0 he0 hb0 hs0 ha0 ha1 ha2 => ?_
  refine go ?_
  refine st_box3 (by ((try simp only [ev_tmp, ev_const, ev_func, get_put, get_args, get_putL, get_putL_nil, Nat.reduceEqDiff, reduceIte, List.getD_cons_zero, List.getD_cons_succ, List.getD_nil]); first | done | with_reducible rfl)) (by first | exact True.intro | exact ⟨_, rfl, by ((try simp only [ev_tmp, ev_const, ev_func, get_put, get_args, get_putL, get_putL_nil, Nat.reduceEqDiff, reduceIte, List.getD_cons_zero, List.getD_cons_succ, List.getD_nil, Bool.not_true, Bool.not_false]); first | done | with_reducible rfl)⟩) fun w1 b he1 hb1 hs1 hc0 hc1 hc2 => ?_
  have hE1 := he0.trans he1
  refine go ?_
  refine rc hcode (next := fun v5 w5 h5 => ?_)
  obtain ⟨e5, rfl, hc5, he5⟩ := h5
  have hE5 := hE1.trans he5
  refine go ?_
  refine c_if (fun h6 => ?_) (fun h6 => ?_)
  · refine go ?_
    rcases hc5 with ⟨h7, rfl⟩ | ⟨h7, h8, rfl⟩ | ⟨h7, h8, rfl⟩
    · exact ret2 ⟨0, 1, rfl, .inr ⟨h7, rfl, rfl⟩, hE5⟩
    · exact ret2 ⟨0, 3, rfl, .inl ⟨h7, ⟨h7.2.con⟩, .inl ⟨h8, rfl, rfl⟩⟩, hE5⟩
    · exact absurd rfl h6
  obtain ⟨hGG, hN⟩ : (IsGrp p ∧ IsGrp q) ∧ tupC (ordN q) p.n ≤ 4096 := by
    rcases hc5 with ⟨_, rfl⟩ | ⟨_, _, rfl⟩ | ⟨h7, h8, _⟩
    · exact absurd (by decide) h6
    · exact absurd (by decide) h6
    · exact ⟨h7, h8⟩
  obtain ⟨hG, hGq⟩ := hGG
  haveI : ConAll q := ⟨hGq.con⟩
  have hn6 := hG.valid.n6
  refine go ?_
  refine r_for (tupC (ordN q) p.n) (fun k ρ w' => Has ρ [(2, .pointer (some ⟨b0, 0, none⟩)), (3, .pointer (some ⟨b, 0, none⟩)), (7, .int .i64 (cntH p q k : Nat)), (8, .int .i64 k)] ∧ Ext w5 w') ?_ ?_
  · refine ⟨?_, Ext.refl _⟩
    exact hasP
  rintro k ρ w6 hk ⟨hH, he6⟩
  refine rwp_has hH fun ρ0 => ?_
  have hE6 := hE5.trans he6
  have hck := cntH_le (q := q) p k
  refine go ?_
  refine rc (l16Tuples_ok (p := p) (q := q) hG.valid) (next := fun v7 w7 h7 => ?_)
  obtain ⟨rfl, he7⟩ := h7
  have hE7 := hE6.trans he7
  refine go ?_
  refine c_if (fun h8 => ?_) (fun h8 => ?_)
  · refine go ?_
    refine d_region fun w8 he8 _ => ?_
    refine dgo ?_
    refine dce (l16Tuple_ok (q := q) (n := p.n) (t := k) (by omega) (by omega)) (next := fun v9 w9 h9 => ?_)
    obtain ⟨he9, us9, hR9⟩ := h9
    refine dce (l16Relators_ok (p := p) (q := q) hG.valid (ys := tupE q p.n k) (tupE_len _ _) rfl) (next := fun v10 w10 h10 => ?_)
    obtain ⟨b10, rfl, hb10, he10⟩ := h10
    refine dgo ?_
    refine d_end (h := ?_)
    have hx := he6.trans (((he7.trans he8).trans he9).trans he10)
    refine go ?_
    refine c_b (fun h11 => ?_) (fun h11 => ?_)
    · have hst := cntH_yes (hb10.1 h11)
      refine go ?_
      refine forQ_normal (by omega) ⟨?_, hx⟩
      rw [hst]
      exact hasP
    · have hst : cntH p q (k + 1) = cntH p q k := cntH_no fun h => by rw [hb10.2 h] at h11; cases h11
      refine go ?_
      refine forQ_normal (by omega) ⟨?_, hx⟩
      rw [hst]
      exact hasP
  · obtain rfl : k = tupC (ordN q) p.n := by omega
    refine go ?_
    exact ret2 ⟨_, 0, rfl, .inl ⟨⟨hG, hGq⟩, inferInstance, .inr ⟨hN, rfl, rfl⟩⟩, hE7⟩
end Go.Proofs.Ytnphljflkpekmaa

/-
  Walks: the reference's presentation of a subgroup (l15Sub).
  Conditions: stated at each theorem.
-/
namespace Go.Proofs.Ytnphljflkpekmaa
open Go Go.Pc
end Go.Proofs.Ytnphljflkpekmaa

/-
  Walks: the reference's ProjectElement.
  Conditions: stated at each theorem.
-/
namespace Go.Proofs.Ytnphljflkpekmaa
open Go Go.Pc
end Go.Proofs.Ytnphljflkpekmaa

/-
  Walks: the reference's presentation of a quotient (l15Quo), SubgroupPresentation, QuotientPresentation.
  Conditions: stated at each theorem.
-/
namespace Go.Proofs.Ytnphljflkpekmaa
open Go Go.Pc
end Go.Proofs.Ytnphljflkpekmaa

/-
  Walks: the reference's SubgroupPresentation, QuotientPresentation.
  Conditions: stated at each theorem.
-/
namespace Go.Proofs.Ytnphljflkpekmaa
open Go Go.Pc
end Go.Proofs.Ytnphljflkpekmaa

/-
  Walks: the reference's copy of a presentation (l07Own).
  Conditions: stated at each theorem.
-/
namespace Go.Proofs.Ytnphljflkpekmaa
open Go Go.Pc
set_option maxHeartbeats 8000000 in
theorem l07Own_ok {p : Pr} {w : World} {vp : Value} {lo hi : Nat} [hp : Pres lo hi w vp p] (hsz : SizeP p 6) :
    Calls Try.prog 64 #[vp] w (Ret fun v w' => Ext w w' ∧ PresO w.heap.size w'.heap.size w' v p) := by
  have hol := hsz.ord
  have hpl := hsz.pow
  have hcl := hsz.cnj
  replace hp := hp.wide
  obtain ⟨vo, vpw, vc, ps, cs, css, rfl, h1, h2, h3⟩ := hp.ex
  refine enter (args := [.agg #[vo, vpw, vc]]) (l := [.cell 2 29]) Try.func64 rfl rfl Try.ntmps64 (by simp) ?_
  refine go ?_
  refine st_box3 (by ((try simp only [ev_tmp, ev_const, ev_func, get_put, get_args, get_putL, get_putL_nil, Nat.reduceEqDiff, reduceIte, List.getD_cons_zero, List.getD_cons_succ, List.getD_nil]); first | done | with_reducible rfl)) (by first | exact True.intro | exact ⟨_, rfl, by ((try simp only [ev_tmp, ev_const, ev_func, get_put, get_args, get_putL, get_putL_nil, Nat.reduceEqDiff, reduceIte, List.getD_cons_zero, List.getD_cons_succ, List.getD_nil, Bool.not_true, Bool.not_false]); first | done | with_reducible rfl)⟩) fun w1 b he1 hb1 hs1 hc0 hc1 hc2 => ?_
  have hz1 := he1.size
  refine go ?_
  refine st_alloc (by first | exact True.intro | exact ⟨_, rfl, by ((try simp only [ev_tmp, ev_const, ev_func, get_put, get_args, get_putL, get_putL_nil, Nat.reduceEqDiff, reduceIte, List.getD_cons_zero, List.getD_cons_succ, List.getD_nil, Bool.not_true, Bool.not_false]); first | done | with_reducible rfl)⟩) fun w2 br he2 hbr hs2 hbk2 => ?_
  have hz2 := he2.size
  refine go ?_
  refine d_post (fun ρ' w' => ∃ vo' vp' rp bq m1, Has ρ' [(1, .pointer (some ⟨b, 0, none⟩)), (2, .pointer (some ⟨br, 0, none⟩)), (3, .pointer (some ⟨bq, 0, none⟩))] ∧ Ext w2 w' ∧ Blk w' bq [vo', vp', nilv] ∧ Hd 22 w2.heap.size m1 w'.heap.size bq w' vo' p.ord vp' rp ∧ rp.map (·.2) = p.pow ∧ w2.heap.size ≤ bq ∧ bq < w'.heap.size) ?_ ?_
  · refine d_order [0, 1, 3, 4, 2, 5, 6, 7, 8] (h := fun w3 he3 hs3 => ?_)
    refine dgo ?_
    refine dt_fork (π' := [0, 1, 3, 4, 7, 2, 5, 6, 8]) (by decide) rfl rfl (by decide +kernel) ?_ ?_
    · refine ds_call (l01Own_ok (xs := p.ord) (by omega)) (next := fun v4 w4 h4 => ?_)
      obtain ⟨he4, hf4⟩ := h4
      have hz4 := he4.size
      refine dt_fork (π' := [0, 1, 3, 4, 2, 7, 5, 6, 8]) (by decide) rfl rfl (by decide +kernel) ?_ ?_
      · refine ds_call (l01Own2G_ok (xss := p.pow) (fun i => by have := hsz.powi i; omega) (by omega)) (next := fun v5 w5 h5 => ?_)
        obtain ⟨he5, rs5, hG5, hrs5⟩ := h5
        have hz5 := he5.size
        refine da (v := .agg #[v4, v5, nilv]) (h := ⟨fun _ _ => rd_build (by simp only [ev_tmp, ev_const, ev_func, get_put, get_args, get_putL, get_putL_nil, Nat.reduceEqDiff, reduceIte, List.getD_cons_zero, List.getD_cons_succ, List.getD_nil, List.map_toArray, List.map_cons, List.map_nil]; rfl) (fun _ => ?_)⟩) (next := ?_)
        · obtain ⟨A, c, rfl, _⟩ := hf4.ints.sl.ex
          obtain ⟨A', c', rfl, _⟩ := hG5.lst.own.toSl.ex
          kernel_rfl
        refine d_alloc (next := fun w6 bq he6 hbq hs6 hbk6 => ?_)
        refine d_store_agg (vs := [v4, v5, nilv]) (cs := _) hbk6 (by omega) rfl rfl (by simp [hf4.ints.sl.one, hG5.lst.own.toSl.one]; rfl) (next := fun w7 hc7 hs7 hb7 => ?_)
        refine d_end (h := ?_)
        refine ⟨rfl, v4, v5, rs5, bq, w4.heap.size, ?_, hc7.ext (((he3.trans he4).trans he5).trans he6) (by omega), hb7, ?_, hrs5, by omega, by omega⟩
        · exact hasP
        · rw [hs7]
          exact (Hd.of hf4 (by omega) (by omega) (Nat.le_refl _) hG5 (he5.trans he6) he6 (by omega) (by omega)).wr (.one (B := fun g => g = bq) rfl hc7) (fun g hg => .inl hg)
      · refine ds_alloc (next := fun w6 bq he6 hbq hs6 hbk6 => ?_)
        refine dce (l01Own2G_ok (xss := p.pow) (fun i => by have := hsz.powi i; omega) (by omega)) (next := fun v5 w5 h5 => ?_)
        obtain ⟨he5, rs5, hG5, hrs5⟩ := h5
        have hz5 := he5.size
        refine da (v := .agg #[v4, v5, nilv]) (h := ⟨fun _ _ => rd_build (by simp only [ev_tmp, ev_const, ev_func, get_put, get_args, get_putL, get_putL_nil, Nat.reduceEqDiff, reduceIte, List.getD_cons_zero, List.getD_cons_succ, List.getD_nil, List.map_toArray, List.map_cons, List.map_nil]; rfl) (fun _ => ?_)⟩) (next := ?_)
        · obtain ⟨A, c, rfl, _⟩ := hf4.ints.sl.ex
          obtain ⟨A', c', rfl, _⟩ := hG5.lst.own.toSl.ex
          kernel_rfl
        have hbk5 : Blk w5 bq _ := @Blk.ext _ _ _ _ he5 hbk6
        refine d_store_agg (vs := [v4, v5, nilv]) (cs := _) hbk5 (by omega) rfl rfl (by simp [hf4.ints.sl.one, hG5.lst.own.toSl.one]; rfl) (next := fun w7 hc7 hs7 hb7 => ?_)
        refine d_end (h := ?_)
        refine ⟨rfl, v4, v5, rs5, bq, w6.heap.size, ?_, hc7.ext (((he3.trans he4).trans he6).trans he5) (by omega), hb7, ?_, hrs5, by omega, by omega⟩
        · exact hasP
        · rw [hs7]
          exact (Hd.of hf4 (by omega) (by omega) (by omega) hG5 (he6.trans he5) (Ext.refl _) (by omega) (by omega)).wr (.one (B := fun g => g = bq) rfl hc7) (fun g hg => .inl hg)
    · refine ds_alloc (next := fun w6 bq he6 hbq hs6 hbk6 => ?_)
      refine dce (l01Own_ok (xs := p.ord) (by omega)) (next := fun v4 w4 h4 => ?_)
      obtain ⟨he4, hf4⟩ := h4
      have hz4 := he4.size
      refine dce (l01Own2G_ok (xss := p.pow) (fun i => by have := hsz.powi i; omega) (by omega)) (next := fun v5 w5 h5 => ?_)
      obtain ⟨he5, rs5, hG5, hrs5⟩ := h5
      have hz5 := he5.size
      refine da (v := .agg #[v4, v5, nilv]) (h := ⟨fun _ _ => rd_build (by simp only [ev_tmp, ev_const, ev_func, get_put, get_args, get_putL, get_putL_nil, Nat.reduceEqDiff, reduceIte, List.getD_cons_zero, List.getD_cons_succ, List.getD_nil, List.map_toArray, List.map_cons, List.map_nil]; rfl) (fun _ => ?_)⟩) (next := ?_)
      · obtain ⟨A, c, rfl, _⟩ := hf4.ints.sl.ex
        obtain ⟨A', c', rfl, _⟩ := hG5.lst.own.toSl.ex
        kernel_rfl
      have hbk5 : Blk w5 bq _ := @Blk.ext _ _ _ _ (he4.trans he5) hbk6
      refine d_store_agg (vs := [v4, v5, nilv]) (cs := _) hbk5 (by omega) rfl rfl (by simp [hf4.ints.sl.one, hG5.lst.own.toSl.one]; rfl) (next := fun w7 hc7 hs7 hb7 => ?_)
      refine d_end (h := ?_)
      refine ⟨rfl, v4, v5, rs5, bq, w4.heap.size, ?_, hc7.ext (((he3.trans he6).trans he4).trans he5) (by omega), hb7, ?_, hrs5, by omega, by omega⟩
      · exact hasP
      · rw [hs7]
        exact (Hd.of hf4 (by omega) (by omega) (Nat.le_refl _) hG5 he5 (Ext.refl _) (by omega) (by omega)).wr (.one (B := fun g => g = bq) rfl hc7) (fun g hg => .inl hg)
  rintro ρ' w3 ⟨vo', vp', rp, bq, m1, hH, he3, hb3, hD3, hrp, hbq1, hbq2⟩
  refine thn_normal (rwp_has hH fun ρ0 => ?_)
  have hz3 := he3.size
  have hE2 := he1.trans he2
  refine go ?_
  refine r_for p.cnj.length (fun i ρ w' => ∃ vc' gs, Has ρ [(1, .pointer (some ⟨b, 0, none⟩)), (2, .pointer (some ⟨br, 0, none⟩)), (3, .pointer (some ⟨bq, 0, none⟩)), (4, .int .i64 i)] ∧ Ext w2 w' ∧ Blk w' bq [vo', vp', vc'] ∧ Hd 22 w2.heap.size m1 w3.heap.size bq w' vo' p.ord vp' rp ∧ GrC 23 22 w3.heap.size w' vc' gs ∧ w3.heap.size ≤ w'.heap.size ∧ (gs.map fun q => q.2.map (·.2)) = p.cnj.take i) ?_ ?_
  · refine ⟨nilv, [], ?_, he3, hb3, hD3, GrC.nil _ _ _ _, Nat.le_refl _, rfl⟩
    exact hasP
  clear hb3 hD3
  rintro i ρ w4 hi ⟨vc4, gs, hH, he4, hb4, hD4, hC4, hz4, hgs⟩
  refine rwp_has hH fun ρ0 => ?_
  have hgl : gs.length = i := by have := congrArg List.length hgs; simp at this; omega
  refine go ?_
  refine c_if (fun h4 => ?_) (fun h4 => ?_)
  · have hin : i < p.cnj.length := by omega
    obtain ⟨b', hb', hvb'⟩ := own_some' vc4 w3.heap.size w4.heap.size hz4 (fun g h => (hC4.own.lt g h).1)
    have ap1 : Apart 0 w.heap.size b' := ⟨.inr (by omega)⟩
    have ap2 : Apart b (b + 1) b' := ⟨.inr (by omega)⟩
    have ap3 : Apart bq (bq + 1) b' := ⟨.inr (by omega)⟩
    have k2 : Cell w4 bq 2 vc4 := hb4.cell rfl
    refine go ?_
    refine z_order b' (List.range 12) (h := fun w5 he5 _ => ?_)
    refine zgo ?_
    refine zc (l01Own2G_ok (xss := p.cnj.getD i []) (fun j => by have := hsz.cnjij i j; omega) (by have := hsz.cnji i; omega)) (next := fun v6 w6 h6 => ?_)
    obtain ⟨he6, rs6, hG6, hrs6⟩ := h6
    have hx := he5.trans he6
    have hzx := hx.size
    have hL6 : GrL 22 w4.heap.size w6 v6 rs6 := by
      have h := GrL.of hG6
      exact ⟨h.own.mono (by have := he5.size; omega), h.rows.mono (by have := he5.size; omega), h.off⟩
    have hO6 : OwnN 23 w3.heap.size w6 vc4 _ := @OwnN.ext _ _ _ _ _ _ hx hC4.own
    have hb6 : Blk w6 bq [vo', vp', vc4] := @Blk.ext _ _ _ _ hx hb4
    have hlt : ∀ g, vc4.ownBlock = some g → w3.heap.size ≤ g := fun g hg => (hC4.own.lt g hg).1
    clear k2
    refine z_growu (sb := w3.heap.size) hO6 hG6.lst.own.toSl.cells hG6.lst.own.toSl.one (by omega) (by rw [List.length_map]; omega) hvb' (next := fun v7 v8 w8 hO8 hx8 hz8 hst8 => ?_)
    have hb8 : Blk w8 bq [vo', vp', vc4] := Blk.gstep hb6 hst8 (fun g hg => by have := hlt g hg; omega)
    refine zgo ?_
    refine z_stfld (bo := bq) (m := 2) (cs := [vo', vp', vc4]) hb8 hO8.toSl.one (by simp) (next := fun w9 hc9 hs9 hb9 => ?_)
    have hC9 := hC4.field hz4 hx hL6 hO8 hst8 hc9 (by omega)
    have hD9 := (((hD4.ext hx).wr hst8.wrt (fun g hg => .inr (hlt g hg))).wr (.one (B := fun g => g = bq) rfl hc9) (fun g hg => .inl hg))
    have hE9 : Ext w2 w9 := hc9.ext (hx8 w2 (he4.trans hx) (by omega)) (by omega)
    refine go ?_
    refine forQ_normal (by omega) ⟨v8, _, ?_, hE9, hb9, hD9, hC9, by omega, ?_⟩
    · exact hasP
    · rw [List.take_succ_eq_append_getElem hin, List.map_append, hgs]
      simp only [List.map_cons, List.map_nil, hrs6]
      simp [hin]
  · obtain rfl : i = p.cnj.length := by omega
    rw [List.take_length] at hgs
    have hbr4 : Blk w4 br _ := @Blk.ext _ _ _ _ he4 hbk2
    have hP := (show Hd 22 w2.heap.size m1 w3.heap.size bq w4 vo' p.ord vp' rp from hD4).presO hC4
    rw [hrp, hgs] at hP
    have o3 := hP.pres.one3
    refine go ?_
    refine ra (v := .agg #[vo', vp', vc4]) (h := rd_load_blk (hb := hb4) (by ((try simp only [ev_tmp, ev_const, ev_func, get_put, get_args, get_putL, get_putL_nil, Nat.reduceEqDiff, reduceIte, List.getD_cons_zero, List.getD_cons_succ, List.getD_nil]); first | done | with_reducible rfl)) rfl) (next := ?_)
    refine st_store_agg (vs := [vo', vp', vc4]) (cs := _) (hb := hbr4) (by ((try simp only [ev_tmp, ev_const, ev_func, get_put, get_args, get_putL, get_putL_nil, Nat.reduceEqDiff, reduceIte, List.getD_cons_zero, List.getD_cons_succ, List.getD_nil]); first | done | with_reducible rfl)) (by ((try simp only [ev_tmp, ev_const, ev_func, get_put, get_args, get_putL, get_putL_nil, Nat.reduceEqDiff, reduceIte, List.getD_cons_zero, List.getD_cons_succ, List.getD_nil]); first | done | with_reducible rfl)) rfl ?_ ?_ (by first | exact True.intro | exact ⟨_, rfl, by ((try simp only [ev_tmp, ev_const, ev_func, get_put, get_args, get_putL, get_putL_nil, Nat.reduceEqDiff, reduceIte, List.getD_cons_zero, List.getD_cons_succ, List.getD_nil, Bool.not_true, Bool.not_false]); first | done | with_reducible rfl)⟩) fun w7 hc7 hs7 hb7 => ?_
    · rfl
    · simp [o3.1, o3.2.1, o3.2.2]
    refine go ?_
    have hE7 : Ext w w7 := hc7.ext (hE2.trans he4) (by omega)
    refine retc (b := br) (hb := hb7) ⟨hE7, ?_⟩ rfl
    have hP7 := hP.wr (.one (B := fun g => g = br) rfl hc7) (fun g hg => .inl (by omega))
    rw [hs7]
    exact hP7.sub (by omega) (Nat.le_refl _)
set_option maxHeartbeats 4000000 in
theorem l16Make_ok {p q : Pr} {w : World} {vp vq vx : Value} {us : List Value} {xss : List (List Int)} {lo hi lo1 hi1 lo2 hi2 : Nat} [hp : Pres lo hi w vp p] [hq : Pres lo1 hi1 w vq q] [hx : Pc.Rows lo2 hi2 w vx us xss] (hsp : SizeP p 6) (hsq : SizeP q 6) (hxl : xss.length ≤ 1000000) (hxr : ∀ i, (xss.getD i []).length ≤ 2000000) :
    Calls Try.prog 40 #[vp, vq, vx] w (Ret fun v w' => Ext w w' ∧ HomV w.heap.size w'.heap.size w' v p q xss) := by
  replace hp := hp.wide
  replace hq := hq.wide
  replace hx := hx.wide
  obtain ⟨vo, vpw, vc, ps, cs, css, rfl, h1, h2, h3⟩ := hp.ex
  obtain ⟨uo, upw, uc, qs, ds, dss, rfl, k1, k2, k3⟩ := hq.ex
  refine enter (args := [.agg #[vo, vpw, vc], .agg #[uo, upw, uc], vx]) (l := [.cell 6 61]) Try.func40 rfl rfl Try.ntmps40 (by simp) ?_
  refine go ?_
  refine st_box3 (by ((try simp only [ev_tmp, ev_const, ev_func, get_put, get_args, get_putL, get_putL_nil, Nat.reduceEqDiff, reduceIte, List.getD_cons_zero, List.getD_cons_succ, List.getD_nil]); first | done | with_reducible rfl)) (by first | exact True.intro | exact ⟨_, rfl, by ((try simp only [ev_tmp, ev_const, ev_func, get_put, get_args, get_putL, get_putL_nil, Nat.reduceEqDiff, reduceIte, List.getD_cons_zero, List.getD_cons_succ, List.getD_nil, Bool.not_true, Bool.not_false]); first | done | with_reducible rfl)⟩) fun w0 b0 he0 hb0 hs0 ha0 ha1 ha2 => ?_
  refine go ?_
  refine st_box3 (by ((try simp only [ev_tmp, ev_const, ev_func, get_put, get_args, get_putL, get_putL_nil, Nat.reduceEqDiff, reduceIte, List.getD_cons_zero, List.getD_cons_succ, List.getD_nil]); first | done | with_reducible rfl)) (by first | exact True.intro | exact ⟨_, rfl, by ((try simp only [ev_tmp, ev_const, ev_func, get_put, get_args, get_putL, get_putL_nil, Nat.reduceEqDiff, reduceIte, List.getD_cons_zero, List.getD_cons_succ, List.getD_nil, Bool.not_true, Bool.not_false]); first | done | with_reducible rfl)⟩) fun w1 b he1 hb1 hs1 hc0 hc1 hc2 => ?_
  refine go ?_
  refine st_alloc (by first | exact True.intro | exact ⟨_, rfl, by ((try simp only [ev_tmp, ev_const, ev_func, get_put, get_args, get_putL, get_putL_nil, Nat.reduceEqDiff, reduceIte, List.getD_cons_zero, List.getD_cons_succ, List.getD_nil, Bool.not_true, Bool.not_false]); first | done | with_reducible rfl)⟩) fun w2 br he2 hbr hs2 hbk2 => ?_
  have hz0 := he0.size
  have hz1 := he1.size
  have hz2 := he2.size
  have hE2 := (he0.trans he1).trans he2
  have ap1 : Apart b0 (b0 + 1) br := ⟨.inr (by omega)⟩
  have ap2 : Apart b (b + 1) br := ⟨.inr (by omega)⟩
  refine go ?_
  refine z_order br [0, 2, 4, 1, 3, 5, 6, 7] (h := fun w3 he3 hs3 => ?_)
  refine zgo ?_
  refine zc (l07Own_ok (p := p) hsp) (next := fun v4 w4 h4 => ?_)
  obtain ⟨he4, hP4⟩ := h4
  refine zc (l07Own_ok (p := q) hsq) (next := fun v5 w5 h5 => ?_)
  obtain ⟨he5, hP5⟩ := h5
  refine zc (l01Own2G_ok (xss := xss) hxr hxl) (next := fun v6 w6 h6 => ?_)
  obtain ⟨he6, rs6, hG6, hrs6⟩ := h6
  have hz4 := he4.size
  have hz5 := he5.size
  have hz6 := he6.size
  obtain ⟨y0, y1, y2, rp4, gs4, rfl, _⟩ := hP4.ex
  obtain ⟨y3, y4, y5, rp5, gs5, rfl, _⟩ := hP5.ex
  have o1 := hP4.pres.one3
  have o2 := hP5.pres.one3
  have o3 := hG6.lst.own.toSl.one
  refine za (v := .agg #[y0, y1, y2, y3, y4, y5, v6]) (h := ⟨fun _ _ => rd_build (by simp only [ev_tmp, ev_const, ev_func, get_put, get_args, get_putL, get_putL_nil, Nat.reduceEqDiff, reduceIte, List.getD_cons_zero, List.getD_cons_succ, List.getD_nil, List.map_toArray, List.map_cons, List.map_nil]; rfl) (fun _ => ?_)⟩) (next := ?_)
  · obtain ⟨m0, m1⟩ := hP4.pres.ints3
    obtain ⟨ps', cs', css', m1, m2⟩ := m1
    obtain ⟨n0, n1⟩ := hP5.pres.ints3
    obtain ⟨qs', ds', dss', n1, n2⟩ := n1
    obtain ⟨A0, c0, rfl, _⟩ := m0.sl.ex
    obtain ⟨A1, c1, rfl, _⟩ := m1.sl.ex
    obtain ⟨A2, c2, rfl, _⟩ := m2.sl.ex
    obtain ⟨A3, c3, rfl, _⟩ := n0.sl.ex
    obtain ⟨A4, c4, rfl, _⟩ := n1.sl.ex
    obtain ⟨A5, c5, rfl, _⟩ := n2.sl.ex
    obtain ⟨A6, c6, rfl, _⟩ := hG6.lst.own.toSl.ex
    kernel_rfl
  have hE36 := (he4.trans he5).trans he6
  have hbk6 : Blk w6 br _ := @Blk.ext _ _ _ _ (he3.trans hE36) hbk2
  refine z_store_agg (vs := [y0, y1, y2, y3, y4, y5, v6]) (cs := _) hbk6 rfl rfl (by simp [o1.1, o1.2.1, o1.2.2, o2.1, o2.2.1, o2.2.2, o3]) (next := fun w7 hc7 hs7 hb7 => ?_)
  refine z_end ?_
  have hE7 : Ext w w7 := hc7.ext ((hE2.trans he3).trans hE36) (by omega)
  have hP4' := ((hP4.wr (.ofExt (B := fun b => b < w3.heap.size ∨ w4.heap.size ≤ b) (he5.trans he6)) (fun g hg => hg)).wr (.one (B := fun g => g = br) rfl hc7) (fun g hg => .inl (by omega))).pres
  have hP5' := ((hP5.wr (.ofExt (B := fun b => b < w4.heap.size ∨ w5.heap.size ≤ b) he6) (fun g hg => hg)).wr (.one (B := fun g => g = br) rfl hc7) (fun g hg => .inl (by omega))).pres
  have hR6 := hG6.mat.rows.same (hc7.same (.inl (by omega)))
  rw [hrs6] at hR6
  refine go ?_
  refine retc (b := br) (hb := hb7) ⟨hE7, ⟨y0, y1, y2, y3, y4, y5, v6, _, rfl, hP4'.mono (by omega) (by omega), hP5'.mono (by omega) (by omega), hR6.mono (by omega) (by omega)⟩⟩ rfl
end Go.Proofs.Ytnphljflkpekmaa
