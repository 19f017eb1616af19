/-
  Texts of one proof, put together by program: W25, W26, W29, Fun, I03, I08d, I08e, I12e, I14, I16, I19, I15, I13, I17, I18, I20, I23, I25, I26, I29, L01, L02, L03.
  Conditions: those told at each part.
-/
import Derived.Test.YtgomfjhhfmhlgaaB4
set_option linter.unusedVariables false
set_option linter.unusedSimpArgs false
set_option linter.unusedSectionVars false
set_option linter.constructorNameAsVariable false
set_option linter.unnecessarySimpa false
set_option linter.deprecated false
/-
  Walks: the reference's derived and lower central series; NilpotencyClass.
  Conditions: stated at each theorem.
-/
namespace Go.Proofs.Ytgomfjhhfmhlgaa
open Go Go.Pc
theorem _root_.Go.Pc.Rowss.lower {lo lo' hi : Nat} {w : World} {v : Value} {us : List Value} {uss : List (List Value)} {xsss : List (List (List Int))} (h : Rowss lo hi w v us uss xsss) (hs : lo' ≤ lo) : Rowss lo' hi w v us uss xsss :=
  ⟨h.sl.mono hs (Nat.le_refl _), h.vals.len, h.vals.len', fun i => (h.vals.at_ i).mono hs (Nat.le_refl _)⟩
set_option maxHeartbeats 4000000 in
theorem l17Lower_ok {p : Pr} [hc : ConAll p] {w : World} {vp : Value} {lo hi : Nat} [hp : Pres lo hi w vp p] :
    Calls Try.prog 62 #[vp] w (Ret fun v w' => Ext w w' ∧ ∃ K us uss, SerR (lowF (p := p)) (gensL p) K ∧ Rowss w.heap.size w'.heap.size w' v us uss ((List.range (K + 1)).map fun j => vecs (itL (lowF (p := p)) (gensL p) j))) := by
  have hn6 := hc.valid.n6
  have hgl := gensL_len p
  have hS := serOk_low (p := p)
  obtain ⟨vo, vpw, vc, ps, cs, css, rfl, h1, h2, h3⟩ := hp.ex
  refine enter (args := [.agg #[vo, vpw, vc]]) (l := [.tmp 2]) Try.func62 rfl rfl Try.ntmps62 (by simp) ?_
  refine go ?_
  refine st_box3 (by ((try simp only [ev_tmp, ev_const, ev_func, get_put, get_args, get_putL, get_putL_nil, Nat.reduceEqDiff, reduceIte, List.getD_cons_zero, List.getD_cons_succ, List.getD_nil]); first | done | with_reducible rfl)) (by first | exact True.intro | exact ⟨_, rfl, by ((try simp only [ev_tmp, ev_const, ev_func, get_put, get_args, get_putL, get_putL_nil, Nat.reduceEqDiff, reduceIte, List.getD_cons_zero, List.getD_cons_succ, List.getD_nil, Bool.not_true, Bool.not_false]); first | done | with_reducible rfl)⟩) fun w0 b he0 hb0 hs0 hc0 hc1 hc2 => ?_
  have hz0 := he0.size
  refine go ?_
  refine rc (l12Whole_ok (p := p)) (next := fun v2 w2 h2 => ?_)
  obtain ⟨he2, us2, hR2⟩ := h2
  have hz2 := he2.size
  refine go ?_
  refine st_slice1o (u := v2) (by ((try simp only [ev_tmp, ev_const, ev_func, get_put, get_args, get_putL, get_putL_nil, Nat.reduceEqDiff, reduceIte, List.getD_cons_zero, List.getD_cons_succ, List.getD_nil]); first | done | with_reducible rfl)) ?_ ?_ (by first | exact True.intro | exact ⟨_, rfl, by ((try simp only [ev_tmp, ev_const, ev_func, get_put, get_args, get_putL, get_putL_nil, Nat.reduceEqDiff, reduceIte, List.getD_cons_zero, List.getD_cons_succ, List.getD_nil, Bool.not_true, Bool.not_false]); first | done | with_reducible rfl)⟩) fun w3 v3 he3 hs3 ho3 => ?_
  · exact hR2.sl.cells
  · rfl
  have hE2 := he0.trans he2
  have hG3 := GrowV.one (sb := w2.heap.size) (s := w0.heap.size) ho3 rfl (Nat.le_refl _) hR2 hz2 he3
  refine go ?_
  refine r_for p.n (fun j ρ w' => ∃ vl us uss, Has ρ [(1, .pointer (some ⟨b, 0, none⟩)), (3, v2), (4, vl)] ∧ Ext w2 w' ∧ GrowV 23 w2.heap.size w0.heap.size w' vl us uss ((List.range (j + 1)).map fun i => vecs (itL (lowF (p := p)) (gensL p) i)) ∧ ∀ i, i < j → itL (lowF (p := p)) (gensL p) (i + 1) ≠ itL (lowF (p := p)) (gensL p) i) ?_ ?_
  · refine ⟨v3, _, _, ?_, he3, hG3, fun i hi => by omega⟩
    exact hasP
  clear hG3
  rintro j ρ w4 hj ⟨vl, us, uss, hH, he4, hG4, hne⟩
  refine rwp_has hH fun ρ0 => ?_
  have hz4 := he4.size
  have hul : us.length = j + 1 := by have := hG4.len; simpa using this
  have hRs := hG4.rowss hz2 (by omega)
  have hix : ((List.range (j + 1)).map (fun i => vecs (itL (lowF (p := p)) (gensL p) i))).length - 1 = j := by simp
  have hlen : ((List.range (j + 1)).map (fun i => vecs (itL (lowF (p := p)) (gensL p) i))).length = j + 1 := by simp
  have hgj : ((List.range (j + 1)).map (fun i => vecs (itL (lowF (p := p)) (gensL p) i))).getD j [] = vecs (itL (lowF (p := p)) (gensL p) j) := by simp [List.getD_eq_getElem?_getD]
  have hsl := (hS.seq j).len
  have hE4 := hE2.trans he4
  have hRj : Pc.Rows w0.heap.size w4.heap.size w4 (Pc.rowAt vl us j) (uss.getD j []) (((List.range (j + 1)).map (fun i => vecs (itL (lowF (p := p)) (gensL p) i))).getD j []) := hRs.vals.at_ j
  have hvl : (vecs (itL (lowF (p := p)) (gensL p) j)).length = (itL (lowF (p := p)) (gensL p) j).length := by simp
  refine go ?_
  rw [hix]
  refine go ?_
  refine rc (l13Comm_ok (p := p) (ys := itL (lowF (p := p)) (gensL p) j) (zs := gensL p) (by omega) (by omega) hgj rfl) (next := fun v5 w5 h5 => ?_)
  obtain ⟨he5, us5, hR5⟩ := h5
  rw [lowF_vecs] at hR5
  have hz5 := he5.size
  have hRj5 : Pc.Rows w0.heap.size w4.heap.size w5 (Pc.rowAt vl us j) (uss.getD j []) (((List.range (j + 1)).map (fun i => vecs (itL (lowF (p := p)) (gensL p) i))).getD j []) := hRj.same (he5.same _ _)
  have hlen5 : Len w5 v5 (itL (lowF (p := p)) (gensL p) (j + 1)).length := by
    have h5 : Len w5 v5 (vecs (lowF (itL (lowF (p := p)) (gensL p) j))).length := inferInstance
    simpa [itL] using h5
  have hlenj : Len w5 (Pc.rowAt vl us j) (itL (lowF (p := p)) (gensL p) j).length := by
    have h5 : Len w5 (Pc.rowAt vl us j) (((List.range (j + 1)).map (fun i => vecs (itL (lowF (p := p)) (gensL p) i))).getD j []).length := inferInstance
    rw [hgj] at h5
    simpa using h5
  have hsl1 := (hS.seq (j + 1)).len
  refine go ?_
  refine c_if (fun h6 => ?_) (fun h6 => ?_)
  · have heq := (hS.eqv j).1 (by omega)
    refine go ?_
    exact ret1 ⟨hE4.trans he5, j, us, uss, ⟨heq, hne⟩, ((hG4.ext he5).rowss hz2 (by omega)).lower hz0⟩
  · have hnej : itL (lowF (p := p)) (gensL p) (j + 1) ≠ itL (lowF (p := p)) (gensL p) j := fun h => h6 (by rw [h])
    have hne' : ∀ i, i < j + 1 → itL (lowF (p := p)) (gensL p) (i + 1) ≠ itL (lowF (p := p)) (gensL p) i := fun i hi => by
      by_cases e : i = j
      · subst e; exact hnej
      · exact hne i (by omega)
    have hjn := hS.bd (j + 1) hne'
    clear hRs hRj hRj5
    refine go ?_
    refine st_growv hG4 he5 hR5 (by omega) hz4 (by omega) (next := fun v6 v7 w7 wm hG7 hx7 hz7 hxm hgm hvm => ?_)
    refine go ?_
    refine forQ_normal (by omega) ⟨v7, us ++ [v5], uss ++ [us5], ?_, hx7 w2 (he4.trans he5) (Nat.le_refl _), ?_, hne'⟩
    · exact hasP
    · rw [List.range_succ, List.map_append]; exact hG7
set_option maxHeartbeats 4000000 in
theorem l17Derived_ok {p : Pr} [hc : ConAll p] {w : World} {vp : Value} {lo hi : Nat} [hp : Pres lo hi w vp p] :
    Calls Try.prog 57 #[vp] w (Ret fun v w' => Ext w w' ∧ ∃ K us uss, SerR (derF (p := p)) (gensL p) K ∧ Rowss w.heap.size w'.heap.size w' v us uss ((List.range (K + 1)).map fun j => vecs (itL (derF (p := p)) (gensL p) j))) := by
  have hn6 := hc.valid.n6
  have hgl := gensL_len p
  have hS := serOk_der (p := p)
  obtain ⟨vo, vpw, vc, ps, cs, css, rfl, h1, h2, h3⟩ := hp.ex
  refine enter (args := [.agg #[vo, vpw, vc]]) (l := [.tmp 2]) Try.func57 rfl rfl Try.ntmps57 (by simp) ?_
  refine go ?_
  refine st_box3 (by ((try simp only [ev_tmp, ev_const, ev_func, get_put, get_args, get_putL, get_putL_nil, Nat.reduceEqDiff, reduceIte, List.getD_cons_zero, List.getD_cons_succ, List.getD_nil]); first | done | with_reducible rfl)) (by first | exact True.intro | exact ⟨_, rfl, by ((try simp only [ev_tmp, ev_const, ev_func, get_put, get_args, get_putL, get_putL_nil, Nat.reduceEqDiff, reduceIte, List.getD_cons_zero, List.getD_cons_succ, List.getD_nil, Bool.not_true, Bool.not_false]); first | done | with_reducible rfl)⟩) fun w0 b he0 hb0 hs0 hc0 hc1 hc2 => ?_
  have hz0 := he0.size
  refine go ?_
  refine rc (l12Whole_ok (p := p)) (next := fun v2 w2 h2 => ?_)
  obtain ⟨he2, us2, hR2⟩ := h2
  have hz2 := he2.size
  refine go ?_
  refine st_slice1o (u := v2) (by ((try simp only [ev_tmp, ev_const, ev_func, get_put, get_args, get_putL, get_putL_nil, Nat.reduceEqDiff, reduceIte, List.getD_cons_zero, List.getD_cons_succ, List.getD_nil]); first | done | with_reducible rfl)) ?_ ?_ (by first | exact True.intro | exact ⟨_, rfl, by ((try simp only [ev_tmp, ev_const, ev_func, get_put, get_args, get_putL, get_putL_nil, Nat.reduceEqDiff, reduceIte, List.getD_cons_zero, List.getD_cons_succ, List.getD_nil, Bool.not_true, Bool.not_false]); first | done | with_reducible rfl)⟩) fun w3 v3 he3 hs3 ho3 => ?_
  · exact hR2.sl.cells
  · rfl
  have hE2 := he0.trans he2
  have hG3 := GrowV.one (sb := w2.heap.size) (s := w0.heap.size) ho3 rfl (Nat.le_refl _) hR2 hz2 he3
  refine go ?_
  refine r_for p.n (fun j ρ w' => ∃ vl us uss, Has ρ [(1, .pointer (some ⟨b, 0, none⟩)), (3, vl)] ∧ Ext w2 w' ∧ GrowV 23 w2.heap.size w0.heap.size w' vl us uss ((List.range (j + 1)).map fun i => vecs (itL (derF (p := p)) (gensL p) i)) ∧ ∀ i, i < j → itL (derF (p := p)) (gensL p) (i + 1) ≠ itL (derF (p := p)) (gensL p) i) ?_ ?_
  · refine ⟨v3, _, _, ?_, he3, hG3, fun i hi => by omega⟩
    exact hasP
  clear hG3
  rintro j ρ w4 hj ⟨vl, us, uss, hH, he4, hG4, hne⟩
  refine rwp_has hH fun ρ0 => ?_
  have hz4 := he4.size
  have hul : us.length = j + 1 := by have := hG4.len; simpa using this
  have hRs := hG4.rowss hz2 (by omega)
  have hix : ((List.range (j + 1)).map (fun i => vecs (itL (derF (p := p)) (gensL p) i))).length - 1 = j := by simp
  have hlen : ((List.range (j + 1)).map (fun i => vecs (itL (derF (p := p)) (gensL p) i))).length = j + 1 := by simp
  have hgj : ((List.range (j + 1)).map (fun i => vecs (itL (derF (p := p)) (gensL p) i))).getD j [] = vecs (itL (derF (p := p)) (gensL p) j) := by simp [List.getD_eq_getElem?_getD]
  have hsl := (hS.seq j).len
  have hE4 := hE2.trans he4
  have hRj : Pc.Rows w0.heap.size w4.heap.size w4 (Pc.rowAt vl us j) (uss.getD j []) (((List.range (j + 1)).map (fun i => vecs (itL (derF (p := p)) (gensL p) i))).getD j []) := hRs.vals.at_ j
  have hvl : (vecs (itL (derF (p := p)) (gensL p) j)).length = (itL (derF (p := p)) (gensL p) j).length := by simp
  refine go ?_
  rw [hix]
  refine go ?_
  refine rc (l13Comm_ok (p := p) (ys := itL (derF (p := p)) (gensL p) j) (zs := itL (derF (p := p)) (gensL p) j) (by omega) (by omega) hgj hgj) (next := fun v5 w5 h5 => ?_)
  obtain ⟨he5, us5, hR5⟩ := h5
  rw [derF_vecs] at hR5
  have hz5 := he5.size
  have hRj5 : Pc.Rows w0.heap.size w4.heap.size w5 (Pc.rowAt vl us j) (uss.getD j []) (((List.range (j + 1)).map (fun i => vecs (itL (derF (p := p)) (gensL p) i))).getD j []) := hRj.same (he5.same _ _)
  have hlen5 : Len w5 v5 (itL (derF (p := p)) (gensL p) (j + 1)).length := by
    have h5 : Len w5 v5 (vecs (derF (itL (derF (p := p)) (gensL p) j))).length := inferInstance
    simpa [itL] using h5
  have hlenj : Len w5 (Pc.rowAt vl us j) (itL (derF (p := p)) (gensL p) j).length := by
    have h5 : Len w5 (Pc.rowAt vl us j) (((List.range (j + 1)).map (fun i => vecs (itL (derF (p := p)) (gensL p) i))).getD j []).length := inferInstance
    rw [hgj] at h5
    simpa using h5
  have hsl1 := (hS.seq (j + 1)).len
  refine go ?_
  refine c_if (fun h6 => ?_) (fun h6 => ?_)
  · have heq := (hS.eqv j).1 (by omega)
    refine go ?_
    exact ret1 ⟨hE4.trans he5, j, us, uss, ⟨heq, hne⟩, ((hG4.ext he5).rowss hz2 (by omega)).lower hz0⟩
  · have hnej : itL (derF (p := p)) (gensL p) (j + 1) ≠ itL (derF (p := p)) (gensL p) j := fun h => h6 (by rw [h])
    have hne' : ∀ i, i < j + 1 → itL (derF (p := p)) (gensL p) (i + 1) ≠ itL (derF (p := p)) (gensL p) i := fun i hi => by
      by_cases e : i = j
      · subst e; exact hnej
      · exact hne i (by omega)
    have hjn := hS.bd (j + 1) hne'
    clear hRs hRj hRj5
    refine go ?_
    refine st_growv hG4 he5 hR5 (by omega) hz4 (by omega) (next := fun v6 v7 w7 wm hG7 hx7 hz7 hxm hgm hvm => ?_)
    refine go ?_
    refine forQ_normal (by omega) ⟨v7, us ++ [v5], uss ++ [us5], ?_, hx7 w2 (he4.trans he5) (Nat.le_refl _), ?_, hne'⟩
    · exact hasP
    · rw [List.range_succ, List.map_append]; exact hG7
set_option maxHeartbeats 1000000 in
theorem l17Class_ok {p : Pr} [hc : ConAll p] {w : World} {vp : Value} {lo hi : Nat} [hp : Pres lo hi w vp p] :
    Calls Try.prog 53 #[vp] w (Ret fun v w' => Ext w w' ∧ ∃ k : Int, v = .int .i64 k ∧ ∃ K, SerR (lowF (p := p)) (gensL p) K ∧ ((0 < (itL (lowF (p := p)) (gensL p) K).length ∧ k = -1) ∨ ((itL (lowF (p := p)) (gensL p) K).length = 0 ∧ k = K))) := by
  have hn6 := hc.valid.n6
  have hS := serOk_low (p := p)
  obtain ⟨vo, vpw, vc, ps, cs, css, rfl, h1, h2, h3⟩ := hp.ex
  refine enter (args := [.agg #[vo, vpw, vc]]) (l := [.tmp 2]) Try.func53 rfl rfl Try.ntmps53 (by simp) ?_
  refine go ?_
  refine st_box3 (by ((try simp only [ev_tmp, ev_const, ev_func, get_put, get_args, get_putL, get_putL_nil, Nat.reduceEqDiff, reduceIte, List.getD_cons_zero, List.getD_cons_succ, List.getD_nil]); first | done | with_reducible rfl)) (by first | exact True.intro | exact ⟨_, rfl, by ((try simp only [ev_tmp, ev_const, ev_func, get_put, get_args, get_putL, get_putL_nil, Nat.reduceEqDiff, reduceIte, List.getD_cons_zero, List.getD_cons_succ, List.getD_nil, Bool.not_true, Bool.not_false]); first | done | with_reducible rfl)⟩) fun w1 b he1 hb1 hs1 hc0 hc1 hc2 => ?_
  refine go ?_
  refine rc (l17Lower_ok (p := p)) (next := fun v2 w2 h4 => ?_)
  obtain ⟨he2, K, us, uss, hK, hR⟩ := h4
  have hKn := hS.bd K hK.2
  have hul := hR.vals.len
  have hlen : ((List.range (K + 1)).map (fun i => vecs (itL (lowF (p := p)) (gensL p) i))).length = K + 1 := by simp
  have hix : ((List.range (K + 1)).map (fun i => vecs (itL (lowF (p := p)) (gensL p) i))).length - 1 = K := by simp
  have hgj : ((List.range (K + 1)).map (fun i => vecs (itL (lowF (p := p)) (gensL p) i))).getD K [] = vecs (itL (lowF (p := p)) (gensL p) K) := by simp [List.getD_eq_getElem?_getD]
  have hRj : Pc.Rows w1.heap.size w2.heap.size w2 (Pc.rowAt v2 us K) (uss.getD K []) (((List.range (K + 1)).map (fun i => vecs (itL (lowF (p := p)) (gensL p) i))).getD K []) := hR.vals.at_ K
  have hlenK : Len w2 (Pc.rowAt v2 us K) (itL (lowF (p := p)) (gensL p) K).length := by
    have h5 : Len w2 (Pc.rowAt v2 us K) (((List.range (K + 1)).map (fun i => vecs (itL (lowF (p := p)) (gensL p) i))).getD K []).length := inferInstance
    rw [hgj] at h5
    simpa using h5
  have hsl := (hS.seq K).len
  have hgl : (((List.range (K + 1)).map (fun i => vecs (itL (lowF (p := p)) (gensL p) i))).getD K []).length = (itL (lowF (p := p)) (gensL p) K).length := by rw [hgj]; simp
  clear hRj
  refine go ?_
  rw [hix]
  refine go ?_
  refine c_if (fun h6 => ?_) (fun h6 => ?_)
  · refine go ?_
    exact ret1 ⟨he1.trans he2, -1, rfl, K, hK, .inl ⟨by omega, rfl⟩⟩
  · refine go ?_
    refine ret1 ⟨he1.trans he2, (((List.range (K + 1)).map (fun i => vecs (itL (lowF (p := p)) (gensL p) i))).length : Int) - 1, rfl, K, hK, .inr ⟨by omega, by rw [hlen]; omega⟩⟩
set_option maxHeartbeats 1000000 in
theorem spec_NilpotencyClass_ok {p : Pr} {w : World} {vp : Value} {lo hi : Nat} [hp : Pres lo hi w vp p] (hl : p.ord.length ≤ 2000000) :
    Calls Try.prog 13 #[vp] w (Ret fun v w' => ∃ (k e : Int), v = .tuple #[.int .i64 k, .int .i64 e] ∧ Ans (IsGrp p) (NcV p) 0 k e ∧ Ext w w') := by
  obtain ⟨vo, vpw, vc, ps, cs, css, rfl, h1, h2, h3⟩ := hp.ex
  refine enter (args := [.agg #[vo, vpw, vc]]) (l := [.tmp 2, .tmp 3]) Try.func13 rfl rfl Try.ntmps13 (by simp) ?_
  refine go ?_
  refine st_box3 (by ((try simp only [ev_tmp, ev_const, ev_func, get_put, get_args, get_putL, get_putL_nil, Nat.reduceEqDiff, reduceIte, List.getD_cons_zero, List.getD_cons_succ, List.getD_nil]); first | done | with_reducible rfl)) (by first | exact True.intro | exact ⟨_, rfl, by ((try simp only [ev_tmp, ev_const, ev_func, get_put, get_args, get_putL, get_putL_nil, Nat.reduceEqDiff, reduceIte, List.getD_cons_zero, List.getD_cons_succ, List.getD_nil, Bool.not_true, Bool.not_false]); first | done | with_reducible rfl)⟩) fun w1 b he1 hb1 hs1 hc0 hc1 hc2 => ?_
  refine go ?_
  refine rc (l08Group_ok (p := p) hl) (next := fun v5 w5 h5 => ?_)
  obtain ⟨b5, rfl, hb5, he5⟩ := h5
  have hE5 := he1.trans he5
  refine go ?_
  refine c_b (fun e5 => ?_) (fun e5 => ?_)
  · refine go ?_
    refine ret2 ⟨0, 1, rfl, .inr ⟨fun h => ?_, rfl, rfl⟩, hE5⟩
    rw [hb5.2 h] at e5; cases e5
  have hG := hb5.1 (by simpa using e5)
  haveI : ConAll p := ⟨hG.con⟩
  refine go ?_
  refine rc (l17Class_ok (p := p)) (next := fun v6 w6 h6 => ?_)
  obtain ⟨he6, k, rfl, K, hK, hk⟩ := h6
  have hE6 := hE5.trans he6
  refine go ?_
  refine c_if (fun h7 => ?_) (fun h7 => ?_)
  · refine go ?_
    rcases hk with ⟨h8, rfl⟩ | ⟨h8, rfl⟩
    · exact ret2 ⟨0, 4, rfl, .inl ⟨hG, inferInstance, K, hK, .inl ⟨h8, rfl, rfl⟩⟩, hE6⟩
    · omega
  · refine go ?_
    rcases hk with ⟨h8, rfl⟩ | ⟨h8, rfl⟩
    · omega
    · exact ret2 ⟨K, 0, rfl, .inl ⟨hG, inferInstance, K, hK, .inr ⟨h8, rfl, rfl⟩⟩, hE6⟩
end Go.Proofs.Ytgomfjhhfmhlgaa

/-
  Walks: the reference's upper central series; DerivedSeries, LowerCentralSeries, UpperCentralSeries.
  Conditions: stated at each theorem.
-/
namespace Go.Proofs.Ytgomfjhhfmhlgaa
open Go Go.Pc
theorem rowss_nilR (lo hi : Nat) (w : World) (h : lo ≤ hi) : Rowss lo hi w nilv [] [] [] :=
  ⟨⟨⟨none, 0, rfl, Nat.le_refl _, by omega, fun k u hu => by simp at hu⟩⟩, rfl, rfl, fun i => (rows_nilv lo w).mono (Nat.le_refl _) h⟩
set_option maxHeartbeats 1000000 in
theorem spec_DerivedSeries_ok {p : Pr} {w : World} {vp : Value} {lo hi : Nat} [hp : Pres lo hi w vp p] (hl : p.ord.length ≤ 2000000) :
    Calls Try.prog 17 #[vp] w (Ret fun v w' => ∃ (u : Value) (k : List (List (List Int))) (e : Int), v = .tuple #[u, .int .i64 e] ∧ Ans (IsGrp p) (SrV p (DerC p)) [] k e ∧ Ext w w' ∧ ∃ us' uss', Rowss w.heap.size w'.heap.size w' u us' uss' k) := by
  obtain ⟨vo, vpw, vc, ps, cs, css, rfl, h1, h2, h3⟩ := hp.ex
  refine enter (args := [.agg #[vo, vpw, vc]]) (l := [.tmp 2, .tmp 3]) Try.func17 rfl rfl Try.ntmps17 (by simp) ?_
  refine go ?_
  refine st_box3 (by ((try simp only [ev_tmp, ev_const, ev_func, get_put, get_args, get_putL, get_putL_nil, Nat.reduceEqDiff, reduceIte, List.getD_cons_zero, List.getD_cons_succ, List.getD_nil]); first | done | with_reducible rfl)) (by first | exact True.intro | exact ⟨_, rfl, by ((try simp only [ev_tmp, ev_const, ev_func, get_put, get_args, get_putL, get_putL_nil, Nat.reduceEqDiff, reduceIte, List.getD_cons_zero, List.getD_cons_succ, List.getD_nil, Bool.not_true, Bool.not_false]); first | done | with_reducible rfl)⟩) fun w1 b he1 hb1 hs1 hc0 hc1 hc2 => ?_
  refine go ?_
  refine rc (l08Group_ok (p := p) hl) (next := fun v5 w5 h5 => ?_)
  obtain ⟨b5, rfl, hb5, he5⟩ := h5
  have hE5 := he1.trans he5
  refine go ?_
  refine c_b (fun e5 => ?_) (fun e5 => ?_)
  · refine go ?_
    refine ret2 ⟨nilv, [], 1, rfl, .inr ⟨fun h => ?_, rfl, rfl⟩, hE5, [], [], rowss_nilR _ _ _ hE5.size⟩
    rw [hb5.2 h] at e5; cases e5
  have hG := hb5.1 (by simpa using e5)
  haveI : ConAll p := ⟨hG.con⟩
  refine go ?_
  refine rc (l17Derived_ok (p := p)) (next := fun v8 w8 h8 => ?_)
  obtain ⟨he8, K, us8, uss8, hK, hR8⟩ := h8
  refine go ?_
  exact ret2 ⟨v8, _, 0, rfl, .inl ⟨hG, ⟨inferInstance, K, hK, rfl, rfl⟩⟩, hE5.trans he8, us8, uss8, hR8.lower hE5.size⟩
set_option maxHeartbeats 1000000 in
theorem spec_LowerCentralSeries_ok {p : Pr} {w : World} {vp : Value} {lo hi : Nat} [hp : Pres lo hi w vp p] (hl : p.ord.length ≤ 2000000) :
    Calls Try.prog 23 #[vp] w (Ret fun v w' => ∃ (u : Value) (k : List (List (List Int))) (e : Int), v = .tuple #[u, .int .i64 e] ∧ Ans (IsGrp p) (SrV p (LowC p)) [] k e ∧ Ext w w' ∧ ∃ us' uss', Rowss w.heap.size w'.heap.size w' u us' uss' k) := by
  obtain ⟨vo, vpw, vc, ps, cs, css, rfl, h1, h2, h3⟩ := hp.ex
  refine enter (args := [.agg #[vo, vpw, vc]]) (l := [.tmp 2, .tmp 3]) Try.func23 rfl rfl Try.ntmps23 (by simp) ?_
  refine go ?_
  refine st_box3 (by ((try simp only [ev_tmp, ev_const, ev_func, get_put, get_args, get_putL, get_putL_nil, Nat.reduceEqDiff, reduceIte, List.getD_cons_zero, List.getD_cons_succ, List.getD_nil]); first | done | with_reducible rfl)) (by first | exact True.intro | exact ⟨_, rfl, by ((try simp only [ev_tmp, ev_const, ev_func, get_put, get_args, get_putL, get_putL_nil, Nat.reduceEqDiff, reduceIte, List.getD_cons_zero, List.getD_cons_succ, List.getD_nil, Bool.not_true, Bool.not_false]); first | done | with_reducible rfl)⟩) fun w1 b he1 hb1 hs1 hc0 hc1 hc2 => ?_
  refine go ?_
  refine rc (l08Group_ok (p := p) hl) (next := fun v5 w5 h5 => ?_)
  obtain ⟨b5, rfl, hb5, he5⟩ := h5
  have hE5 := he1.trans he5
  refine go ?_
  refine c_b (fun e5 => ?_) (fun e5 => ?_)
  · refine go ?_
    refine ret2 ⟨nilv, [], 1, rfl, .inr ⟨fun h => ?_, rfl, rfl⟩, hE5, [], [], rowss_nilR _ _ _ hE5.size⟩
    rw [hb5.2 h] at e5; cases e5
  have hG := hb5.1 (by simpa using e5)
  haveI : ConAll p := ⟨hG.con⟩
  refine go ?_
  refine rc (l17Lower_ok (p := p)) (next := fun v8 w8 h8 => ?_)
  obtain ⟨he8, K, us8, uss8, hK, hR8⟩ := h8
  refine go ?_
  exact ret2 ⟨v8, _, 0, rfl, .inl ⟨hG, ⟨inferInstance, K, hK, rfl, rfl⟩⟩, hE5.trans he8, us8, uss8, hR8.lower hE5.size⟩
end Go.Proofs.Ytgomfjhhfmhlgaa

/-
  Walks: the reference's LowerExponentSeries.
  Conditions: stated at each theorem.
-/
namespace Go.Proofs.Ytgomfjhhfmhlgaa
open Go Go.Pc
set_option maxHeartbeats 4000000 in
theorem l17Next_ok {p : Pr} [hc : ConAll p] {ys : List (El p)} {q : Int} (hq : 0 ≤ q ∧ q ≤ 7) (hyl : ys.length ≤ 100) {w : World} {vp vu : Value} {us : List Value} {xss : List (List Int)} {lo hi lo1 hi1 : Nat} [hp : Pres lo hi w vp p] [hu : Pc.Rows lo1 hi1 w vu us xss] (hus : xss = vecs ys) :
    Calls Try.prog 102 #[vp, vu, .int .i64 q] w (Ret fun v w' => Ext w w' ∧ ∃ us', Pc.Rows w.heap.size w'.heap.size w' v us' (vecs (expF q ys))) := by
  subst hus
  have hn6 := hc.valid.n6
  have hgl := gensL_len p
  have hyv : (vecs ys).length = ys.length := by simp
  have hvl := hu.vals.len
  have hsq := (seqEl_can (commC_sub ys (gensL p))).len
  have hll : (lowF ys).length ≤ 6 := by
    have : (lowF ys).length ≤ p.n := hsq
    omega
  replace hp := hp.wide
  replace hu := hu.wide
  obtain ⟨vo, vpw, vc, ps, cs, css, rfl, h1, h2, h3⟩ := hp.ex
  refine enter (args := [.agg #[vo, vpw, vc], vu, .int .i64 q]) (l := [.tmp 6]) Try.func102 rfl rfl Try.ntmps102 (by simp) ?_
  refine go ?_
  refine st_box3 (by ((try simp only [ev_tmp, ev_const, ev_func, get_put, get_args, get_putL, get_putL_nil, Nat.reduceEqDiff, reduceIte, List.getD_cons_zero, List.getD_cons_succ, List.getD_nil]); first | done | with_reducible rfl)) (by first | exact True.intro | exact ⟨_, rfl, by ((try simp only [ev_tmp, ev_const, ev_func, get_put, get_args, get_putL, get_putL_nil, Nat.reduceEqDiff, reduceIte, List.getD_cons_zero, List.getD_cons_succ, List.getD_nil, Bool.not_true, Bool.not_false]); first | done | with_reducible rfl)⟩) fun w1 b he1 hb1 hs1 hc0 hc1 hc2 => ?_
  have hz1 := he1.size
  refine go ?_
  refine d_order [0, 1, 2, 3, 4, 5] (h := fun w2 he2 _ => ?_)
  refine dgo ?_
  refine dce (l12Whole_ok (p := p)) (next := fun v3 w3 h4 => ?_)
  obtain ⟨he3, us3, hR3⟩ := h4
  refine dce (l13CommL_ok (p := p) (ys := ys) (zs := gensL p) (by omega) (by omega) rfl rfl) (next := fun v4 w4 h5 => ?_)
  obtain ⟨he4, us4, hL4⟩ := h5
  rw [lowF_vecs] at hL4
  have hE3 := (he1.trans he2).trans he3
  have hE4 := hE3.trans he4
  have hz3 := hE3.size
  refine dgo ?_
  refine d_end (h := ?_)
  refine go ?_
  refine r_for ys.length (fun k ρ w' => ∃ vl uk, Has ρ [(1, vu), (2, .int .i64 q), (3, .pointer (some ⟨b, 0, none⟩)), (7, vl), (8, .int .i64 k)] ∧ Ext w3 w' ∧ Lst 22 w3.heap.size (· < w3.heap.size) w' vl uk (vecs (lowF ys ++ (ys.take k).map fun y => Grp.pwz y q))) ?_ ?_
  · refine ⟨v4, us4, ?_, he4, by simpa using hL4⟩
    exact hasP
  clear hL4
  rintro k ρ w5 hk ⟨vl, uk, hH, he5, hL5⟩
  refine rwp_has hH fun ρ0 => ?_
  have hz5 := he5.size
  have hE5 := hE3.trans he5
  have hul := hL5.len
  have hul2 : uk.length ≤ 1000 := by
    rw [hul]
    simp only [vecs, List.length_map, List.length_append, List.length_take]
    omega
  refine go ?_
  refine c_if (fun h6 => ?_) (fun h6 => ?_)
  · have hkn : k < ys.length := by omega
    have hgk := vecs_getD ys hkn
    obtain ⟨b', hb', hvb'⟩ := own_some' vl w3.heap.size w5.heap.size hz5 (fun g h => (hL5.lt h).1)
    have ap1 : Apart 0 w.heap.size b' := ⟨.inr (by omega)⟩
    have hb3 : b < w3.heap.size := by have := hc0.lt; have := (he2.trans he3).size; omega
    have ap2 : Apart b (b + 1) b' := ⟨.inr (by omega)⟩
    refine go ?_
    refine z_order b' (List.range 11) (h := fun w6 he6 _ => ?_)
    refine zgo ?_
    refine zc (l10Pow_ok (p := p) (x := ys[k]) (k := q) hgk (by omega)) (next := fun v7 w7 h7 => ?_)
    obtain ⟨he7, hf7⟩ := h7
    refine z_growl (hL5.ext he6) he7 hf7 (by have := he6.size; omega) (by omega) hvb' (next := fun v8 v9 w9 hL9 hx9 hz9 => ?_)
    refine zgo ?_
    refine z_end ?_
    refine go ?_
    refine forQ_normal (by omega) ⟨v9, uk ++ [v7], ?_, hx9 w3 ((he5.trans he6).trans he7) (Nat.le_refl _), ?_⟩
    · exact hasP
    · rw [List.take_succ_eq_append_getElem hkn]
      have e : vecs (lowF ys ++ (ys.take k ++ [ys[k]]).map fun y => Grp.pwz y q) = vecs (lowF ys ++ (ys.take k).map fun y => Grp.pwz y q) ++ [(Grp.pwz ys[k] q).v] := by simp only [vecs, List.map_append, List.map_cons, List.map_nil, List.append_assoc]
      rw [e]
      exact hL9
  · obtain rfl : k = ys.length := by omega
    rw [List.take_length] at hL5
    have hRl := hL5.toRows
    refine go ?_
    refine rc (l12Close_ok (p := p) (ys := expL q ys) rfl ?_) (next := fun v8 w8 h8 => ?_)
    · simp only [expL, List.length_append, List.length_map]; omega
    obtain ⟨he8, us8, hL8⟩ := h8
    rw [expF_vecs] at hL8
    refine go ?_
    exact ret1 ⟨hE5.trans he8, us8, hL8.newRows.mono hE5.size (Nat.le_refl _)⟩
set_option maxHeartbeats 4000000 in
theorem l17Exponent_ok {p : Pr} [hc : ConAll p] {q : Int} (hq : q = 2 ∨ q = 3 ∨ q = 5 ∨ q = 7) {w : World} {vp : Value} {lo hi : Nat} [hp : Pres lo hi w vp p] :
    Calls Try.prog 64 #[vp, .int .i64 q] w (Ret fun v w' => Ext w w' ∧ ∃ K us uss, SerR (expF (p := p) q) (gensL p) K ∧ Rowss w.heap.size w'.heap.size w' v us uss ((List.range (K + 1)).map fun j => vecs (itL (expF (p := p) q) (gensL p) j))) := by
  have hn6 := hc.valid.n6
  have hgl := gensL_len p
  have hS := serOk_exp (p := p) (q := q) (by rcases hq with e | e | e | e <;> omega)
  obtain ⟨vo, vpw, vc, ps, cs, css, rfl, h1, h2, h3⟩ := hp.ex
  refine enter (args := [.agg #[vo, vpw, vc], .int .i64 q]) (l := [.tmp 4]) Try.func64 rfl rfl Try.ntmps64 (by simp) ?_
  refine go ?_
  refine st_box3 (by ((try simp only [ev_tmp, ev_const, ev_func, get_put, get_args, get_putL, get_putL_nil, Nat.reduceEqDiff, reduceIte, List.getD_cons_zero, List.getD_cons_succ, List.getD_nil]); first | done | with_reducible rfl)) (by first | exact True.intro | exact ⟨_, rfl, by ((try simp only [ev_tmp, ev_const, ev_func, get_put, get_args, get_putL, get_putL_nil, Nat.reduceEqDiff, reduceIte, List.getD_cons_zero, List.getD_cons_succ, List.getD_nil, Bool.not_true, Bool.not_false]); first | done | with_reducible rfl)⟩) fun w0 b he0 hb0 hs0 hc0 hc1 hc2 => ?_
  have hz0 := he0.size
  refine go ?_
  refine rc (l12Whole_ok (p := p)) (next := fun v2 w2 h2 => ?_)
  obtain ⟨he2, us2, hR2⟩ := h2
  have hz2 := he2.size
  refine go ?_
  refine st_slice1o (u := v2) (by ((try simp only [ev_tmp, ev_const, ev_func, get_put, get_args, get_putL, get_putL_nil, Nat.reduceEqDiff, reduceIte, List.getD_cons_zero, List.getD_cons_succ, List.getD_nil]); first | done | with_reducible rfl)) ?_ ?_ (by first | exact True.intro | exact ⟨_, rfl, by ((try simp only [ev_tmp, ev_const, ev_func, get_put, get_args, get_putL, get_putL_nil, Nat.reduceEqDiff, reduceIte, List.getD_cons_zero, List.getD_cons_succ, List.getD_nil, Bool.not_true, Bool.not_false]); first | done | with_reducible rfl)⟩) fun w3 v3 he3 hs3 ho3 => ?_
  · exact hR2.sl.cells
  · rfl
  have hE2 := he0.trans he2
  have hG3 := GrowV.one (sb := w2.heap.size) (s := w0.heap.size) ho3 rfl (Nat.le_refl _) hR2 hz2 he3
  refine go ?_
  refine r_for p.n (fun j ρ w' => ∃ vl us uss, Has ρ [(1, .int .i64 q), (2, .pointer (some ⟨b, 0, none⟩)), (5, vl)] ∧ Ext w2 w' ∧ GrowV 23 w2.heap.size w0.heap.size w' vl us uss ((List.range (j + 1)).map fun i => vecs (itL (expF (p := p) q) (gensL p) i)) ∧ ∀ i, i < j → itL (expF (p := p) q) (gensL p) (i + 1) ≠ itL (expF (p := p) q) (gensL p) i) ?_ ?_
  · refine ⟨v3, _, _, ?_, he3, hG3, fun i hi => by omega⟩
    exact hasP
  clear hG3
  rintro j ρ w4 hj ⟨vl, us, uss, hH, he4, hG4, hne⟩
  refine rwp_has hH fun ρ0 => ?_
  have hz4 := he4.size
  have hul : us.length = j + 1 := by have := hG4.len; simpa using this
  have hRs := hG4.rowss hz2 (by omega)
  have hix : ((List.range (j + 1)).map (fun i => vecs (itL (expF (p := p) q) (gensL p) i))).length - 1 = j := by simp
  have hlen : ((List.range (j + 1)).map (fun i => vecs (itL (expF (p := p) q) (gensL p) i))).length = j + 1 := by simp
  have hgj : ((List.range (j + 1)).map (fun i => vecs (itL (expF (p := p) q) (gensL p) i))).getD j [] = vecs (itL (expF (p := p) q) (gensL p) j) := by simp [List.getD_eq_getElem?_getD]
  have hsl := (hS.seq j).len
  have hE4 := hE2.trans he4
  have hRj : Pc.Rows w0.heap.size w4.heap.size w4 (Pc.rowAt vl us j) (uss.getD j []) (((List.range (j + 1)).map (fun i => vecs (itL (expF (p := p) q) (gensL p) i))).getD j []) := hRs.vals.at_ j
  have hvl : (vecs (itL (expF (p := p) q) (gensL p) j)).length = (itL (expF (p := p) q) (gensL p) j).length := by simp
  refine go ?_
  rw [hix]
  refine go ?_
  refine rc (l17Next_ok (p := p) (ys := itL (expF (p := p) q) (gensL p) j) (q := q) (by rcases hq with e | e | e | e <;> omega) (by omega) hgj) (next := fun v5 w5 h5 => ?_)
  obtain ⟨he5, us5, hR5⟩ := h5
  have hz5 := he5.size
  have hRj5 : Pc.Rows w0.heap.size w4.heap.size w5 (Pc.rowAt vl us j) (uss.getD j []) (((List.range (j + 1)).map (fun i => vecs (itL (expF (p := p) q) (gensL p) i))).getD j []) := hRj.same (he5.same _ _)
  have hlen5 : Len w5 v5 (itL (expF (p := p) q) (gensL p) (j + 1)).length := by
    have h5 : Len w5 v5 (vecs (expF q (itL (expF (p := p) q) (gensL p) j))).length := inferInstance
    simpa [itL] using h5
  have hlenj : Len w5 (Pc.rowAt vl us j) (itL (expF (p := p) q) (gensL p) j).length := by
    have h5 : Len w5 (Pc.rowAt vl us j) (((List.range (j + 1)).map (fun i => vecs (itL (expF (p := p) q) (gensL p) i))).getD j []).length := inferInstance
    rw [hgj] at h5
    simpa using h5
  have hsl1 := (hS.seq (j + 1)).len
  refine go ?_
  refine c_if (fun h6 => ?_) (fun h6 => ?_)
  · have heq := (hS.eqv j).1 (by omega)
    refine go ?_
    exact ret1 ⟨hE4.trans he5, j, us, uss, ⟨heq, hne⟩, ((hG4.ext he5).rowss hz2 (by omega)).lower hz0⟩
  · have hnej : itL (expF (p := p) q) (gensL p) (j + 1) ≠ itL (expF (p := p) q) (gensL p) j := fun h => h6 (by rw [h])
    have hne' : ∀ i, i < j + 1 → itL (expF (p := p) q) (gensL p) (i + 1) ≠ itL (expF (p := p) q) (gensL p) i := fun i hi => by
      by_cases e : i = j
      · subst e; exact hnej
      · exact hne i (by omega)
    have hjn := hS.bd (j + 1) hne'
    clear hRs hRj hRj5
    refine go ?_
    refine st_growv hG4 he5 hR5 (by omega) hz4 (by omega) (next := fun v6 v7 w7 wm hG7 hx7 hz7 hxm hgm hvm => ?_)
    refine go ?_
    refine forQ_normal (by omega) ⟨v7, us ++ [v5], uss ++ [us5], ?_, hx7 w2 (he4.trans he5) (Nat.le_refl _), ?_, hne'⟩
    · exact hasP
    · rw [List.range_succ, List.map_append]; exact hG7
set_option maxHeartbeats 1000000 in
theorem spec_LowerExponentSeries_ok {p : Pr} {q : Int} {w : World} {vp : Value} {lo hi : Nat} [hp : Pres lo hi w vp p] (hl : p.ord.length ≤ 2000000) :
    Calls Try.prog 25 #[vp, .int .i64 q] w (Ret fun v w' => ∃ (u : Value) (k : List (List (List Int))) (e : Int), v = .tuple #[u, .int .i64 e] ∧ Ans (IsGrp p) (ExV p q) [] k e ∧ Ext w w' ∧ ∃ us' uss', Rowss w.heap.size w'.heap.size w' u us' uss' k) := by
  obtain ⟨vo, vpw, vc, ps, cs, css, rfl, h1, h2, h3⟩ := hp.ex
  refine enter (args := [.agg #[vo, vpw, vc], .int .i64 q]) (l := [.tmp 4, .tmp 5]) Try.func25 rfl rfl Try.ntmps25 (by simp) ?_
  refine go ?_
  refine st_box3 (by ((try simp only [ev_tmp, ev_const, ev_func, get_put, get_args, get_putL, get_putL_nil, Nat.reduceEqDiff, reduceIte, List.getD_cons_zero, List.getD_cons_succ, List.getD_nil]); first | done | with_reducible rfl)) (by first | exact True.intro | exact ⟨_, rfl, by ((try simp only [ev_tmp, ev_const, ev_func, get_put, get_args, get_putL, get_putL_nil, Nat.reduceEqDiff, reduceIte, List.getD_cons_zero, List.getD_cons_succ, List.getD_nil, Bool.not_true, Bool.not_false]); first | done | with_reducible rfl)⟩) fun w1 b he1 hb1 hs1 hc0 hc1 hc2 => ?_
  refine go ?_
  refine rc (l08Group_ok (p := p) hl) (next := fun v5 w5 h5 => ?_)
  obtain ⟨b5, rfl, hb5, he5⟩ := h5
  have hE5 := he1.trans he5
  refine go ?_
  refine c_b (fun e5 => ?_) (fun e5 => ?_)
  · refine go ?_
    refine ret2 ⟨nilv, [], 1, rfl, .inr ⟨fun h => ?_, rfl, rfl⟩, hE5, [], [], rowss_nilR _ _ _ hE5.size⟩
    rw [hb5.2 h] at e5; cases e5
  have hG := hb5.1 (by simpa using e5)
  haveI : ConAll p := ⟨hG.con⟩
  refine go ?_
  refine rc l01Prime_ok (next := fun v6 w6 h6 => ?_)
  obtain ⟨b6, rfl, hb6, he6⟩ := h6
  have hE6 := hE5.trans he6
  refine go ?_
  refine c_b (fun e6 => ?_) (fun e6 => ?_)
  · refine go ?_
    refine ret2 ⟨nilv, [], 2, rfl, .inl ⟨hG, .inl ⟨fun h => ?_, rfl, rfl⟩⟩, hE6, [], [], rowss_nilR _ _ _ hE6.size⟩
    rw [hb6.2 h] at e6; cases e6
  have hq := hb6.1 (by simpa using e6)
  refine go ?_
  refine rc (l17Exponent_ok (p := p) hq) (next := fun v8 w8 h8 => ?_)
  obtain ⟨he8, K, us8, uss8, hK, hR8⟩ := h8
  refine go ?_
  exact ret2 ⟨v8, _, 0, rfl, .inl ⟨hG, .inr ⟨hq, ⟨inferInstance, K, hK, rfl, rfl⟩⟩⟩, hE6.trans he8, us8, uss8, hR8.lower hE6.size⟩
end Go.Proofs.Ytgomfjhhfmhlgaa

/-
  More rules: function values that capture variables; variables of one cell.
  Conditions: none; nothing of the program stands here.
-/
namespace Go.Pc
open Go Go.RowKit
section
variable {P : Program} {N : Nat} {ops : Array Oper} {K : Env → World → Prop} {ρ : Env} {w : World} {l : List Oper}
variable {ty : TypeId} {pos : String} {after : Array Edge} {g : Option (Nat × Bool)} {d : Nat}
theorem cl_clo {f : FuncId} {x : Operand} {xs : Array Operand} {ats : Array TypeId} {args caps : Array Value} [hf : FnT P f] (hx : ev ρ x = .func (.func f) #[] caps) (ha : xs.map (ev ρ) ++ caps = args) :
    Cl P (.call { callee := .value x, args := xs, argTypes := ats }) ty ρ f args := by
  constructor; intro w _ _ _ _
  obtain ⟨fn, c, h1, h2, h3⟩ := hf.ex
  simp [execOp, resolve, hx, Deferred.ofValue, invoke, callFunc, h1, h2, h3, ha]
theorem rd_makeFunc {f : FuncId} {xs : Array Operand} {caps : Array Value} (h : xs.map (ev ρ) = caps) : Rd P (.makeFunc (.func f) #[] xs) ty ρ w (.func (.func f) #[] caps) := by
  constructor; intro _ _ _ _
  simp [execOp, Instr.makeFunc, h]
/-- A variable of one cell, of its zero value. -/
theorem st_alloc1 {t : TypeId} {bytes : Nat} {z : Value} [he : ElT P t 1 bytes z] (hz : z.cells = #[z]) (hg : Wants ops ρ g)
    (next : ∀ w' b, Ext w w' → b = w.heap.size → w'.heap.size = b + 1 → Blk w' b [z] → rops P N ops K l (put ρ d (.pointer (some ⟨b, 0, none⟩))) w') : rops P N ops K (⟨some d, .alloc t, ty, pos, after, g⟩ :: l) ρ w := by
  obtain ⟨i, hi, hs, hby, hz'⟩ := he.ex
  refine st_ex (v := .pointer (some ⟨w.heap.size, 0, none⟩)) (w' := w.alloc (.cells #[z] t)) hg ⟨fun _ _ _ _ => ?_⟩ (next _ _ (Ext.alloc _ _) rfl (by simp) (blk_alloc _ [z] _))
  simp [execOp, Instr.alloc, zeroValue, typeInfo, hi, hz', newVar, newRow, hz]
end
end Go.Pc

/-
  Walk: the program's check of a presentation (IsPresentation).
  Conditions: stated at each theorem.
-/
namespace Go.Proofs.Ytgomfjhhfmhlgaa
open Go Go.Pc
theorem foldl_mono : ∀ (l : List Int) (a : Int), (∀ o ∈ l, 1 ≤ o) → 1 ≤ a → a ≤ l.foldl (· * ·) a :=
  fun l a h ha => (capMul_foldl l a h ha).2.1
theorem prod_take {l : List Int} {k : Nat} (h : ∀ o ∈ l, 1 ≤ o) : 1 ≤ (l.take k).foldl (· * ·) 1 ∧ (l.take k).foldl (· * ·) 1 ≤ l.foldl (· * ·) 1 := by
  have h1 := foldl_mono (l.take k) 1 (fun o ho => h o (List.mem_of_mem_take ho)) (by omega)
  have h2 := foldl_mono (l.drop k) ((l.take k).foldl (· * ·) 1) (fun o ho => h o (List.mem_of_mem_drop ho)) h1
  rw [← List.foldl_append, List.take_append_drop] at h2
  exact ⟨h1, h2⟩
set_option maxHeartbeats 2000000 in
theorem impl_IsPresentation_ok {w : World} {v : Value} {p : Pr} {lo hi : Nat} [hp : Pres lo hi w v p] (hl : p.ord.length ≤ 2000000) :
    Calls Try.prog 92 #[v] w (Ret fun v' w' => ∃ b, v' = .bool b ∧ (b = true ↔ Valid p) ∧ Ext w w') := by
  have hol : p.ord.length = p.n := rfl
  obtain ⟨vo, vpw, vc, ps, cs, css, rfl, h1, h2, h3⟩ := hp.ex
  refine enter (args := [.agg #[vo, vpw, vc]]) (l := [.tmp 2]) Try.func92 rfl rfl Try.ntmps92 (by simp) ?_
  refine go ?_
  refine st_box3 (by ((try simp only [ev_tmp, ev_const, ev_func, get_put, get_args, get_putL, get_putL_nil, Nat.reduceEqDiff, reduceIte, List.getD_cons_zero, List.getD_cons_succ, List.getD_nil]); first | done | with_reducible rfl)) (by first | exact True.intro | exact ⟨_, rfl, by ((try simp only [ev_tmp, ev_const, ev_func, get_put, get_args, get_putL, get_putL_nil, Nat.reduceEqDiff, reduceIte, List.getD_cons_zero, List.getD_cons_succ, List.getD_nil, Bool.not_true, Bool.not_false]); first | done | with_reducible rfl)⟩) fun w1 b he1 hb1 hs1 hc0 hc1 hc2 => ?_
  have no : ∀ {w' : World}, ¬ Valid p → Ext w w' → ∃ b, Value.bool false = .bool b ∧ (b = true ↔ Valid p) ∧ Ext w w' := fun h he => ⟨_, rfl, by simp [h], he⟩
  have hpp := hp.boxed he1 hc0 hc1 hc2
  refine go ?_
  refine spd (fun hn => ?_) (fun hn => ?_)
  · refine go ?_
    exact ret1 (no (fun h => by have := h.n6; omega) he1)
  refine go ?_
  refine spd (fun hn2 => ?_) (fun hn2 => ?_)
  · refine go ?_
    exact ret1 (no (fun h => by have := h.lenw; omega) he1)
  refine go ?_
  refine c_if (fun hn3 => ?_) (fun hn3 => ?_)
  · refine go ?_
    exact ret1 (no (fun h => by have := h.lenc; omega) he1)
  refine go ?_
  refine r_for p.n (fun k ρ w' => Has ρ [(1, .pointer (some ⟨b, 0, none⟩)), (3, .int .i64 p.n), (4, .int .i64 ((p.ord.take k).foldl (· * ·) 1)), (30, vo), (31, .int .i64 p.n), (32, .int .i64 k)] ∧ Ext w1 w' ∧
    (p.ord.take k).foldl (· * ·) 1 ≤ 729 ∧ ∀ i, i < k → p.ord.getD i 0 = 2 ∨ p.ord.getD i 0 = 3 ∨ p.ord.getD i 0 = 5 ∨ p.ord.getD i 0 = 7) ?_ ?_
  · refine ⟨?_, Ext.refl _, by simp, fun i hi => by omega⟩
    exact hasP
  rintro k ρ w2 hk ⟨hH, he2, hpr, hpre⟩
  refine rwp_has hH fun ρ0 => ?_
  refine go ?_
  refine c_if (fun hk1 => ?_) (fun hk1 => ?_)
  · have hkn : k < p.n := by omega
    have hps : (p.ord.take (k + 1)).foldl (· * ·) 1 = (p.ord.take k).foldl (· * ·) 1 * p.ord.getD k 0 := foldl_take_succ _ _ _ _ _ hkn
    refine go ?_
    refine rc IsGroupPrime_ok (next := fun v3 w3 h3 => ?_)
    obtain ⟨b3, rfl, hb3, he3⟩ := h3
    refine go ?_
    refine sp (fun h4 => ?_) (fun h4 => ?_)
    · refine go ?_
      refine ret1 (no (fun h => ?_) ((he1.trans he2).trans he3))
      have := hb3.2 (h.prime k (by omega))
      rw [this] at h4; cases h4
    · have h5 := hb3.1 (by simpa using h4)
      have hone : 1 ≤ (p.ord.take k).foldl (· * ·) 1 := by
        refine foldl_mono _ 1 (fun o ho => ?_) (by omega)
        obtain ⟨i, hi, rfl⟩ := List.getElem_of_mem ho
        rw [List.length_take] at hi
        have := hpre i (by omega)
        simp only [List.getElem_take]
        have e : p.ord.getD i 0 = p.ord[i] := by simp [show i < p.ord.length by omega]
        rw [e] at this; omega
      have hm1 : 0 ≤ (p.ord.take k).foldl (· * ·) 1 * p.ord.getD k 0 := Int.mul_nonneg (by omega) (by omega)
      have hm2 : (p.ord.take k).foldl (· * ·) 1 * p.ord.getD k 0 ≤ 729 * 7 := Int.mul_le_mul hpr (by omega) (by omega) (by omega)
      have hmr : -9223372036854775808 ≤ (p.ord.take k).foldl (· * ·) 1 * p.ord.getD k 0 ∧ (p.ord.take k).foldl (· * ·) 1 * p.ord.getD k 0 ≤ 9223372036854775807 := by omega
      refine go ?_
      refine ra (h := rd_mul (by ((try simp only [ev_tmp, ev_const, ev_func, get_put, get_args, get_putL, get_putL_nil, Nat.reduceEqDiff, reduceIte, List.getD_cons_zero, List.getD_cons_succ, List.getD_nil]); first | done | with_reducible rfl)) (by ((try simp only [ev_tmp, ev_const, ev_func, get_put, get_args, get_putL, get_putL_nil, Nat.reduceEqDiff, reduceIte, List.getD_cons_zero, List.getD_cons_succ, List.getD_nil]); first | done | with_reducible rfl)) hmr) (next := ?_)
      refine go ?_
      refine c_if (fun h6 => ?_) (fun h6 => ?_)
      · refine go ?_
        refine ret1 (no (fun h => ?_) ((he1.trans he2).trans he3))
        have := (prod_take (k := k + 1) (fun o ho => (primes_bd h.prime o ho).1)).2
        have h8 := h.prod
        rw [hps] at this
        omega
      · refine go ?_
        refine ra (h := rd_mul (by ((try simp only [ev_tmp, ev_const, ev_func, get_put, get_args, get_putL, get_putL_nil, Nat.reduceEqDiff, reduceIte, List.getD_cons_zero, List.getD_cons_succ, List.getD_nil]); first | done | with_reducible rfl)) (by ((try simp only [ev_tmp, ev_const, ev_func, get_put, get_args, get_putL, get_putL_nil, Nat.reduceEqDiff, reduceIte, List.getD_cons_zero, List.getD_cons_succ, List.getD_nil]); first | done | with_reducible rfl)) hmr) (next := ?_)
        refine go ?_
        refine forQ_normal (by omega) ⟨?_, he2.trans he3, by rw [hps]; omega, fun i hi => ?_⟩
        · rw [hps]; exact hasP
        · by_cases e : i = k
          · subst e; exact h5
          · exact hpre i (by omega)
  · have hkn : k = p.n := by omega
    subst hkn
    have hprod : p.ord.foldl (· * ·) 1 ≤ 729 := by
      rw [← hol, List.take_length] at hpr; exact hpr
    have hbd : ∀ i, i < p.n → 2 ≤ p.o i ∧ p.o i ≤ 7 := fun i hi => by have := hpre i hi; unfold Pr.o; omega
    refine go ?_
    refine r_for p.n (fun k ρ w' => Has ρ [(1, .pointer (some ⟨b, 0, none⟩)), (3, .int .i64 p.n), (49, .int .i64 p.n), (50, .int .i64 k)] ∧ Ext w1 w' ∧ ∀ q, q < k → RowOk p q) ?_ ?_
    · refine ⟨?_, he2, fun i hi => by omega⟩
      exact hasP
    clear he2
    rintro k ρ w4 hk ⟨hH, he4, hrow⟩
    refine rwp_has hH fun ρ1 => ?_
    refine go ?_
    refine c_if (fun hk2 => ?_) (fun hk2 => ?_)
    · have hkn : k < p.n := by omega
      refine go ?_
      refine rc (tailVector_ok (p := p) (xs := p.pow.getD k []) rfl hkn hbd (by omega)) (next := fun v6 w6 h6 => ?_)
      obtain ⟨b6, rfl, hb6, he6⟩ := h6
      refine go ?_
      refine sp (fun h7 => ?_) (fun h7 => ?_)
      · refine go ?_
        refine ret1 (no (fun h => ?_) ((he1.trans he4).trans he6))
        have := hb6.2 ⟨h.w_in k hkn, h.w_zu k hkn⟩
        rw [this] at h7; cases h7
      · have h8 := exp_iff.2 (hb6.1 (by simpa using h7))
        refine go ?_
        refine c_if (fun h9 => ?_) (fun h9 => ?_)
        · refine go ?_
          refine ret1 (no (fun h => ?_) ((he1.trans he4).trans he6))
          have := ((valid_iff.1 h).2.2.2.2.2 k (by omega)).2.1
          omega
        · refine go ?_
          refine r_for (p.cnj.getD k []).length (fun m ρ w' => Has ρ [(1, .pointer (some ⟨b, 0, none⟩)), (3, .int .i64 p.n), (49, .int .i64 p.n), (50, .int .i64 k), (7, .int .i64 k), (78, Pc.rowAt vc cs k), (79, .int .i64 (p.cnj.getD k []).length), (80, .int .i64 m)] ∧ Ext w1 w' ∧ ∀ j, j < m → ExpP p.ord ((p.cnj.getD k []).getD j []) k) ?_ ?_
          · refine ⟨?_, he4.trans he6, fun i hi => by omega⟩
            exact hasP
          clear he4 he6
          rintro m ρ w7 hm ⟨hH, he7, hin⟩
          refine rwp_has hH fun ρ2 => ?_
          refine go ?_
          refine c_if (fun hm2 => ?_) (fun hm2 => ?_)
          · refine go ?_
            refine rc (tailVector_ok (p := p) (xs := (p.cnj.getD k []).getD m []) rfl hkn hbd (by omega)) (next := fun v9 w9 h9 => ?_)
            obtain ⟨b9, rfl, hb9, he9⟩ := h9
            refine go ?_
            refine c_b (fun h10 => ?_) (fun h10 => ?_)
            · refine go ?_
              refine ret1 (no (fun h => ?_) ((he1.trans he7).trans he9))
              have := hb9.2 (exp_iff.1 (((valid_iff.1 h).2.2.2.2.2 k (by omega)).2.2 m (by omega)))
              rw [this] at h10; cases h10
            · have h11 := exp_iff.2 (hb9.1 (by simpa using h10))
              refine go ?_
              refine forQ_normal (by omega) ⟨?_, he7.trans he9, fun j hj => ?_⟩
              · exact hasP
              · by_cases e : j = m
                · subst e; exact h11
                · exact hin j (by omega)
          · refine go ?_
            refine forQ_normal (by omega) ⟨?_, he7, fun q hq => ?_⟩
            · exact hasP
            · by_cases e : q = k
              · subst e
                exact ⟨h8, by omega, fun j hj => hin j (by omega)⟩
              · exact hrow q (by omega)
    · refine go ?_
      refine ret1 ⟨_, rfl, ?_, he1.trans he4⟩
      simp only [true_iff]
      exact valid_iff.2 ⟨by omega, by omega, by omega, hpre, hprod, fun q hq => hrow q (by omega)⟩
end Go.Proofs.Ytgomfjhhfmhlgaa

/-
  Walks: the program's consistency (levelFault, consistentFrom, IsConsistent).
  Conditions: stated at each theorem.
-/
namespace Go.Proofs.Ytgomfjhhfmhlgaa
open Go Go.Pc
def QC (p : Pr) (i : Nat) [h : Con p (i + 1)] (j k : Nat) : Prop := ∀ (hj : i < j ∧ j < p.n) (hk : i < k ∧ k < p.n), j < k → (Grp.cj (Tc h.valid hk) (Tc h.valid hj)).v = img p i (p.c j k)
def QI (p : Pr) (i : Nat) [h : Con p (i + 1)] (hi : i < p.n) (j : Nat) : Prop := ∀ (hj : i + 1 ≤ j ∧ j < p.n), rep (p.o i).toNat (img p i) (unitv p j 1) = (Grp.cj (gen h.valid (i + 1) j hj) (Tw h.valid hi)).v
theorem chk_iff2 {p : Pr} {i : Nat} [h : Con p (i + 1)] (hi : i < p.n) : Chk p i hi ↔ (∀ j, LP p i j) ∧ (∀ j k, QC p i j k) ∧ img p i (p.w i) = p.w i ∧ ∀ j, QI p i hi j := by
  constructor
  · intro hc
    refine ⟨fun j hj => congrArg T.v (hc.P j hj), fun j k hj hk hjk => congrArg T.v (hc.C j k hj hk hjk), congrArg T.v hc.F, fun j hj => ?_⟩
    have := congrArg T.v (hc.I j hj)
    rw [rep_Timg] at this
    exact this
  · rintro ⟨h1, h2, h3, h4⟩
    refine ⟨fun j hj => T.ext (h1 j hj), fun j k hj hk hjk => T.ext (h2 j k hj hk hjk), T.ext h3, fun j hj => T.ext ?_⟩
    rw [rep_Timg]
    exact h4 j hj
set_option maxHeartbeats 8000000 in
theorem levelFault_ok {p : Pr} {i : Nat} [hc : Con p (i + 1)] (hi : i < p.n) {w : World} {vp : Value} {ki : Int} {lo hi' : Nat} [hp : PresP lo hi' w vp p] (hki : ki = i) :
    Calls Try.prog 134 #[vp, .int .i64 ki] w (Ret fun v w' => ∃ k l f s : Int, v = faultV k l f s ∧ (k = 0 ↔ Chk p i hi) ∧ (k ≠ 0 → l = i) ∧ (k = 0 → l = 0 ∧ f = 0 ∧ s = 0) ∧ Ext w w') := by
  subst hki
  have hv := hc.valid
  have hn6 := hv.n6
  have hol : p.ord.length = p.n := rfl
  have hwl : p.pow.length = p.n := hv.lenw
  have hcl : p.cnj.length = p.n := hv.lenc
  have hci : (p.cnj.getD i []).length = p.n - 1 - i := hv.lenci i hi
  have hoi := hv.opos hi
  have hoe : p.o i = p.ord.getD i 0 := rfl
  obtain ⟨b, vo, vpw, vc, ps, cs, css, rfl, hb1, hb2, hc0, hc1, hc2, h1, h2, h3⟩ := hp.ex
  refine enter (args := [.pointer (some ⟨b, 0, none⟩), .int .i64 i]) (l := [.cell 4 121]) Try.func134 rfl rfl Try.ntmps134 (by simp) ?_
  refine go ?_
  refine st_alloc (by first | exact True.intro | exact ⟨_, rfl, by ((try simp only [ev_tmp, ev_const, ev_func, get_put, get_args, get_putL, get_putL_nil, Nat.reduceEqDiff, reduceIte, List.getD_cons_zero, List.getD_cons_succ, List.getD_nil, Bool.not_true, Bool.not_false]); first | done | with_reducible rfl)⟩) fun w2 bf he2 hbf hs2 hbk => ?_
  have bad : ∀ {w3 : World} {k f s : Int}, Ext w w3 → k ≠ 0 → ¬ Chk p i hi → ∃ k' l' f' s' : Int, faultV k i f s = faultV k' l' f' s' ∧ (k' = 0 ↔ Chk p i hi) ∧ (k' ≠ 0 → l' = i) ∧ (k' = 0 → l' = 0 ∧ f' = 0 ∧ s' = 0) ∧ Ext w w3 :=
    fun he hk hn => ⟨_, _, _, _, rfl, ⟨fun h => absurd h hk, fun h => absurd h hn⟩, fun _ => rfl, fun h => absurd h hk, he⟩
  have hTcv : ∀ j (hj : i < j ∧ j < p.n), (p.cnj.getD i []).getD (j - i - 1) [] = (Tc hv hj).v := fun j hj => rfl
  refine go ?_
  refine r_for (p.n - (i + 1)) (fun k ρ w' => Has ρ [(0, .pointer (some ⟨b, 0, none⟩)), (1, .int .i64 i), (4, .pointer (some ⟨bf, 0, none⟩)), (5, .int .i64 p.n), (6, .int .i64 i), (7, .int .i64 (i + 1 + k : Nat))] ∧ Ext w2 w' ∧ ∀ j, j < i + 1 + k → LP p i j) ?_ ?_
  · refine ⟨?_, Ext.refl _, fun j hj hj' => by omega⟩
    exact hasP
  rintro k ρ w3 hk ⟨hH, he3, hP⟩
  refine rwp_has hH fun ρ0 => ?_
  refine go ?_
  refine c_if (fun hj => ?_) (fun hj => ?_)
  · have hjn : i < i + 1 + k ∧ i + 1 + k < p.n := ⟨by omega, by omega⟩
    have hoj : 2 ≤ p.ord.getD (i + 1 + k) 0 ∧ p.ord.getD (i + 1 + k) 0 ≤ 7 := hv.opos hjn.2
    have hcv : (p.cnj.getD i []).getD (i + 1 + k - i - 1) [] = (Tc hv hjn).v := rfl
    refine go ?_
    refine d_order [0, 1, 2, 3, 4, 5, 6, 7, 8, 9, 10, 11, 12, 13, 14, 15, 16, 17, 18, 19, 20, 22, 23, 24, 25, 26, 27, 28, 29, 30, 21, 31, 32, 33] (h := fun w4 he4 _ => ?_)
    refine dgo ?_
    refine dce (power_ok (x := Tc hv hjn) (by omega) hcv ?_) (next := fun v5 w5 h5 => ?_)
    · omega
    obtain ⟨he5, hf5⟩ := h5
    refine dce (imageBy_ok hi (xs := p.w (i + 1 + k)) ?_ (hv.w_in _ hjn.2)) (next := fun v7 w7 h7 => ?_)
    · rfl
    obtain ⟨he7, hf7⟩ := h7
    have hlen := (Grp.pw (Tc hv hjn) (p.ord.getD (i + 1 + k) 0).toNat).inr.len
    refine dce (equalI_ok (xs := (Grp.pw (Tc hv hjn) (p.ord.getD (i + 1 + k) 0).toNat).v) (ys := img p i (p.w (i + 1 + k))) ?_) (next := fun v8 w8 h8 => ?_)
    · omega
    obtain ⟨b8, rfl, hb8, he8⟩ := h8
    have hE8 : Ext w2 w8 := (((he3.trans he4).trans he5).trans he7).trans he8
    refine dgo ?_
    refine d_end (h := ?_)
    refine go ?_
    refine c_b (fun h9 => ?_) (fun h9 => ?_)
    · refine go ?_
      refine ra (v := faultV 1 i (i + 1 + k : Nat) 0) (h := rd_build (by simp only [ev_tmp, ev_const, ev_func, get_put, get_args, get_putL, get_putL_nil, Nat.reduceEqDiff, reduceIte, List.getD_cons_zero, List.getD_cons_succ, List.getD_nil, List.map_toArray, List.map_cons, List.map_nil]; rfl) (fun _ => by kernel_rfl)) (next := ?_)
      refine st_store_agg (vs := [.int .i64 1, .int .i64 i, .int .i64 (i + 1 + k : Nat), .int .i64 0]) (cs := _) (by ((try simp only [ev_tmp, ev_const, ev_func, get_put, get_args, get_putL, get_putL_nil, Nat.reduceEqDiff, reduceIte, List.getD_cons_zero, List.getD_cons_succ, List.getD_nil]); first | done | with_reducible rfl)) (by ((try simp only [ev_tmp, ev_const, ev_func, get_put, get_args, get_putL, get_putL_nil, Nat.reduceEqDiff, reduceIte, List.getD_cons_zero, List.getD_cons_succ, List.getD_nil]); first | done | with_reducible rfl)) rfl ?_ rfl (by first | exact True.intro | exact ⟨_, rfl, by ((try simp only [ev_tmp, ev_const, ev_func, get_put, get_args, get_putL, get_putL_nil, Nat.reduceEqDiff, reduceIte, List.getD_cons_zero, List.getD_cons_succ, List.getD_nil, Bool.not_true, Bool.not_false]); first | done | with_reducible rfl)⟩) fun w9 hc9 hs9 hb9 => ?_
      · rfl
      refine go ?_
      refine retc (bad (k := 1) (f := (i + 1 + k : Nat)) (s := 0) (hc9.ext (he2.trans hE8) (by omega)) (by decide) fun h => ?_) rfl
      have := hb8.2 (((chk_iff2 hi).1 h).1 _ hjn)
      rw [this] at h9; cases h9
    · have h10 := hb8.1 (by simpa using h9)
      refine go ?_
      refine forQ_normal (by omega) ⟨?_, hE8, fun j hj => ?_⟩
      · exact hasP
      · by_cases e : j = i + 1 + k
        · subst e; exact fun _ => h10
        · exact hP j (by omega)
  refine go ?_
  have hP' : ∀ j, LP p i j := fun j => by
    by_cases e : j < i + 1 + k
    · exact hP j e
    · exact fun h => by omega
  clear hP hH hk hj
  refine r_for (p.n - (i + 1)) (fun k ρ w' => Has ρ [(0, .pointer (some ⟨b, 0, none⟩)), (1, .int .i64 i), (4, .pointer (some ⟨bf, 0, none⟩)), (5, .int .i64 p.n), (6, .int .i64 i), (8, .int .i64 (i + 1 + k : Nat))] ∧ Ext w2 w' ∧ ∀ j k', j < i + 1 + k → QC p i j k') ?_ ?_
  · refine ⟨?_, he3, fun j k' hj hj' => by omega⟩
    exact hasP
  clear he3 ρ0 k
  rintro k ρ w4 hk ⟨hH, he4, hC⟩
  refine rwp_has hH fun ρ1 => ?_
  refine go ?_
  refine c_if (fun hj => ?_) (fun hj => ?_)
  · have hjn : i < i + 1 + k ∧ i + 1 + k < p.n := ⟨by omega, by omega⟩
    refine go ?_
    refine r_for (p.n - (i + 1 + k + 1)) (fun l ρ w' => Has ρ [(0, .pointer (some ⟨b, 0, none⟩)), (1, .int .i64 i), (4, .pointer (some ⟨bf, 0, none⟩)), (5, .int .i64 p.n), (6, .int .i64 i), (8, .int .i64 (i + 1 + k : Nat)), (9, .int .i64 (i + 1 + k + 1 + l : Nat))] ∧ Ext w2 w' ∧ ∀ k', k' < i + 1 + k + 1 + l → QC p i (i + 1 + k) k') ?_ ?_
    · refine ⟨?_, he4, fun k' hk' h1 h2 h3 => by omega⟩
      exact hasP
    clear he4
    rintro l ρ w5 hl ⟨hH5, he5, hC5⟩
    refine rwp_has hH5 fun ρ2 => ?_
    refine go ?_
    refine c_if (fun hk2 => ?_) (fun hk2 => ?_)
    · have hkn : i < i + 1 + k + 1 + l ∧ i + 1 + k + 1 + l < p.n := ⟨by omega, by omega⟩
      have hjk : i + 1 + k < i + 1 + k + 1 + l := by omega
      have hcj := hv.lenci (i + 1 + k) hjn.2
      have hcv1 : (p.cnj.getD i []).getD (i + 1 + k - i - 1) [] = (Tc hv hjn).v := rfl
      have hcv2 : (p.cnj.getD i []).getD (i + 1 + k + 1 + l - i - 1) [] = (Tc hv hkn).v := rfl
      refine go ?_
      refine d_order [0, 1, 2, 3, 4, 5, 6, 7, 8, 9, 10, 11, 12, 13, 14, 15, 16, 17, 18, 19, 20, 21, 22, 23, 24, 25, 26, 28, 29, 30, 31, 32, 33, 34, 35, 36, 37, 38, 39, 40, 41, 42, 27, 43, 44, 45] (h := fun w6 he6 _ => ?_)
      refine dgo ?_
      refine dce (conjugate_ok (x := Tc hv hkn) (y := Tc hv hjn) (by omega) hcv2 hcv1) (next := fun v7 w7 h7 => ?_)
      obtain ⟨he7, hf7⟩ := h7
      refine dce (imageBy_ok hi (xs := p.c (i + 1 + k) (i + 1 + k + 1 + l)) ?_ (hv.c_in _ _ hjk hkn.2)) (next := fun v8 w8 h8 => ?_)
      · rfl
      obtain ⟨he8, hf8⟩ := h8
      have hlen := (Grp.cj (Tc hv hkn) (Tc hv hjn)).inr.len
      refine dce (equalI_ok (xs := (Grp.cj (Tc hv hkn) (Tc hv hjn)).v) (ys := img p i (p.c (i + 1 + k) (i + 1 + k + 1 + l))) ?_) (next := fun v9 w9 h9 => ?_)
      · omega
      obtain ⟨b9, rfl, hb9, he9⟩ := h9
      have hE9 : Ext w2 w9 := (((he5.trans he6).trans he7).trans he8).trans he9
      refine dgo ?_
      refine d_end (h := ?_)
      refine go ?_
      refine c_b (fun h10 => ?_) (fun h10 => ?_)
      · refine go ?_
        refine ra (v := faultV 2 i (i + 1 + k : Nat) (i + 1 + k + 1 + l : Nat)) (h := rd_build (by simp only [ev_tmp, ev_const, ev_func, get_put, get_args, get_putL, get_putL_nil, Nat.reduceEqDiff, reduceIte, List.getD_cons_zero, List.getD_cons_succ, List.getD_nil, List.map_toArray, List.map_cons, List.map_nil]; rfl) (fun _ => by kernel_rfl)) (next := ?_)
        refine st_store_agg (vs := [.int .i64 2, .int .i64 i, .int .i64 (i + 1 + k : Nat), .int .i64 (i + 1 + k + 1 + l : Nat)]) (cs := _) (by ((try simp only [ev_tmp, ev_const, ev_func, get_put, get_args, get_putL, get_putL_nil, Nat.reduceEqDiff, reduceIte, List.getD_cons_zero, List.getD_cons_succ, List.getD_nil]); first | done | with_reducible rfl)) (by ((try simp only [ev_tmp, ev_const, ev_func, get_put, get_args, get_putL, get_putL_nil, Nat.reduceEqDiff, reduceIte, List.getD_cons_zero, List.getD_cons_succ, List.getD_nil]); first | done | with_reducible rfl)) rfl ?_ rfl (by first | exact True.intro | exact ⟨_, rfl, by ((try simp only [ev_tmp, ev_const, ev_func, get_put, get_args, get_putL, get_putL_nil, Nat.reduceEqDiff, reduceIte, List.getD_cons_zero, List.getD_cons_succ, List.getD_nil, Bool.not_true, Bool.not_false]); first | done | with_reducible rfl)⟩) fun w10 hc10 hs10 hb10 => ?_
        · rfl
        refine go ?_
        refine retc (bad (k := 2) (f := (i + 1 + k : Nat)) (s := (i + 1 + k + 1 + l : Nat)) (hc10.ext (he2.trans hE9) (by omega)) (by decide) fun h => ?_) rfl
        have := hb9.2 (((chk_iff2 hi).1 h).2.1 _ _ hjn hkn hjk)
        rw [this] at h10; cases h10
      · have h11 := hb9.1 (by simpa using h10)
        refine go ?_
        refine forQ_normal (by omega) ⟨?_, hE9, fun k' hk' => ?_⟩
        · exact hasP
        · by_cases e : k' = i + 1 + k + 1 + l
          · subst e; exact fun _ _ _ => h11
          · exact hC5 k' (by omega)
    · refine go ?_
      refine forQ_normal (by omega) ⟨?_, he5, fun j k' hj2 => ?_⟩
      · exact hasP
      · by_cases e : j = i + 1 + k
        · subst e
          by_cases e2 : k' < i + 1 + k + 1 + l
          · exact hC5 k' e2
          · exact fun _ _ _ => by omega
        · exact hC j k' (by omega)
  refine go ?_
  have hC' : ∀ j k', QC p i j k' := fun j k' => by
    by_cases e : j < i + 1 + k
    · exact hC j k' e
    · exact fun h _ _ => by omega
  clear hC hH hk hj
  refine rc (imageBy_ok hi (xs := p.w i) ?_ (hv.w_in _ hi)) (next := fun v5 w5 h5 => ?_)
  · rfl
  obtain ⟨he5, hf5⟩ := h5
  have hlen := (img_in hv i (p.w i)).1.len
  refine go ?_
  refine rc (equalI_ok (xs := img p i (p.w i)) (ys := p.w i) ?_) (next := fun v6 w6 h6 => ?_)
  · omega
  obtain ⟨b6, rfl, hb6, he6⟩ := h6
  have hE6 : Ext w2 w6 := (he4.trans he5).trans he6
  clear he4 he5 he6 hf5
  refine go ?_
  refine c_b (fun h7 => ?_) (fun h7 => ?_)
  · refine go ?_
    refine ra (v := faultV 3 i 0 0) (h := rd_build (by simp only [ev_tmp, ev_const, ev_func, get_put, get_args, get_putL, get_putL_nil, Nat.reduceEqDiff, reduceIte, List.getD_cons_zero, List.getD_cons_succ, List.getD_nil, List.map_toArray, List.map_cons, List.map_nil]; rfl) (fun _ => by kernel_rfl)) (next := ?_)
    refine st_store_agg (vs := [.int .i64 3, .int .i64 i, .int .i64 0, .int .i64 0]) (cs := _) (by ((try simp only [ev_tmp, ev_const, ev_func, get_put, get_args, get_putL, get_putL_nil, Nat.reduceEqDiff, reduceIte, List.getD_cons_zero, List.getD_cons_succ, List.getD_nil]); first | done | with_reducible rfl)) (by ((try simp only [ev_tmp, ev_const, ev_func, get_put, get_args, get_putL, get_putL_nil, Nat.reduceEqDiff, reduceIte, List.getD_cons_zero, List.getD_cons_succ, List.getD_nil]); first | done | with_reducible rfl)) rfl ?_ rfl (by first | exact True.intro | exact ⟨_, rfl, by ((try simp only [ev_tmp, ev_const, ev_func, get_put, get_args, get_putL, get_putL_nil, Nat.reduceEqDiff, reduceIte, List.getD_cons_zero, List.getD_cons_succ, List.getD_nil, Bool.not_true, Bool.not_false]); first | done | with_reducible rfl)⟩) fun w9 hc9 hs9 hb9 => ?_
    · rfl
    refine go ?_
    refine retc (bad (k := 3) (f := 0) (s := 0) (hc9.ext (he2.trans hE6) (by omega)) (by decide) fun h => ?_) rfl
    have := hb6.2 ((chk_iff2 hi).1 h).2.2.1
    rw [this] at h7; cases h7
  have hF := hb6.1 (by simpa using h7)
  clear h7
  refine go ?_
  refine r_for (p.n - (i + 1)) (fun k ρ w' => Has ρ [(0, .pointer (some ⟨b, 0, none⟩)), (1, .int .i64 i), (4, .pointer (some ⟨bf, 0, none⟩)), (5, .int .i64 p.n), (6, .int .i64 i), (10, Pc.rowAt vpw ps i), (11, .int .i64 (i + 1 + k : Nat))] ∧ Ext w2 w' ∧ ∀ j, j < i + 1 + k → QI p i hi j) ?_ ?_
  · refine ⟨?_, hE6, fun j hj h1 => by omega⟩
    exact hasP
  clear hE6
  rintro l ρ w8 hk ⟨hH, he8, hI⟩
  refine rwp_has hH fun ρ2 => ?_
  refine go ?_
  refine c_if (fun hj => ?_) (fun hj => ?_)
  · have hjn : i + 1 ≤ i + 1 + l ∧ i + 1 + l < p.n := ⟨by omega, by omega⟩
    refine go ?_
    refine rc (unitVector_ok (n := p.n) (i := i + 1 + l) rfl rfl ?_ hjn.2) (next := fun v9 w9 h9 => ?_)
    · omega
    obtain ⟨he9, hf9⟩ := h9
    have hg0 : (zeros p.n).set (i + 1 + l) 1 = unitv p (i + 1 + l) 1 := rfl
    rw [hg0] at hf9
    have hz8 := he8.size
    refine go ?_
    refine r_for (p.o i).toNat (fun q ρ w' => ∃ vx, Has ρ [(0, .pointer (some ⟨b, 0, none⟩)), (1, .int .i64 i), (4, .pointer (some ⟨bf, 0, none⟩)), (5, .int .i64 p.n), (6, .int .i64 i), (10, Pc.rowAt vpw ps i), (11, .int .i64 (i + 1 + l : Nat)), (12, vx), (159, .int .i64 (p.ord.getD i 0)), (160, .int .i64 q)] ∧ Ext w8 w' ∧ Fr w8.heap.size w' vx (rep q (img p i) (unitv p (i + 1 + l) 1))) ?_ ?_
    · refine ⟨v9, ?_, he9, hf9⟩
      exact hasP
    clear he9 hf9
    rintro q ρ w10 hq ⟨vx, hH, he10, hf10⟩
    refine rwp_has hH fun ρ3 => ?_
    have hin : InR p (rep q (img p i) (unitv p (i + 1 + l) 1)) ∧ ZU (i + 1) (rep q (img p i) (unitv p (i + 1 + l) 1)) := by
      refine rep_inv (fun v => InR p v ∧ ZU (i + 1) v) (fun x _ => img_in hv i x) ⟨?_, unitv_zu p hjn.1 1⟩ q
      exact unitv_in hv (by omega) (fun h => by have := hv.opos h; omega)
    have hxi := hf10.ints
    refine go ?_
    refine c_if (fun hq2 => ?_) (fun hq2 => ?_)
    · refine go ?_
      refine rc (imageBy_ok hi (xs := rep q (img p i) (unitv p (i + 1 + l) 1)) ?_ hin.1) (next := fun v11 w11 h11 => ?_)
      · rfl
      obtain ⟨he11, hf11⟩ := h11
      refine go ?_
      refine forQ_normal (by omega) ⟨v11, ?_, he10.trans he11, hf11.mono he10.size⟩
      exact hasP
    · have hqe : q = (p.o i).toNat := by omega
      subst hqe
      refine go ?_
      refine rc (unitVector_ok (n := p.n) (i := i + 1 + l) rfl rfl ?_ hjn.2) (next := fun v11 w11 h11 => ?_)
      · omega
      obtain ⟨he11, hf11⟩ := h11
      refine go ?_
      refine rc (conjugate_ok (x := gen hv (i + 1) (i + 1 + l) hjn) (y := Tw hv hi) (xs := (zeros p.n).set (i + 1 + l) 1) (ys := p.w i) (by omega) rfl rfl) (next := fun v12 w12 h12 => ?_)
      obtain ⟨he12, hf12⟩ := h12
      have hlen2 := hin.1.len
      refine go ?_
      refine rc (equalI_ok (xs := rep (p.o i).toNat (img p i) (unitv p (i + 1 + l) 1)) (ys := (Grp.cj (gen hv (i + 1) (i + 1 + l) hjn) (Tw hv hi)).v) ?_) (next := fun v13 w13 h13 => ?_)
      · omega
      obtain ⟨b13, rfl, hb13, he13⟩ := h13
      have hE13 : Ext w2 w13 := (((he8.trans he10).trans he11).trans he12).trans he13
      refine go ?_
      refine c_b (fun h14 => ?_) (fun h14 => ?_)
      · refine go ?_
        refine ra (v := faultV 4 i (i + 1 + l : Nat) 0) (h := rd_build (by simp only [ev_tmp, ev_const, ev_func, get_put, get_args, get_putL, get_putL_nil, Nat.reduceEqDiff, reduceIte, List.getD_cons_zero, List.getD_cons_succ, List.getD_nil, List.map_toArray, List.map_cons, List.map_nil]; rfl) (fun _ => by kernel_rfl)) (next := ?_)
        refine st_store_agg (vs := [.int .i64 4, .int .i64 i, .int .i64 (i + 1 + l : Nat), .int .i64 0]) (cs := _) (by ((try simp only [ev_tmp, ev_const, ev_func, get_put, get_args, get_putL, get_putL_nil, Nat.reduceEqDiff, reduceIte, List.getD_cons_zero, List.getD_cons_succ, List.getD_nil]); first | done | with_reducible rfl)) (by ((try simp only [ev_tmp, ev_const, ev_func, get_put, get_args, get_putL, get_putL_nil, Nat.reduceEqDiff, reduceIte, List.getD_cons_zero, List.getD_cons_succ, List.getD_nil]); first | done | with_reducible rfl)) rfl ?_ rfl (by first | exact True.intro | exact ⟨_, rfl, by ((try simp only [ev_tmp, ev_const, ev_func, get_put, get_args, get_putL, get_putL_nil, Nat.reduceEqDiff, reduceIte, List.getD_cons_zero, List.getD_cons_succ, List.getD_nil, Bool.not_true, Bool.not_false]); first | done | with_reducible rfl)⟩) fun w15 hc15 hs15 hb15 => ?_
        · rfl
        refine go ?_
        refine retc (bad (k := 4) (f := (i + 1 + l : Nat)) (s := 0) (hc15.ext (he2.trans hE13) (by omega)) (by decide) fun h => ?_) rfl
        have := hb13.2 (((chk_iff2 hi).1 h).2.2.2 (i + 1 + l) hjn)
        rw [this] at h14; cases h14
      · have h15 := hb13.1 (by simpa using h14)
        refine go ?_
        refine forQ_normal (by omega) ⟨?_, hE13, fun j hj2 => ?_⟩
        · exact hasP
        · by_cases e : j = i + 1 + l
          · subst e; exact fun _ => h15
          · exact hI j (by omega)
  · refine go ?_
    refine ra (v := faultV 0 0 0 0) (h := rd_build (by rfl) (fun _ => by kernel_rfl)) (next := ?_)
    refine st_store_agg (vs := [.int .i64 0, .int .i64 0, .int .i64 0, .int .i64 0]) (cs := _) (by ((try simp only [ev_tmp, ev_const, ev_func, get_put, get_args, get_putL, get_putL_nil, Nat.reduceEqDiff, reduceIte, List.getD_cons_zero, List.getD_cons_succ, List.getD_nil]); first | done | with_reducible rfl)) (by ((try simp only [ev_tmp, ev_const, ev_func, get_put, get_args, get_putL, get_putL_nil, Nat.reduceEqDiff, reduceIte, List.getD_cons_zero, List.getD_cons_succ, List.getD_nil]); first | done | with_reducible rfl)) rfl ?_ rfl (by first | exact True.intro | exact ⟨_, rfl, by ((try simp only [ev_tmp, ev_const, ev_func, get_put, get_args, get_putL, get_putL_nil, Nat.reduceEqDiff, reduceIte, List.getD_cons_zero, List.getD_cons_succ, List.getD_nil, Bool.not_true, Bool.not_false]); first | done | with_reducible rfl)⟩) fun w15 hc15 hs15 hb15 => ?_
    · rfl
    refine go ?_
    exact retc ⟨0, 0, 0, 0, rfl, ⟨fun _ => (chk_iff2 hi).2 ⟨hP', hC', hF, fun j h1 => hI j (by omega) h1⟩, fun _ => rfl⟩, fun h => absurd rfl h, fun _ => ⟨rfl, rfl, rfl⟩, hc15.ext (he2.trans he8) (by omega)⟩ rfl
end Go.Proofs.Ytgomfjhhfmhlgaa

/-
  Walks: the program's consistency of a presentation (consistentFrom, IsConsistent).
  Conditions: stated at each theorem.
-/
namespace Go.Proofs.Ytgomfjhhfmhlgaa
open Go Go.Pc
theorem fault_guard : (Try.prog.eqGuardType Try.prog.depth 121) = false := by kernel_rfl
theorem fault_held : (Try.prog.stoodInHeld 121) = false := by kernel_rfl
theorem fault_fields : Try.prog.underlying 121 = some (.struct (Try.prog.fieldsOf 121)) := by simp [Program.fieldsOf, Try.underlying121]
theorem rd_eqFault {ρ : Env} {w : World} {ty : TypeId} {x y : Operand} {k l f s : Int} (h : ev ρ x = faultV k l f s) (h' : ev ρ y = faultV 0 0 0 0) :
    Rd Try.prog (.binOp .eql 121 x y 121) ty ρ w (.bool (decide (k = 0 ∧ l = 0 ∧ f = 0 ∧ s = 0))) := by
  constructor; intro _ _ _ _
  have h2 := fun d a b w => run_equalIn_int (P := Try.prog) w d 2 .i64 .i64 a b Try.underlying2
  simp [execOp, h, h', run_eqGuard_agg _ _ _ _ _ _ _ fault_guard, run_eql_struct, run_equalIn_agg _ _ _ _ _ fault_fields fault_held, Program.fieldsOf, Try.underlying121, Op.eqFields, h2, go_sem]
  by_cases hk : k = 0 <;> by_cases hl : l = 0 <;> by_cases hf : f = 0 <;> by_cases hs : s = 0 <;> simp [hk, hl, hf, hs]
set_option maxHeartbeats 1000000 in
theorem consistentFrom_ok {p : Pr} (hv : Valid p) {w : World} {vp : Value} {lo hi' : Nat} [hp : PresP lo hi' w vp p] :
    Calls Try.prog 93 #[vp] w (Ret fun v w' => ∃ i : Nat, v = .int .i64 i ∧ i ≤ p.n ∧ Levs p i ∧ (i ≠ 0 → ¬ Lev p (i - 1)) ∧ Ext w w') := by
  have hn6 := hv.n6
  have hol : p.ord.length = p.n := rfl
  obtain ⟨b, vo, vpw, vc, ps, cs, css, rfl, hb1, hb2, hc0, hc1, hc2, h1, h2, h3⟩ := hp.ex
  refine enter (args := [.pointer (some ⟨b, 0, none⟩)]) (l := [.tmp 2]) Try.func93 rfl rfl Try.ntmps93 (by simp) ?_
  refine go ?_
  refine r_for p.n (fun k ρ w' => Has ρ [(0, .pointer (some ⟨b, 0, none⟩)), (3, .int .i64 (p.n - k : Nat))] ∧ Ext w w' ∧ Levs p (p.n - k)) ?_ ?_
  · refine ⟨?_, Ext.refl _, fun j h h' => by omega⟩
    exact hasP
  rintro k ρ w3 hk ⟨hH, he3, hL⟩
  refine rwp_has hH fun ρ0 => ?_
  refine go ?_
  refine spd (fun h4 => ?_) (fun h4 => ?_)
  · obtain ⟨i, hie⟩ : ∃ i : Nat, p.n - k = i + 1 := ⟨p.n - k - 1, by omega⟩
    have hi : i < p.n := by omega
    rw [hie] at hL h4 ⊢
    have hc : Con p (i + 1) := Levs.con hv hL
    refine go ?_
    refine rc (levelFault_ok (p := p) (i := i) hi ?_) (next := fun v5 w5 h5 => ?_)
    · omega
    obtain ⟨k5, l5, f5, s5, rfl, hz, hl5, h05, he5⟩ := h5
    refine go ?_
    refine ra (v := faultV 0 0 0 0) (h := rd_build (by rfl) (fun _ => by kernel_rfl)) (next := ?_)
    refine go ?_
    refine ra (h := rd_eqFault (k := k5) (l := l5) (f := f5) (s := s5) (by ((try simp only [ev_tmp, ev_const, ev_func, get_put, get_args, get_putL, get_putL_nil, Nat.reduceEqDiff, reduceIte, List.getD_cons_zero, List.getD_cons_succ, List.getD_nil]); first | done | with_reducible rfl)) (by ((try simp only [ev_tmp, ev_const, ev_func, get_put, get_args, get_putL, get_putL_nil, Nat.reduceEqDiff, reduceIte, List.getD_cons_zero, List.getD_cons_succ, List.getD_nil]); first | done | with_reducible rfl))) (next := ?_)
    refine go ?_
    refine c_if (fun h8 => ?_) (fun h8 => ?_)
    · refine go ?_
      refine forQ_normal (by omega) ⟨?_, he3.trans he5, fun j hj hjn => ?_⟩
      · exact hasP
      · by_cases e : j = i
        · subst e; exact ⟨hc, hi, hz.1 h8.1⟩
        · exact hL j (by omega) hjn
    · refine go ?_
      refine ret1 ⟨i + 1, rfl, by omega, hL, fun _ => ?_, he3.trans he5⟩
      rintro ⟨_, _, h9⟩
      have h0 := hz.2 h9
      exact h8 ⟨h0, h05 h0⟩
  · refine go ?_
    have hkn : p.n - k = 0 := by omega
    rw [hkn] at hL ⊢
    exact ret1 ⟨0, rfl, by omega, hL, fun h => absurd rfl h, he3⟩
set_option maxHeartbeats 1000000 in
theorem impl_IsConsistent_ok {w : World} {vp : Value} {p : Pr} {lo hi' : Nat} [hp : Pres lo hi' w vp p] (hl : p.ord.length ≤ 2000000) :
    Calls Try.prog 55 #[vp] w (Ret fun v w' => ∃ b, v = .bool b ∧ (b = true ↔ IsGrp p) ∧ Ext w w') := by
  obtain ⟨vo, vpw, vc, ps, cs, css, rfl, h1, h2, h3⟩ := hp.ex
  refine enter (args := [.agg #[vo, vpw, vc]]) (l := [.tmp 2]) Try.func55 rfl rfl Try.ntmps55 (by simp) ?_
  refine go ?_
  refine st_box3 (by ((try simp only [ev_tmp, ev_const, ev_func, get_put, get_args, get_putL, get_putL_nil, Nat.reduceEqDiff, reduceIte, List.getD_cons_zero, List.getD_cons_succ, List.getD_nil]); first | done | with_reducible rfl)) (by first | exact True.intro | exact ⟨_, rfl, by ((try simp only [ev_tmp, ev_const, ev_func, get_put, get_args, get_putL, get_putL_nil, Nat.reduceEqDiff, reduceIte, List.getD_cons_zero, List.getD_cons_succ, List.getD_nil, Bool.not_true, Bool.not_false]); first | done | with_reducible rfl)⟩) fun w1 b he1 hb1 hs1 hc0 hc1 hc2 => ?_
  have hpp := hp.boxed he1 hc0 hc1 hc2
  refine go ?_
  refine rc (impl_IsPresentation_ok hl) (next := fun v5 w5 h5 => ?_)
  obtain ⟨b5, rfl, hb5, he5⟩ := h5
  refine go ?_
  refine sp (fun e5 => ?_) (fun e5 => ?_)
  · have hv := hb5.1 e5
    refine go ?_
    refine rc (consistentFrom_ok hv) (next := fun v6 w6 h6 => ?_)
    obtain ⟨i, rfl, hi, hL, hno, he6⟩ := h6
    refine go ?_
    refine ret1 ⟨_, rfl, ?_, (he1.trans he5).trans he6⟩
    rw [decide_eq_true_eq]
    constructor
    · intro h
      have : i = 0 := by omega
      subst this
      exact ⟨hv, hL⟩
    · intro h
      by_cases e : i = 0
      · omega
      · exact absurd (h.levs (i - 1) (by omega) (by omega)) (hno e)
  · refine go ?_
    refine ret1 ⟨_, rfl, ?_, he1.trans he5⟩
    simp only [Bool.false_eq_true, false_iff]
    intro h
    have := hb5.2 h.valid
    rw [e5] at this; cases this
end Go.Proofs.Ytgomfjhhfmhlgaa

/-
  Walks: the program's test of subgroups (areSubgroups, IsSubgroup).
  Conditions: stated at each theorem.
-/
namespace Go.Proofs.Ytgomfjhhfmhlgaa
open Go Go.Pc
theorem PresP.val {lo hi b : Nat} {w : World} {p : Pr} {vo vp vc : Value} {ps cs : List Value} {css : List (List Value)} (h1 : Ints lo hi w vo p.ord) (h2 : Pc.Rows lo hi w vp ps p.pow) (h3 : Rowss lo hi w vc cs css p.cnj) : Pres lo hi w (.agg #[vo, vp, vc]) p := ⟨⟨vo, vp, vc, ps, cs, css, rfl, h1, h2, h3⟩⟩
set_option maxHeartbeats 2000000 in
theorem areSubgroups_ok {p : Pr} {w : World} {vp vl : Value} {us : List Value} {uss : List (List Value)} {xsss : List (List (List Int))} {lo hi lo1 hi1 : Nat} [hp : PresP lo hi w vp p] [hl : Rowss lo1 hi1 w vl us uss xsss] (hol : p.ord.length ≤ 2000000) (hxl : xsss.length ≤ 2000000) :
    Calls Try.prog 72 #[vp, vl] w (Ret fun v w' => ∃ b, v = .bool b ∧ (b = true ↔ ∃ h : IsGrp p, ∀ i, i < xsss.length → @IsSeq p ⟨h.con⟩ (xsss.getD i [])) ∧ Ext w w') := by
  have hoe : p.ord.length = p.n := rfl
  obtain ⟨g, vo, vpw, vc, ps, cs, css, rfl, hg1, hg2, hc0, hc1, hc2, h1, h2, h3⟩ := hp.ex
  have hpv := PresP.val (b := g) h1 h2 h3
  refine enter (args := [.pointer (some ⟨g, 0, none⟩), vl]) (l := [.tmp 4]) Try.func72 rfl rfl Try.ntmps72 (by simp) ?_
  refine go ?_
  refine rc (impl_IsConsistent_ok (p := p) hol) (next := fun v1 w1 h4 => ?_)
  obtain ⟨b1, rfl, hb1, he1⟩ := h4
  refine go ?_
  refine c_b (fun e1 => ?_) (fun e1 => ?_)
  · refine go ?_
    refine ret1 ⟨_, rfl, ?_, he1⟩
    simp only [Bool.false_eq_true, false_iff]
    rintro ⟨h, _⟩
    have := hb1.2 h
    rw [this] at e1; cases e1
  have hG := hb1.1 (by simpa using e1)
  haveI hcon : ConAll p := ⟨hG.con⟩
  have hv := hG.valid
  have hn6 := hv.n6
  have hno : ∀ {b : Bool} {w' : World} (i : Nat), i < xsss.length → ¬ IsSeq p (xsss.getD i []) → Ext w w' → ∃ b, Value.bool false = .bool b ∧ (b = true ↔ ∃ h : IsGrp p, ∀ i, i < xsss.length → @IsSeq p ⟨h.con⟩ (xsss.getD i [])) ∧ Ext w w' := by
    intro b w' i hi hn he
    refine ⟨_, rfl, ?_, he⟩
    simp only [Bool.false_eq_true, false_iff]
    rintro ⟨h, h5⟩
    exact hn (h5 i hi)
  refine go ?_
  refine r_for xsss.length (fun k ρ w' => Has ρ [(0, .pointer (some ⟨g, 0, none⟩)), (14, vl), (15, .int .i64 xsss.length), (16, .int .i64 k)] ∧ Ext w w' ∧ ∀ i, i < k → IsSeq p (xsss.getD i [])) ?_ ?_
  · refine ⟨?_, he1, fun i hi => by omega⟩
    exact hasP
  clear he1
  rintro k ρ w2 hk ⟨hH, he2, hI⟩
  refine rwp_has hH fun ρ0 => ?_
  refine go ?_
  refine c_if (fun h4 => ?_) (fun h4 => ?_)
  · have hkn : k < xsss.length := by omega
    refine go ?_
    refine c_if (fun h5 => ?_) (fun h5 => ?_)
    · refine go ?_
      refine ret1 (hno (b := false) k hkn (fun h => ?_) he2)
      have := h.len; omega
    refine go ?_
    refine r_for (xsss.getD k []).length (fun q ρ w' => Has ρ [(0, .pointer (some ⟨g, 0, none⟩)), (6, Pc.rowAt vl us k), (14, vl), (15, .int .i64 xsss.length), (16, .int .i64 k), (28, Pc.rowAt vl us k), (29, .int .i64 (xsss.getD k []).length), (30, .int .i64 q)] ∧ Ext w w' ∧ ∀ i, i < q → InR p ((xsss.getD k []).getD i [])) ?_ ?_
    · refine ⟨?_, he2, fun i hi => by omega⟩
      exact hasP
    clear he2
    rintro q ρ w3 hq ⟨hH3, he3, hQ⟩
    refine rwp_has hH3 fun ρ1 => ?_
    refine go ?_
    refine c_if (fun h6 => ?_) (fun h6 => ?_)
    · refine go ?_
      refine rc (isExponents_ok (p := p) (xs := (xsss.getD k []).getD q []) (fun i hi => hv.opos hi) (by omega)) (next := fun v4 w4 h7 => ?_)
      obtain ⟨b4, rfl, hb4, he4⟩ := h7
      refine go ?_
      refine c_b (fun h8 => ?_) (fun h8 => ?_)
      · refine go ?_
        refine ret1 (hno (b := false) k hkn (fun h => ?_) (he3.trans he4))
        obtain ⟨ys, hys, _⟩ := h
        have : InR p ((xsss.getD k []).getD q []) := by rw [hys]; exact vecs_in (by rw [← hys]; omega)
        rw [hb4.2 this] at h8; cases h8
      · have h9 := hb4.1 (by simpa using h8)
        refine go ?_
        refine forQ_normal (by omega) ⟨?_, he3.trans he4, fun i hi => ?_⟩
        · exact hasP
        · by_cases e : i = q
          · subst e; exact h9
          · exact hQ i (by omega)
    · obtain ⟨ys, hys⟩ := els_of (xss := xsss.getD k []) (fun i hi => hQ i (by omega))
      have hyl : (xsss.getD k []).length = ys.length := by rw [hys]; simp
      refine go ?_
      refine rc (generated_ok (p := p) (ys := ys) hys ?_) (next := fun v4 w4 h7 => ?_)
      · omega
      obtain ⟨he4, us4, hL4⟩ := h7
      have hr4 := hL4.toRows
      have hcl := canTo_len (Gen (fun a : El p => a ∈ ys)) p.n
      rw [canTo_end] at hcl
      refine go ?_
      refine rc (sameRows_ok (xss := canon (Gen (fun a : El p => a ∈ ys))) (yss := xsss.getD k []) ?_ ?_) (next := fun v5 w5 h8 => ?_)
      · intro i
        have := canon_row (Gen (fun a : El p => a ∈ ys)) i
        omega
      · omega
      obtain ⟨b5, rfl, hb5, he5⟩ := h8
      refine go ?_
      refine c_b (fun h9 => ?_) (fun h9 => ?_)
      · refine go ?_
        refine ret1 (hno (b := false) k hkn (fun h => ?_) ((he3.trans he4).trans he5))
        obtain ⟨zs, hzs, h10⟩ := h
        obtain rfl : ys = zs := vecs_inj (hys.symm.trans hzs)
        rw [hb5.2 h10] at h9; cases h9
      · have h10 := hb5.1 (by simpa using h9)
        refine go ?_
        refine forQ_normal (by omega) ⟨?_, (he3.trans he4).trans he5, fun i hi => ?_⟩
        · exact hasP
        · by_cases e : i = k
          · subst e; exact ⟨ys, hys, h10⟩
          · exact hI i (by omega)
  · refine go ?_
    refine ret1 ⟨_, rfl, ?_, he2⟩
    simp only [true_iff]
    exact ⟨hG, fun i hi => hI i (by omega)⟩
end Go.Proofs.Ytgomfjhhfmhlgaa

/-
  Walks: the program's IsMember and IsSubset.
  Conditions: what the arguments read as.
-/
namespace Go.Proofs.Ytgomfjhhfmhlgaa
open Go Go.Pc
theorem rows_none (w : World) (hi : Nat) : Pc.Rows 0 hi w nilv [] [] :=
  ⟨⟨⟨none, 0, rfl, Nat.le_refl _, by omega, fun k u hu => by simp at hu⟩⟩, rfl, fun j => by simpa using (Ints.nil_ w).mono (Nat.le_refl 0) (Nat.zero_le _)⟩
theorem rowss_one {w : World} {v u : Value} {us : List Value} {xss : List (List Int)} {lo hi lo1 hi1 : Nat} (hs : Sl lo hi w v [u]) (hu : Pc.Rows lo1 hi1 w u us xss) : Rowss 0 w.heap.size w v [u] [us] [xss] := by
  refine ⟨hs.wide, rfl, rfl, fun i => ?_⟩
  cases i with
  | zero => exact hu.wide
  | succ i => exact rows_none w _
theorem rowss_two {w : World} {v u t : Value} {us ts : List Value} {xss yss : List (List Int)} {lo hi lo1 hi1 lo2 hi2 : Nat} (hs : Sl lo hi w v [u, t]) (hu : Pc.Rows lo1 hi1 w u us xss) (ht : Pc.Rows lo2 hi2 w t ts yss) : Rowss 0 w.heap.size w v [u, t] [us, ts] [xss, yss] := by
  refine ⟨hs.wide, rfl, rfl, fun i => ?_⟩
  match i with
  | 0 => exact hu.wide
  | 1 => exact ht.wide
  | i + 2 => exact rows_none w _
theorem areSub1 {p : Pr} {xss : List (List Int)} : (∃ h : IsGrp p, ∀ i, i < [xss].length → @IsSeq p ⟨h.con⟩ ([xss].getD i [])) ↔ IsSubP p xss :=
  ⟨fun ⟨h, h5⟩ => ⟨h, h5 0 (by simp)⟩, fun ⟨h, h5⟩ => ⟨h, fun i hi => by
    have : i = 0 := by simpa using hi
    subst this
    exact h5⟩⟩
theorem areSub2 {p : Pr} {xss yss : List (List Int)} : (∃ h : IsGrp p, ∀ i, i < [xss, yss].length → @IsSeq p ⟨h.con⟩ ([xss, yss].getD i [])) ↔ IsSubP p xss ∧ IsSubP p yss :=
  ⟨fun ⟨h, h5⟩ => ⟨⟨h, h5 0 (by simp)⟩, ⟨h, h5 1 (by simp)⟩⟩, fun ⟨⟨h, h5⟩, ⟨_, h6⟩⟩ => ⟨h, fun i hi => by
    match i, hi with
    | 0, _ => exact h5
    | 1, _ => exact h6⟩⟩
theorem isMember_ok {p : Pr} [hc : ConAll p] {ys : List (El p)} (hs : SeqEl ys) {w : World} {vp vu vx : Value} {us : List Value} {xss : List (List Int)} {x : El p} {xs : List Int} {lo hi lo1 hi1 lo2 hi2 : Nat} [hp : PresP lo hi w vp p] [hu : Pc.Rows lo1 hi1 w vu us xss] [hx : Ints lo2 hi2 w vx xs] (hus : xss = vecs ys) (hxe : xs = x.v) :
    Calls Try.prog 119 #[vp, vu, vx] w (Ret fun v w' => ∃ b, v = .bool b ∧ (b = true ↔ Gen (fun a : El p => a ∈ ys) x) ∧ Ext w w') := by
  have hn6 := hc.valid.n6
  have hyl := hs.len
  refine enter (args := [vp, vu, vx]) (l := [.tmp 6]) Try.func119 rfl rfl Try.ntmps119 (by simp) ?_
  refine go ?_
  refine rc (representative_ok (p := p) (x := x) hs.ok hus hxe (by omega)) (next := fun v2 w2 h4 => ?_)
  obtain ⟨he2, r, hf2, hr⟩ := h4
  have hrl := r.inr.len
  refine go ?_
  refine rc (isZero_ok (xs := r.v) ?_) (next := fun v3 w3 h5 => ?_)
  · omega
  obtain ⟨b3, rfl, hb3, he3⟩ := h5
  refine go ?_
  refine ret1 ⟨b3, rfl, ?_, he2.trans he3⟩
  rw [hb3, ← el_one_iff, hr.one_iff hs]
end Go.Proofs.Ytgomfjhhfmhlgaa

/-
  Walks: the program's generators, conjugates, conjugate subgroup, test of normality, test of elements.
  Conditions: stated at each theorem.
-/
namespace Go.Proofs.Ytgomfjhhfmhlgaa
open Go Go.Pc
set_option maxHeartbeats 1000000 in
theorem generators_ok {p : Pr} [hc : ConAll p] {w : World} {vp : Value} {lo hi : Nat} [hp : PresP lo hi w vp p] :
    Calls Try.prog 98 #[vp] w (Ret fun v w' => Ext w w' ∧ ∃ rs, vecs (gensL p) = rs.map (·.2) ∧ MatO w.heap.size w'.heap.size w' v rs) := by
  have hn6 := hc.valid.n6
  have hol : p.ord.length = p.n := rfl
  obtain ⟨g, vo, vpw, vc, ps, cs, css, rfl, hg1, hg2, hc0, hc1, hc2, h1, h2, h3⟩ := hp.ex
  refine enter (args := [.pointer (some ⟨g, 0, none⟩)]) (l := [.tmp 2]) Try.func98 rfl rfl Try.ntmps98 (by simp) ?_
  refine go ?_
  refine r_for p.n (fun k ρ w' => ∃ vl rs, Has ρ [(0, .pointer (some ⟨g, 0, none⟩)), (3, vl), (9, .int .i64 p.n), (10, .int .i64 k)] ∧ Ext w w' ∧ GrowL 22 w.heap.size w' vl rs ∧ rs.map (·.2) = (List.range k).map fun i => (zeros p.n).set i 1) ?_ ?_
  · refine ⟨nilv, [], ?_, Ext.refl _, GrowL.nil _ _ _ (Nat.le_refl _), by simp⟩
    exact hasP
  rintro k ρ w3 hk ⟨vl, rs, hH, he3, hG, hrs⟩
  refine rwp_has hH fun ρ0 => ?_
  have hz3 := he3.size
  have hrl : rs.length = k := by have := congrArg List.length hrs; simp at this; omega
  refine go ?_
  refine c_if (fun h4 => ?_) (fun h4 => ?_)
  · refine go ?_
    refine rc (unitVector_ok (n := p.n) (i := k) ?_ ?_ (by omega) (by omega)) (next := fun v4 w4 h5 => ?_)
    · omega
    · rfl
    obtain ⟨he4, hf4⟩ := h5
    refine go ?_
    refine st_grow hG he4 hf4 hz3 (by omega) (next := fun v6 v7 w7 hG7 hx7 hz7 hgs7 => ?_)
    refine go ?_
    refine forQ_normal (by omega) ⟨v7, _, ?_, hx7 w (he3.trans he4) (Nat.le_refl _), hG7, ?_⟩
    · exact hasP
    · rw [List.range_succ, List.map_append, List.map_append, hrs]; simp
  · obtain rfl : k = p.n := by omega
    refine go ?_
    refine ret1 ⟨he3, rs, ?_, hG.mat⟩
    rw [hrs]
    unfold vecs gensL
    rw [List.map_map]
    exact List.map_congr_left fun i hi => gOf_val (List.mem_range.1 hi)
set_option maxHeartbeats 1000000 in
theorem conjugates_ok {p : Pr} [hc : ConAll p] {ys : List (El p)} (hyl : ys.length ≤ 10000) {w : World} {vp vu vx : Value} {us : List Value} {xss : List (List Int)} {x : El p} {xs : List Int} {lo hi lo1 hi1 lo2 hi2 : Nat} [hp : PresP lo hi w vp p] [hu : Pc.Rows lo1 hi1 w vu us xss] [hx : Ints lo2 hi2 w vx xs] (hus : xss = vecs ys) (hxe : xs = x.v) :
    Calls Try.prog 145 #[vp, vu, vx] w (Ret fun v w' => Ext w w' ∧ ∃ rs, vecs (ys.map (Grp.cj · x)) = rs.map (·.2) ∧ MatO w.heap.size w'.heap.size w' v rs) := by
  subst hus
  have hvl : (vecs ys).length = ys.length := by simp
  refine enter (args := [vp, vu, vx]) (l := [.tmp 6]) Try.func145 rfl rfl Try.ntmps145 (by simp) ?_
  refine go ?_
  refine r_for ys.length (fun k ρ w' => ∃ vl rs, Has ρ [(0, vp), (2, vx), (7, vl), (10, vu), (11, .int .i64 (vecs ys).length), (12, .int .i64 k)] ∧ Ext w w' ∧ GrowL 22 w.heap.size w' vl rs ∧ rs.map (·.2) = vecs ((ys.take k).map (Grp.cj · x))) ?_ ?_
  · refine ⟨nilv, [], ?_, Ext.refl _, GrowL.nil _ _ _ (Nat.le_refl _), by simp⟩
    exact hasP
  rintro k ρ w3 hk ⟨vl, rs, hH, he3, hG, hrs⟩
  refine rwp_has hH fun ρ0 => ?_
  have hz3 := he3.size
  have hrl : rs.length = k := by have := congrArg List.length hrs; simp at this; omega
  refine go ?_
  refine c_if (fun h4 => ?_) (fun h4 => ?_)
  · have hkn : k < ys.length := by omega
    have hg := vecs_getD ys hkn
    refine go ?_
    refine rc (conjugate_ok (p := p) (x := ys[k]) (y := x) (Nat.zero_le _) hg hxe) (next := fun v5 w5 h5 => ?_)
    obtain ⟨he5, hf5⟩ := h5
    refine go ?_
    refine st_grow hG he5 hf5 hz3 (by omega) (next := fun v6 v7 w7 hG7 hx7 hz7 hgs7 => ?_)
    refine go ?_
    refine forQ_normal (by omega) ⟨v7, _, ?_, hx7 w (he3.trans he5) (Nat.le_refl _), hG7, ?_⟩
    · exact hasP
    · rw [List.take_succ_eq_append_getElem hkn]
      simp only [List.map_append, List.map_cons, List.map_nil, hrs, vecs]
  · obtain rfl : k = ys.length := by omega
    rw [List.take_length] at hrs
    refine go ?_
    exact ret1 ⟨he3, rs, hrs.symm, hG.mat⟩
set_option maxHeartbeats 1000000 in
theorem areElements_ok {p : Pr} {w : World} {vp vl : Value} {us : List Value} {xss : List (List Int)} {lo hi lo1 hi1 : Nat} [hp : PresP lo hi w vp p] [hl : Pc.Rows lo1 hi1 w vl us xss] (hol : p.ord.length ≤ 2000000) (hxl : xss.length ≤ 2000000) :
    Calls Try.prog 69 #[vp, vl] w (Ret fun v w' => ∃ b, v = .bool b ∧ (b = true ↔ GrpL p xss) ∧ Ext w w') := by
  obtain ⟨g, vo, vpw, vc, ps, cs, css, rfl, hg1, hg2, hc0, hc1, hc2, h1, h2, h3⟩ := hp.ex
  have hpv := PresP.val (b := g) h1 h2 h3
  refine enter (args := [.pointer (some ⟨g, 0, none⟩), vl]) (l := [.tmp 4]) Try.func69 rfl rfl Try.ntmps69 (by simp) ?_
  refine go ?_
  refine rc (impl_IsConsistent_ok (p := p) hol) (next := fun v1 w1 h4 => ?_)
  obtain ⟨b1, rfl, hb1, he1⟩ := h4
  refine go ?_
  refine c_b (fun e1 => ?_) (fun e1 => ?_)
  · refine go ?_
    refine ret1 ⟨_, rfl, ?_, he1⟩
    simp only [Bool.false_eq_true, false_iff]
    rintro ⟨h, _⟩
    rw [hb1.2 h] at e1; cases e1
  have hG := hb1.1 (by simpa using e1)
  have hv := hG.valid
  refine go ?_
  refine r_for xss.length (fun q ρ w' => Has ρ [(0, .pointer (some ⟨g, 0, none⟩)), (12, vl), (13, .int .i64 xss.length), (14, .int .i64 q)] ∧ Ext w w' ∧ ∀ i, i < q → InR p (xss.getD i [])) ?_ ?_
  · refine ⟨?_, he1, fun i hi => by omega⟩
    exact hasP
  clear he1
  rintro q ρ w3 hq ⟨hH3, he3, hQ⟩
  refine rwp_has hH3 fun ρ1 => ?_
  refine go ?_
  refine c_if (fun h6 => ?_) (fun h6 => ?_)
  · refine go ?_
    refine rc (isExponents_ok (p := p) (xs := xss.getD q []) (fun i hi => hv.opos hi) hol) (next := fun v4 w4 h7 => ?_)
    obtain ⟨b4, rfl, hb4, he4⟩ := h7
    refine go ?_
    refine c_b (fun h8 => ?_) (fun h8 => ?_)
    · refine go ?_
      refine ret1 ⟨_, rfl, ?_, he3.trans he4⟩
      simp only [Bool.false_eq_true, false_iff]
      rintro ⟨_, h⟩
      rw [hb4.2 (h q (by omega))] at h8; cases h8
    · have h9 := hb4.1 (by simpa using h8)
      refine go ?_
      refine forQ_normal (by omega) ⟨?_, he3.trans he4, fun i hi => ?_⟩
      · exact hasP
      · by_cases e : i = q
        · subst e; exact h9
        · exact hQ i (by omega)
  · refine go ?_
    refine ret1 ⟨_, rfl, ?_, he3⟩
    simp only [true_iff]
    exact ⟨hG, fun i hi => hQ i (by omega)⟩
end Go.Proofs.Ytgomfjhhfmhlgaa

/-
  Walks: the program's slices.Concat, closure under conjugation, commutator subgroup; SubgroupJoin, NormalClosure, CommutatorSubgroup.
  Conditions: stated at each theorem.
-/
namespace Go.Proofs.Ytgomfjhhfmhlgaa
open Go Go.Pc
set_option maxHeartbeats 400000 in
theorem growRows_ok {w : World} {n : Nat} {k : Int} (hk : k = n) (hn : n ≤ 1000000) :
    Calls Try.prog 146 #[nilv, .int .i64 k] w (Ret fun v w' => Ext w w' ∧ OwnN 22 w.heap.size w' v []) := by
  subst hk
  have hl0 : Len w nilv 0 := ⟨⟨none, 0, rfl, Nat.le_refl _, by omega, fun h => by omega⟩⟩
  refine enter (args := [nilv, .int .i64 n]) (l := [.tmp 4]) Try.func146 rfl rfl Try.ntmps146 (by simp) ?_
  refine go ?_
  refine c_if (fun h4 => ?_) (fun h4 => ?_)
  · omega
  refine go ?_
  refine ra (h := rd_cap_nil (by ((try simp only [ev_tmp, ev_const, ev_func, get_put, get_args, get_putL, get_putL_nil, Nat.reduceEqDiff, reduceIte, List.getD_cons_zero, List.getD_cons_succ, List.getD_nil]); first | done | with_reducible rfl))) (next := ?_)
  refine go ?_
  refine c_if (fun h5 => ?_) (fun h5 => ?_)
  · refine go ?_
    refine ra (h := rd_cap_nil (by ((try simp only [ev_tmp, ev_const, ev_func, get_put, get_args, get_putL, get_putL_nil, Nat.reduceEqDiff, reduceIte, List.getD_cons_zero, List.getD_cons_succ, List.getD_nil]); first | done | with_reducible rfl))) (next := ?_)
    refine go ?_
    have hkk : (n : Int) - (0 - ((0 : Nat) : Int)) = (n : Int) := by omega
    rw [hkk, show cutTo nilv 0 = nilv from rfl]
    refine st_appz (n := n) Try.underlying3 (by ((try simp only [ev_tmp, ev_const, ev_func, get_put, get_args, get_putL, get_putL_nil, Nat.reduceEqDiff, reduceIte, List.getD_cons_zero, List.getD_cons_succ, List.getD_nil]); first | done | with_reducible rfl)) (by ((try simp only [ev_tmp, ev_const, ev_func, get_put, get_args, get_putL, get_putL_nil, Nat.reduceEqDiff, reduceIte, List.getD_cons_zero, List.getD_cons_succ, List.getD_nil]); first | done | with_reducible rfl)) (by omega) hn (by decide) rfl (by first | exact True.intro | exact ⟨_, rfl, by ((try simp only [ev_tmp, ev_const, ev_func, get_put, get_args, get_putL, get_putL_nil, Nat.reduceEqDiff, reduceIte, List.getD_cons_zero, List.getD_cons_succ, List.getD_nil, Bool.not_true, Bool.not_false]); first | done | with_reducible rfl)⟩) fun w1 v1 he1 hl1 ho1 => ?_
    refine go ?_
    exact ret1 ⟨he1, ho1.toN⟩
  · refine go ?_
    exact ret1 ⟨Ext.refl _, OwnN.nil _ _ _⟩
theorem SeqAt.ext {p : Pr} {bs b0 base : Nat} {av : Nat → Prop} {w w' : World} {vp vb : Value} {t : Tab p} (h : SeqAt bs b0 base av w vp vb t) (x : Ext w w') : SeqAt bs b0 base av w' vp vb t := by
  obtain ⟨c0, c1, hn, ho, us, hL, hnil⟩ := h
  exact ⟨c0.same (x.same _ _) x.size, c1.same (x.same _ _) x.size, hn, ho, us, hL.ext x, hnil⟩
theorem canonicalM_ok {p : Pr} [hcon : ConAll p] {t : Tab p} (hf : Full t) {av : Nat → Prop} {base bs b0 : Nat} {w : World} {vp vb : Value} {lo hi : Nat} [hp : PresP lo hi w vp p] (hq : SeqAt bs b0 base av w vp vb t) :
    Calls Try.prog 144 #[.pointer (some ⟨bs, 0, none⟩)] w (Ret fun v w' => Ext w w' ∧ ∃ rs, canon (Gen (Ents t)) = rs.map (·.2) ∧ MatO w.heap.size w'.heap.size w' v rs) :=
  Pc.Calls.ret_mono (canonicalO_ok hf hq) fun _ _ ⟨h1, rs, h2, h3, h4⟩ => ⟨h1, rs, h3, MatO.ofLst h2 h4 h2.newRows⟩
theorem canonicalG_ok {p : Pr} [hcon : ConAll p] {t : Tab p} (hf : Full t) {av : Nat → Prop} {base bs b0 : Nat} {w : World} {vp vb : Value} {lo hi : Nat} [hp : PresP lo hi w vp p] (hq : SeqAt bs b0 base av w vp vb t) :
    Calls Try.prog 144 #[.pointer (some ⟨bs, 0, none⟩)] w (Ret fun v w' => Ext w w' ∧ ∃ rs, canon (Gen (Ents t)) = rs.map (·.2) ∧ GrowL 22 w.heap.size w' v rs) :=
  Pc.Calls.ret_mono (canonicalO_ok hf hq) fun _ _ ⟨h1, rs, h2, h3, h4⟩ => ⟨h1, rs, h3, ⟨h2, h4⟩⟩
set_option maxHeartbeats 4000000 in
theorem closureG_ok {p : Pr} [hcon : ConAll p] {ls bs : List (El p)} (hll : ls.length ≤ 100000) (hbl : bs.length ≤ 1000) {w : World} {vp vl vb : Value} {us ub : List Value} {xss yss : List (List Int)} {lo hi lo1 hi1 lo2 hi2 : Nat} [hp : PresP lo hi w vp p] [hl : Pc.Rows lo1 hi1 w vl us xss] [hb : Pc.Rows lo2 hi2 w vb ub yss] (hls : xss = vecs ls) (hbs : yss = vecs bs) :
    Calls Try.prog 100 #[vp, vl, vb] w (Ret fun v w' => Ext w w' ∧ ∃ rs, canon (Clo (fun a : El p => a ∈ ls) (fun a : El p => a ∈ bs)) = rs.map (·.2) ∧ GrowL 22 w.heap.size w' v rs) := by
  subst hls hbs
  have hn6 := hcon.valid.n6
  have hbvl : (vecs bs).length = bs.length := by simp
  replace hp := hp.wide
  replace hl := hl.wide
  replace hb := hb.wide
  have hSC := Clo.sub (fun a : El p => a ∈ ls) (fun a : El p => a ∈ bs)
  refine enter (args := [vp, vl, vb]) (l := [.tmp 6]) Try.func100 rfl rfl Try.ntmps100 (by simp) ?_
  refine go ?_
  refine rc (newSequence_ok (p := p) hn6) (next := fun v1 w1 h1 => ?_)
  obtain ⟨st, vt, rfl, he1, hc0, hc1, hst, hvt, ho⟩ := h1
  have hz1 := he1.size
  have hq : SeqAt st w.heap.size w.heap.size (fun _ => False) w1 vp vt (fun _ => none : Tab p) := by
    refine ⟨hc0, hc1, by omega, hvt, List.replicate p.n nilv, ?_, fun d hd _ => ?_⟩
    · rw [tabL_none]
      exact Lst.ofNils ho (Nat.le_refl _) (fun h => h) (fun g h => h.elim)
    · rw [List.getD_eq_getElem?_getD, List.getElem?_replicate]; split <;> rfl
  have hap : Apart 0 w.heap.size w.heap.size := ⟨.inr (Nat.le_refl _)⟩
  have hr : RowsAp (fun g => g = w.heap.size) w1 us (vecs ls) := (hl.ap (Nat.le_refl _) (fun g hg => .inr (by omega))).ext he1
  have hsl : Sl 0 w.heap.size w1 vl us := inferInstance
  refine go ?_
  refine rc (add_ok (p := p) (S := fun _ => False) hz1 hq Wk.none hr hll) (next := fun v2 w2 h2 => ?_)
  obtain ⟨bg2, t2, rfl, hch2, hq2, hW2, _⟩ := h2
  have he2 : Ext w w2 := hch2.ext he1 (Nat.le_refl _)
  have hz12 := hch2.size
  have hz11 : w.heap.size + 1 ≤ w1.heap.size := by have := ho.lt; omega
  clear hch2 hsl hc0 hc1 hr hq ho
  refine go ?_
  refine r_loop (fun m ρ w' => ∃ (gb : Bool) (t : Tab p) (S : El p → Prop), Has ρ [(0, vp), (2, vb), (7, .pointer (some ⟨st, 0, none⟩)), (8, .bool gb)] ∧ Ext w w' ∧ w.heap.size + 1 ≤ w'.heap.size ∧ SeqAt st w.heap.size w.heap.size (fun _ => False) w' vp vt t ∧ Wk S t (fun _ => False) ∧
    (∀ a, S a → Clo (fun a : El p => a ∈ ls) (fun a : El p => a ∈ bs) a) ∧ (∀ y, y ∈ ls → S y) ∧ (gb = false → ∀ a, Clo (fun a : El p => a ∈ ls) (fun a : El p => a ∈ bs) a → Gen S a) ∧ m = (if gb then 1 else 0) + 2 * (p.n - (canEls (Gen S)).length)) (1 + 2 * (p.n - (canEls (Gen (fun a : El p => False ∨ a ∈ ls))).length)) ?_ ?_
  · refine ⟨true, t2, _, ?_, he2, by omega, hq2, hW2, fun a ha => .of a (ha.resolve_left id), fun y hy => .inr hy, fun h => (by cases h), rfl⟩
    exact hasP
  clear hq2 hW2 he2 t2
  rintro m ρ w2' ⟨gb, t, S, hH, he2, hz2, hq2, hW2, hSc, hlS, hcl, hm⟩
  refine rwp_has hH fun ρ0 => ?_
  have hgen := hW2.gen (fun _ h => h)
  have hfull := hW2.full (fun _ h => h)
  have hSS := Gen.sub S
  have hos := seqEl_can hSS
  have hol := hos.len
  refine go ?_
  refine c_b (fun eg => ?_) (fun eg => ?_)
  · subst eg
    rw [if_pos rfl] at hm
    refine go ?_
    refine rc (canonicalM_ok (p := p) hfull hq2) (next := fun v3 w3 h3 => ?_)
    obtain ⟨he3, rs3, hrs3, hM3⟩ := h3
    rw [hgen, canon_vecs] at hrs3
    have hR3 := hM3.rows
    rw [← hrs3] at hR3
    have hz3 := he3.size
    have ap3 : Apart w2'.heap.size w3.heap.size w.heap.size := ⟨.inl (by omega)⟩
    have hE3 := he2.trans he3
    refine go ?_
    refine r_for bs.length (fun i ρ w' => ∃ (gb : Bool) (t' : Tab p) (S' : El p → Prop), Has ρ [(0, vp), (2, vb), (7, .pointer (some ⟨st, 0, none⟩)), (8, .bool gb), (9, v3), (20, vb), (21, .int .i64 (vecs bs).length), (22, .int .i64 i)] ∧ Chg w.heap.size w3 w' ∧ SeqAt st w.heap.size w.heap.size (fun _ => False) w' vp vt t' ∧ Wk S' t' (fun _ => False) ∧
      (∀ a, S a → S' a) ∧ (∀ a, S' a → Clo (fun a : El p => a ∈ ls) (fun a : El p => a ∈ bs) a) ∧ (∀ i' (h : i' < bs.length), i' < i → ∀ o, o ∈ canEls (Gen S) → S' (Grp.cj o bs[i'])) ∧ (gb = true ↔ ∃ a, S' a ∧ ¬ Gen S a)) ?_ ?_
    · refine ⟨false, t, S, ?_, Chg.refl _ _, hq2.ext he3, hW2, fun a ha => ha, hSc, fun i' _ h => absurd h (Nat.not_lt_zero _), ?_⟩
      · exact hasP
      · simp only [Bool.false_eq_true, false_iff]
        rintro ⟨a, h1, h2⟩
        exact h2 (.of a h1)
    clear hq2 hW2 he2 he3
    rintro i ρ w4 hi ⟨gb, t', S', hH4, hch4, hq4, hW4, hS4, hC4, hK4, hf4⟩
    refine rwp_has hH4 fun ρ1 => ?_
    have hE4 : Ext w w4 := hch4.ext hE3 (Nat.le_refl _)
    have hz4 := hch4.size
    have hR4 : Pc.Rows w2'.heap.size w3.heap.size w4 v3 _ _ := hR3.same (hch4.same (.inl (by omega)))
    refine go ?_
    refine c_if (fun h4 => ?_) (fun h4 => ?_)
    · have hin : i < bs.length := by omega
      have hg := vecs_getD bs hin
      have hbi : Ints 0 w.heap.size w4 (Pc.rowAt vb ub i) ((vecs bs).getD i []) := (hb.vals.at_ i).same (hE4.same _ _)
      have hch4' := hch4
      clear hch4
      refine go ?_
      refine rc (conjugates_ok (p := p) (ys := canEls (Gen S)) (x := bs[i]) (by omega) rfl hg) (next := fun v5 w5 h5 => ?_)
      obtain ⟨he5, rs5, hrs5, hM5⟩ := h5
      have hR5 := hM5.rows
      rw [← hrs5] at hR5
      have hz5 := he5.size
      have hr5 : RowsAp (fun g => g = w.heap.size) w5 _ (vecs ((canEls (Gen S)).map (Grp.cj · bs[i]))) := hR5.ap (Nat.le_refl _) (fun g hg => .inl (by omega))
      have hsl5 := hR5.sl
      have hE5 := hE4.trans he5
      refine go ?_
      refine rc (add_ok (p := p) (S := S') (by omega) (hq4.ext he5) hW4 hr5 (by simp; omega)) (next := fun v6 w6 h6 => ?_)
      obtain ⟨bg6, t6, rfl, hch6, hq6, hW6, hbg6⟩ := h6
      have hch36 : Chg w.heap.size w3 w6 := (hch4'.grow he5).trans hch6
      have hS6 : ∀ a, S a → S' a ∨ a ∈ (canEls (Gen S)).map (Grp.cj · bs[i]) := fun a ha => .inl (hS4 a ha)
      have hC6 : ∀ a, (S' a ∨ a ∈ (canEls (Gen S)).map (Grp.cj · bs[i])) → Clo (fun a : El p => a ∈ ls) (fun a : El p => a ∈ bs) a := fun a ha => by
        rcases ha with ha | ha
        · exact hC4 a ha
        · obtain ⟨o, ho, rfl⟩ := List.mem_map.1 ha
          obtain ⟨d, _, hd⟩ := canEls_mem.1 ho
          exact .cj _ _ (Gen.le hSC hSc _ (canT_some hd).mem) (List.getElem_mem hin)
      have hK6 : ∀ i' (h : i' < bs.length), i' < i + 1 → ∀ o, o ∈ canEls (Gen S) → S' (Grp.cj o bs[i']) ∨ Grp.cj o bs[i'] ∈ (canEls (Gen S)).map (Grp.cj · bs[i]) := fun i' h h7 o ho => by
        by_cases e : i' = i
        · subst e; exact .inr (List.mem_map.2 ⟨o, ho, rfl⟩)
        · exact .inl (hK4 i' h (by omega) o ho)
      have hSG : ∀ a, Gen S a → Gen S' a := Gen.le (Gen.sub S') fun a ha => .of a (hS4 a ha)
      refine go ?_
      refine c_b (fun eb => ?_) (fun eb => ?_)
      · subst eb
        refine go ?_
        refine forQ_normal (by omega) ⟨true, t6, _, ?_, hch36, hq6, hW6, hS6, hC6, hK6, ?_⟩
        · exact hasP
        · obtain ⟨a, h7, h8⟩ := hbg6.1 rfl
          exact ⟨fun _ => ⟨a, .inr h7, fun h => h8 (hSG a h)⟩, fun _ => rfl⟩
      · subst eb
        refine go ?_
        refine forQ_normal (by omega) ⟨gb, t6, _, ?_, hch36, hq6, hW6, hS6, hC6, hK6, ?_⟩
        · exact hasP
        · constructor
          · intro h
            obtain ⟨a, h7, h8⟩ := hf4.1 h
            exact ⟨a, .inl h7, h8⟩
          · rintro ⟨a, h7 | h7, h8⟩
            · exact hf4.2 ⟨a, h7, h8⟩
            · cases hgb : gb with
              | true => rfl
              | false =>
                exfalso
                have h9 : ∀ a, S' a → Gen S a := fun b hb' => Classical.byContradiction fun hn => by
                  have := hf4.2 ⟨b, hb', hn⟩
                  rw [hgb] at this; cases this
                have h10 : Gen S' a := Classical.byContradiction fun hn => by
                  have := hbg6.2 ⟨a, h7, hn⟩
                  cases this
                exact h8 (Gen.le hSS h9 a h10)
    · obtain rfl : i = bs.length := by omega
      have hS4S := Gen.sub S'
      have hSG : ∀ a, Gen S a → Gen S' a := Gen.le hS4S fun a ha => .of a (hS4 a ha)
      have hle := can_len_le hSS hS4S hSG
      have hl4 := (seqEl_can hS4S).len
      refine go ?_
      refine loopQ_normal ?_ ⟨gb, t', S', ?_, hE4, by omega, hq4, hW4, hC4, fun y hy => hS4 y (hlS y hy), fun hgb a ha => ?_, rfl⟩
      · cases hgb : gb with
        | false => simp only [Bool.false_eq_true, if_false]; omega
        | true =>
          simp only [if_true]
          obtain ⟨a, h7, h8⟩ := hf4.1 hgb
          have hne : (canEls (Gen S)).length ≠ (canEls (Gen S')).length := fun e => h8 (same_of_len hSS hS4S hSG (by omega) a (.of a h7))
          omega
      · exact hasP
      · have h9 : ∀ a, S' a → Gen S a := fun b hb' => Classical.byContradiction fun hn => by
          have := hf4.2 ⟨b, hb', hn⟩
          rw [hgb] at this; cases this
        refine Clo.le hS4S (fun y hy => .of y (hS4 y (hlS y hy))) (fun a b ha hb' => ?_) a ha
        have h10 : Gen S a := Gen.le hSS h9 a ha
        rw [← gen_can_eq hSS] at h10
        refine Gen.cj_closed hS4S (fun o ho => ?_) a h10
        obtain ⟨i', hi', rfl⟩ := List.getElem_of_mem hb'
        exact .of _ (hK4 i' hi' hi' o ho)
  · subst eg
    have hfun : Gen S = Clo (fun a : El p => a ∈ ls) (fun a : El p => a ∈ bs) := by
      funext a; exact propext ⟨Gen.le hSC hSc a, hcl rfl a⟩
    refine go ?_
    refine rc (canonicalG_ok (p := p) hfull hq2) (next := fun v3 w3 h3 => ?_)
    obtain ⟨he3, rs3, hrs3, hM3⟩ := h3
    rw [hgen, hfun] at hrs3
    refine go ?_
    exact ret1 ⟨he2.trans he3, rs3, hrs3, hM3.lower he2.size (he2.trans he3).size⟩
theorem closure_ok {p : Pr} [hcon : ConAll p] {ls bs : List (El p)} (hll : ls.length ≤ 100000) (hbl : bs.length ≤ 1000) {w : World} {vp vl vb : Value} {us ub : List Value} {xss yss : List (List Int)} {lo hi lo1 hi1 lo2 hi2 : Nat} [hp : PresP lo hi w vp p] [hl : Pc.Rows lo1 hi1 w vl us xss] [hb : Pc.Rows lo2 hi2 w vb ub yss] (hls : xss = vecs ls) (hbs : yss = vecs bs) :
    Calls Try.prog 100 #[vp, vl, vb] w (Ret fun v w' => Ext w w' ∧ ∃ rs, canon (Clo (fun a : El p => a ∈ ls) (fun a : El p => a ∈ bs)) = rs.map (·.2) ∧ MatO w.heap.size w'.heap.size w' v rs) :=
  Pc.Calls.ret_mono (closureG_ok hll hbl hls hbs) fun _ _ ⟨h1, rs, h2, h3⟩ => ⟨h1, rs, h2, h3.mat⟩
theorem flat_take {α : Type} (L : List (List α)) {k : Nat} (hk : k < L.length) : (L.take (k + 1)).flatten = (L.take k).flatten ++ L.getD k [] := by
  rw [List.take_succ_eq_append_getElem hk, List.flatten_append]; simp [hk]
theorem rows_one {lo hi : Nat} {w : World} {v : Value} {us : List Value} {xss : List (List Int)} (h : Pc.Rows lo hi w v us xss) : ∀ u ∈ us, u.oneCell' = true := by
  intro u hu
  obtain ⟨i, hi, rfl⟩ := List.getElem_of_mem hu
  have := (h.vals.at_ i).sl.one
  rwa [show us.getD i nilv = us[i] by simp [hi]] at this
set_option maxHeartbeats 1000000 in
theorem concat_ok {w : World} {v v1 v2 : Value} {us vs : List Value} {xss yss : List (List Int)} {lo hi : Nat} [hl : Rowss lo hi w v [v1, v2] [us, vs] [xss, yss]] (hx : xss.length ≤ 100000) (hy : yss.length ≤ 100000) :
    Calls Try.prog 101 #[v] w (Ret fun v' w' => Ext w w' ∧ ∃ us', Pc.Rows 0 w'.heap.size w' v' us' (xss ++ yss)) := by
  replace hl := hl.wide
  have hlen : ∀ k, ([xss, yss].getD k []).length ≤ 100000 := fun k => by
    match k with
    | 0 => exact hx
    | 1 => exact hy
    | k + 2 => simp
  have h2 : [xss, yss].length = 2 := rfl
  refine enter (args := [v]) (l := [.tmp 2]) Try.func101 rfl rfl Try.ntmps101 (by simp) ?_
  refine go ?_
  refine r_for 2 (fun k ρ w' => ∃ s : Nat, Has ρ [(0, v), (3, .int .i64 s), (9, v), (10, .int .i64 [xss, yss].length), (11, .int .i64 k)] ∧ Ext w w' ∧ s ≤ 100000 * k) ?_ ?_
  · refine ⟨0, ?_, Ext.refl _, Nat.zero_le _⟩
    exact hasP
  rintro k ρ w2 hk ⟨s, hH, he2, hs⟩
  refine rwp_has hH fun ρ0 => ?_
  refine go ?_
  refine c_if (fun h4 => ?_) (fun h4 => ?_)
  · have hlk := hlen k
    refine go ?_
    refine c_if (fun h5 => ?_) (fun h5 => ?_)
    · omega
    refine go ?_
    refine forQ_normal (by omega) ⟨s + ([xss, yss].getD k []).length, ?_, he2, by omega⟩
    exact hasP
  refine go ?_
  refine rc (growRows_ok (n := s) rfl (by omega)) (next := fun v3 w3 h5 => ?_)
  obtain ⟨he3, ho3⟩ := h5
  have hE3 := he2.trans he3
  have hz2 := he2.size
  have hL3 : Lst 22 w.heap.size (fun _ => False) w3 v3 [] [] := ⟨ho3.mono hz2, RowsAp.nil _ _, fun _ _ h => h, fun _ h => h.elim⟩
  refine go ?_
  refine r_for 2 (fun k ρ w' => ∃ vl, Has ρ [(6, vl), (25, v), (26, .int .i64 [xss, yss].length), (27, .int .i64 k)] ∧ Ext w w' ∧ Lst 22 w.heap.size (fun _ => False) w' vl (([us, vs].take k).flatten) (([xss, yss].take k).flatten)) ?_ ?_
  · refine ⟨v3, ?_, hE3, by simpa using hL3⟩
    exact hasP
  rintro k ρ w4 hk ⟨vl, hH4, he4, hL4⟩
  refine rwp_has hH4 fun ρ1 => ?_
  have hz4 := he4.size
  refine go ?_
  refine c_if (fun h4 => ?_) (fun h4 => ?_)
  · have hlk := hlen k
    have hrow : Pc.Rows 0 w.heap.size w4 (Pc.rowAt v [v1, v2] k) ([us, vs].getD k []) ([xss, yss].getD k []) := (hl.vals.at_ k).same (he4.same _ _)
    have hrl := hrow.vals.len
    have hO4 := hL4.own
    have hsl4 := hrow.sl
    have hul4 := hL4.len
    have hfl : (([xss, yss].take k).flatten).length ≤ 200000 := by
      match k with
      | 0 => simp
      | 1 => simp; omega
      | k + 2 => simp; omega
    refine go ?_
    refine st_append (hv := hO4) (hy := hsl4) (by ((try simp only [ev_tmp, ev_const, ev_func, get_put, get_args, get_putL, get_putL_nil, Nat.reduceEqDiff, reduceIte, List.getD_cons_zero, List.getD_cons_succ, List.getD_nil]); first | done | with_reducible rfl)) (by ((try simp only [ev_tmp, ev_const, ev_func, get_put, get_args, get_putL, get_putL_nil, Nat.reduceEqDiff, reduceIte, List.getD_cons_zero, List.getD_cons_succ, List.getD_nil]); first | done | with_reducible rfl)) rfl (rows_one hrow) ?_ ?_ ?_ (by first | exact True.intro | exact ⟨_, rfl, by ((try simp only [ev_tmp, ev_const, ev_func, get_put, get_args, get_putL, get_putL_nil, Nat.reduceEqDiff, reduceIte, List.getD_cons_zero, List.getD_cons_succ, List.getD_nil, Bool.not_true, Bool.not_false]); first | done | with_reducible rfl)⟩) fun v5 w5 ho5 hg5 ha5 => ?_
    · omega
    · simp only [maxLen]; omega
    · omega
    have hL5 := hL4.pushs (hrow.ap (av := fun g => False ∨ vl.ownBlock = some g) (by omega) (fun g hg => .inr (by
      rcases hg with hg | hg
      · exact hg.elim
      · exact (hL4.lt hg).1))) ho5 hg5 ha5
    refine go ?_
    refine forQ_normal (by omega) ⟨v5, ?_, he4.app hg5 (fun g hg => (hL4.lt hg).1), ?_⟩
    · exact hasP
    · rw [flat_take _ (show k < [us, vs].length by simp; omega), flat_take _ (show k < [xss, yss].length by simp; omega)]
      exact hL5
  · obtain rfl : k = 2 := by omega
    refine go ?_
    have e : ([xss, yss].take 2).flatten = xss ++ yss := by simp
    rw [e] at hL4
    exact ret1 ⟨he4, _, hL4.toRows⟩
set_option maxHeartbeats 1000000 in
theorem commutatorSubgroupG_ok {p : Pr} [hc : ConAll p] {ys zs : List (El p)} (hyl : ys.length ≤ 100) (hzl : zs.length ≤ 100) {w : World} {vp vu vv : Value} {us vs : List Value} {xss yss : List (List Int)} {lo hi lo1 hi1 lo2 hi2 : Nat} [hp : PresP lo hi w vp p] [hu : Pc.Rows lo1 hi1 w vu us xss] [hv : Pc.Rows lo2 hi2 w vv vs yss] (hus : xss = vecs ys) (hvs : yss = vecs zs) :
    Calls Try.prog 61 #[vp, vu, vv] w (Ret fun v w' => Ext w w' ∧ ∃ rs, canon (CommC ys zs) = rs.map (·.2) ∧ GrowL 22 w.heap.size w' v rs) := by
  subst hus hvs
  have hyv : (vecs ys).length = ys.length := by simp
  have hzv : (vecs zs).length = zs.length := by simp
  refine enter (args := [vp, vu, vv]) (l := [.tmp 6]) Try.func61 rfl rfl Try.ntmps61 (by simp) ?_
  refine go ?_
  refine r_for ys.length (fun i ρ w' => ∃ vl rs, Has ρ [(0, vp), (1, vu), (2, vv), (7, vl), (12, vu), (13, .int .i64 (vecs ys).length), (14, .int .i64 i)] ∧ Ext w w' ∧ GrowL 22 w.heap.size w' vl rs ∧ rs.map (·.2) = vecs (commsL2 (ys.take i) zs) ∧ rs.length ≤ 1000 * i) ?_ ?_
  · refine ⟨nilv, [], ?_, Ext.refl _, GrowL.nil _ _ _ (Nat.le_refl _), by simp [commsL2], by simp⟩
    exact hasP
  rintro i ρ w2 hi ⟨vl, rs, hH, he2, hG2, hrs2, hl2⟩
  refine rwp_has hH fun ρ0 => ?_
  refine go ?_
  refine c_if (fun h4 => ?_) (fun h4 => ?_)
  · have hin : i < ys.length := by omega
    have hg1 := vecs_getD ys hin
    refine go ?_
    refine r_for zs.length (fun j ρ w' => ∃ vl rs, Has ρ [(0, vp), (1, vu), (2, vv), (7, vl), (9, Pc.rowAt vu us i), (12, vu), (13, .int .i64 (vecs ys).length), (14, .int .i64 i), (18, vv), (19, .int .i64 (vecs zs).length), (20, .int .i64 j)] ∧ Ext w w' ∧ GrowL 22 w.heap.size w' vl rs ∧ rs.map (·.2) = vecs (commsL2 (ys.take i) zs ++ (zs.take j).map (Grp.cm ys[i])) ∧ rs.length ≤ 1000 * i + j) ?_ ?_
    · refine ⟨vl, rs, ?_, he2, hG2, by simpa using hrs2, by omega⟩
      exact hasP
    clear he2 hG2 hrs2 hl2
    rintro j ρ w3 hj ⟨vl, rs, hH3, he3, hG3, hrs3, hl3⟩
    refine rwp_has hH3 fun ρ1 => ?_
    have hz3 := he3.size
    refine go ?_
    refine c_if (fun h5 => ?_) (fun h5 => ?_)
    · have hjn : j < zs.length := by omega
      have hg2 := vecs_getD zs hjn
      refine go ?_
      refine rc (commutator_ok (p := p) (x := ys[i]) (y := zs[j]) (Nat.zero_le _) hg1 hg2) (next := fun v5 w5 h6 => ?_)
      obtain ⟨he5, hf5⟩ := h6
      refine go ?_
      refine st_grow hG3 he5 hf5 hz3 (by omega) (next := fun v6 v7 w7 hG7 hx7 hz7 hgs7 => ?_)
      refine go ?_
      refine forQ_normal (by omega) ⟨v7, _, ?_, hx7 w (he3.trans he5) (Nat.le_refl _), hG7, ?_, ?_⟩
      · exact hasP
      · rw [List.take_succ_eq_append_getElem hjn]
        simp only [List.map_append, List.map_cons, List.map_nil, hrs3, vecs, List.append_assoc]
      · simp only [List.length_append, List.length_singleton]; omega
    · obtain rfl : j = zs.length := by omega
      rw [List.take_length, ← commsL2_succ hin] at hrs3
      refine go ?_
      refine forQ_normal (by omega) ⟨vl, rs, ?_, he3, hG3, hrs3, by omega⟩
      exact hasP
  · obtain rfl : i = ys.length := by omega
    rw [List.take_length] at hrs2
    have hz2 := he2.size
    have hll : (commsL2 ys zs).length ≤ 100000 := by
      have := congrArg List.length hrs2
      simp at this
      omega
    refine go ?_
    refine st_slice2 (u := vu) (v := vv) (by ((try simp only [ev_tmp, ev_const, ev_func, get_put, get_args, get_putL, get_putL_nil, Nat.reduceEqDiff, reduceIte, List.getD_cons_zero, List.getD_cons_succ, List.getD_nil]); first | done | with_reducible rfl)) (by ((try simp only [ev_tmp, ev_const, ev_func, get_put, get_args, get_putL, get_putL_nil, Nat.reduceEqDiff, reduceIte, List.getD_cons_zero, List.getD_cons_succ, List.getD_nil]); first | done | with_reducible rfl)) ?_ ?_ ?_ (by first | exact True.intro | exact ⟨_, rfl, by ((try simp only [ev_tmp, ev_const, ev_func, get_put, get_args, get_putL, get_putL_nil, Nat.reduceEqDiff, reduceIte, List.getD_cons_zero, List.getD_cons_succ, List.getD_nil, Bool.not_true, Bool.not_false]); first | done | with_reducible rfl)⟩) fun w4 v4 he4 hs4 ho4 => ?_
    · exact hu.sl.cells
    · exact hv.sl.cells
    · rfl
    have hu4 : Pc.Rows lo1 hi1 w4 vu us (vecs ys) := hu.same ((he2.trans he4).same _ _)
    have hv4 : Pc.Rows lo2 hi2 w4 vv vs (vecs zs) := hv.same ((he2.trans he4).same _ _)
    have hR4 := rowss_two ho4 hu4 hv4
    refine go ?_
    refine rc (concat_ok (xss := vecs ys) (yss := vecs zs) (by omega) (by omega)) (next := fun v5 w5 h6 => ?_)
    obtain ⟨he5, us5, hR5⟩ := h6
    have hG5 := (hG2.ext he4).ext he5
    have hRl := hG5.rows
    have hE5 := (he2.trans he4).trans he5
    refine go ?_
    refine rc (closureG_ok (p := p) (ls := commsL2 ys zs) (bs := ys ++ zs) hll (by simp; omega) hrs2 ?_) (next := fun v6 w6 h7 => ?_)
    · simp [vecs]
    obtain ⟨he6, rs6, hrs6, hM6⟩ := h7
    refine go ?_
    exact ret1 ⟨hE5.trans he6, rs6, hrs6, hM6.lower hE5.size (hE5.trans he6).size⟩
theorem commutatorSubgroup_ok {p : Pr} [hc : ConAll p] {ys zs : List (El p)} (hyl : ys.length ≤ 100) (hzl : zs.length ≤ 100) {w : World} {vp vu vv : Value} {us vs : List Value} {xss yss : List (List Int)} {lo hi lo1 hi1 lo2 hi2 : Nat} [hp : PresP lo hi w vp p] [hu : Pc.Rows lo1 hi1 w vu us xss] [hv : Pc.Rows lo2 hi2 w vv vs yss] (hus : xss = vecs ys) (hvs : yss = vecs zs) :
    Calls Try.prog 61 #[vp, vu, vv] w (Ret fun v w' => Ext w w' ∧ ∃ rs, canon (CommC ys zs) = rs.map (·.2) ∧ MatO w.heap.size w'.heap.size w' v rs) :=
  Pc.Calls.ret_mono (commutatorSubgroupG_ok hyl hzl hus hvs) fun _ _ ⟨h1, rs, h2, h3⟩ => ⟨h1, rs, h2, h3.mat⟩
end Go.Proofs.Ytgomfjhhfmhlgaa

/-
  Walks: the program's CosetRepresentative.
  Conditions: what the arguments read as.
-/
namespace Go.Proofs.Ytgomfjhhfmhlgaa
open Go Go.Pc
end Go.Proofs.Ytgomfjhhfmhlgaa

/-
  Walks: the program's order of a subgroup (sizeOf, SubgroupOrder).
  Conditions: stated at each theorem.
-/
namespace Go.Proofs.Ytgomfjhhfmhlgaa
open Go Go.Pc
set_option maxHeartbeats 1000000 in
theorem sizeOf_ok {p : Pr} [hc : ConAll p] {ys : List (El p)} (hs : SeqEl ys) {w : World} {vp vu : Value} {us : List Value} {xss : List (List Int)} {lo hi lo1 hi1 : Nat} [hp : PresP lo hi w vp p] [hu : Pc.Rows lo1 hi1 w vu us xss] (hus : xss = vecs ys) :
    Calls Try.prog 76 #[vp, vu] w (Ret fun v w' => v = .int .i64 (ordOf p ys) ∧ Ext w w') := by
  subst hus
  have hv := hc.valid
  have hn6 := hv.n6
  have hol : p.ord.length = p.n := rfl
  have hlen := hs.len
  have hvl : (vecs ys).length = ys.length := by simp
  obtain ⟨g, vo, vpw, vc, ps, cs, css, rfl, hg1, hg2, hc0, hc1, hc2, h1, h2, h3⟩ := hp.ex
  refine enter (args := [.pointer (some ⟨g, 0, none⟩), vu]) (l := [.tmp 4]) Try.func76 rfl rfl Try.ntmps76 (by simp) ?_
  refine go ?_
  refine rc (pivots_ok (xss := vecs ys) ?_ ?_) (next := fun v2 w2 h5 => ?_)
  · omega
  · intro i hi
    rw [vecs_getD ys (by omega), (ys[i]'(by omega)).inr.len]
    exact ⟨(hs.ok.lead1 _ (List.getElem_mem _)).1, by omega⟩
  obtain ⟨he2, hf2⟩ := h5
  have hpi := hf2.ints
  have hpl : ((vecs ys).map fun x => (lead x : Int)).length = ys.length := by simp
  have hpg : ∀ i (h : i < ys.length), ((vecs ys).map fun x => (lead x : Int)).getD i 0 = (lead (ys[i]).v : Int) := fun i h => by simp [vecs, h]
  refine go ?_
  refine r_for ys.length (fun k ρ w' => Has ρ [(0, .pointer (some ⟨g, 0, none⟩)), (5, .int .i64 (ordOf p (ys.take k))), (9, v2), (10, .int .i64 ((vecs ys).map fun x => (lead x : Int)).length), (11, .int .i64 k)] ∧ Ext w2 w') ?_ ?_
  · refine ⟨?_, Ext.refl _⟩
    exact hasP
  rintro k ρ w3 hk ⟨hH, he3⟩
  refine rwp_has hH fun ρ0 => ?_
  refine go ?_
  refine c_if (fun h4 => ?_) (fun h4 => ?_)
  · have hkn : k < ys.length := by omega
    have hpk := hpg k hkn
    obtain ⟨hdn, hy1⟩ := hs.ok.lead1 _ (List.getElem_mem hkn)
    obtain ⟨d, hd⟩ : ∃ d, lead (ys[k]).v = d := ⟨_, rfl⟩
    rw [hd] at hdn hpk
    have hod := hv.opos hdn
    have hr := ordOf_rng (k := k) (by omega) (by omega) fun y hy => (hs.ok.lead1 y hy).1
    have hm : 0 ≤ ordOf p (ys.take k) * p.o d ∧ ordOf p (ys.take k) * p.o d ≤ 117649 * 7 := ⟨Int.mul_nonneg (by omega) (by omega), Int.mul_le_mul hr.2 hod.2 (by omega) (by omega)⟩
    have hmb : -9223372036854775808 ≤ ordOf p (ys.take k) * p.o d ∧ ordOf p (ys.take k) * p.o d ≤ 9223372036854775807 := ⟨by omega, by omega⟩
    refine go ?_
    rw [hpk]
    refine go ?_
    rw [show p.ord.getD ((d : Int).toNat) 0 = p.o d from rfl]
    refine ra (h := rd_mul (by ((try simp only [ev_tmp, ev_const, ev_func, get_put, get_args, get_putL, get_putL_nil, Nat.reduceEqDiff, reduceIte, List.getD_cons_zero, List.getD_cons_succ, List.getD_nil]); first | done | with_reducible rfl)) (by ((try simp only [ev_tmp, ev_const, ev_func, get_put, get_args, get_putL, get_putL_nil, Nat.reduceEqDiff, reduceIte, List.getD_cons_zero, List.getD_cons_succ, List.getD_nil]); first | done | with_reducible rfl)) hmb) (next := ?_)
    refine go ?_
    refine forQ_normal (by omega) ⟨?_, he3⟩
    have ht := ordOf_take ys hkn
    rw [hd] at ht
    rw [ht]
    exact hasP
  · refine go ?_
    rw [show k = ys.length by omega, List.take_length]
    exact ret1 ⟨rfl, he2.trans he3⟩
end Go.Proofs.Ytgomfjhhfmhlgaa

/-
  Walks: the program's GeneratedSubgroup, ConjugateSubgroup, IsNormalSubgroup, SubgroupIndex, SubgroupDepths.
  Conditions: what the arguments read as.
-/
namespace Go.Proofs.Ytgomfjhhfmhlgaa
open Go Go.Pc
theorem ordOf_pos' {p : Pr} [hc : ConAll p] {ys : List (El p)} (hs : SeqEl ys) : 1 ≤ ordOf p ys ∧ ordOf p ys ≤ 117649 := by
  have h := ordOf_rng (ys := ys) (k := ys.length) (by have := hs.len; have := hc.valid.n6; omega) (Nat.le_refl _) fun y hy => (hs.ok.lead1 y hy).1
  rwa [List.take_length] at h
end Go.Proofs.Ytgomfjhhfmhlgaa

/-
  Walks: the program's CosetNumber, MemberElement, MemberExponents.
  Conditions: what the arguments read as.
-/
namespace Go.Proofs.Ytgomfjhhfmhlgaa
open Go Go.Pc
end Go.Proofs.Ytgomfjhhfmhlgaa

/-
  Walks: the program's order, index code, transversal; Transversal.
  Conditions: stated at each theorem.
-/
namespace Go.Proofs.Ytgomfjhhfmhlgaa
open Go Go.Pc
set_option maxHeartbeats 1000000 in
theorem orderOf_ok {p : Pr} (hv : Valid p) {w : World} {vp : Value} {lo hi : Nat} [hp : PresP lo hi w vp p] :
    Calls Try.prog 75 #[vp] w (Ret fun v w' => v = .int .i64 (ordL p (List.range p.n)) ∧ Ext w w') := by
  have hn6 := hv.n6
  have hol : p.ord.length = p.n := rfl
  have hrl : (List.range p.n).length = p.n := by simp
  obtain ⟨g, vo, vpw, vc, ps, cs, css, rfl, hg1, hg2, hc0, hc1, hc2, h1, h2, h3⟩ := hp.ex
  refine enter (args := [.pointer (some ⟨g, 0, none⟩)]) (l := [.tmp 2]) Try.func75 rfl rfl Try.ntmps75 (by simp) ?_
  refine go ?_
  refine r_for p.n (fun k ρ w' => Has ρ [(3, .int .i64 (ordL p ((List.range p.n).take k))), (9, vo), (10, .int .i64 p.ord.length), (11, .int .i64 k)] ∧ Ext w w') ?_ ?_
  · refine ⟨?_, Ext.refl _⟩
    exact hasP
  rintro k ρ w2 hk ⟨hH, he2⟩
  refine rwp_has hH fun ρ0 => ?_
  refine go ?_
  refine c_if (fun h4 => ?_) (fun h4 => ?_)
  · have hkn : k < p.n := by omega
    have hod := hv.opos hkn
    have hr := ordL_rng hv (l := List.range p.n) (fun d hd => List.mem_range.1 hd) (by omega) (k := k) (by omega)
    have hm : 0 ≤ ordL p ((List.range p.n).take k) * p.o k ∧ ordL p ((List.range p.n).take k) * p.o k ≤ 117649 * 7 := ⟨Int.mul_nonneg (by omega) (by omega), Int.mul_le_mul hr.2 hod.2 (by omega) (by omega)⟩
    have hmb : -9223372036854775808 ≤ ordL p ((List.range p.n).take k) * p.o k ∧ ordL p ((List.range p.n).take k) * p.o k ≤ 9223372036854775807 := ⟨by omega, by omega⟩
    have hst := ordL_take (p := p) (List.range p.n) (show k < (List.range p.n).length by omega)
    rw [show (List.range p.n).getD k 0 = k by simp [hkn]] at hst
    refine go ?_
    rw [show p.ord.getD k 0 = p.o k from rfl]
    refine ra (h := rd_mul (by ((try simp only [ev_tmp, ev_const, ev_func, get_put, get_args, get_putL, get_putL_nil, Nat.reduceEqDiff, reduceIte, List.getD_cons_zero, List.getD_cons_succ, List.getD_nil]); first | done | with_reducible rfl)) (by ((try simp only [ev_tmp, ev_const, ev_func, get_put, get_args, get_putL, get_putL_nil, Nat.reduceEqDiff, reduceIte, List.getD_cons_zero, List.getD_cons_succ, List.getD_nil]); first | done | with_reducible rfl)) hmb) (next := ?_)
    refine go ?_
    refine forQ_normal (by omega) ⟨?_, he2⟩
    rw [hst]
    exact hasP
  · refine go ?_
    have e : (List.range p.n).take k = List.range p.n := by rw [show k = p.n by omega, List.take_of_length_le (by omega)]
    rw [e]
    exact ret1 ⟨rfl, he2⟩
theorem ordL_all_rng' {p : Pr} (hv : Valid p) : 1 ≤ ordL p (List.range p.n) ∧ ordL p (List.range p.n) ≤ 117649 := by
  have hn6 := hv.n6
  have h := ordL_rng hv (l := List.range p.n) (fun d hd => List.mem_range.1 hd) (by simp; omega) (k := p.n) (by simp)
  rwa [List.take_of_length_le (by simp)] at h
theorem grow_one {e b : Nat} {w0 w1 w2 : World} {v u : Value} {xs : List Int} (ho : Own e b w2 v [u]) (hb : b = w1.heap.size) (hu : Fr w0.heap.size w1 u xs) (x0 : Ext w0 w1) (x : Ext w1 w2) : GrowL e w0.heap.size w2 v [(u, xs)] := by
  have hvb := ho.toN_block
  have h0 := x0.size
  have h1 := x.size
  refine ⟨⟨ho.toN.mono (by omega), ⟨rfl, fun i => ?_⟩, fun g hg => ?_, fun g hg => by omega⟩, ?_⟩
  · cases i with
    | zero =>
      have h : IntsAp (fun g => g < w0.heap.size ∨ v.ownBlock = some g) w1 u xs := ⟨w0.heap.size, w1.heap.size, hu.ints, Nat.le_refl _, fun g hg => by
        rcases hg with hg | hg
        · exact .inl hg
        · rw [hvb] at hg; injection hg with hg; exact .inr (by omega)⟩
      exact h.ext x
    | succ i => exact IntsAp.nil _ _
  · rw [hvb] at hg; injection hg with hg; omega
  · exact ((RowsO.nil w0.heap.size w0).cons x0 (Nat.le_refl _) hu).ext x
theorem take_flatMap {α β : Type} (L : List α) (f : α → List β) (z : α) {j : Nat} (hj : j < L.length) : (L.take (j + 1)).flatMap f = (L.take j).flatMap f ++ f (L.getD j z) := by
  rw [List.take_succ_eq_append_getElem hj, List.flatMap_append]; simp [hj]
end Go.Proofs.Ytgomfjhhfmhlgaa

/-
  Walks: the program's element with a number, all elements, subgroups of all elements with a property; Center.
  Conditions: stated at each theorem.
-/
namespace Go.Proofs.Ytgomfjhhfmhlgaa
open Go Go.Pc
set_option maxHeartbeats 2000000 in
theorem elementAt_ok {p : Pr} [hc : ConAll p] {t : Nat} (ht : t ≤ 1000000) {w : World} {vp : Value} {lo hi : Nat} [hp : PresP lo hi w vp p] :
    Calls Try.prog 184 #[vp, .int .i64 t] w (Ret fun v w' => Ext w w' ∧ Fr w.heap.size w' v (allE p t).v) := by
  have hv := hc.valid
  have hn6 := hv.n6
  have hol : p.ord.length = p.n := rfl
  rw [allE_val]
  obtain ⟨l, hl⟩ : ∃ l, List.range p.n = l := ⟨_, rfl⟩
  have hll : l.length = p.n := by rw [← hl]; simp
  have hlt : ∀ d, d ∈ l → d < p.n := fun d hd => by rw [← hl] at hd; exact List.mem_range.1 hd
  have hnd : l.Nodup := by rw [← hl]; exact List.nodup_range
  have hlg : ∀ i, i < p.n → l.getD i 0 = i := fun i hi => by rw [← hl]; simp [hi]
  rw [hl]
  replace hp := hp.wide
  obtain ⟨g, vo, vpw, vc, ps, cs, css, rfl, hg1, hg2, hc0, hc1, hc2, h1, h2, h3⟩ := hp.ex
  refine enter (args := [.pointer (some ⟨g, 0, none⟩), .int .i64 t]) (l := [.tmp 4]) Try.func184 rfl rfl Try.ntmps184 (by simp) ?_
  refine go ?_
  refine st_make_int (by ((try simp only [ev_tmp, ev_const, ev_func, get_put, get_args, get_putL, get_putL_nil, Nat.reduceEqDiff, reduceIte, List.getD_cons_zero, List.getD_cons_succ, List.getD_nil]); first | done | with_reducible rfl)) (by ((try simp only [ev_tmp, ev_const, ev_func, get_put, get_args, get_putL, get_putL_nil, Nat.reduceEqDiff, reduceIte, List.getD_cons_zero, List.getD_cons_succ, List.getD_nil]); first | done | with_reducible rfl)) (by omega) (by omega) (by first | exact True.intro | exact ⟨_, rfl, by ((try simp only [ev_tmp, ev_const, ev_func, get_put, get_args, get_putL, get_putL_nil, Nat.reduceEqDiff, reduceIte, List.getD_cons_zero, List.getD_cons_succ, List.getD_nil, Bool.not_true, Bool.not_false]); first | done | with_reducible rfl)⟩) fun w2 v2 he2 hs2 ho2 => ?_
  have hz2 := he2.size
  have hzz : List.replicate p.ord.length (0 : Int) = zeros p.n := rfl
  rw [hzz] at ho2
  have hzl := zeros_len p.n
  have ap1 : Apart 0 w.heap.size w.heap.size := ⟨.inr (Nat.le_refl _)⟩
  have hgs : g + 1 ≤ w.heap.size := by have := hc0.lt; omega
  have ap2 : Apart g (g + 1) w.heap.size := ⟨.inr hgs⟩
  refine go ?_
  refine r_for p.n (fun k ρ w' => ∃ (tk : Int) (xs : List Int), Has ρ [(0, .pointer (some ⟨g, 0, none⟩)), (1, .int .i64 tk), (5, v2), (6, .int .i64 (p.n - 1 - k))] ∧ Chg w.heap.size w2 w' ∧ OwnI 2 w.heap.size w' v2 xs ∧ xs.length = p.n ∧ 0 ≤ tk ∧ tk ≤ 1000000 ∧ fillTo p l (p.n - k) tk xs = elTo p l l.length t) ?_ ?_
  · refine ⟨t, zeros p.n, ?_, Chg.refl _ _, ho2, hzl, by omega, by omega, ?_⟩
    · exact hasP
    · have := fill_eq hnd hlt (t : Int)
      rwa [hll] at this ⊢
  clear ho2
  rintro k ρ w4 hk ⟨tk, xs, hH, hch4, ho4, hxl, ht0, ht1, hfill⟩
  refine rwp_has hH fun ρ0 => ?_
  refine go ?_
  refine c_if (fun h4 => ?_) (fun h4 => ?_)
  · have hkn : k < p.n := by omega
    obtain ⟨i, hi⟩ : ∃ i, p.n - 1 - k = i := ⟨_, rfl⟩
    have hil : i < p.n := by omega
    have hcast : ((p.n : Int) - 1 - k) = (i : Int) := by omega
    have hod := hv.opos hil
    have hmod : 0 ≤ tk % p.o i ∧ tk % p.o i < p.o i := ⟨Int.emod_nonneg _ (by omega), Int.emod_lt_of_pos _ (by omega)⟩
    have hdiv : 0 ≤ tk / p.o i ∧ tk / p.o i ≤ 1000000 := ⟨Int.ediv_nonneg ht0 (by omega), Int.le_trans (Int.ediv_le_self _ ht0) ht1⟩
    have hstep : fillTo p l (p.n - (k + 1)) (tk / p.o i) (xs.set i (tk % p.o i)) = elTo p l l.length t := by
      rw [← hfill, show p.n - k = i + 1 by omega, show p.n - (k + 1) = i by omega]
      show _ = fillTo p l i (tk / p.o (l.getD i 0)) (xs.set (l.getD i 0) (tk % p.o (l.getD i 0)))
      rw [hlg i hil]
    rw [hcast]
    refine go ?_
    first
      | rw [show p.ord.getD i 0 = p.o i from rfl]
      | rw [show p.ord.getD ((i : Int).toNat) 0 = p.o i from rfl]
    refine go ?_
    refine st_store_int (h := ho4) (by ((try simp only [ev_tmp, ev_const, ev_func, get_put, get_args, get_putL, get_putL_nil, Nat.reduceEqDiff, reduceIte, List.getD_cons_zero, List.getD_cons_succ, List.getD_nil]); first | done | with_reducible rfl)) (by ((try simp only [ev_tmp, ev_const, ev_func, get_put, get_args, get_putL, get_putL_nil, Nat.reduceEqDiff, reduceIte, List.getD_cons_zero, List.getD_cons_succ, List.getD_nil]); first | done | with_reducible rfl)) ?_ (by first | exact True.intro | exact ⟨_, rfl, by ((try simp only [ev_tmp, ev_const, ev_func, get_put, get_args, get_putL, get_putL_nil, Nat.reduceEqDiff, reduceIte, List.getD_cons_zero, List.getD_cons_succ, List.getD_nil, Bool.not_true, Bool.not_false]); first | done | with_reducible rfl)⟩) fun w6 hc6 hs6 ho6 => ?_
    · omega
    have hch6 : Chg w.heap.size w2 w6 := hch4.trans hc6
    clear hch4 hc6 ho4
    refine go ?_
    first
      | rw [show p.ord.getD i 0 = p.o i from rfl]
      | rw [show p.ord.getD ((i : Int).toNat) 0 = p.o i from rfl]
    refine go ?_
    refine forQ_normal (by omega) ⟨tk / p.o i, _, ?_, hch6, ho6, by simp [hxl], hdiv.1, hdiv.2, hstep⟩
    exact hasP
  · refine go ?_
    obtain rfl : k = p.n := by omega
    rw [Nat.sub_self] at hfill
    have hx : xs = elTo p l l.length t := hfill
    refine ret1 ⟨hch4.ext he2 (Nat.le_refl _), ?_⟩
    rw [← hx]
    exact ho4.toFr (Nat.le_refl _)
set_option maxHeartbeats 2000000 in
theorem allElements_ok {p : Pr} [hc : ConAll p] {w : World} {vp : Value} {lo hi : Nat} [hp : PresP lo hi w vp p] :
    Calls Try.prog 153 #[vp] w (Ret fun v w' => Ext w w' ∧ ∃ rs, vecs ((List.range (ordN p)).map (allE p)) = rs.map (·.2) ∧ MatO w.heap.size w'.heap.size w' v rs) := by
  have hv := hc.valid
  obtain ⟨hoe, ho1, ho2⟩ := ordN_rng p
  have hpw := hp.wide
  refine enter (args := [vp]) (l := [.tmp 2]) Try.func153 rfl rfl Try.ntmps153 (by simp) ?_
  refine go ?_
  refine rc (orderOf_ok (p := p) hv) (next := fun v2 w2 h4 => ?_)
  obtain ⟨rfl, he2⟩ := h4
  rw [hoe]
  have hz2 := he2.size
  refine go ?_
  refine r_for (ordN p) (fun k ρ w' => ∃ vl rs, Has ρ [(0, vp), (3, vl), (6, .int .i64 (ordN p)), (7, .int .i64 k)] ∧ Ext w2 w' ∧ GrowL 22 w2.heap.size w' vl rs ∧ rs.map (·.2) = vecs ((List.range k).map (allE p))) ?_ ?_
  · refine ⟨nilv, [], ?_, Ext.refl _, GrowL.nil _ _ _ (Nat.le_refl _), by simp⟩
    exact hasP
  rintro k ρ w3 hk ⟨vl, rs, hH, he3, hG, hrs⟩
  refine rwp_has hH fun ρ0 => ?_
  have hz3 := he3.size
  have hrl : rs.length = k := by have := congrArg List.length hrs; simp at this; omega
  have hE3 := he2.trans he3
  refine go ?_
  refine c_if (fun h4 => ?_) (fun h4 => ?_)
  · refine go ?_
    refine rc (elementAt_ok (p := p) (t := k) (by omega)) (next := fun v4 w4 h5 => ?_)
    obtain ⟨he4, hf4⟩ := h5
    refine go ?_
    refine st_grow hG he4 hf4 hz3 (by omega) (next := fun v6 v7 w7 hG7 hx7 hz7 hgs7 => ?_)
    refine go ?_
    refine forQ_normal (by omega) ⟨v7, _, ?_, hx7 w2 (he3.trans he4) (Nat.le_refl _), hG7, ?_⟩
    · exact hasP
    · rw [List.range_succ, List.map_append, List.map_append, hrs]; simp
  · obtain rfl : k = ordN p := by omega
    refine go ?_
    exact ret1 ⟨hE3, rs, hrs.symm, hG.mat.lower hz2⟩
set_option maxHeartbeats 4000000 in
theorem elementsWith_ok {f : FuncId} {caps : Array Value} [hf : FnT Try.prog f] {p : Pr} [hcon : ConAll p] {P : El p → Prop} {w : World} {vp : Value} {lo hi : Nat} [hp : PresP lo hi w vp p]
    (hcall : ∀ {w' : World} {vx : Value} {lo' hi' : Nat} {xs : List Int}, Ext w w' → ∀ x : El p, Ints lo' hi' w' vx xs → xs = x.v → Calls Try.prog f (#[vx] ++ caps) w' (Ret fun r w'' => ∃ b, r = .bool b ∧ (b = true ↔ P x) ∧ Ext w' w'')) :
    Calls Try.prog 110 #[vp, .func (.func f) #[] caps] w (Ret fun v w' => Ext w w' ∧ ∃ rs, canon (Gen (fun a : El p => P a)) = rs.map (·.2) ∧ MatO w.heap.size w'.heap.size w' v rs) := by
  have hn6 := hcon.valid.n6
  obtain ⟨hoe, ho1, ho2⟩ := ordN_rng p
  replace hp := hp.wide
  refine enter (args := [vp, .func (.func f) #[] caps]) (l := [.tmp 4]) Try.func110 rfl rfl Try.ntmps110 (by simp) ?_
  refine go ?_
  refine rc (newSequence_ok (p := p) hn6) (next := fun v1 w1 h1 => ?_)
  obtain ⟨st, vt, rfl, he1, hc0, hc1, hst, hvt, ho⟩ := h1
  have hz1 := he1.size
  have hq : SeqAt st w.heap.size w.heap.size (fun _ => False) w1 vp vt (fun _ => none : Tab p) := by
    refine ⟨hc0, hc1, by omega, hvt, List.replicate p.n nilv, ?_, fun d hd _ => ?_⟩
    · rw [tabL_none]
      exact Lst.ofNils ho (Nat.le_refl _) (fun h => h) (fun g h => h.elim)
    · rw [List.getD_eq_getElem?_getD, List.getElem?_replicate]; split <;> rfl
  have hap : Apart 0 w.heap.size w.heap.size := ⟨.inr (Nat.le_refl _)⟩
  have hz11 : w.heap.size + 1 ≤ w1.heap.size := by have := ho.lt; omega
  clear hc0 hc1 ho
  refine go ?_
  refine rc (allElements_ok (p := p)) (next := fun v2 w2 h2 => ?_)
  obtain ⟨he2, rs2, hrs2, hM2⟩ := h2
  have hR2 := hM2.rows
  rw [← hrs2] at hR2
  have hE2 := he1.trans he2
  have hz2 := he2.size
  have hvl : (vecs ((List.range (ordN p)).map (allE p))).length = ordN p := by simp
  have hq2 := hq.ext he2
  clear hq
  refine go ?_
  refine r_for (ordN p) (fun k ρ w' => ∃ (t : Tab p) (S : El p → Prop), Has ρ [(0, vp), (1, .func (.func f) #[] caps), (5, .pointer (some ⟨st, 0, none⟩)), (11, v2), (12, .int .i64 (ordN p)), (13, .int .i64 k)] ∧ Chg w.heap.size w2 w' ∧ SeqAt st w.heap.size w.heap.size (fun _ => False) w' vp vt t ∧ Wk S t (fun _ => False) ∧ ∀ a, S a ↔ a ∈ selL P k) ?_ ?_
  · refine ⟨fun _ => none, fun _ => False, ?_, Chg.refl _ _, hq2, Wk.none, fun a => by simp [selL]⟩
    exact hasP
  clear hq2
  rintro k ρ w3 hk ⟨t, S, hH, hch3, hq3, hW3, hS3⟩
  refine rwp_has hH fun ρ0 => ?_
  have hE3 : Ext w w3 := hch3.ext hE2 (Nat.le_refl _)
  have hz3 := hch3.size
  have hR3 : Pc.Rows w1.heap.size w2.heap.size w3 v2 _ _ := hR2.same (hch3.same (.inl (by omega)))
  refine go ?_
  refine c_if (fun h4 => ?_) (fun h4 => ?_)
  · have hkn : k < ordN p := by omega
    have hxk : (vecs ((List.range (ordN p)).map (allE p))).getD k [] = (allE p k).v := by
      rw [vecs_getD _ (by simpa using hkn)]; simp
    have hxi : Ints w1.heap.size w2.heap.size w3 (Pc.rowAt v2 (rs2.map fun x : Value × List Int => x.1) k) ((vecs ((List.range (ordN p)).map (allE p))).getD k []) := hR3.vals.at_ k
    refine go ?_
    refine rc (hcall hE3 (allE p k) hxi hxk) (ho := cl_clo (by ((try simp only [ev_tmp, ev_const, ev_func, get_put, get_args, get_putL, get_putL_nil, Nat.reduceEqDiff, reduceIte, List.getD_cons_zero, List.getD_cons_succ, List.getD_nil]); first | done | with_reducible rfl)) (by simp only [List.map_toArray, List.map_cons, List.map_nil, ev_tmp, ev_const, ev_func, get_put, get_args, get_putL, get_putL_nil, Nat.reduceEqDiff, reduceIte, List.getD_cons_zero, List.getD_cons_succ, List.getD_nil])) (next := fun v5 w5 h5 => ?_)
    obtain ⟨b5, rfl, hb5, he5⟩ := h5
    have hq5 := hq3.ext he5
    have hch5 := hch3.grow he5
    have hxi5 : Ints w1.heap.size w2.heap.size w5 (Pc.rowAt v2 (rs2.map (·.1)) k) (allE p k).v := by rw [← hxk]; exact hxi.same (he5.same _ _)
    clear hq3 hch3
    refine go ?_
    refine c_b (fun e5 => ?_) (fun e5 => ?_)
    · refine go ?_
      refine st_slice1 (u := Pc.rowAt v2 (rs2.map (·.1)) k) (by ((try simp only [ev_tmp, ev_const, ev_func, get_put, get_args, get_putL, get_putL_nil, Nat.reduceEqDiff, reduceIte, List.getD_cons_zero, List.getD_cons_succ, List.getD_nil]); first | done | with_reducible rfl)) hxi5.sl.cells rfl (by first | exact True.intro | exact ⟨_, rfl, by ((try simp only [ev_tmp, ev_const, ev_func, get_put, get_args, get_putL, get_putL_nil, Nat.reduceEqDiff, reduceIte, List.getD_cons_zero, List.getD_cons_succ, List.getD_nil, Bool.not_true, Bool.not_false]); first | done | with_reducible rfl)⟩) fun w6 v6 he6 hs6 hsl6 => ?_
      have hq6 := hq5.ext he6
      have hch6 := hch5.grow he6
      have hz6 := hch6.size
      have hxi6 : Ints w1.heap.size w2.heap.size w6 (Pc.rowAt v2 (rs2.map (·.1)) k) (allE p k).v := hxi5.same (he6.same _ _)
      have hr6 : RowsAp (fun g => g = w.heap.size) w6 [Pc.rowAt v2 (rs2.map (·.1)) k] (vecs [allE p k]) := by
        refine ⟨rfl, fun i => ?_⟩
        cases i with
        | zero => exact ⟨w1.heap.size, w2.heap.size, hxi6, by omega, fun g hg => .inl (by omega)⟩
        | succ i => exact IntsAp.nil _ _
      refine go ?_
      refine rc (add_ok (p := p) (S := S) (by omega) hq6 hW3 hr6 (by simp)) (next := fun v7 w7 h7 => ?_)
      obtain ⟨bg7, t7, rfl, hch7, hq7, hW7, _⟩ := h7
      refine go ?_
      refine forQ_normal (by omega) ⟨t7, _, ?_, hch6.trans hch7, hq7, hW7, fun a => ?_⟩
      · exact hasP
      · rw [selL_yes (hb5.1 e5), List.mem_append, hS3]
    · refine go ?_
      refine forQ_normal (by omega) ⟨t, S, ?_, hch5, hq5, hW3, fun a => ?_⟩
      · exact hasP
      · rw [selL_no (fun h => by rw [hb5.2 h] at e5; cases e5), hS3]
  · obtain rfl : k = ordN p := by omega
    have hgen := hW3.gen (fun _ h => h)
    have hfull := hW3.full (fun _ h => h)
    have hSP : S = fun a => P a := by
      have h := selL_all P
      funext a
      exact propext ((hS3 a).trans (by rw [← congrFun h a]))
    refine go ?_
    refine rc (canonicalM_ok (p := p) hfull hq3) (next := fun v9 w9 h9 => ?_)
    obtain ⟨he9, rs9, hrs9, hM9⟩ := h9
    rw [hgen, hSP] at hrs9
    refine go ?_
    exact ret1 ⟨hE3.trans he9, rs9, hrs9, hM9.lower hE3.size⟩
set_option maxHeartbeats 2000000 in
theorem centerFn_ok {p : Pr} [hc : ConAll p] {ys : List (El p)} (hs : SeqEl ys) {w : World} {vp vu vx : Value} {us : List Value} {xss : List (List Int)} {x : El p} {xs : List Int} {bp bu lo hi lo1 hi1 lo2 hi2 : Nat} [hp : PresP lo hi w vp p] [hu : Pc.Rows lo1 hi1 w vu us xss] [hx : Ints lo2 hi2 w vx xs] [hcp : Cell w bp 0 vp] [hcu : Cell w bu 0 vu] (hus : xss = vecs ys) (hxe : xs = x.v) :
    Calls Try.prog 118 #[vx, .pointer (some ⟨bp, 0, none⟩), .pointer (some ⟨bu, 0, none⟩)] w (Ret fun v w' => ∃ b, v = .bool b ∧ (b = true ↔ AbP ys x) ∧ Ext w w') := by
  have hn6 := hc.valid.n6
  have hgl := gensL_len p
  refine enter (args := [vx, .pointer (some ⟨bp, 0, none⟩), .pointer (some ⟨bu, 0, none⟩)]) (l := [.tmp 4]) Try.func118 rfl rfl Try.ntmps118 (by simp) ?_
  refine go ?_
  refine rc (generators_ok (p := p)) (next := fun v2 w2 h4 => ?_)
  obtain ⟨he2, rs2, hrs2, hM2⟩ := h4
  have hR2 := hM2.rows
  rw [← hrs2] at hR2
  have hvl : (vecs (gensL p)).length = p.n := by simp [hgl]
  refine go ?_
  refine r_for p.n (fun k ρ w' => Has ρ [(0, vx), (1, .pointer (some ⟨bp, 0, none⟩)), (2, .pointer (some ⟨bu, 0, none⟩)), (8, v2), (9, .int .i64 (vecs (gensL p)).length), (10, .int .i64 k)] ∧ Ext w2 w' ∧ ∀ j (h : j < (gensL p).length), j < k → Gen (fun a : El p => a ∈ ys) (Grp.cm x (gensL p)[j])) ?_ ?_
  · refine ⟨?_, Ext.refl _, fun j _ hj => by omega⟩
    exact hasP
  rintro k ρ w3 hk ⟨hH, he3, hI⟩
  refine rwp_has hH fun ρ0 => ?_
  have hE3 := he2.trans he3
  refine go ?_
  refine c_if (fun h4 => ?_) (fun h4 => ?_)
  · have hkn : k < (gensL p).length := by omega
    have hgk := vecs_getD (gensL p) hkn
    refine go ?_
    refine d_order [0, 1, 2, 3, 4, 5, 6, 7] (h := fun w4 he4 _ => ?_)
    refine dgo ?_
    refine dce (commutator_ok (p := p) (i := 0) (x := x) (y := (gensL p)[k]) (Nat.zero_le _) hxe hgk) (next := fun v5 w5 h5 => ?_)
    obtain ⟨he5, hf5⟩ := h5
    refine dce (isMember_ok (p := p) (x := Grp.cm x (gensL p)[k]) hs hus rfl) (next := fun v6 w6 h6 => ?_)
    obtain ⟨b6, rfl, hb6, he6⟩ := h6
    refine dgo ?_
    refine d_end (h := ?_)
    have hE6 := ((he4.trans he5).trans he6)
    refine go ?_
    refine c_b (fun e6 => ?_) (fun e6 => ?_)
    · refine go ?_
      refine ret1 ⟨false, rfl, ?_, hE3.trans hE6⟩
      simp only [Bool.false_eq_true, false_iff]
      intro h
      rw [hb6.2 (h k hkn)] at e6; cases e6
    · have hb : b6 = true := by simpa using e6
      refine go ?_
      refine forQ_normal (by omega) ⟨?_, he3.trans hE6, fun j hj hjk => ?_⟩
      · exact hasP
      · by_cases e : j = k
        · subst e; exact hb6.1 hb
        · exact hI j hj (by omega)
  · refine go ?_
    exact ret1 ⟨true, rfl, ⟨fun _ j hj => hI j hj (by omega), fun _ => rfl⟩, hE3⟩
set_option maxHeartbeats 2000000 in
theorem centerAbove_ok {p : Pr} [hc : ConAll p] {ys : List (El p)} (hs : SeqEl ys) {w : World} {vp vu : Value} {us : List Value} {xss : List (List Int)} {lo hi lo1 hi1 : Nat} [hp : PresP lo hi w vp p] [hu : Pc.Rows lo1 hi1 w vu us xss] (hus : xss = vecs ys) :
    Calls Try.prog 77 #[vp, vu] w (Ret fun v w' => Ext w w' ∧ ∃ rs, canon (Gen (fun a : El p => AbP ys a)) = rs.map (·.2) ∧ MatO w.heap.size w'.heap.size w' v rs) := by
  have hpc : vp.cells = #[vp] := by obtain ⟨g, _, _, _, _, _, _, rfl, _⟩ := hp.ex; rfl
  refine enter (args := [vp, vu]) (l := [.tmp 4]) Try.func77 rfl rfl Try.ntmps77 (by simp) ?_
  refine go ?_
  refine st_box1 (v := vp) (by ((try simp only [ev_tmp, ev_const, ev_func, get_put, get_args, get_putL, get_putL_nil, Nat.reduceEqDiff, reduceIte, List.getD_cons_zero, List.getD_cons_succ, List.getD_nil]); first | done | with_reducible rfl)) hpc (by first | exact True.intro | exact ⟨_, rfl, by ((try simp only [ev_tmp, ev_const, ev_func, get_put, get_args, get_putL, get_putL_nil, Nat.reduceEqDiff, reduceIte, List.getD_cons_zero, List.getD_cons_succ, List.getD_nil, Bool.not_true, Bool.not_false]); first | done | with_reducible rfl)⟩) fun w1 bp he1 hb1 hs1 hbk1 => ?_
  have hcp := hbk1.cell (k := 0) rfl
  refine go ?_
  refine st_box1 (v := vu) (by ((try simp only [ev_tmp, ev_const, ev_func, get_put, get_args, get_putL, get_putL_nil, Nat.reduceEqDiff, reduceIte, List.getD_cons_zero, List.getD_cons_succ, List.getD_nil]); first | done | with_reducible rfl)) hu.sl.cells (by first | exact True.intro | exact ⟨_, rfl, by ((try simp only [ev_tmp, ev_const, ev_func, get_put, get_args, get_putL, get_putL_nil, Nat.reduceEqDiff, reduceIte, List.getD_cons_zero, List.getD_cons_succ, List.getD_nil, Bool.not_true, Bool.not_false]); first | done | with_reducible rfl)⟩) fun w2 bu he2 hb2 hs2 hbk2 => ?_
  have hcu := hbk2.cell (k := 0) rfl
  have hE2 := he1.trans he2
  have hcp2 : Cell w2 bp 0 vp := hcp.same (he2.same _ _) he2.size
  refine go ?_
  refine ra (h := rd_makeFunc (caps := #[.pointer (some ⟨bp, 0, none⟩), .pointer (some ⟨bu, 0, none⟩)]) (by simp only [List.map_toArray, List.map_cons, List.map_nil, ev_tmp, ev_const, ev_func, get_put, get_args, get_putL, get_putL_nil, Nat.reduceEqDiff, reduceIte, List.getD_cons_zero, List.getD_cons_succ, List.getD_nil])) (next := ?_)
  refine go ?_
  refine rc (elementsWith_ok (p := p) (P := AbP ys) (fun {w'} {vx} {lo'} {hi'} {xs} x0 x hx hxe => ?_)) (next := fun v3 w3 h3 => ?_)
  · have hx' := hE2.trans x0
    haveI : Ints lo' hi' w' vx xs := hx
    haveI : Cell w' bp 0 vp := hcp2.same (x0.same _ _) x0.size
    haveI : Cell w' bu 0 vu := hcu.same (x0.same _ _) x0.size
    haveI : Pc.Rows lo1 hi1 w' vu us xss := hu.same (hx'.same _ _)
    haveI : PresP lo hi w' vp p := hp.same (hx'.same _ _) hx'.size
    exact centerFn_ok (p := p) (x := x) hs hus hxe
  obtain ⟨he3, rs3, hrs3, hM3⟩ := h3
  refine go ?_
  exact ret1 ⟨hE2.trans he3, rs3, hrs3, hM3.lower hE2.size⟩
end Go.Proofs.Ytgomfjhhfmhlgaa

/-
  Walks: the program's series of subgroups; DerivedSeries, LowerCentralSeries, NilpotencyClass.
  Conditions: stated at each theorem.
-/
namespace Go.Proofs.Ytgomfjhhfmhlgaa
open Go Go.Pc
theorem whole_ok {p : Pr} [hc : ConAll p] {w : World} {vp : Value} {lo hi : Nat} [hp : PresP lo hi w vp p] :
    Calls Try.prog 59 #[vp] w (Ret fun v w' => Ext w w' ∧ ∃ rs, vecs (gensL p) = rs.map (·.2) ∧ MatO w.heap.size w'.heap.size w' v rs) := by
  refine enter (args := [vp]) (l := [.tmp 2]) Try.func59 rfl rfl Try.ntmps59 (by simp) ?_
  refine go ?_
  refine rc (generators_ok (p := p)) (next := fun v1 w1 h1 => ?_)
  obtain ⟨he1, rs1, hrs1, hM1⟩ := h1
  refine go ?_
  exact ret1 ⟨he1, rs1, hrs1, hM1⟩
set_option maxHeartbeats 4000000 in
theorem series_ok {f : FuncId} {caps : Array Value} [hf : FnT Try.prog f] {p : Pr} [hcon : ConAll p] {F : List (El p) → List (El p)} {y0 : List (El p)} (hS : SerOk F y0) {s : Nat} {w : World} {v0 : Value} {rs0 : List (Value × List Int)} (hs : s ≤ w.heap.size) (hM0 : MatO s w.heap.size w v0 rs0) (he0 : vecs y0 = rs0.map (·.2))
    (hcall : ∀ {w' : World} {vx : Value} {lo' hi' : Nat} {us : List Value} {xss : List (List Int)}, Ext w w' → ∀ ys : List (El p), SeqEl ys → Pc.Rows lo' hi' w' vx us xss → xss = vecs ys → Calls Try.prog f (#[vx] ++ caps) w' (Ret fun r w'' => Ext w' w'' ∧ ∃ rs, vecs (F ys) = rs.map (·.2) ∧ MatO w'.heap.size w''.heap.size w'' r rs)) :
    Calls Try.prog 58 #[v0, .func (.func f) #[] caps] w (Ret fun v w' => Ext w w' ∧ ∃ K gs, SerR F y0 K ∧ (gs.map fun q : Value × List (Value × List Int) => q.2.map (·.2)) = (List.range (K + 1)).map (fun j => vecs (itL F y0 j)) ∧ MatC s w'.heap.size w' v gs) := by
  have hn6 := hcon.valid.n6
  have hR0 := hM0.rows
  refine enter (args := [v0, .func (.func f) #[] caps]) (l := [.tmp 4]) Try.func58 rfl rfl Try.ntmps58 (by simp) ?_
  refine go ?_
  refine st_slice1o (u := v0) (by ((try simp only [ev_tmp, ev_const, ev_func, get_put, get_args, get_putL, get_putL_nil, Nat.reduceEqDiff, reduceIte, List.getD_cons_zero, List.getD_cons_succ, List.getD_nil]); first | done | with_reducible rfl)) ?_ ?_ (by first | exact True.intro | exact ⟨_, rfl, by ((try simp only [ev_tmp, ev_const, ev_func, get_put, get_args, get_putL, get_putL_nil, Nat.reduceEqDiff, reduceIte, List.getD_cons_zero, List.getD_cons_succ, List.getD_nil, Bool.not_true, Bool.not_false]); first | done | with_reducible rfl)⟩) fun w1 v1 he1 hs1 ho1 => ?_
  · exact hR0.sl.cells
  · rfl
  have hG1 := GrowV.one ho1 rfl (Nat.le_refl _) hR0 hs he1
  have hO1 := OwnC.one ho1 rfl hM0 hs he1
  have hz1 := he1.size
  refine go ?_
  refine r_for p.n (fun j ρ w' => ∃ vl gs, Has ρ [(1, .func (.func f) #[] caps), (5, vl)] ∧ Ext w w' ∧ GrowV 23 w.heap.size s w' vl (gs.map (·.1)) (gs.map fun q : Value × List (Value × List Int) => q.2.map (·.1)) (gs.map fun q : Value × List (Value × List Int) => q.2.map (·.2)) ∧ OwnC s w' vl gs ∧ (gs.map fun q : Value × List (Value × List Int) => q.2.map (·.2)) = (List.range (j + 1)).map (fun i => vecs (itL F y0 i)) ∧ ∀ i, i < j → itL F y0 (i + 1) ≠ itL F y0 i) ?_ ?_
  · refine ⟨v1, [(v0, rs0)], ?_, he1, ?_, hO1, ?_, fun i hi => by omega⟩
    · exact hasP
    · simpa using hG1
    · simp [← he0, itL]
  clear hG1 hO1
  rintro j ρ w2 hj ⟨vl, gs, hH, he2, hG2, hO2, hgs, hne⟩
  refine rwp_has hH fun ρ0 => ?_
  have hz2 := he2.size
  have hgl : gs.length = j + 1 := by have := congrArg List.length hgs; simpa using this
  have hRs := hG2.rowss hs (by omega)
  rw [hgs] at hRs
  have hlen : ((List.range (j + 1)).map (fun i => vecs (itL F y0 i))).length = j + 1 := by simp
  have hgj : ((List.range (j + 1)).map (fun i => vecs (itL F y0 i))).getD j [] = vecs (itL F y0 j) := by simp [List.getD_eq_getElem?_getD]
  have hidx : (((j + 1 : Nat) : Int) - 1) = (j : Int) := by omega
  have hsq := hS.seq j
  have hsl := hsq.len
  refine go ?_
  have hix : ((List.range (j + 1)).map (fun i => vecs (itL F y0 i))).length - 1 = j := by simp
  rw [hix]
  have hRj : Pc.Rows s w2.heap.size w2 (Pc.rowAt vl (gs.map fun q : Value × List (Value × List Int) => q.1) j) ((gs.map fun q : Value × List (Value × List Int) => q.2.map (·.1)).getD j []) (((List.range (j + 1)).map (fun i => vecs (itL F y0 i))).getD j []) := hRs.vals.at_ j
  refine rc (hcall he2 (itL F y0 j) hsq hRj hgj) (ho := cl_clo (by ((try simp only [ev_tmp, ev_const, ev_func, get_put, get_args, get_putL, get_putL_nil, Nat.reduceEqDiff, reduceIte, List.getD_cons_zero, List.getD_cons_succ, List.getD_nil]); first | done | with_reducible rfl)) (by simp only [List.map_toArray, List.map_cons, List.map_nil, ev_tmp, ev_const, ev_func, get_put, get_args, get_putL, get_putL_nil, Nat.reduceEqDiff, reduceIte, List.getD_cons_zero, List.getD_cons_succ, List.getD_nil])) (next := fun v3 w3 h3 => ?_)
  obtain ⟨he3, rs3, hrs3, hM3⟩ := h3
  have hR3 := hM3.rows
  rw [← hrs3] at hR3
  have hz3 := he3.size
  have hRs3 : Rowss s w2.heap.size w3 vl _ _ _ := hRs.same (he3.same _ _)
  have hsl1 := (hS.seq (j + 1)).len
  have hsl2 : (F (itL F y0 j)).length ≤ p.n := hsl1
  clear hRs
  refine go ?_
  rw [hix]
  refine rc (sameRows_ok (xss := vecs (F (itL F y0 j))) (yss := ((List.range (j + 1)).map (fun i => vecs (itL F y0 i))).getD j []) (fun i => ?_) (by simp; omega)) (next := fun v4 w4 h4 => ?_)
  · by_cases hi : i < (F (itL F y0 j)).length
    · rw [vecs_getD _ hi, ((F (itL F y0 j))[i]).inr.len]; omega
    · rw [List.getD_eq_getElem?_getD, List.getElem?_eq_none (by simp; omega)]; simp
  obtain ⟨b4, rfl, hb4, he4⟩ := h4
  rw [hgj] at hb4
  have hb5 : b4 = true ↔ itL F y0 (j + 1) = itL F y0 j := hb4.trans ⟨fun h => vecs_inj h, fun h => congrArg vecs h⟩
  have he34 := he3.trans he4
  have hz4 := he4.size
  clear hRs3
  refine go ?_
  refine c_b (fun e5 => ?_) (fun e5 => ?_)
  · refine go ?_
    refine ret1 ⟨he2.trans he34, j, gs, ⟨hb5.1 e5, hne⟩, hgs, MatC.of (hO2.ext he34 fun b hb => (hG2.own.lt b hb).2) (hG2.ext he34) hs (by omega)⟩
  · have hnej : itL F y0 (j + 1) ≠ itL F y0 j := fun h => by rw [hb5.2 h] at e5; cases e5
    have hne' : ∀ i, i < j + 1 → itL F y0 (i + 1) ≠ itL F y0 i := fun i hi => by
      by_cases e : i = j
      · subst e; exact hnej
      · exact hne i (by omega)
    have hjn := hS.bd (j + 1) hne'
    have hM4 : MatO w2.heap.size w4.heap.size w4 v3 rs3 := (hM3.wr (.ofExt (B := fun _ => False) he4) (fun b hb => hb.elim)).sub (Nat.le_refl _) hz4
    refine go ?_
    refine st_growv hG2 he34 (hM4.rows) (by omega) hz2 (by simp; omega) (next := fun v5 v6 w6 wm hG6 hx6 hz6 hxm hgm hvm => ?_)
    have hO6 := hO2.push (fun b hb => (hG2.own.lt b hb).2) he34 hM4 (by omega) hxm hgm hvm
    refine go ?_
    refine forQ_normal (by omega) ⟨v6, gs ++ [(v3, rs3)], ?_, hx6 w (he2.trans he34) (Nat.le_refl _), ?_, hO6, ?_, hne'⟩
    · exact hasP
    · simpa using hG6
    · rw [List.range_succ, List.map_append, List.map_append, hgs]
      simp only [List.map_cons, List.map_nil, ← hrs3]
      rfl
set_option maxHeartbeats 1000000 in
theorem lowerFn_ok {p : Pr} [hc : ConAll p] {ys : List (El p)} (hs : SeqEl ys) {w : World} {vp vx : Value} {us : List Value} {xss : List (List Int)} {bp lo hi lo1 hi1 : Nat} [hp : PresP lo hi w vp p] [hx : Pc.Rows lo1 hi1 w vx us xss] [hcp : Cell w bp 0 vp] (hxe : xss = vecs ys) :
    Calls Try.prog 94 #[vx, .pointer (some ⟨bp, 0, none⟩)] w (Ret fun r w' => Ext w w' ∧ ∃ rs, vecs (lowF ys) = rs.map (·.2) ∧ MatO w.heap.size w'.heap.size w' r rs) := by
  have hn6 := hc.valid.n6
  have hsl := hs.len
  have hgl := gensL_len p
  refine enter (args := [vx, .pointer (some ⟨bp, 0, none⟩)]) (l := [.tmp 3]) Try.func94 rfl rfl Try.ntmps94 (by simp) ?_
  refine go ?_
  refine d_order [0, 1, 2, 3, 4, 5] (h := fun w1 he1 _ => ?_)
  refine dgo ?_
  refine dce (whole_ok (p := p)) (next := fun v2 w2 h2 => ?_)
  obtain ⟨he2, rs2, hrs2, hM2⟩ := h2
  have hR2 := hM2.rows
  rw [← hrs2] at hR2
  refine dce (commutatorSubgroup_ok (p := p) (ys := ys) (zs := gensL p) (by omega) (by omega) hxe rfl) (next := fun v3 w3 h3 => ?_)
  obtain ⟨he3, rs3, hrs3, hM3⟩ := h3
  rw [lowF_vecs] at hrs3
  refine dgo ?_
  refine d_end (h := ?_)
  refine go ?_
  exact ret1 ⟨(he1.trans he2).trans he3, rs3, hrs3, hM3.lower (he1.trans he2).size⟩
set_option maxHeartbeats 1000000 in
theorem lowerCentral_ok {p : Pr} [hc : ConAll p] {w : World} {vp : Value} {lo hi : Nat} [hp : PresP lo hi w vp p] :
    Calls Try.prog 56 #[vp] w (Ret fun v w' => Ext w w' ∧ ∃ K gs, SerR (lowF (p := p)) (gensL p) K ∧ (gs.map fun q : Value × List (Value × List Int) => q.2.map (·.2)) = (List.range (K + 1)).map (fun j => vecs (itL (lowF (p := p)) (gensL p) j)) ∧ MatC w.heap.size w'.heap.size w' v gs) := by
  have hpc : vp.cells = #[vp] := by obtain ⟨g, _, _, _, _, _, _, rfl, _⟩ := hp.ex; rfl
  refine enter (args := [vp]) (l := [.tmp 2]) Try.func56 rfl rfl Try.ntmps56 (by simp) ?_
  refine go ?_
  refine st_box1 (v := vp) (by ((try simp only [ev_tmp, ev_const, ev_func, get_put, get_args, get_putL, get_putL_nil, Nat.reduceEqDiff, reduceIte, List.getD_cons_zero, List.getD_cons_succ, List.getD_nil]); first | done | with_reducible rfl)) hpc (by first | exact True.intro | exact ⟨_, rfl, by ((try simp only [ev_tmp, ev_const, ev_func, get_put, get_args, get_putL, get_putL_nil, Nat.reduceEqDiff, reduceIte, List.getD_cons_zero, List.getD_cons_succ, List.getD_nil, Bool.not_true, Bool.not_false]); first | done | with_reducible rfl)⟩) fun w1 bp he1 hb1 hs1 hbk1 => ?_
  have hcp := hbk1.cell (k := 0) rfl
  refine go ?_
  refine rc (whole_ok (p := p)) (next := fun v2 w2 h2 => ?_)
  obtain ⟨he2, rs2, hrs2, hM2⟩ := h2
  have hE2 := he1.trans he2
  have hz2 := he2.size
  have hcp2 : Cell w2 bp 0 vp := hcp.same (he2.same _ _) he2.size
  have hp2 : PresP lo hi w2 vp p := hp.same (hE2.same _ _) hE2.size
  refine go ?_
  refine ra (h := rd_makeFunc (caps := #[.pointer (some ⟨bp, 0, none⟩)]) (by simp only [List.map_toArray, List.map_cons, List.map_nil, ev_tmp, ev_const, ev_func, get_put, get_args, get_putL, get_putL_nil, Nat.reduceEqDiff, reduceIte, List.getD_cons_zero, List.getD_cons_succ, List.getD_nil])) (next := ?_)
  refine go ?_
  refine rc (series_ok (p := p) serOk_low hz2 hM2 hrs2 (fun {w'} {vx} {lo'} {hi'} {us} {xss} x0 ys hsy hx hxe => ?_)) (next := fun v3 w3 h3 => ?_)
  · haveI : Pc.Rows lo' hi' w' vx us xss := hx
    haveI : Cell w' bp 0 vp := hcp2.same (x0.same _ _) x0.size
    haveI : PresP lo hi w' vp p := hp2.same (x0.same _ _) x0.size
    exact lowerFn_ok (p := p) hsy hxe
  obtain ⟨he3, K, gs, hK, hgs, hM3⟩ := h3
  refine go ?_
  exact ret1 ⟨hE2.trans he3, K, gs, hK, hgs, hM3.lower he1.size⟩
set_option maxHeartbeats 1000000 in
theorem impl_NilpotencyClass_ok {p : Pr} {w : World} {vp : Value} {lo hi : Nat} [hp : Pres lo hi w vp p] (hl : p.ord.length ≤ 2000000) :
    Calls Try.prog 15 #[vp] w (Ret fun v w' => ∃ (k e : Int), v = .tuple #[.int .i64 k, .int .i64 e] ∧ Ans (IsGrp p) (NcV p) 0 k e ∧ Ext w w') := by
  obtain ⟨vo, vpw, vc, ps, cs, css, rfl, h1, h2, h3⟩ := hp.ex
  refine enter (args := [.agg #[vo, vpw, vc]]) (l := [.tmp 2, .tmp 3]) Try.func15 rfl rfl Try.ntmps15 (by simp) ?_
  refine go ?_
  refine st_box3 (by ((try simp only [ev_tmp, ev_const, ev_func, get_put, get_args, get_putL, get_putL_nil, Nat.reduceEqDiff, reduceIte, List.getD_cons_zero, List.getD_cons_succ, List.getD_nil]); first | done | with_reducible rfl)) (by first | exact True.intro | exact ⟨_, rfl, by ((try simp only [ev_tmp, ev_const, ev_func, get_put, get_args, get_putL, get_putL_nil, Nat.reduceEqDiff, reduceIte, List.getD_cons_zero, List.getD_cons_succ, List.getD_nil, Bool.not_true, Bool.not_false]); first | done | with_reducible rfl)⟩) fun w1 b he1 hb1 hs1 hc0 hc1 hc2 => ?_
  have hpp := hp.boxed he1 hc0 hc1 hc2
  refine go ?_
  refine rc (impl_IsConsistent_ok (p := p) hl) (next := fun v5 w5 h5 => ?_)
  obtain ⟨b5, rfl, hb5, he5⟩ := h5
  have hE5 := he1.trans he5
  refine go ?_
  refine c_b (fun e5 => ?_) (fun e5 => ?_)
  · refine go ?_
    refine ret2 ⟨0, 1, rfl, .inr ⟨fun h => ?_, rfl, rfl⟩, hE5⟩
    rw [hb5.2 h] at e5; cases e5
  have hG := hb5.1 (by simpa using e5)
  haveI : ConAll p := ⟨hG.con⟩
  have hn6 := hG.valid.n6
  have hS := serOk_low (p := p)
  refine go ?_
  refine rc (lowerCentral_ok (p := p)) (next := fun v2 w2 h4 => ?_)
  obtain ⟨he2, K, gs, hK, hgs, hM⟩ := h4
  have hR := hM.rows
  rw [hgs] at hR
  have hKn := hS.bd K hK.2
  have hul := hR.vals.len
  have hlen : ((List.range (K + 1)).map (fun i => vecs (itL (lowF (p := p)) (gensL p) i))).length = K + 1 := by simp
  have hix : ((List.range (K + 1)).map (fun i => vecs (itL (lowF (p := p)) (gensL p) i))).length - 1 = K := by simp
  have hgj : ((List.range (K + 1)).map (fun i => vecs (itL (lowF (p := p)) (gensL p) i))).getD K [] = vecs (itL (lowF (p := p)) (gensL p) K) := by simp [List.getD_eq_getElem?_getD]
  have hgl : (((List.range (K + 1)).map (fun i => vecs (itL (lowF (p := p)) (gensL p) i))).getD K []).length = (itL (lowF (p := p)) (gensL p) K).length := by rw [hgj]; simp
  have hsl := (hS.seq K).len
  have hE2 := hE5.trans he2
  refine go ?_
  rw [hix]
  refine go ?_
  refine c_if (fun h6 => ?_) (fun h6 => ?_)
  · refine go ?_
    exact ret2 ⟨0, 4, rfl, .inl ⟨hG, inferInstance, K, hK, .inl ⟨by omega, rfl, rfl⟩⟩, hE2⟩
  · refine go ?_
    exact ret2 ⟨(((List.range (K + 1)).map (fun i => vecs (itL (lowF (p := p)) (gensL p) i))).length : Int) - 1, 0, rfl, .inl ⟨hG, inferInstance, K, hK, .inr ⟨by omega, by rw [hlen]; omega, rfl⟩⟩, hE2⟩
end Go.Proofs.Ytgomfjhhfmhlgaa

/-
  Walks: the program's DerivedSeries, LowerCentralSeries, UpperCentralSeries.
  Conditions: stated at each theorem.
-/
namespace Go.Proofs.Ytgomfjhhfmhlgaa
open Go Go.Pc
set_option maxHeartbeats 1000000 in
theorem derivedFn_ok {p : Pr} [hc : ConAll p] {ys : List (El p)} (hs : SeqEl ys) {w : World} {vp vx : Value} {us : List Value} {xss : List (List Int)} {lo hi lo1 hi1 : Nat} [hp : PresP lo hi w vp p] [hx : Pc.Rows lo1 hi1 w vx us xss] (hxe : xss = vecs ys) :
    Calls Try.prog 60 #[vx, vp] w (Ret fun r w' => Ext w w' ∧ ∃ rs, vecs (derF ys) = rs.map (·.2) ∧ MatO w.heap.size w'.heap.size w' r rs) := by
  have hn6 := hc.valid.n6
  have hsl := hs.len
  refine enter (args := [vx, vp]) (l := [.tmp 3]) Try.func60 rfl rfl Try.ntmps60 (by simp) ?_
  refine go ?_
  refine rc (commutatorSubgroup_ok (p := p) (ys := ys) (zs := ys) (by omega) (by omega) hxe hxe) (next := fun v3 w3 h3 => ?_)
  obtain ⟨he3, rs3, hrs3, hM3⟩ := h3
  rw [derF_vecs] at hrs3
  refine go ?_
  exact ret1 ⟨he3, rs3, hrs3, hM3⟩
set_option maxHeartbeats 1000000 in
theorem impl_DerivedSeries_ok {p : Pr} {w : World} {vp : Value} {lo hi : Nat} [hp : Pres lo hi w vp p] (hl : p.ord.length ≤ 2000000) :
    Calls Try.prog 18 #[vp] w (Ret fun v w' => ∃ (u : Value) (k : List (List (List Int))) (e : Int), v = .tuple #[u, .int .i64 e] ∧ Ans (IsGrp p) (SrV p (DerC p)) [] k e ∧ Ext w w' ∧ ∃ gs : List (Value × List (Value × List Int)), k = (gs.map fun q => q.2.map (·.2)) ∧ MatC w.heap.size w'.heap.size w' u gs) := by
  obtain ⟨vo, vpw, vc, ps, cs, css, rfl, h1, h2, h3⟩ := hp.ex
  refine enter (args := [.agg #[vo, vpw, vc]]) (l := [.tmp 2, .tmp 3]) Try.func18 rfl rfl Try.ntmps18 (by simp) ?_
  refine go ?_
  refine st_box3 (by ((try simp only [ev_tmp, ev_const, ev_func, get_put, get_args, get_putL, get_putL_nil, Nat.reduceEqDiff, reduceIte, List.getD_cons_zero, List.getD_cons_succ, List.getD_nil]); first | done | with_reducible rfl)) (by first | exact True.intro | exact ⟨_, rfl, by ((try simp only [ev_tmp, ev_const, ev_func, get_put, get_args, get_putL, get_putL_nil, Nat.reduceEqDiff, reduceIte, List.getD_cons_zero, List.getD_cons_succ, List.getD_nil, Bool.not_true, Bool.not_false]); first | done | with_reducible rfl)⟩) fun w1 b he1 hb1 hs1 hc0 hc1 hc2 => ?_
  have hpp := hp.boxed he1 hc0 hc1 hc2
  refine go ?_
  refine rc (impl_IsConsistent_ok (p := p) hl) (next := fun v5 w5 h5 => ?_)
  obtain ⟨b5, rfl, hb5, he5⟩ := h5
  have hE5 := he1.trans he5
  refine go ?_
  refine c_b (fun e5 => ?_) (fun e5 => ?_)
  · refine go ?_
    refine ret2 ⟨nilv, [], 1, rfl, .inr ⟨fun h => ?_, rfl, rfl⟩, hE5, [], rfl, MatC.nilR _ _ _ hE5.size⟩
    rw [hb5.2 h] at e5; cases e5
  have hG := hb5.1 (by simpa using e5)
  haveI : ConAll p := ⟨hG.con⟩
  have hpp5 : PresP 0 w5.heap.size w5 (.pointer (some ⟨b, 0, none⟩)) p := PresP.wide inferInstance
  refine go ?_
  refine rc (whole_ok (p := p)) (next := fun v2 w2 h2 => ?_)
  obtain ⟨he2, rs2, hrs2, hM2⟩ := h2
  have hz2 := he2.size
  refine go ?_
  refine ra (h := rd_makeFunc (caps := #[.pointer (some ⟨b, 0, none⟩)]) (by simp only [List.map_toArray, List.map_cons, List.map_nil, ev_tmp, ev_const, ev_func, get_put, get_args, get_putL, get_putL_nil, Nat.reduceEqDiff, reduceIte, List.getD_cons_zero, List.getD_cons_succ, List.getD_nil])) (next := ?_)
  refine go ?_
  refine rc (series_ok (p := p) serOk_der hz2 hM2 hrs2 (fun {w'} {vx} {lo'} {hi'} {us} {xss} x0 ys hsy hx hxe => ?_)) (next := fun v3 w3 h3 => ?_)
  · haveI : Pc.Rows lo' hi' w' vx us xss := hx
    haveI : PresP 0 w5.heap.size w' (.pointer (some ⟨b, 0, none⟩)) p := hpp5.same ((he2.trans x0).same _ _) (he2.trans x0).size
    exact derivedFn_ok (p := p) (vp := .pointer (some ⟨b, 0, none⟩)) hsy hxe
  obtain ⟨he3, K, gs, hK, hgs, hM3⟩ := h3
  refine go ?_
  exact ret2 ⟨v3, _, 0, rfl, .inl ⟨hG, ⟨inferInstance, K, hK, rfl, rfl⟩⟩, (hE5.trans he2).trans he3, gs, hgs.symm, hM3.lower hE5.size⟩
set_option maxHeartbeats 1000000 in
theorem impl_LowerCentralSeries_ok {p : Pr} {w : World} {vp : Value} {lo hi : Nat} [hp : Pres lo hi w vp p] (hl : p.ord.length ≤ 2000000) :
    Calls Try.prog 24 #[vp] w (Ret fun v w' => ∃ (u : Value) (k : List (List (List Int))) (e : Int), v = .tuple #[u, .int .i64 e] ∧ Ans (IsGrp p) (SrV p (LowC p)) [] k e ∧ Ext w w' ∧ ∃ gs : List (Value × List (Value × List Int)), k = (gs.map fun q => q.2.map (·.2)) ∧ MatC w.heap.size w'.heap.size w' u gs) := by
  obtain ⟨vo, vpw, vc, ps, cs, css, rfl, h1, h2, h3⟩ := hp.ex
  refine enter (args := [.agg #[vo, vpw, vc]]) (l := [.tmp 2, .tmp 3]) Try.func24 rfl rfl Try.ntmps24 (by simp) ?_
  refine go ?_
  refine st_box3 (by ((try simp only [ev_tmp, ev_const, ev_func, get_put, get_args, get_putL, get_putL_nil, Nat.reduceEqDiff, reduceIte, List.getD_cons_zero, List.getD_cons_succ, List.getD_nil]); first | done | with_reducible rfl)) (by first | exact True.intro | exact ⟨_, rfl, by ((try simp only [ev_tmp, ev_const, ev_func, get_put, get_args, get_putL, get_putL_nil, Nat.reduceEqDiff, reduceIte, List.getD_cons_zero, List.getD_cons_succ, List.getD_nil, Bool.not_true, Bool.not_false]); first | done | with_reducible rfl)⟩) fun w1 b he1 hb1 hs1 hc0 hc1 hc2 => ?_
  have hpp := hp.boxed he1 hc0 hc1 hc2
  refine go ?_
  refine rc (impl_IsConsistent_ok (p := p) hl) (next := fun v5 w5 h5 => ?_)
  obtain ⟨b5, rfl, hb5, he5⟩ := h5
  have hE5 := he1.trans he5
  refine go ?_
  refine c_b (fun e5 => ?_) (fun e5 => ?_)
  · refine go ?_
    refine ret2 ⟨nilv, [], 1, rfl, .inr ⟨fun h => ?_, rfl, rfl⟩, hE5, [], rfl, MatC.nilR _ _ _ hE5.size⟩
    rw [hb5.2 h] at e5; cases e5
  have hG := hb5.1 (by simpa using e5)
  haveI : ConAll p := ⟨hG.con⟩
  have hpp5 : PresP 0 w5.heap.size w5 (.pointer (some ⟨b, 0, none⟩)) p := PresP.wide inferInstance
  refine go ?_
  refine rc (lowerCentral_ok (p := p)) (next := fun v3 w3 h3 => ?_)
  obtain ⟨he3, K, gs, hK, hgs, hM3⟩ := h3
  refine go ?_
  exact ret2 ⟨v3, _, 0, rfl, .inl ⟨hG, ⟨inferInstance, K, hK, rfl, rfl⟩⟩, hE5.trans he3, gs, hgs.symm, hM3.lower hE5.size⟩
end Go.Proofs.Ytgomfjhhfmhlgaa

/-
  Walks: the program's LowerExponentSeries.
  Conditions: stated at each theorem.
-/
namespace Go.Proofs.Ytgomfjhhfmhlgaa
open Go Go.Pc
set_option maxHeartbeats 4000000 in
theorem lowerExpFn_ok {p : Pr} [hc : ConAll p] {ys : List (El p)} (hs : SeqEl ys) {q : Int} (hq : 0 ≤ q ∧ q ≤ 7) {w : World} {vp vx : Value} {us : List Value} {xss : List (List Int)} {bp bq lo hi lo1 hi1 : Nat} [hp : PresP lo hi w vp p] [hx : Pc.Rows lo1 hi1 w vx us xss] [hcp : Cell w bp 0 vp] [hcq : Cell w bq 0 (.int .i64 q)] (hxe : xss = vecs ys) :
    Calls Try.prog 103 #[vx, .pointer (some ⟨bp, 0, none⟩), .pointer (some ⟨bq, 0, none⟩)] w (Ret fun r w' => Ext w w' ∧ ∃ rs, vecs (expF q ys) = rs.map (·.2) ∧ MatO w.heap.size w'.heap.size w' r rs) := by
  subst hxe
  have hn6 := hc.valid.n6
  have hsl := hs.len
  have hgl := gensL_len p
  have hyv : (vecs ys).length = ys.length := by simp
  have hvl := hx.vals.len
  have hll : (lowF ys).length ≤ 6 := by
    have : (lowF ys).length ≤ p.n := (seqEl_can (commC_sub ys (gensL p))).len
    omega
  refine enter (args := [vx, .pointer (some ⟨bp, 0, none⟩), .pointer (some ⟨bq, 0, none⟩)]) (l := [.tmp 4]) Try.func103 rfl rfl Try.ntmps103 (by simp) ?_
  refine go ?_
  refine d_order [0, 1, 2, 3, 4, 5] (h := fun w1 he1 _ => ?_)
  refine dgo ?_
  refine dce (whole_ok (p := p)) (next := fun v2 w2 h2 => ?_)
  obtain ⟨he2, rs2, hrs2, hM2⟩ := h2
  have hR2 := hM2.rows
  rw [← hrs2] at hR2
  refine dce (commutatorSubgroupG_ok (p := p) (ys := ys) (zs := gensL p) (by omega) (by omega) rfl rfl) (next := fun v3 w3 h3 => ?_)
  obtain ⟨he3, rs3, hrs3, hG3⟩ := h3
  rw [lowF_vecs] at hrs3
  have hE2 := he1.trans he2
  have hz2 := hE2.size
  refine dgo ?_
  refine d_end (h := ?_)
  refine go ?_
  refine r_for ys.length (fun k ρ w' => ∃ vl rs, Has ρ [(1, .pointer (some ⟨bp, 0, none⟩)), (2, .pointer (some ⟨bq, 0, none⟩)), (5, vl), (13, vx), (14, .int .i64 (vecs ys).length), (15, .int .i64 k)] ∧ Ext w2 w' ∧ GrowL 22 w2.heap.size w' vl rs ∧ rs.map (·.2) = vecs (lowF ys ++ (ys.take k).map fun y => Grp.pwz y q)) ?_ ?_
  · refine ⟨v3, rs3, ?_, he3, hG3, by simpa using hrs3.symm⟩
    exact hasP
  clear hG3
  rintro k ρ w4 hk ⟨vl, rs, hH, he4, hG4, hrs4⟩
  refine rwp_has hH fun ρ0 => ?_
  have hz4 := he4.size
  have hE4 := hE2.trans he4
  have hrl : rs.length ≤ 1000 := by
    have := congrArg List.length hrs4
    simp only [vecs, List.length_map, List.length_append, List.length_take] at this
    omega
  refine go ?_
  refine c_if (fun h5 => ?_) (fun h5 => ?_)
  · have hkn : k < ys.length := by omega
    have hgk := vecs_getD ys hkn
    refine go ?_
    refine rc (power_ok (p := p) (i := 0) (x := ys[k]) (k := q) (Nat.zero_le _) hgk (by omega)) (next := fun v5 w5 h6 => ?_)
    obtain ⟨he5, hf5⟩ := h6
    rw [← Grp.pwz_of ys[k] hq.1] at hf5
    refine go ?_
    refine st_grow hG4 he5 hf5 hz4 (by omega) (next := fun v6 v7 w7 hG7 hx7 hz7 hgs7 => ?_)
    refine go ?_
    refine forQ_normal (by omega) ⟨v7, _, ?_, hx7 w2 (he4.trans he5) (Nat.le_refl _), hG7, ?_⟩
    · exact hasP
    · rw [List.take_succ_eq_append_getElem hkn]
      simp only [List.map_append, List.map_cons, List.map_nil, hrs4, vecs, List.append_assoc]
  · obtain rfl : k = ys.length := by omega
    rw [List.take_length] at hrs4
    have hRl := hG4.mat.rows
    rw [hrs4] at hRl
    refine go ?_
    refine rc (generatedM_ok (p := p) (ys := expL q ys) rfl ?_) (next := fun v8 w8 h8 => ?_)
    · simp only [expL, List.length_append, List.length_map]; omega
    obtain ⟨he8, rs8, hrs8, hM8⟩ := h8
    rw [expF_vecs] at hrs8
    refine go ?_
    exact ret1 ⟨hE4.trans he8, rs8, hrs8, hM8.lower hE4.size⟩
set_option maxHeartbeats 1000000 in
theorem lowerExponent_ok {p : Pr} [hc : ConAll p] {q : Int} (hq : 0 ≤ q ∧ q ≤ 7) {w : World} {vp : Value} {lo hi : Nat} [hp : PresP lo hi w vp p] :
    Calls Try.prog 66 #[vp, .int .i64 q] w (Ret fun v w' => Ext w w' ∧ ∃ K gs, SerR (expF (p := p) q) (gensL p) K ∧ (gs.map fun q : Value × List (Value × List Int) => q.2.map (·.2)) = (List.range (K + 1)).map (fun j => vecs (itL (expF (p := p) q) (gensL p) j)) ∧ MatC w.heap.size w'.heap.size w' v gs) := by
  have hpc : vp.cells = #[vp] := by obtain ⟨g, _, _, _, _, _, _, rfl, _⟩ := hp.ex; rfl
  refine enter (args := [vp, .int .i64 q]) (l := [.tmp 4]) Try.func66 rfl rfl Try.ntmps66 (by simp) ?_
  refine go ?_
  refine st_box1 (v := vp) (by ((try simp only [ev_tmp, ev_const, ev_func, get_put, get_args, get_putL, get_putL_nil, Nat.reduceEqDiff, reduceIte, List.getD_cons_zero, List.getD_cons_succ, List.getD_nil]); first | done | with_reducible rfl)) hpc (by first | exact True.intro | exact ⟨_, rfl, by ((try simp only [ev_tmp, ev_const, ev_func, get_put, get_args, get_putL, get_putL_nil, Nat.reduceEqDiff, reduceIte, List.getD_cons_zero, List.getD_cons_succ, List.getD_nil, Bool.not_true, Bool.not_false]); first | done | with_reducible rfl)⟩) fun w1 bp he1 hb1 hs1 hbk1 => ?_
  have hcp := hbk1.cell (k := 0) rfl
  refine go ?_
  refine st_box1 (v := .int .i64 q) (by ((try simp only [ev_tmp, ev_const, ev_func, get_put, get_args, get_putL, get_putL_nil, Nat.reduceEqDiff, reduceIte, List.getD_cons_zero, List.getD_cons_succ, List.getD_nil]); first | done | with_reducible rfl)) rfl (by first | exact True.intro | exact ⟨_, rfl, by ((try simp only [ev_tmp, ev_const, ev_func, get_put, get_args, get_putL, get_putL_nil, Nat.reduceEqDiff, reduceIte, List.getD_cons_zero, List.getD_cons_succ, List.getD_nil, Bool.not_true, Bool.not_false]); first | done | with_reducible rfl)⟩) fun w3 bq he3 hb3 hs3 hbk3 => ?_
  have hcq := hbk3.cell (k := 0) rfl
  have hE3 := he1.trans he3
  have hcp3 : Cell w3 bp 0 vp := hcp.same (he3.same _ _) he3.size
  refine go ?_
  refine rc (whole_ok (p := p)) (next := fun v2 w2 h2 => ?_)
  obtain ⟨he2, rs2, hrs2, hM2⟩ := h2
  have hE2 := hE3.trans he2
  have hz2 := he2.size
  have hcp2 : Cell w2 bp 0 vp := hcp3.same (he2.same _ _) he2.size
  have hcq2 : Cell w2 bq 0 (.int .i64 q) := hcq.same (he2.same _ _) he2.size
  have hp2 : PresP lo hi w2 vp p := hp.same (hE2.same _ _) hE2.size
  refine go ?_
  refine ra (h := rd_makeFunc (caps := #[.pointer (some ⟨bp, 0, none⟩), .pointer (some ⟨bq, 0, none⟩)]) (by simp only [List.map_toArray, List.map_cons, List.map_nil, ev_tmp, ev_const, ev_func, get_put, get_args, get_putL, get_putL_nil, Nat.reduceEqDiff, reduceIte, List.getD_cons_zero, List.getD_cons_succ, List.getD_nil])) (next := ?_)
  refine go ?_
  refine rc (series_ok (p := p) (serOk_exp hq.1) hz2 hM2 hrs2 (fun {w'} {vx} {lo'} {hi'} {us} {xss} x0 ys hsy hx hxe => ?_)) (next := fun v3 w4 h3 => ?_)
  · haveI : Pc.Rows lo' hi' w' vx us xss := hx
    haveI : Cell w' bp 0 vp := hcp2.same (x0.same _ _) x0.size
    haveI : Cell w' bq 0 (.int .i64 q) := hcq2.same (x0.same _ _) x0.size
    haveI : PresP lo hi w' vp p := hp2.same (x0.same _ _) x0.size
    exact lowerExpFn_ok (p := p) hsy hq hxe
  obtain ⟨he4, K, gs, hK, hgs, hM3⟩ := h3
  refine go ?_
  exact ret1 ⟨hE2.trans he4, K, gs, hK, hgs, hM3.lower hE3.size⟩
set_option maxHeartbeats 1000000 in
theorem impl_LowerExponentSeries_ok {p : Pr} {q : Int} {w : World} {vp : Value} {lo hi : Nat} [hp : Pres lo hi w vp p] (hl : p.ord.length ≤ 2000000) :
    Calls Try.prog 26 #[vp, .int .i64 q] w (Ret fun v w' => ∃ (u : Value) (k : List (List (List Int))) (e : Int), v = .tuple #[u, .int .i64 e] ∧ Ans (IsGrp p) (ExV p q) [] k e ∧ Ext w w' ∧ ∃ gs : List (Value × List (Value × List Int)), k = (gs.map fun q => q.2.map (·.2)) ∧ MatC w.heap.size w'.heap.size w' u gs) := by
  obtain ⟨vo, vpw, vc, ps, cs, css, rfl, h1, h2, h3⟩ := hp.ex
  refine enter (args := [.agg #[vo, vpw, vc], .int .i64 q]) (l := [.tmp 4, .tmp 5]) Try.func26 rfl rfl Try.ntmps26 (by simp) ?_
  refine go ?_
  refine st_box3 (by ((try simp only [ev_tmp, ev_const, ev_func, get_put, get_args, get_putL, get_putL_nil, Nat.reduceEqDiff, reduceIte, List.getD_cons_zero, List.getD_cons_succ, List.getD_nil]); first | done | with_reducible rfl)) (by first | exact True.intro | exact ⟨_, rfl, by ((try simp only [ev_tmp, ev_const, ev_func, get_put, get_args, get_putL, get_putL_nil, Nat.reduceEqDiff, reduceIte, List.getD_cons_zero, List.getD_cons_succ, List.getD_nil, Bool.not_true, Bool.not_false]); first | done | with_reducible rfl)⟩) fun w1 b he1 hb1 hs1 hc0 hc1 hc2 => ?_
  have hpp := hp.boxed he1 hc0 hc1 hc2
  refine go ?_
  refine rc (impl_IsConsistent_ok (p := p) hl) (next := fun v5 w5 h5 => ?_)
  obtain ⟨b5, rfl, hb5, he5⟩ := h5
  have hE5 := he1.trans he5
  refine go ?_
  refine c_b (fun e5 => ?_) (fun e5 => ?_)
  · refine go ?_
    refine ret2 ⟨nilv, [], 1, rfl, .inr ⟨fun h => ?_, rfl, rfl⟩, hE5, [], rfl, MatC.nilR _ _ _ hE5.size⟩
    rw [hb5.2 h] at e5; cases e5
  have hG := hb5.1 (by simpa using e5)
  haveI : ConAll p := ⟨hG.con⟩
  refine go ?_
  refine rc IsGroupPrime_ok (next := fun v6 w6 h6 => ?_)
  obtain ⟨b6, rfl, hb6, he6⟩ := h6
  have hE6 := hE5.trans he6
  refine go ?_
  refine c_b (fun e6 => ?_) (fun e6 => ?_)
  · refine go ?_
    refine ret2 ⟨nilv, [], 2, rfl, .inl ⟨hG, .inl ⟨fun h => ?_, rfl, rfl⟩⟩, hE6, [], rfl, MatC.nilR _ _ _ hE6.size⟩
    rw [hb6.2 h] at e6; cases e6
  have hq := hb6.1 (by simpa using e6)
  refine go ?_
  refine rc (lowerExponent_ok (p := p) (q := q) (by rcases hq with e | e | e | e <;> omega)) (next := fun v8 w8 h8 => ?_)
  obtain ⟨he8, K, gs, hK, hgs, hM8⟩ := h8
  refine go ?_
  exact ret2 ⟨v8, _, 0, rfl, .inl ⟨hG, .inr ⟨hq, ⟨inferInstance, K, hK, rfl, rfl⟩⟩⟩, hE6.trans he8, gs, hgs.symm, hM8.lower hE6.size⟩
end Go.Proofs.Ytgomfjhhfmhlgaa

/-
  Walks: the statement's own helpers on lists: sizes, copies, comparisons (szInt64S, .., toInt64S, .., eqInt64SSS).
  Conditions: stated at each theorem.
-/
namespace Go.Proofs.Ytgomfjhhfmhlgaa
open Go Go.Pc
theorem szInt64S_ok {w : World} {v : Value} {xs : List Int} {k : Int} {lo hi : Nat} [hx : Ints lo hi w v xs] (hk : 0 ≤ k ∧ k ≤ 2000000) :
    Calls Try.prog 50 #[v, .int .i64 k] w (Ret fun v w' => ∃ j : Int, v = .int .i64 j ∧ (j < 0 ∨ 0 ≤ j ∧ j ≤ k ∧ (xs.length : Int) ≤ k) ∧ Ext w w') := by
  have hl : xs.length ≤ 9223372036854775807 := by
    obtain ⟨A, c, _, hc, hm, _⟩ := hx.sl.ex
    simp at hc; omega
  refine enter (args := [v, .int .i64 k]) (l := [.tmp 4]) Try.func50 rfl rfl Try.ntmps50 (by simp) ?_
  refine go ?_
  refine c_if (fun h4 => ?_) (fun h4 => ?_)
  · refine go ?_
    exact ret1 ⟨-1, rfl, .inl (by omega), Ext.refl _⟩
  · refine go ?_
    exact ret1 ⟨k - xs.length, rfl, .inr ⟨by omega, by omega, by omega⟩, Ext.refl _⟩
theorem sl_len {lo hi : Nat} {w : World} {v : Value} {us : List Value} (h : Sl lo hi w v us) : us.length ≤ 9223372036854775807 := by
  obtain ⟨A, c, _, hc, hm, _⟩ := h.ex
  omega
set_option maxHeartbeats 1000000 in
theorem szInt64SS_ok {w : World} {v : Value} {us : List Value} {xss : List (List Int)} {k : Int} {lo hi : Nat} [hx : Pc.Rows lo hi w v us xss] (hk : 0 ≤ k ∧ k ≤ 2000000) :
    Calls Try.prog 35 #[v, .int .i64 k] w (Ret fun v w' => ∃ j : Int, v = .int .i64 j ∧ (j < 0 ∨ 0 ≤ j ∧ j ≤ k ∧ (xss.length : Int) ≤ k ∧ ∀ i, ((xss.getD i []).length : Int) ≤ k) ∧ Ext w w') := by
  have hl := sl_len hx.sl
  have hul := hx.vals.len
  refine enter (args := [v, .int .i64 k]) (l := [.tmp 4]) Try.func35 rfl rfl Try.ntmps35 (by simp) ?_
  refine go ?_
  refine c_if (fun h4 => ?_) (fun h4 => ?_)
  · refine go ?_
    exact ret1 ⟨-1, rfl, .inl (by omega), Ext.refl _⟩
  refine go ?_
  refine r_for xss.length (fun q ρ w' => ∃ j : Int, Has ρ [(0, v), (1, .int .i64 j), (5, .int .i64 q)] ∧ Ext w w' ∧ 0 ≤ j ∧ j ≤ k ∧ ∀ i, i < q → ((xss.getD i []).length : Int) ≤ k) ?_ ?_
  · refine ⟨k - xss.length, ?_, Ext.refl _, by omega, by omega, fun i hi => by omega⟩
    exact hasP
  rintro q ρ w2 hq ⟨j, hH, he2, hj0, hjk, hI⟩
  refine rwp_has hH fun ρ0 => ?_
  refine go ?_
  refine c_if (fun h5 => ?_) (fun h5 => ?_)
  · refine go ?_
    refine rc (szInt64S_ok (xs := xss.getD q []) (k := j) ?_) (next := fun v3 w3 h3 => ?_)
    · omega
    obtain ⟨j3, rfl, hj3, he3⟩ := h3
    refine go ?_
    refine c_if (fun h6 => ?_) (fun h6 => ?_)
    · refine go ?_
      exact ret1 ⟨-1, rfl, .inl (by omega), he2.trans he3⟩
    · have h7 : 0 ≤ j3 ∧ j3 ≤ j ∧ ((xss.getD q []).length : Int) ≤ j := by
        rcases hj3 with h | h
        · omega
        · exact h
      refine go ?_
      refine forQ_normal (by omega) ⟨j3, ?_, he2.trans he3, by omega, by omega, fun i hi => ?_⟩
      · exact hasP
      · by_cases e : i = q
        · subst e; omega
        · exact hI i (by omega)
  · refine go ?_
    refine ret1 ⟨j, rfl, .inr ⟨hj0, hjk, by omega, fun i => ?_⟩, he2⟩
    by_cases hi : i < xss.length
    · exact hI i (by omega)
    · rw [List.getD_eq_getElem?_getD, List.getElem?_eq_none (by omega)]; simp; omega
set_option maxHeartbeats 1000000 in
theorem szInt64SSS_ok {w : World} {v : Value} {us : List Value} {uss : List (List Value)} {xsss : List (List (List Int))} {k : Int} {lo hi : Nat} [hx : Rowss lo hi w v us uss xsss] (hk : 0 ≤ k ∧ k ≤ 2000000) :
    Calls Try.prog 51 #[v, .int .i64 k] w (Ret fun v w' => ∃ j : Int, v = .int .i64 j ∧ (j < 0 ∨ 0 ≤ j ∧ j ≤ k ∧ (xsss.length : Int) ≤ k ∧ ∀ i, ((xsss.getD i []).length : Int) ≤ k ∧ ∀ h, (((xsss.getD i []).getD h []).length : Int) ≤ k) ∧ Ext w w') := by
  have hl := sl_len hx.sl
  have hul := hx.vals.len
  refine enter (args := [v, .int .i64 k]) (l := [.tmp 4]) Try.func51 rfl rfl Try.ntmps51 (by simp) ?_
  refine go ?_
  refine c_if (fun h4 => ?_) (fun h4 => ?_)
  · refine go ?_
    exact ret1 ⟨-1, rfl, .inl (by omega), Ext.refl _⟩
  refine go ?_
  refine r_for xsss.length (fun q ρ w' => ∃ j : Int, Has ρ [(0, v), (1, .int .i64 j), (5, .int .i64 q)] ∧ Ext w w' ∧ 0 ≤ j ∧ j ≤ k ∧ ∀ i, i < q → ((xsss.getD i []).length : Int) ≤ k ∧ ∀ h, (((xsss.getD i []).getD h []).length : Int) ≤ k) ?_ ?_
  · refine ⟨k - xsss.length, ?_, Ext.refl _, by omega, by omega, fun i hi => by omega⟩
    exact hasP
  rintro q ρ w2 hq ⟨j, hH, he2, hj0, hjk, hI⟩
  refine rwp_has hH fun ρ0 => ?_
  refine go ?_
  refine c_if (fun h5 => ?_) (fun h5 => ?_)
  · refine go ?_
    refine rc (szInt64SS_ok (xss := xsss.getD q []) (k := j) ?_) (next := fun v3 w3 h3 => ?_)
    · omega
    obtain ⟨j3, rfl, hj3, he3⟩ := h3
    refine go ?_
    refine c_if (fun h6 => ?_) (fun h6 => ?_)
    · refine go ?_
      exact ret1 ⟨-1, rfl, .inl (by omega), he2.trans he3⟩
    · have h7 : 0 ≤ j3 ∧ j3 ≤ j ∧ ((xsss.getD q []).length : Int) ≤ j ∧ ∀ i, (((xsss.getD q []).getD i []).length : Int) ≤ j := by
        rcases hj3 with h | h
        · omega
        · exact h
      refine go ?_
      refine forQ_normal (by omega) ⟨j3, ?_, he2.trans he3, by omega, by omega, fun i hi => ?_⟩
      · exact hasP
      · by_cases e : i = q
        · subst e; exact ⟨by omega, fun h => by have := h7.2.2.2 h; omega⟩
        · exact hI i (by omega)
  · refine go ?_
    refine ret1 ⟨j, rfl, .inr ⟨hj0, hjk, by omega, fun i => ?_⟩, he2⟩
    by_cases hi : i < xsss.length
    · exact hI i (by omega)
    · rw [List.getD_eq_getElem?_getD, List.getElem?_eq_none (by omega)]; simp; omega
set_option maxHeartbeats 1000000 in
theorem toInt64S_ok {w : World} {v : Value} {xs : List Int} {lo hi : Nat} [hx : Ints lo hi w v xs] (hl : xs.length ≤ 2000000) :
    Calls Try.prog 28 #[v] w (Ret fun v' w' => Ext w w' ∧ Fr w.heap.size w' v' xs) := by
  refine enter (args := [v]) (l := [.tmp 2]) Try.func28 rfl rfl Try.ntmps28 (by simp) ?_
  refine go ?_
  refine st_make_int (by ((try simp only [ev_tmp, ev_const, ev_func, get_put, get_args, get_putL, get_putL_nil, Nat.reduceEqDiff, reduceIte, List.getD_cons_zero, List.getD_cons_succ, List.getD_nil]); first | done | with_reducible rfl)) (by ((try simp only [ev_tmp, ev_const, ev_func, get_put, get_args, get_putL, get_putL_nil, Nat.reduceEqDiff, reduceIte, List.getD_cons_zero, List.getD_cons_succ, List.getD_nil]); first | done | with_reducible rfl)) (by omega) (by omega) (by first | exact True.intro | exact ⟨_, rfl, by ((try simp only [ev_tmp, ev_const, ev_func, get_put, get_args, get_putL, get_putL_nil, Nat.reduceEqDiff, reduceIte, List.getD_cons_zero, List.getD_cons_succ, List.getD_nil, Bool.not_true, Bool.not_false]); first | done | with_reducible rfl)⟩) fun w1 v1 he1 hs1 ho1 => ?_
  replace hx := hx.wide
  have ap : Apart 0 w.heap.size w.heap.size := ⟨.inr (Nat.le_refl _)⟩
  refine go ?_
  refine r_for xs.length (fun k ρ w' => ∃ ys, Has ρ [(0, v), (3, v1), (4, .int .i64 k)] ∧ Chg w.heap.size w1 w' ∧ OwnI 2 w.heap.size w' v1 ys ∧ ys.length = xs.length ∧ ∀ i, i < k → ys.getD i 0 = xs.getD i 0) ?_ ?_
  · refine ⟨_, ?_, Chg.refl _ _, ho1, by simp, fun i hi => by omega⟩
    exact hasP
  clear ho1
  rintro k ρ w2 hk ⟨ys, hH, hc2, ho2, hl2, hI⟩
  refine rwp_has hH fun ρ0 => ?_
  refine go ?_
  refine c_if (fun h4 => ?_) (fun h4 => ?_)
  · refine go ?_
    refine st_store_int (by ((try simp only [ev_tmp, ev_const, ev_func, get_put, get_args, get_putL, get_putL_nil, Nat.reduceEqDiff, reduceIte, List.getD_cons_zero, List.getD_cons_succ, List.getD_nil]); first | done | with_reducible rfl)) (by ((try simp only [ev_tmp, ev_const, ev_func, get_put, get_args, get_putL, get_putL_nil, Nat.reduceEqDiff, reduceIte, List.getD_cons_zero, List.getD_cons_succ, List.getD_nil]); first | done | with_reducible rfl)) ?_ (by first | exact True.intro | exact ⟨_, rfl, by ((try simp only [ev_tmp, ev_const, ev_func, get_put, get_args, get_putL, get_putL_nil, Nat.reduceEqDiff, reduceIte, List.getD_cons_zero, List.getD_cons_succ, List.getD_nil, Bool.not_true, Bool.not_false]); first | done | with_reducible rfl)⟩) fun w3 hc3 hs3 ho3 => ?_
    · omega
    refine go ?_
    refine forQ_normal (by omega) ⟨_, ?_, hc2.trans hc3, ho3, by simp [hl2], fun i hi => ?_⟩
    · exact hasP
    · by_cases e : k = i
      · subst e; rw [Pc.getD_set_eq _ _ _ (by omega)]
      · rw [Pc.getD_set_ne _ _ _ _ e]; exact hI i (by omega)
  · refine go ?_
    have hy : ys = xs := list_ext0 hl2 fun i hi => hI i (by omega)
    subst hy
    exact ret1 ⟨hc2.ext he1 (Nat.le_refl _), ho2.toFr (Nat.le_refl _)⟩
theorem rows_ext {xss yss : List (List Int)} (hl : xss.length = yss.length) (h : ∀ i, i < xss.length → xss.getD i [] = yss.getD i []) : xss = yss := by
  apply List.ext_getElem hl
  intro i h1 h2
  have := h i h1
  simpa [h1, h2] using this
theorem set_nils {α : Type} (l : List α) (z u : α) (m : Nat) : (l ++ List.replicate (m + 1) z).set l.length u = (l ++ [u]) ++ List.replicate m z := by
  simp [List.replicate_succ]
set_option maxHeartbeats 1000000 in
theorem toInt64SSO_ok {w : World} {v : Value} {us : List Value} {xss : List (List Int)} {lo hi : Nat} [hx : Pc.Rows lo hi w v us xss] (hl : xss.length ≤ 2000000) (hr : ∀ i, (xss.getD i []).length ≤ 2000000) :
    Calls Try.prog 37 #[v] w (Ret fun v' w' => Ext w w' ∧ ∃ rs, Lst 22 w.heap.size (· < w.heap.size) w' v' (rs.map (·.1)) xss ∧ xss = rs.map (·.2) ∧ RowsO w.heap.size w' rs) := by
  refine enter (args := [v]) (l := [.tmp 2]) Try.func37 rfl rfl Try.ntmps37 (by simp) ?_
  refine go ?_
  refine st_make_nil (by ((try simp only [ev_tmp, ev_const, ev_func, get_put, get_args, get_putL, get_putL_nil, Nat.reduceEqDiff, reduceIte, List.getD_cons_zero, List.getD_cons_succ, List.getD_nil]); first | done | with_reducible rfl)) (by ((try simp only [ev_tmp, ev_const, ev_func, get_put, get_args, get_putL, get_putL_nil, Nat.reduceEqDiff, reduceIte, List.getD_cons_zero, List.getD_cons_succ, List.getD_nil]); first | done | with_reducible rfl)) (by omega) (by omega) (by first | exact True.intro | exact ⟨_, rfl, by ((try simp only [ev_tmp, ev_const, ev_func, get_put, get_args, get_putL, get_putL_nil, Nat.reduceEqDiff, reduceIte, List.getD_cons_zero, List.getD_cons_succ, List.getD_nil, Bool.not_true, Bool.not_false]); first | done | with_reducible rfl)⟩) fun w1 v1 he1 hs1 ho1 => ?_
  have hvb := ho1.toN_block
  have hL1 : Lst 22 w.heap.size (· < w.heap.size) w1 v1 _ _ := Lst.ofNils ho1 (Nat.le_refl _) (by omega) (fun g hg => by omega)
  refine go ?_
  refine r_for xss.length (fun k ρ w' => ∃ rs : List (Value × List Int), Has ρ [(0, v), (3, v1), (4, .int .i64 k)] ∧ Ext w w' ∧ Lst 22 w.heap.size (· < w.heap.size) w' v1 (rs.map (·.1) ++ List.replicate (xss.length - k) nilv) (rs.map (·.2) ++ List.replicate (xss.length - k) []) ∧ rs.length = k ∧ rs.map (·.2) = xss.take k ∧ RowsO (w.heap.size + 1) w' rs ∧ w.heap.size + 1 ≤ w'.heap.size) ?_ ?_
  · refine ⟨[], ?_, he1, by simpa using hL1, rfl, by simp, RowsO.nil _ _, by omega⟩
    exact hasP
  clear hL1 ho1
  rintro k ρ w2 hk ⟨rs, hH, he2, hL2, hl2, hI, hO2, hsz2⟩
  refine rwp_has hH fun ρ0 => ?_
  have hLr := hL2.toRows
  refine go ?_
  refine c_if (fun h4 => ?_) (fun h4 => ?_)
  · refine go ?_
    refine rc (toInt64S_ok (xs := xss.getD k []) (hr k)) (next := fun v3 w3 h3 => ?_)
    obtain ⟨he3, hf3⟩ := h3
    have hL3 := hL2.ext he3
    have hO3 := hL3.toOwn hvb
    have hz2 := he2.size
    have hul : (rs.map (·.1) ++ List.replicate (xss.length - k) nilv).length = xss.length := by simp; omega
    have hul2 : (rs.map (·.2) ++ List.replicate (xss.length - k) ([] : List Int)).length = xss.length := by simp; omega
    refine go ?_
    refine st_store_val (h := hO3) (by ((try simp only [ev_tmp, ev_const, ev_func, get_put, get_args, get_putL, get_putL_nil, Nat.reduceEqDiff, reduceIte, List.getD_cons_zero, List.getD_cons_succ, List.getD_nil]); first | done | with_reducible rfl)) (by ((try simp only [ev_tmp, ev_const, ev_func, get_put, get_args, get_putL, get_putL_nil, Nat.reduceEqDiff, reduceIte, List.getD_cons_zero, List.getD_cons_succ, List.getD_nil]); first | done | with_reducible rfl)) ?_ ?_ (by first | exact True.intro | exact ⟨_, rfl, by ((try simp only [ev_tmp, ev_const, ev_func, get_put, get_args, get_putL, get_putL_nil, Nat.reduceEqDiff, reduceIte, List.getD_cons_zero, List.getD_cons_succ, List.getD_nil, Bool.not_true, Bool.not_false]); first | done | with_reducible rfl)⟩) fun w4 hc4 hs4 ho4 => ?_
    · exact hf3.ints.sl.one
    · omega
    have hL4 := hL3.set hvb (IntsAp.ofFr hf3 (fun g hg => by
      rcases hg with hg | hg
      · omega
      · exact (hL2.lt hg).2)) hc4 ho4 (by omega)
    have hkn : k < xss.length := by omega
    have e0 : xss.length - k = (xss.length - (k + 1)) + 1 := by omega
    have e1 := set_nils (rs.map (·.1)) nilv v3 (xss.length - (k + 1))
    have e2 := set_nils (rs.map (·.2)) [] (xss.getD k []) (xss.length - (k + 1))
    rw [List.length_map, hl2, ← e0] at e1 e2
    rw [e1, e2] at hL4
    have hO4 := hO2.push he3 hsz2 hf3
    have hO5 := hO4.wr (.one (B := fun b => b = w.heap.size) rfl hc4) fun b hb e => by have := (hO4.blk hb).1; omega
    have hz3 := he3.size
    refine go ?_
    refine forQ_normal (by omega) ⟨rs ++ [(v3, xss.getD k [])], ?_, hc4.ext (he2.trans he3) (Nat.le_refl _), by simpa using hL4, by simp [hl2], ?_, hO5, by omega⟩
    · exact hasP
    · rw [List.take_succ_eq_append_getElem hkn, List.map_append, hI]; simp [hkn]
  · refine go ?_
    obtain rfl : k = xss.length := by omega
    rw [List.take_length] at hI
    refine ret1 ⟨he2, rs, ?_, hI.symm, hO2.mono (by omega)⟩
    simpa [hI] using hL2
theorem toInt64SS_ok {w : World} {v : Value} {us : List Value} {xss : List (List Int)} {lo hi : Nat} [hx : Pc.Rows lo hi w v us xss] (hl : xss.length ≤ 2000000) (hr : ∀ i, (xss.getD i []).length ≤ 2000000) :
    Calls Try.prog 37 #[v] w (Ret fun v' w' => Ext w w' ∧ ∃ us', Lst 22 w.heap.size (· < w.heap.size) w' v' us' xss) :=
  Pc.Calls.ret_mono (toInt64SSO_ok hl hr) fun _ _ ⟨h1, _, h2, _⟩ => ⟨h1, _, h2⟩
end Go.Proofs.Ytgomfjhhfmhlgaa

/-
  Walks: the statement's own helpers on presentations: sizes, copies, comparisons (toInt64SSS, szPresentation, toPresentation, eqInt64SSS, eqPresentation).
  Conditions: stated at each theorem.
-/
namespace Go.Proofs.Ytgomfjhhfmhlgaa
open Go Go.Pc
set_option maxHeartbeats 1000000 in
theorem toInt64SSS_ok {w : World} {v : Value} {us : List Value} {uss : List (List Value)} {xsss : List (List (List Int))} {lo hi : Nat} [hx : Rowss lo hi w v us uss xsss] (hl : xsss.length ≤ 2000000) (hr : ∀ i, (xsss.getD i []).length ≤ 2000000 ∧ ∀ j, ((xsss.getD i []).getD j []).length ≤ 2000000) :
    Calls Try.prog 54 #[v] w (Ret fun v' w' => Ext w w' ∧ ∃ us' uss', Rowss w.heap.size w'.heap.size w' v' us' uss' xsss) := by
  refine enter (args := [v]) (l := [.tmp 2]) Try.func54 rfl rfl Try.ntmps54 (by simp) ?_
  refine go ?_
  refine st_make_nil (by ((try simp only [ev_tmp, ev_const, ev_func, get_put, get_args, get_putL, get_putL_nil, Nat.reduceEqDiff, reduceIte, List.getD_cons_zero, List.getD_cons_succ, List.getD_nil]); first | done | with_reducible rfl)) (by ((try simp only [ev_tmp, ev_const, ev_func, get_put, get_args, get_putL, get_putL_nil, Nat.reduceEqDiff, reduceIte, List.getD_cons_zero, List.getD_cons_succ, List.getD_nil]); first | done | with_reducible rfl)) (by omega) (by omega) (by first | exact True.intro | exact ⟨_, rfl, by ((try simp only [ev_tmp, ev_const, ev_func, get_put, get_args, get_putL, get_putL_nil, Nat.reduceEqDiff, reduceIte, List.getD_cons_zero, List.getD_cons_succ, List.getD_nil, Bool.not_true, Bool.not_false]); first | done | with_reducible rfl)⟩) fun w1 v1 he1 hs1 ho1 => ?_
  refine go ?_
  refine r_for xsss.length (fun k ρ w' => ∃ (us' : List Value) (uss' : List (List Value)) (ysss : List (List (List Int))), Has ρ [(0, v), (3, v1), (4, .int .i64 k)] ∧ Ext w w' ∧ Own 23 w.heap.size w' v1 us' ∧ us'.length = xsss.length ∧ uss'.length = xsss.length ∧ ysss.length = xsss.length ∧
    (∀ i, Pc.Rows (w.heap.size + 1) w'.heap.size w' (us'.getD i nilv) (uss'.getD i []) (ysss.getD i [])) ∧ ∀ i, i < k → ysss.getD i [] = xsss.getD i []) ?_ ?_
  · refine ⟨_, List.replicate xsss.length [], List.replicate xsss.length [], ?_, he1, ho1, by simp, by simp, by simp, fun i => ?_, fun i hi => by omega⟩
    · exact hasP
    · have e1 : (List.replicate xsss.length nilv).getD i nilv = nilv := by
        rw [List.getD_eq_getElem?_getD, List.getElem?_replicate]; split <;> rfl
      have e2 : (List.replicate xsss.length ([] : List Value)).getD i [] = [] := by
        rw [List.getD_eq_getElem?_getD, List.getElem?_replicate]; split <;> rfl
      have e3 : (List.replicate xsss.length ([] : List (List Int))).getD i [] = [] := by
        rw [List.getD_eq_getElem?_getD, List.getElem?_replicate]; split <;> rfl
      rw [e1, e2, e3]
      refine ⟨⟨⟨none, 0, rfl, Nat.le_refl _, by omega, fun k u hu => by simp at hu⟩⟩, rfl, fun i => ?_⟩
      exact ⟨⟨none, 0, by simp, by simp, by omega, fun k u hu => by simp at hu⟩⟩
  clear ho1
  rintro k ρ w2 hk ⟨us', uss', ysss, hH, he2, ho2, hl1, hl2, hl3, hR, hI⟩
  refine rwp_has hH fun ρ0 => ?_
  have hsl := ho2.toSl
  refine go ?_
  refine c_if (fun h4 => ?_) (fun h4 => ?_)
  · refine go ?_
    refine rc (toInt64SS_ok (xss := xsss.getD k []) (hr k).1 (hr k).2) (next := fun v3 w3 h3 => ?_)
    obtain ⟨he3, us3, hL3⟩ := h3
    have hN3 := hL3.newRows
    have ho3 : Own 23 w.heap.size w3 v1 us' := Own.ext (h := ho2)
    have hsl3 := ho3.toSl
    have hlen3 := hsl3.toLen
    have hz2 := he2.size
    have hz3 := he3.size
    have hol := ho2.lt
    refine go ?_
    refine st_store_val (h := ho3) (by ((try simp only [ev_tmp, ev_const, ev_func, get_put, get_args, get_putL, get_putL_nil, Nat.reduceEqDiff, reduceIte, List.getD_cons_zero, List.getD_cons_succ, List.getD_nil]); first | done | with_reducible rfl)) (by ((try simp only [ev_tmp, ev_const, ev_func, get_put, get_args, get_putL, get_putL_nil, Nat.reduceEqDiff, reduceIte, List.getD_cons_zero, List.getD_cons_succ, List.getD_nil]); first | done | with_reducible rfl)) ?_ ?_ (by first | exact True.intro | exact ⟨_, rfl, by ((try simp only [ev_tmp, ev_const, ev_func, get_put, get_args, get_putL, get_putL_nil, Nat.reduceEqDiff, reduceIte, List.getD_cons_zero, List.getD_cons_succ, List.getD_nil, Bool.not_true, Bool.not_false]); first | done | with_reducible rfl)⟩) fun w4 hc4 hs4 ho4 => ?_
    · exact hN3.sl.one
    · omega
    refine go ?_
    refine forQ_normal (by omega) ⟨us'.set k v3, uss'.set k us3, ysss.set k (xsss.getD k []), ?_, hc4.ext (he2.trans he3) (Nat.le_refl _), ho4, by simp [hl1], by simp [hl2], by simp [hl3], fun i => ?_, fun i hi => ?_⟩
    · exact hasP
    · by_cases e : k = i
      · subst e
        have e1 : (us'.set k v3).getD k nilv = v3 := by simp [show k < us'.length by omega]
        have e2 : (uss'.set k us3).getD k [] = us3 := by simp [show k < uss'.length by omega]
        have e3 : (ysss.set k (xsss.getD k [])).getD k [] = xsss.getD k [] := by simp [show k < ysss.length by omega]
        rw [e1, e2, e3]
        exact (hN3.same (hc4.same (.inl (by omega)))).mono (by omega) (by omega)
      · have e1 : (us'.set k v3).getD i nilv = us'.getD i nilv := by simp [List.getElem?_set_ne e]
        have e2 : (uss'.set k us3).getD i [] = uss'.getD i [] := by simp [List.getElem?_set_ne e]
        have e3 : (ysss.set k (xsss.getD k [])).getD i [] = ysss.getD i [] := by simp [List.getElem?_set_ne e]
        rw [e1, e2, e3]
        exact (((hR i).same (he3.same _ _)).same (hc4.same (.inl (by omega)))).mono (Nat.le_refl _) (by omega)
    · by_cases e : k = i
      · subst e; simp [show k < ysss.length by omega]
      · have : (ysss.set k (xsss.getD k [])).getD i [] = ysss.getD i [] := by simp [List.getElem?_set_ne e]
        rw [this]; exact hI i (by omega)
  · refine go ?_
    refine ret1 ⟨he2, us', uss', ?_⟩
    have hy : ysss = xsss := by
      apply List.ext_getElem hl3
      intro i h1 h2
      have := hI i (by omega)
      simpa [h1, h2] using this
    subst hy
    exact ⟨hsl.mono (Nat.le_refl _) (by have := ho2.lt; omega), hl1, hl2, fun i => (hR i).mono (by omega) (Nat.le_refl _)⟩
theorem rowss_mono {lo hi lo' hi' : Nat} {w : World} {v : Value} {us : List Value} {uss : List (List Value)} {xsss : List (List (List Int))} (h : Rowss lo hi w v us uss xsss) (h1 : lo' ≤ lo) (h2 : hi ≤ hi') : Rowss lo' hi' w v us uss xsss :=
  ⟨h.sl.mono h1 h2, h.vals.len, h.vals.len', fun i => (h.vals.at_ i).mono h1 h2⟩
/-- The sizes of a presentation, none above k. -/
structure SizeP (p : Pr) (k : Int) : Prop where
  ord : (p.ord.length : Int) ≤ k
  pow : (p.pow.length : Int) ≤ k
  powi : ∀ i, ((p.pow.getD i []).length : Int) ≤ k
  cnj : (p.cnj.length : Int) ≤ k
  cnji : ∀ i, ((p.cnj.getD i []).length : Int) ≤ k
  cnjij : ∀ i j, (((p.cnj.getD i []).getD j []).length : Int) ≤ k
set_option maxHeartbeats 1000000 in
theorem szPresentation_ok {w : World} {v : Value} {p : Pr} {k : Int} {lo hi : Nat} [hp : Pres lo hi w v p] (hk : 0 ≤ k ∧ k ≤ 2000000) :
    Calls Try.prog 12 #[v, .int .i64 k] w (Ret fun v w' => ∃ j : Int, v = .int .i64 j ∧ (j < 0 ∨ 0 ≤ j ∧ j ≤ k ∧ SizeP p k) ∧ Ext w w') := by
  obtain ⟨vo, vpw, vc, ps, cs, css, rfl, h1, h2, h3⟩ := hp.ex
  refine enter (args := [.agg #[vo, vpw, vc], .int .i64 k]) (l := [.tmp 4]) Try.func12 rfl rfl Try.ntmps12 (by simp) ?_
  refine go ?_
  refine st_box3 (by ((try simp only [ev_tmp, ev_const, ev_func, get_put, get_args, get_putL, get_putL_nil, Nat.reduceEqDiff, reduceIte, List.getD_cons_zero, List.getD_cons_succ, List.getD_nil]); first | done | with_reducible rfl)) (by first | exact True.intro | exact ⟨_, rfl, by ((try simp only [ev_tmp, ev_const, ev_func, get_put, get_args, get_putL, get_putL_nil, Nat.reduceEqDiff, reduceIte, List.getD_cons_zero, List.getD_cons_succ, List.getD_nil, Bool.not_true, Bool.not_false]); first | done | with_reducible rfl)⟩) fun w1 b he1 hb1 hs1 hc0 hc1 hc2 => ?_
  refine go ?_
  refine rc (szInt64S_ok (xs := p.ord) hk) (next := fun v2 w2 h4 => ?_)
  obtain ⟨j2, rfl, hj2, he2⟩ := h4
  refine go ?_
  refine c_if (fun h5 => ?_) (fun h5 => ?_)
  · refine go ?_
    exact ret1 ⟨-1, rfl, .inl (by omega), he1.trans he2⟩
  have h6 : 0 ≤ j2 ∧ j2 ≤ k ∧ (p.ord.length : Int) ≤ k := by
    rcases hj2 with h | h
    · omega
    · exact h
  refine go ?_
  refine rc (szInt64SS_ok (xss := p.pow) (k := j2) ?_) (next := fun v3 w3 h7 => ?_)
  · omega
  obtain ⟨j3, rfl, hj3, he3⟩ := h7
  refine go ?_
  refine c_if (fun h8 => ?_) (fun h8 => ?_)
  · refine go ?_
    exact ret1 ⟨-1, rfl, .inl (by omega), (he1.trans he2).trans he3⟩
  have h9 : 0 ≤ j3 ∧ j3 ≤ j2 ∧ (p.pow.length : Int) ≤ j2 ∧ ∀ i, ((p.pow.getD i []).length : Int) ≤ j2 := by
    rcases hj3 with h | h
    · omega
    · exact h
  refine go ?_
  refine rc (szInt64SSS_ok (xsss := p.cnj) (k := j3) ?_) (next := fun v4 w4 h10 => ?_)
  · omega
  obtain ⟨j4, rfl, hj4, he4⟩ := h10
  refine go ?_
  refine c_if (fun h11 => ?_) (fun h11 => ?_)
  · refine go ?_
    exact ret1 ⟨-1, rfl, .inl (by omega), ((he1.trans he2).trans he3).trans he4⟩
  have h12 : 0 ≤ j4 ∧ j4 ≤ j3 ∧ (p.cnj.length : Int) ≤ j3 ∧ ∀ i, ((p.cnj.getD i []).length : Int) ≤ j3 ∧ ∀ h, (((p.cnj.getD i []).getD h []).length : Int) ≤ j3 := by
    rcases hj4 with h | h
    · omega
    · exact h
  refine go ?_
  refine ret1 ⟨j4, rfl, .inr ⟨h12.1, by omega, ⟨h6.2.2, by omega, fun i => by have := h9.2.2.2 i; omega, by omega, fun i => by have := (h12.2.2.2 i).1; omega, fun i j => by have := (h12.2.2.2 i).2 j; omega⟩⟩, ((he1.trans he2).trans he3).trans he4⟩
set_option maxHeartbeats 1000000 in
theorem toPresentation_ok {w : World} {v : Value} {p : Pr} {lo hi : Nat} [hp : Pres lo hi w v p] (hs : SizeP p 2000000) :
    Calls Try.prog 14 #[v] w (Ret fun v w' => Ext w w' ∧ Pres w.heap.size w'.heap.size w' v p) := by
  have hs1 := hs.ord
  have hs2 := hs.pow
  have hs3 := hs.cnj
  obtain ⟨vo, vpw, vc, ps, cs, css, rfl, h1, h2, h3⟩ := hp.ex
  refine enter (args := [.agg #[vo, vpw, vc]]) (l := [.cell 2 30]) Try.func14 rfl rfl Try.ntmps14 (by simp) ?_
  refine go ?_
  refine st_box3 (by ((try simp only [ev_tmp, ev_const, ev_func, get_put, get_args, get_putL, get_putL_nil, Nat.reduceEqDiff, reduceIte, List.getD_cons_zero, List.getD_cons_succ, List.getD_nil]); first | done | with_reducible rfl)) (by first | exact True.intro | exact ⟨_, rfl, by ((try simp only [ev_tmp, ev_const, ev_func, get_put, get_args, get_putL, get_putL_nil, Nat.reduceEqDiff, reduceIte, List.getD_cons_zero, List.getD_cons_succ, List.getD_nil, Bool.not_true, Bool.not_false]); first | done | with_reducible rfl)⟩) fun w1 b he1 hb1 hsz1 hc0 hc1 hc2 => ?_
  refine go ?_
  refine st_alloc (by first | exact True.intro | exact ⟨_, rfl, by ((try simp only [ev_tmp, ev_const, ev_func, get_put, get_args, get_putL, get_putL_nil, Nat.reduceEqDiff, reduceIte, List.getD_cons_zero, List.getD_cons_succ, List.getD_nil, Bool.not_true, Bool.not_false]); first | done | with_reducible rfl)⟩) fun w2 br he2 hbr hsz2 hbk2 => ?_
  refine go ?_
  refine st_alloc (by first | exact True.intro | exact ⟨_, rfl, by ((try simp only [ev_tmp, ev_const, ev_func, get_put, get_args, get_putL, get_putL_nil, Nat.reduceEqDiff, reduceIte, List.getD_cons_zero, List.getD_cons_succ, List.getD_nil, Bool.not_true, Bool.not_false]); first | done | with_reducible rfl)⟩) fun w3 bo he3 hbo hsz3 hbk3 => ?_
  have hE3 := (he1.trans he2).trans he3
  refine go ?_
  refine rc (toInt64S_ok (xs := p.ord) (by omega)) (next := fun v4 w4 h4 => ?_)
  obtain ⟨he4, hf4⟩ := h4
  have hb4 : Blk w4 bo _ := Blk.ext (h := hbk3)
  have hz4 := he4.size
  refine go ?_
  refine st_store_fld (h := hb4) (by ((try simp only [ev_tmp, ev_const, ev_func, get_put, get_args, get_putL, get_putL_nil, Nat.reduceEqDiff, reduceIte, List.getD_cons_zero, List.getD_cons_succ, List.getD_nil]); first | done | with_reducible rfl)) (by ((try simp only [ev_tmp, ev_const, ev_func, get_put, get_args, get_putL, get_putL_nil, Nat.reduceEqDiff, reduceIte, List.getD_cons_zero, List.getD_cons_succ, List.getD_nil]); first | done | with_reducible rfl)) ?_ ?_ (by first | exact True.intro | exact ⟨_, rfl, by ((try simp only [ev_tmp, ev_const, ev_func, get_put, get_args, get_putL, get_putL_nil, Nat.reduceEqDiff, reduceIte, List.getD_cons_zero, List.getD_cons_succ, List.getD_nil, Bool.not_true, Bool.not_false]); first | done | with_reducible rfl)⟩) fun w5 hc5 hs5 hb5 => ?_
  · exact hf4.ints.sl.one
  · simp
  have hE15 : Ext w1 w5 := hc5.ext ((he2.trans he3).trans he4) (by have := he2.size; omega)
  have hz15 := hE15.size
  have hz2 := he2.size
  have hi5 : Ints w3.heap.size w4.heap.size w5 v4 p.ord := hf4.ints.same (hc5.same (.inl (by omega)))
  have hr5 : Blk w5 br _ := (Blk.ext (x := he3.trans he4) (h := hbk2)).chg' hc5 (by omega)
  refine go ?_
  refine rc (toInt64SS_ok (xss := p.pow) (by omega) (fun i => by have := hs.powi i; omega)) (next := fun v6 w6 h6 => ?_)
  obtain ⟨he6, us6, hL6⟩ := h6
  have hN6 := hL6.newRows
  have hb6 : Blk w6 bo _ := Blk.ext (h := hb5)
  have hz6 := he6.size
  refine go ?_
  refine st_store_fld (h := hb6) (by ((try simp only [ev_tmp, ev_const, ev_func, get_put, get_args, get_putL, get_putL_nil, Nat.reduceEqDiff, reduceIte, List.getD_cons_zero, List.getD_cons_succ, List.getD_nil]); first | done | with_reducible rfl)) (by ((try simp only [ev_tmp, ev_const, ev_func, get_put, get_args, get_putL, get_putL_nil, Nat.reduceEqDiff, reduceIte, List.getD_cons_zero, List.getD_cons_succ, List.getD_nil]); first | done | with_reducible rfl)) ?_ ?_ (by first | exact True.intro | exact ⟨_, rfl, by ((try simp only [ev_tmp, ev_const, ev_func, get_put, get_args, get_putL, get_putL_nil, Nat.reduceEqDiff, reduceIte, List.getD_cons_zero, List.getD_cons_succ, List.getD_nil, Bool.not_true, Bool.not_false]); first | done | with_reducible rfl)⟩) fun w7 hc7 hs7 hb7 => ?_
  · exact hN6.sl.one
  · simp
  have hE17 : Ext w1 w7 := hc7.ext (hE15.trans he6) (by omega)
  have hi7 : Ints w3.heap.size w4.heap.size w7 v4 p.ord := (hi5.same (he6.same _ _)).same (hc7.same (.inl (by omega)))
  have hp7 : Pc.Rows w5.heap.size w6.heap.size w7 v6 us6 p.pow := hN6.same (hc7.same (.inl (by omega)))
  have hr7 : Blk w7 br _ := (Blk.ext (x := he6) (h := hr5)).chg' hc7 (by omega)
  refine go ?_
  refine rc (toInt64SSS_ok (xsss := p.cnj) (by omega) (fun i => ⟨by have := hs.cnji i; omega, fun j => by have := hs.cnjij i j; omega⟩)) (next := fun v8 w8 h8 => ?_)
  obtain ⟨he8, us8, uss8, hR8⟩ := h8
  have hb8 : Blk w8 bo _ := Blk.ext (h := hb7)
  have hz8 := he8.size
  refine go ?_
  refine st_store_fld (h := hb8) (by ((try simp only [ev_tmp, ev_const, ev_func, get_put, get_args, get_putL, get_putL_nil, Nat.reduceEqDiff, reduceIte, List.getD_cons_zero, List.getD_cons_succ, List.getD_nil]); first | done | with_reducible rfl)) (by ((try simp only [ev_tmp, ev_const, ev_func, get_put, get_args, get_putL, get_putL_nil, Nat.reduceEqDiff, reduceIte, List.getD_cons_zero, List.getD_cons_succ, List.getD_nil]); first | done | with_reducible rfl)) ?_ ?_ (by first | exact True.intro | exact ⟨_, rfl, by ((try simp only [ev_tmp, ev_const, ev_func, get_put, get_args, get_putL, get_putL_nil, Nat.reduceEqDiff, reduceIte, List.getD_cons_zero, List.getD_cons_succ, List.getD_nil, Bool.not_true, Bool.not_false]); first | done | with_reducible rfl)⟩) fun w9 hc9 hs9 hb9 => ?_
  · exact hR8.sl.one
  · simp
  have hE19 : Ext w1 w9 := hc9.ext (hE17.trans he8) (by omega)
  have hi9 : Ints w3.heap.size w4.heap.size w9 v4 p.ord := (hi7.same (he8.same _ _)).same (hc9.same (.inl (by omega)))
  have hp9 : Pc.Rows w5.heap.size w6.heap.size w9 v6 us6 p.pow := (hp7.same (he8.same _ _)).same (hc9.same (.inl (by omega)))
  have hq9 : Rowss w7.heap.size w8.heap.size w9 v8 us8 uss8 p.cnj := hR8.same (hc9.same (.inl (by omega)))
  have hr9 : Blk w9 br _ := (Blk.ext (x := he8) (h := hr7)).chg' hc9 (by omega)
  refine go ?_
  have hb9' : Blk w9 bo [v4, v6, v8] := hb9
  refine ra (v := .agg #[v4, v6, v8]) (h := rd_load_blk (hb := hb9') (by ((try simp only [ev_tmp, ev_const, ev_func, get_put, get_args, get_putL, get_putL_nil, Nat.reduceEqDiff, reduceIte, List.getD_cons_zero, List.getD_cons_succ, List.getD_nil]); first | done | with_reducible rfl)) rfl) (next := ?_)
  refine st_store_agg (vs := [v4, v6, v8]) (cs := _) (hb := hr9) (by ((try simp only [ev_tmp, ev_const, ev_func, get_put, get_args, get_putL, get_putL_nil, Nat.reduceEqDiff, reduceIte, List.getD_cons_zero, List.getD_cons_succ, List.getD_nil]); first | done | with_reducible rfl)) (by ((try simp only [ev_tmp, ev_const, ev_func, get_put, get_args, get_putL, get_putL_nil, Nat.reduceEqDiff, reduceIte, List.getD_cons_zero, List.getD_cons_succ, List.getD_nil]); first | done | with_reducible rfl)) rfl ?_ ?_ (by first | exact True.intro | exact ⟨_, rfl, by ((try simp only [ev_tmp, ev_const, ev_func, get_put, get_args, get_putL, get_putL_nil, Nat.reduceEqDiff, reduceIte, List.getD_cons_zero, List.getD_cons_succ, List.getD_nil, Bool.not_true, Bool.not_false]); first | done | with_reducible rfl)⟩) fun w10 hc10 hs10 hb10 => ?_
  · rfl
  · have e1 := hi9.sl.one
    have e2 := hp9.sl.one
    have e3 := hq9.sl.one
    simp [e1, e2, e3]
  refine go ?_
  refine retc (b := br) (hb := hb10) ⟨hc10.ext (he1.trans hE19) (by omega), ?_⟩ rfl
  have hi10 := (hi9.same (hc10.same (.inl (by omega)))).mono (lo' := w.heap.size) (hi' := w10.heap.size) (by omega) (by omega)
  have hp10 := (hp9.same (hc10.same (.inl (by omega)))).mono (lo' := w.heap.size) (hi' := w10.heap.size) (by omega) (by omega)
  have hq10 := rowss_mono (lo' := w.heap.size) (hi' := w10.heap.size) (hq9.same (hc10.same (.inl (by omega)))) (by omega) (by omega)
  exact ⟨⟨v4, v6, v8, us6, us8, uss8, rfl, hi10, hp10, hq10⟩⟩
set_option maxHeartbeats 1000000 in
theorem eqInt64SSS_ok {w : World} {va vb : Value} {us vs : List Value} {uss vss : List (List Value)} {xsss ysss : List (List (List Int))} {lo hi lo1 hi1 : Nat} [hx : Rowss lo hi w va us uss xsss] [hy : Rowss lo1 hi1 w vb vs vss ysss] (hm : ∀ i, (xsss.getD i []).length ≤ 2000000 ∧ ∀ j, ((xsss.getD i []).getD j []).length ≤ 2000000) (hl : xsss.length ≤ 10000000) :
    Calls Try.prog 19 #[va, vb] w (Ret fun v w' => ∃ b, v = .bool b ∧ (b = true ↔ xsss = ysss) ∧ Ext w w') := by
  have hul := hx.vals.len
  have hvl := hy.vals.len
  refine enter (args := [va, vb]) (l := [.tmp 4]) Try.func19 rfl rfl Try.ntmps19 (by simp) ?_
  refine go ?_
  refine c_if (fun h1 => ?_) (fun h1 => ?_)
  · refine go ?_
    refine ret1 ⟨_, rfl, ?_, Ext.refl _⟩
    simp only [Bool.false_eq_true, false_iff]
    rintro rfl
    omega
  · have hxy : xsss.length = ysss.length := by omega
    refine go ?_
    refine r_for xsss.length (fun k ρ w' => Has ρ [(0, va), (1, vb), (5, .int .i64 k)] ∧ Ext w w' ∧ ∀ i, i < k → xsss.getD i [] = ysss.getD i []) ?_ ?_
    · refine ⟨?_, Ext.refl _, fun i hi => by omega⟩
      exact hasP
    rintro k ρ w1 hk ⟨hH, he1, hI⟩
    refine rwp_has hH fun ρ0 => ?_
    refine go ?_
    refine c_if (fun h4 => ?_) (fun h4 => ?_)
    · refine go ?_
      refine d_region fun w2 he2 _ => ?_
      refine dgo ?_
      refine dce (eqInt64SS_ok (xss := xsss.getD k []) (yss := ysss.getD k []) (hm k).2 (by have := (hm k).1; omega)) (next := fun v3 w3 h3 => ?_)
      obtain ⟨b3, rfl, hb3, he3⟩ := h3
      refine dgo ?_
      refine d_end (h := ?_)
      refine go ?_
      refine c_b (fun h5 => ?_) (fun h5 => ?_)
      · refine go ?_
        refine ret1 ⟨_, rfl, ?_, (he1.trans he2).trans he3⟩
        simp only [Bool.false_eq_true, false_iff]
        rintro rfl
        have := hb3.2 rfl
        rw [this] at h5; cases h5
      · have h6 := hb3.1 (by simpa using h5)
        refine go ?_
        refine forQ_normal (by omega) ⟨?_, (he1.trans he2).trans he3, fun i hi => ?_⟩
        · exact hasP
        · by_cases e : i = k
          · subst e; exact h6
          · exact hI i (by omega)
    · refine go ?_
      refine ret1 ⟨_, rfl, ?_, he1⟩
      simp only [true_iff]
      apply List.ext_getElem hxy
      intro i h1 h2
      have := hI i (by omega)
      simpa [h1, h2] using this
theorem pr_ext {p q : Pr} (h1 : p.ord = q.ord) (h2 : p.pow = q.pow) (h3 : p.cnj = q.cnj) : p = q := by cases p; cases q; simp_all
set_option maxHeartbeats 1000000 in
theorem eqPresentation_ok {w : World} {va vb : Value} {p q : Pr} {lo hi lo1 hi1 : Nat} [hp : Pres lo hi w va p] [hq : Pres lo1 hi1 w vb q] (hs : SizeP p 2000000) :
    Calls Try.prog 16 #[va, vb] w (Ret fun v w' => ∃ b, v = .bool b ∧ (b = true ↔ p = q) ∧ Ext w w') := by
  have hs1 := hs.ord
  have hs2 := hs.pow
  have hs3 := hs.cnj
  obtain ⟨vo, vpw, vc, ps, cs, css, rfl, h1, h2, h3⟩ := hp.ex
  obtain ⟨vo', vpw', vc', ps', cs', css', rfl, h1', h2', h3'⟩ := hq.ex
  refine enter (args := [.agg #[vo, vpw, vc], .agg #[vo', vpw', vc']]) (l := [.tmp 4]) Try.func16 rfl rfl Try.ntmps16 (by simp) ?_
  refine go ?_
  refine st_box3 (by ((try simp only [ev_tmp, ev_const, ev_func, get_put, get_args, get_putL, get_putL_nil, Nat.reduceEqDiff, reduceIte, List.getD_cons_zero, List.getD_cons_succ, List.getD_nil]); first | done | with_reducible rfl)) (by first | exact True.intro | exact ⟨_, rfl, by ((try simp only [ev_tmp, ev_const, ev_func, get_put, get_args, get_putL, get_putL_nil, Nat.reduceEqDiff, reduceIte, List.getD_cons_zero, List.getD_cons_succ, List.getD_nil, Bool.not_true, Bool.not_false]); first | done | with_reducible rfl)⟩) fun w1 b he1 hb1 hsz1 hc0 hc1 hc2 => ?_
  refine go ?_
  refine st_box3 (by ((try simp only [ev_tmp, ev_const, ev_func, get_put, get_args, get_putL, get_putL_nil, Nat.reduceEqDiff, reduceIte, List.getD_cons_zero, List.getD_cons_succ, List.getD_nil]); first | done | with_reducible rfl)) (by first | exact True.intro | exact ⟨_, rfl, by ((try simp only [ev_tmp, ev_const, ev_func, get_put, get_args, get_putL, get_putL_nil, Nat.reduceEqDiff, reduceIte, List.getD_cons_zero, List.getD_cons_succ, List.getD_nil, Bool.not_true, Bool.not_false]); first | done | with_reducible rfl)⟩) fun w2 b' he2 hb2 hsz2 hc0' hc1' hc2' => ?_
  have hE2 := he1.trans he2
  have no : ∀ {w' : World}, p ≠ q → Ext w w' → ∃ b, Value.bool false = .bool b ∧ (b = true ↔ p = q) ∧ Ext w w' := fun h he => ⟨_, rfl, by simp [h], he⟩
  refine go ?_
  refine rc (eqInt64S_ok (xs := p.ord) (ys := q.ord) (by omega)) (next := fun v3 w3 h4 => ?_)
  obtain ⟨b3, rfl, hb3, he3⟩ := h4
  refine go ?_
  refine c_b (fun h5 => ?_) (fun h5 => ?_)
  · refine go ?_
    refine ret1 (no (fun e => ?_) (hE2.trans he3))
    rw [hb3.2 (by rw [e])] at h5; cases h5
  have e1 := hb3.1 (by simpa using h5)
  refine go ?_
  refine rc (eqInt64SS_ok (xss := p.pow) (yss := q.pow) (fun i => by have := hs.powi i; omega) (by omega)) (next := fun v4 w4 h6 => ?_)
  obtain ⟨b4, rfl, hb4, he4⟩ := h6
  refine go ?_
  refine c_b (fun h7 => ?_) (fun h7 => ?_)
  · refine go ?_
    refine ret1 (no (fun e => ?_) ((hE2.trans he3).trans he4))
    rw [hb4.2 (by rw [e])] at h7; cases h7
  have e2 := hb4.1 (by simpa using h7)
  refine go ?_
  refine rc (eqInt64SSS_ok (xsss := p.cnj) (ysss := q.cnj) (fun i => ⟨by have := hs.cnji i; omega, fun j => by have := hs.cnjij i j; omega⟩) (by omega)) (next := fun v5 w5 h8 => ?_)
  obtain ⟨b5, rfl, hb5, he5⟩ := h8
  refine go ?_
  refine c_b (fun h9 => ?_) (fun h9 => ?_)
  · refine go ?_
    refine ret1 (no (fun e => ?_) (((hE2.trans he3).trans he4).trans he5))
    rw [hb5.2 (by rw [e])] at h9; cases h9
  have e3 := hb5.1 (by simpa using h9)
  refine go ?_
  exact ret1 ⟨_, rfl, ⟨fun _ => pr_ext e1 e2 e3, fun _ => rfl⟩, ((hE2.trans he3).trans he4).trans he5⟩
end Go.Proofs.Ytgomfjhhfmhlgaa

/-
  Walks: the statement's own helpers that mark memory and read the marks (markInt64S, markInt64SS, heldInt64S, heldInt64SS).
  Conditions: stated at each theorem.
-/
namespace Go.Proofs.Ytgomfjhhfmhlgaa
open Go Go.Pc
set_option maxHeartbeats 1000000 in
theorem markInt64S_ok {s : Nat} {w : World} {v : Value} {xs : List Int} {k : Int} (hf : Fr s w v xs) (hk : 0 ≤ k) (hb : k + xs.length ≤ 9000000000000000000) :
    Calls Try.prog 32 #[v, .int .i64 k] w (Ret fun v' w' => v' = .int .i64 (k + xs.length) ∧ Fr s w' v (marks k xs.length) ∧ Wrt (fun b => xs ≠ [] ∧ v.ownBlock = some b) w w') := by
  by_cases hn : xs = []
  · subst hn
    have hx := hf.ints
    refine enter (args := [v, .int .i64 k]) (l := [.tmp 4]) Try.func32 rfl rfl Try.ntmps32 (by simp) ?_
    refine go ?_
    refine r_for 0 (fun i ρ w' => Has ρ [(0, v), (1, .int .i64 k), (5, .int .i64 i)] ∧ w' = w) ?_ ?_
    · refine ⟨?_, rfl⟩
      exact hasP
    rintro i ρ w2 hi ⟨hH, rfl⟩
    refine rwp_has hH fun ρ0 => ?_
    refine go ?_
    refine c_if (fun h4 => ?_) (fun h4 => ?_)
    · simp at h4; omega
    · refine go ?_
      exact ret1 (v := .int .i64 k) ⟨by simp, hf, .refl _⟩
  obtain ⟨e, b, hsb, ho⟩ := hf.own hn
  have hl := sl_len ho.own.toSl
  simp only [List.length_map] at hl
  refine enter (args := [v, .int .i64 k]) (l := [.tmp 4]) Try.func32 rfl rfl Try.ntmps32 (by simp) ?_
  refine go ?_
  refine r_for xs.length (fun i ρ w' => ∃ ys, Has ρ [(0, v), (1, .int .i64 (k + i)), (5, .int .i64 i)] ∧ Chg b w w' ∧ OwnI e b w' v ys ∧ ys.length = xs.length ∧ ∀ j : Nat, j < i → ys.getD j 0 = k + j) ?_ ?_
  · refine ⟨xs, ?_, Chg.refl _ _, ho, rfl, fun j hj => by omega⟩
    exact hasP
  have hblk := ho.block
  clear ho hf
  rintro i ρ w2 hi ⟨ys, hH, hc2, ho2, hl2, hI⟩
  refine rwp_has hH fun ρ0 => ?_
  refine go ?_
  refine c_if (fun h4 => ?_) (fun h4 => ?_)
  · refine go ?_
    refine st_store_int (by ((try simp only [ev_tmp, ev_const, ev_func, get_put, get_args, get_putL, get_putL_nil, Nat.reduceEqDiff, reduceIte, List.getD_cons_zero, List.getD_cons_succ, List.getD_nil]); first | done | with_reducible rfl)) (by ((try simp only [ev_tmp, ev_const, ev_func, get_put, get_args, get_putL, get_putL_nil, Nat.reduceEqDiff, reduceIte, List.getD_cons_zero, List.getD_cons_succ, List.getD_nil]); first | done | with_reducible rfl)) ?_ (by first | exact True.intro | exact ⟨_, rfl, by ((try simp only [ev_tmp, ev_const, ev_func, get_put, get_args, get_putL, get_putL_nil, Nat.reduceEqDiff, reduceIte, List.getD_cons_zero, List.getD_cons_succ, List.getD_nil, Bool.not_true, Bool.not_false]); first | done | with_reducible rfl)⟩) fun w3 hc3 hs3 ho3 => ?_
    · omega
    refine go ?_
    refine forQ_normal (by omega) ⟨_, ?_, hc2.trans hc3, ho3, by simp [hl2], fun j hj => ?_⟩
    · exact hasP
    · by_cases ee : i = j
      · subst ee; rw [Pc.getD_set_eq _ _ _ (by omega)]
      · rw [Pc.getD_set_ne _ _ _ _ ee]; exact hI j (by omega)
  · refine go ?_
    obtain rfl : i = xs.length := by omega
    have hy : ys = marks k xs.length := list_ext0 (by rw [marks_len]; exact hl2) fun j hj => by rw [hI j (by omega), marks_getD _ (by omega)]
    refine ret1 ⟨rfl, ?_, .one ⟨hn, hblk⟩ hc2⟩
    rw [← hy]
    exact ho2.toFr hsb
set_option maxHeartbeats 1000000 in
theorem heldInt64S_ok {w : World} {v : Value} {k : Int} {n lo hi : Nat} {xs : List Int} [hx : Ints lo hi w v xs] (hxs : xs = marks k n) (hk : 0 ≤ k) (hb : k + n ≤ 9000000000000000000) :
    Calls Try.prog 49 #[v, .int .i64 k] w (Ret fun v' w' => v' = .int .i64 (k + n) ∧ Ext w w') := by
  have hl : xs.length = n := by rw [hxs, marks_len]
  have hg : ∀ i, i < n → xs.getD i 0 = k + i := fun i hi => by rw [hxs, marks_getD _ hi]
  have hm : n ≤ 9223372036854775807 := by have := sl_len hx.sl; simp at this; omega
  refine enter (args := [v, .int .i64 k]) (l := [.tmp 4]) Try.func49 rfl rfl Try.ntmps49 (by simp) ?_
  refine go ?_
  refine r_for n (fun i ρ w' => Has ρ [(0, v), (1, .int .i64 (k + i)), (5, .int .i64 i)] ∧ Ext w w') ?_ ?_
  · refine ⟨?_, Ext.refl _⟩
    exact hasP
  rintro i ρ w2 hi ⟨hH, he2⟩
  refine rwp_has hH fun ρ0 => ?_
  refine go ?_
  refine c_if (fun h4 => ?_) (fun h4 => ?_)
  · have hgi := hg i (by omega)
    refine go ?_
    refine c_if (fun h5 => ?_) (fun h5 => ?_)
    · exact absurd hgi h5
    · refine go ?_
      refine forQ_normal (by omega) ⟨?_, he2⟩
      exact hasP
  · refine go ?_
    obtain rfl : i = n := by omega
    exact ret1 ⟨rfl, he2⟩
set_option maxHeartbeats 1000000 in
theorem heldInt64SS_ok {w : World} {v : Value} {k : Int} {lo hi : Nat} {us : List Value} {xss yss : List (List Int)} [hx : Pc.Rows lo hi w v us xss] (hxs : xss = markL k yss) (hk : 0 ≤ k) (hb : k + tot yss ≤ 9000000000000000000) :
    Calls Try.prog 34 #[v, .int .i64 k] w (Ret fun v' w' => v' = .int .i64 (k + tot yss) ∧ Ext w w') := by
  have hl : xss.length = yss.length := by rw [hxs, markL_len]
  have hul := hx.vals.len
  have hm := sl_len hx.sl
  have hg : ∀ i, i < yss.length → xss.getD i [] = marks (k + tot (yss.take i)) (yss.getD i []).length := fun i hi => by rw [hxs, markL_getD _ _ _ hi]
  refine enter (args := [v, .int .i64 k]) (l := [.tmp 4]) Try.func34 rfl rfl Try.ntmps34 (by simp) ?_
  refine go ?_
  refine r_for yss.length (fun i ρ w' => Has ρ [(0, v), (1, .int .i64 (k + tot (yss.take i))), (5, .int .i64 i)] ∧ Ext w w') ?_ ?_
  · refine ⟨?_, Ext.refl _⟩
    simp only [List.take_zero, tot]
    exact hasP
  rintro i ρ w2 hi ⟨hH, he2⟩
  refine rwp_has hH fun ρ0 => ?_
  have ht := tot_take_le yss i
  refine go ?_
  refine c_if (fun h4 => ?_) (fun h4 => ?_)
  · have hin : i < yss.length := by omega
    have hts := tot_take_succ yss hin
    have ht2 := tot_take_le yss (i + 1)
    refine go ?_
    refine rc (heldInt64S_ok (xs := xss.getD i []) (hg i hin) ?_ ?_) (next := fun v3 w3 h3 => ?_)
    · omega
    · omega
    obtain ⟨rfl, he3⟩ := h3
    refine go ?_
    refine c_if (fun h5 => ?_) (fun h5 => ?_)
    · omega
    · refine go ?_
      refine forQ_normal (by omega) ⟨?_, he2.trans he3⟩
      exact hasP
  · refine go ?_
    obtain rfl : i = yss.length := by omega
    refine ret1 ⟨?_, he2⟩
    rw [List.take_length]
theorem split_at {α : Type} (l : List α) {i : Nat} (h : i < l.length) : l = l.take i ++ l[i] :: l.drop (i + 1) := by
  rw [List.getElem_cons_drop]; exact (List.take_append_drop i l).symm
set_option maxHeartbeats 2000000 in
theorem markInt64SS_ok {A : Nat → Prop} {s : Nat} {w : World} {v : Value} {k : Int} {pre rs post : List (Value × List Int)} (hO : RowsO s w (pre ++ rs ++ post)) (hS : SpA A w v (rs.map (·.1))) (hA : ∀ b, BlkOf rs b → A b) (hk : 0 ≤ k) (hb : k + tot (rs.map (·.2)) ≤ 9000000000000000000) :
    Calls Try.prog 33 #[v, .int .i64 k] w (Ret fun v' w' => v' = .int .i64 (k + tot (rs.map (·.2))) ∧ RowsO s w' (pre ++ mkR k rs ++ post) ∧ Wrt (BlkOf rs) w w') := by
  have hm := sl_len hS.sl
  simp only [List.length_map] at hm
  have hsl := hS.sl
  have hlen := hsl.toLen
  refine enter (args := [v, .int .i64 k]) (l := [.tmp 4]) Try.func33 rfl rfl Try.ntmps33 (by simp) ?_
  refine go ?_
  refine r_for rs.length (fun i ρ w' => Has ρ [(0, v), (1, .int .i64 (k + tot ((rs.take i).map (·.2)))), (5, .int .i64 i)] ∧ RowsO s w' (pre ++ (mkR k (rs.take i) ++ rs.drop i) ++ post) ∧ Wrt (BlkOf rs) w w') ?_ ?_
  · refine ⟨?_, by simpa [mkR] using hO, .refl _⟩
    simp only [List.take_zero, List.map_nil, tot]
    exact hasP
  clear hO hsl hlen
  rintro i ρ w2 hi ⟨hH, hO2, hW2⟩
  refine rwp_has hH fun ρ0 => ?_
  have hS2 := hS.wr hW2 hA
  have hsl2 := hS2.sl
  have hlen2 := hsl2.toLen
  have hll : (rs.map (·.1)).length = rs.length := by simp
  have ht : tot ((rs.take i).map (·.2)) ≤ tot (rs.map (·.2)) := by rw [List.map_take]; exact tot_take_le _ _
  refine go ?_
  refine c_if (fun h4 => ?_) (fun h4 => ?_)
  · have hin : i < rs.length := by simp at h4; omega
    have e1 : Pc.rowAt v (rs.map (·.1)) i = rs[i].1 := by simp [Pc.rowAt, hin]
    have e2 : rs.drop i = rs[i] :: rs.drop (i + 1) := (List.getElem_cons_drop (h := hin)).symm
    have e3 : rs.take (i + 1) = rs.take i ++ [rs[i]] := List.take_succ_eq_append_getElem hin
    have hts : tot ((rs.take (i + 1)).map (·.2)) = tot ((rs.take i).map (·.2)) + (rs[i]).2.length := by rw [e3, List.map_append, tot_append]; simp [tot]
    have ht2 : tot ((rs.take (i + 1)).map (·.2)) ≤ tot (rs.map (·.2)) := by rw [List.map_take]; exact tot_take_le _ _
    have hO3 : RowsO s w2 ((pre ++ mkR k (rs.take i)) ++ rs[i] :: (rs.drop (i + 1) ++ post)) := by
      rw [e2] at hO2
      simpa only [List.append_assoc, List.cons_append] using hO2
    have hfr := hO3.fr rs[i] (by simp)
    refine go ?_
    refine ra (v := Pc.rowAt v (rs.map fun x : Value × List Int => x.1) i) (h := rd_load_sl (us := rs.map fun x : Value × List Int => x.1) (by ((try simp only [ev_tmp, ev_const, ev_func, get_put, get_args, get_putL, get_putL_nil, Nat.reduceEqDiff, reduceIte, List.getD_cons_zero, List.getD_cons_succ, List.getD_nil]); first | done | with_reducible rfl)) (by omega)) (next := ?_)
    rw [e1]
    refine go ?_
    refine rc (markInt64S_ok hfr ?_ ?_) (next := fun v3 w3 h3 => ?_)
    · omega
    · omega
    obtain ⟨rfl, hf3, hW3⟩ := h3
    have hO4 := hO3.upd hW3 hf3 marks_ne.1
    refine go ?_
    refine forQ_normal (by omega) ⟨?_, ?_, hW2.trans (hW3.mono fun b ⟨hn, e⟩ => ⟨_, List.getElem_mem hin, hn, e⟩)⟩
    · exact hasP
    · rw [e3, mkR_append]
      simpa only [mkR, List.append_assoc, List.cons_append, List.nil_append] using hO4
  · refine go ?_
    obtain rfl : i = rs.length := by simp at h4; omega
    rw [List.take_length] at hO2 ⊢
    exact ret1 ⟨rfl, by simpa using hO2, hW2⟩
end Go.Proofs.Ytgomfjhhfmhlgaa
