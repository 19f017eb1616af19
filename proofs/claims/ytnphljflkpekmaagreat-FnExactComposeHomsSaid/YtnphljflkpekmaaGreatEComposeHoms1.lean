/-
  Texts of one proof, put together by program: W20, W30, W31, W32, Copy, I30, I31, I32, I33, Hom, Grow2, HomV, Tri, Bld, Of3, SpqS, Hoa, Lif, W33, W38, W39, Dal, W40, W43, W44, I35, I40, I41, I42.
  Conditions: those told at each part.
-/
import Derived.Test.YtnphljflkpekmaaGreatB5
import Derived.Laws.CopyRow
import Derived.Deep.MidRow
set_option linter.unusedVariables false
set_option linter.unusedSimpArgs false
set_option linter.unusedSectionVars false
set_option linter.constructorNameAsVariable false
set_option linter.unnecessarySimpa false
set_option linter.deprecated false
/-
  Walks: the reference's order, index, transversal elements; Transversal.
  Conditions: stated at each theorem.
-/
namespace Go.Proofs.YtnphljflkpekmaaGreat
open Go Go.Pc
end Go.Proofs.YtnphljflkpekmaaGreat

/-
  Walks: the reference's words, relators and values of words (l07Word, l06Invert, l07Relators, l10Eval, l16Relators, l10Elements).
  Conditions: stated at each theorem.
-/
namespace Go.Proofs.YtnphljflkpekmaaGreat
open Go Go.Pc
theorem app_repl (w : List Int) (m : Nat) (a : Int) : (w ++ List.replicate m a) ++ [a] = w ++ List.replicate (m + 1) a := by
  rw [List.append_assoc]
  congr 1
  exact (List.replicate_succ' (n := m) (a := a)).symm
set_option maxHeartbeats 2000000 in
theorem l07Word_ok {e : List Int} {w : World} {vx : Value} {lo hi : Nat} [hx : Ints lo hi w vx e] (hl : e.length ≤ 100) (hr : ∀ i, i < e.length → 0 ≤ e.getD i 0 ∧ e.getD i 0 ≤ 100) :
    Calls Tryz.prog 188 #[vx] w (Ret fun v w' => Ext w w' ∧ GrowI 2 w.heap.size w' v (wordV e)) := by
  have hwl : ∀ k, (wordV (e.take k)).length ≤ 10000 := fun k => by
    have h1 := wordA_len (b := 100) (e.take k) 0 fun x hx => by
      obtain ⟨i, hi, rfl⟩ := List.getElem_of_mem (List.mem_of_mem_take hx)
      have := (hr i hi).2
      simpa [hi] using this
    have h2 : (e.take k).length * 100 ≤ 100 * 100 := Nat.mul_le_mul_right _ (by rw [List.length_take]; omega)
    exact Nat.le_trans h1 h2
  refine enter (args := [vx]) (l := [.tmp 2]) Tryz.func188 rfl rfl Tryz.ntmps188 (by simp) ?_
  refine go ?_
  refine st_slice0 (by first | exact True.intro | exact ⟨_, rfl, by ((try simp only [ev_tmp, ev_const, ev_func, get_put, get_args, get_putL, get_putL_nil, Nat.reduceEqDiff, reduceIte, List.getD_cons_zero, List.getD_cons_succ, List.getD_nil, Bool.not_true, Bool.not_false]); first | done | with_reducible rfl)⟩) fun w0 v0 he0 hs0 ho0 => ?_
  refine go ?_
  refine r_for e.length (fun k ρ w' => ∃ vl, Has ρ [(0, vx), (3, vl), (4, .int .i64 k)] ∧ Ext w w' ∧ GrowI 2 w.heap.size w' vl (wordV (e.take k))) ?_ ?_
  · refine ⟨v0, ?_, he0, GrowI.start ho0 (Nat.le_refl _)⟩
    exact hasP
  clear ho0
  rintro k ρ w2 hk ⟨vl, hH, he2, hG2⟩
  refine rwp_has hH fun ρ0 => ?_
  refine go ?_
  refine c_if (fun h4 => ?_) (fun h4 => ?_)
  · have hkn : k < e.length := by omega
    have hrk := hr k hkn
    have hst := wordV_take hkn
    have hwk := hwl k
    refine go ?_
    refine r_for (e.getD k 0).toNat (fun j ρ w' => ∃ vl, Has ρ [(0, vx), (3, vl), (4, .int .i64 k), (5, .int .i64 j)] ∧ Ext w w' ∧ GrowI 2 w.heap.size w' vl (wordV (e.take k) ++ List.replicate j ((k : Int) + 1))) ?_ ?_
    · refine ⟨vl, ?_, he2, by simpa using hG2⟩
      exact hasP
    clear hG2 he2
    rintro j ρ w3 hj ⟨vl, hH3, he3, hG3⟩
    refine rwp_has hH3 fun ρ1 => ?_
    have hz3 := he3.size
    refine go ?_
    refine c_if (fun h5 => ?_) (fun h5 => ?_)
    · refine go ?_
      refine st_growi hG3 hz3 (by simp only [List.length_append, List.length_replicate]; omega) (next := fun v4 v5 w5 hG5 hx5 hz5 hgs5 => ?_)
      refine go ?_
      refine forQ_normal (by omega) ⟨v5, ?_, hx5 w he3 (Nat.le_refl _), ?_⟩
      · exact hasP
      · rw [← app_repl]; exact hG5
    · obtain rfl : j = (e.getD k 0).toNat := by omega
      rw [← hst] at hG3
      refine go ?_
      refine forQ_normal (by omega) ⟨vl, ?_, he3, hG3⟩
      exact hasP
  · obtain rfl : k = e.length := by omega
    rw [List.take_length] at hG2
    refine go ?_
    exact ret1 ⟨he2, hG2⟩
set_option maxHeartbeats 2000000 in
theorem l06Invert_ok {e : List Int} {w : World} {vx : Value} {lo hi : Nat} [hx : Ints lo hi w vx e] (hl : e.length ≤ 100000) (hr : ∀ i, i < e.length → -1000000 ≤ e.getD i 0 ∧ e.getD i 0 ≤ 1000000) :
    Calls Tryz.prog 187 #[vx] w (Ret fun v w' => Ext w w' ∧ GrowI 2 w.heap.size w' v (invW e)) := by
  refine enter (args := [vx]) (l := [.tmp 2]) Tryz.func187 rfl rfl Tryz.ntmps187 (by simp) ?_
  refine go ?_
  refine st_slice0 (by first | exact True.intro | exact ⟨_, rfl, by ((try simp only [ev_tmp, ev_const, ev_func, get_put, get_args, get_putL, get_putL_nil, Nat.reduceEqDiff, reduceIte, List.getD_cons_zero, List.getD_cons_succ, List.getD_nil, Bool.not_true, Bool.not_false]); first | done | with_reducible rfl)⟩) fun w0 v0 he0 hs0 ho0 => ?_
  refine go ?_
  refine r_for e.length (fun k ρ w' => ∃ vl, Has ρ [(0, vx), (3, vl), (4, .int .i64 ((e.length : Int) - 1 - k))] ∧ Ext w w' ∧ GrowI 2 w.heap.size w' vl (((e.map fun x => -x).reverse).take k)) ?_ ?_
  · refine ⟨v0, ?_, he0, GrowI.start ho0 (Nat.le_refl _)⟩
    exact hasP
  clear ho0
  rintro k ρ w2 hk ⟨vl, hH, he2, hG2⟩
  refine rwp_has hH fun ρ0 => ?_
  have hz2 := he2.size
  refine go ?_
  refine c_if (fun h4 => ?_) (fun h4 => ?_)
  · have hkn : k < e.length := by omega
    obtain ⟨i, hi⟩ : ∃ i, e.length - 1 - k = i := ⟨_, rfl⟩
    have hin : i < e.length := by omega
    have hcast : ((e.length : Int) - 1 - k) = (i : Int) := by omega
    have hri := hr i hin
    have hrl : ((e.map fun x => -x).reverse).length = e.length := by simp
    have hst : ((e.map fun x => -x).reverse).take (k + 1) = ((e.map fun x => -x).reverse).take k ++ [-(e.getD i 0)] := by
      rw [List.take_succ_eq_append_getElem (by omega)]
      congr 2
      rw [List.getElem_reverse, List.getElem_map]
      simp only [List.length_map]
      have e1 : e.getD i 0 = e[i] := by simp [hin]
      rw [e1]
      congr 1
      simp only [hi]
    rw [hcast]
    refine go ?_
    refine st_growi hG2 hz2 (by rw [List.length_take]; omega) (next := fun v4 v5 w5 hG5 hx5 hz5 hgs5 => ?_)
    refine go ?_
    refine forQ_normal (by omega) ⟨v5, ?_, hx5 w he2 (Nat.le_refl _), ?_⟩
    · exact hasP
    · rw [hst]; exact hG5
  · obtain rfl : k = e.length := by omega
    have e0 : ((e.map fun x => -x).reverse).take e.length = invW e := List.take_of_length_le (by simp)
    rw [e0] at hG2
    refine go ?_
    exact ret1 ⟨he2, hG2⟩
theorem ints_bd {e : List Int} {n : Nat} (hl : LetW n e) (hn : n ≤ 6) : ∀ i, i < e.length → -1000000 ≤ e.getD i 0 ∧ e.getD i 0 ≤ 1000000 := fun i hi => by
  have e1 : e.getD i 0 = e[i] := by simp [hi]
  have := hl _ (List.getElem_mem hi)
  omega
set_option maxHeartbeats 4000000 in
theorem l07Relators_ok {p : Pr} (hv : Valid p) {w : World} {vp : Value} {lo hi : Nat} [hp : Pres lo hi w vp p] :
    Calls Tryz.prog 160 #[vp] w (Ret fun v w' => Ext w w' ∧ ∃ rs, rs.map (·.2) = rels p ∧ GrowL 22 w.heap.size w' v rs) := by
  have hn6 := hv.n6
  have hol : p.ord.length = p.n := rfl
  have hwl := hv.lenw
  have hcl := hv.lenc
  replace hp := hp.wide
  obtain ⟨vo, vpw, vc, ps, cs, css, rfl, h1, h2, h3⟩ := hp.ex
  refine enter (args := [.agg #[vo, vpw, vc]]) (l := [.tmp 2]) Tryz.func160 rfl rfl Tryz.ntmps160 (by simp) ?_
  refine go ?_
  refine st_box3 (by ((try simp only [ev_tmp, ev_const, ev_func, get_put, get_args, get_putL, get_putL_nil, Nat.reduceEqDiff, reduceIte, List.getD_cons_zero, List.getD_cons_succ, List.getD_nil]); first | done | with_reducible rfl)) (by first | exact True.intro | exact ⟨_, rfl, by ((try simp only [ev_tmp, ev_const, ev_func, get_put, get_args, get_putL, get_putL_nil, Nat.reduceEqDiff, reduceIte, List.getD_cons_zero, List.getD_cons_succ, List.getD_nil, Bool.not_true, Bool.not_false]); first | done | with_reducible rfl)⟩) fun w1 b he1 hb1 hs1 hc0 hc1 hc2 => ?_
  have hz1 := he1.size
  refine go ?_
  refine st_slice0 (by first | exact True.intro | exact ⟨_, rfl, by ((try simp only [ev_tmp, ev_const, ev_func, get_put, get_args, get_putL, get_putL_nil, Nat.reduceEqDiff, reduceIte, List.getD_cons_zero, List.getD_cons_succ, List.getD_nil, Bool.not_true, Bool.not_false]); first | done | with_reducible rfl)⟩) fun w2 v2 he2 hs2 ho2 => ?_
  refine go ?_
  refine r_for p.n (fun i ρ w' => ∃ vl rs, Has ρ [(1, .pointer (some ⟨b, 0, none⟩)), (3, vl), (4, .int .i64 p.n), (5, .int .i64 i)] ∧ Ext w1 w' ∧ GrowL 22 w1.heap.size w' vl rs ∧ rs.map (·.2) = (List.range i).map (relP p)) ?_ ?_
  · refine ⟨v2, [], ?_, he2, GrowL.start ho2 (Nat.le_refl _), rfl⟩
    exact hasP
  clear ho2
  rintro i ρ w3 hi ⟨vl, rs, hH, he3, hG3, hrs3⟩
  refine rwp_has hH fun ρ0 => ?_
  have hz3 := he3.size
  have hE3 := he1.trans he3
  have hrl3 : rs.length = i := by have := congrArg List.length hrs3; simpa using this
  refine go ?_
  refine c_if (fun h4 => ?_) (fun h4 => ?_)
  · have hin : i < p.n := by omega
    have ho := hv.opos hin
    have hoi : p.ord.getD i 0 = p.o i := rfl
    refine go ?_
    refine st_slice0 (by first | exact True.intro | exact ⟨_, rfl, by ((try simp only [ev_tmp, ev_const, ev_func, get_put, get_args, get_putL, get_putL_nil, Nat.reduceEqDiff, reduceIte, List.getD_cons_zero, List.getD_cons_succ, List.getD_nil, Bool.not_true, Bool.not_false]); first | done | with_reducible rfl)⟩) fun w4 v4 he4 hs4 ho4 => ?_
    refine go ?_
    refine r_for (p.o i).toNat (fun k ρ w' => ∃ vw, Has ρ [(1, .pointer (some ⟨b, 0, none⟩)), (3, vl), (4, .int .i64 p.n), (5, .int .i64 i), (6, vw), (7, .int .i64 k)] ∧ Ext w3 w' ∧ GrowI 2 w3.heap.size w' vw (List.replicate k ((i : Int) + 1))) ?_ ?_
    · refine ⟨v4, ?_, he4, GrowI.start ho4 (Nat.le_refl _)⟩
      exact hasP
    clear ho4
    rintro k ρ w5 hk ⟨vw, hH5, he5, hG5⟩
    refine rwp_has hH5 fun ρ1 => ?_
    have hz5 := he5.size
    have hE5 := hE3.trans he5
    refine go ?_
    refine c_if (fun h6 => ?_) (fun h6 => ?_)
    · refine go ?_
      refine st_growi hG5 hz5 (by simp only [List.length_replicate]; omega) (next := fun v6 v7 w7 hG7 hx7 hz7 hgs7 => ?_)
      refine go ?_
      refine forQ_normal (by omega) ⟨v7, ?_, hx7 w3 he5 (Nat.le_refl _), ?_⟩
      · exact hasP
      · rw [List.replicate_succ']; exact hG7
    · obtain rfl : k = (p.o i).toNat := by omega
      have hiw := invec_word hv (hv.w_in i hin)
      have hpw : p.w i = p.pow.getD i [] := rfl
      rw [hpw] at hiw
      refine go ?_
      refine rc (l07Word_ok (e := p.pow.getD i []) (by omega) (fun j hj => by have := hiw.2.2 j hj; omega)) (next := fun v6 w6 h7 => ?_)
      obtain ⟨he6, hG6⟩ := h7
      have hi6 := hG6.fr.ints
      have hlw := letW_word hiw.1
      refine go ?_
      refine rc (l06Invert_ok (e := wordV (p.pow.getD i [])) (by omega) (ints_bd hlw hn6)) (next := fun v7 w7 h8 => ?_)
      obtain ⟨he7, hG7⟩ := h8
      have hG57 : GrowI 2 w3.heap.size w7 vw (List.replicate (p.o i).toNat ((i : Int) + 1)) := @GrowI.ext _ _ _ _ _ _ (he6.trans he7) hG5
      have hz7 := (he5.trans (he6.trans he7)).size
      refine go ?_
      refine st_appi hG57 hG7.fr.ints hz7 (by simp only [List.length_replicate, invW_len]; omega) (next := fun v8 w8 hG8 hx8 hz8 => ?_)
      have hx38 := hx8 w3 (he5.trans (he6.trans he7)) (Nat.le_refl _)
      refine go ?_
      refine st_grow hG3 hx38 hG8.fr hz3 (by omega) (next := fun v9 v10 w10 hG10 hx10 hz10 hgs10 => ?_)
      refine go ?_
      refine forQ_normal (by omega) ⟨v10, _, ?_, hx10 w1 (he3.trans hx38) (Nat.le_refl _), hG10, ?_⟩
      · exact hasP
      · rw [List.map_append, hrs3, List.range_succ, List.map_append]; rfl
  · obtain rfl : i = p.n := by omega
    have hrs0 : rs.map (·.2) = relL p 0 := by rw [hrs3]; simp [relL]
    have hrb : ∀ m, m ≤ p.n → (relL p m).length ≤ 100 := fun m hm => by
      have h := (rels_props hv).1
      have : (relL p m).length ≤ (rels p).length := by
        unfold rels relL
        simp only [List.length_append]
        have e : List.range p.n = List.range m ++ (List.range (p.n - m)).map (m + ·) := by
          rw [← List.range_add, show m + (p.n - m) = p.n by omega]
        rw [e, List.flatMap_append, List.length_append]
        simp only [List.length_append, List.length_map, List.length_range]
        omega
      omega
    clear hrs3
    refine go ?_
    refine r_for p.n (fun i ρ w' => ∃ vl rs, Has ρ [(1, .pointer (some ⟨b, 0, none⟩)), (3, vl), (4, .int .i64 p.n), (8, .int .i64 i)] ∧ Ext w1 w' ∧ GrowL 22 w1.heap.size w' vl rs ∧ rs.map (·.2) = relL p i) ?_ ?_
    · refine ⟨vl, rs, ?_, he3, hG3, hrs0⟩
      exact hasP
    clear hG3 he3 hrs0 hrl3 hz3 hE3
    rintro i ρ w3 hi ⟨vl, rs, hH3, he3, hG3, hrs3⟩
    refine rwp_has hH3 fun ρ1 => ?_
    have hz3 := he3.size
    have hE3 := he1.trans he3
    refine go ?_
    refine c_if (fun h5 => ?_) (fun h5 => ?_)
    · have hin : i < p.n := by omega
      refine go ?_
      refine r_for (p.n - 1 - i) (fun k ρ w' => ∃ vl rs, Has ρ [(1, .pointer (some ⟨b, 0, none⟩)), (3, vl), (4, .int .i64 p.n), (8, .int .i64 i), (9, .int .i64 ((i + 1 + k : Nat) : Int))] ∧ Ext w1 w' ∧ GrowL 22 w1.heap.size w' vl rs ∧ rs.map (·.2) = relL p i ++ relCs p i k) ?_ ?_
      · refine ⟨vl, rs, ?_, he3, hG3, by simpa [relCs] using hrs3⟩
        exact hasP
      clear hG3 he3 hrs3 hz3 hE3
      rintro k ρ w4 hk ⟨vl, rs, hH4, he4, hG4, hrs4⟩
      refine rwp_has hH4 fun ρ2 => ?_
      have hz4 := he4.size
      have hE4 := he1.trans he4
      have hrl4 : rs.length ≤ 1000 := by
        have h := congrArg List.length hrs4
        have h2 := hrb i (by omega)
        simp only [List.length_map, List.length_append, relCs, List.length_range] at h
        omega
      refine go ?_
      refine c_if (fun h6 => ?_) (fun h6 => ?_)
      · have hkn : k < p.n - 1 - i := by omega
        have hci := hv.lenci i hin
        refine go ?_
        refine st_slice3i (a := -(i : Int) - 1) (b := ((i + 1 + k : Nat) : Int) + 1) (c := (i : Int) + 1) (by ((try simp only [ev_tmp, ev_const, ev_func, get_put, get_args, get_putL, get_putL_nil, Nat.reduceEqDiff, reduceIte, List.getD_cons_zero, List.getD_cons_succ, List.getD_nil]); first | done | with_reducible rfl)) (by ((try simp only [ev_tmp, ev_const, ev_func, get_put, get_args, get_putL, get_putL_nil, Nat.reduceEqDiff, reduceIte, List.getD_cons_zero, List.getD_cons_succ, List.getD_nil]); first | done | with_reducible rfl)) (by ((try simp only [ev_tmp, ev_const, ev_func, get_put, get_args, get_putL, get_putL_nil, Nat.reduceEqDiff, reduceIte, List.getD_cons_zero, List.getD_cons_succ, List.getD_nil]); first | done | with_reducible rfl)) ?_ (by first | exact True.intro | exact ⟨_, rfl, by ((try simp only [ev_tmp, ev_const, ev_func, get_put, get_args, get_putL, get_putL_nil, Nat.reduceEqDiff, reduceIte, List.getD_cons_zero, List.getD_cons_succ, List.getD_nil, Bool.not_true, Bool.not_false]); first | done | with_reducible rfl)⟩) fun w5 v5 he5 hG5 => ?_
        · rfl
        have hiw := invec_word hv (hv.c_in i (i + 1 + k) (by omega) (by omega))
        have hw : p.c i (i + 1 + k) = (p.cnj.getD i []).getD k [] := by
          show (p.cnj.getD i []).getD (i + 1 + k - (i + 1)) [] = _
          rw [show i + 1 + k - (i + 1) = k by omega]
        rw [hw] at hiw
        have hixn : i + 1 + k - i - 1 = k := by omega
        refine go ?_
        rw [hixn]
        refine rc (l07Word_ok (e := (p.cnj.getD i []).getD k []) (by omega) (fun j hj => by have := hiw.2.2 j hj; omega)) (next := fun v6 w6 h7 => ?_)
        obtain ⟨he6, hG6⟩ := h7
        have hi6 := hG6.fr.ints
        have hlw := letW_word hiw.1
        refine go ?_
        refine rc (l06Invert_ok (e := wordV ((p.cnj.getD i []).getD k [])) (by omega) (ints_bd hlw hn6)) (next := fun v7 w7 h8 => ?_)
        obtain ⟨he7, hG7⟩ := h8
        have hG57 := @GrowI.ext _ _ _ _ _ _ (he6.trans he7) hG5
        have hz7 := (he5.trans (he6.trans he7)).size
        refine go ?_
        refine st_appi hG57 hG7.fr.ints hz7 (by simp only [List.length_cons, List.length_nil, invW_len]; omega) (next := fun v8 w8 hG8 hx8 hz8 => ?_)
        have hx48 := hx8 w4 (he5.trans (he6.trans he7)) (Nat.le_refl _)
        refine go ?_
        refine st_grow hG4 hx48 hG8.fr hz4 (by omega) (next := fun v9 v10 w10 hG10 hx10 hz10 hgs10 => ?_)
        refine go ?_
        refine forQ_normal (by omega) ⟨v10, _, ?_, hx10 w1 (he4.trans hx48) (Nat.le_refl _), hG10, ?_⟩
        · exact hasP
        · rw [List.map_append, hrs4, relCs_succ, List.append_assoc]; rfl
      · obtain rfl : k = p.n - 1 - i := by omega
        rw [← relL_succ] at hrs4
        refine go ?_
        refine forQ_normal (by omega) ⟨vl, rs, ?_, he4, hG4, hrs4⟩
        exact hasP
    · obtain rfl : i = p.n := by omega
      refine go ?_
      exact ret1 ⟨hE3, rs, hrs3, hG3.lower hz1 hE3.size⟩
end Go.Proofs.YtnphljflkpekmaaGreat

/-
  Walks: the reference's values of words, tests of homomorphisms (l10Eval, l10Elements, l16Relators, l16Apply).
  Conditions: stated at each theorem.
-/
namespace Go.Proofs.YtnphljflkpekmaaGreat
open Go Go.Pc
theorem letW_at {n : Nat} {w : List Int} (h : LetW n w) {k : Nat} (hk : k < w.length) : w.getD k 0 ≠ 0 ∧ -(n : Int) ≤ w.getD k 0 ∧ w.getD k 0 ≤ n := by
  have e1 : w.getD k 0 = w[k] := by simp [hk]
  rw [e1]
  exact h _ (List.getElem_mem hk)
set_option maxHeartbeats 2000000 in
theorem l10Eval_ok {q : Pr} [hc : ConAll q] {ys : List (El q)} {ws : List Int} (hw : LetW ys.length ws) (hwl : ws.length ≤ 100000) (hyl : ys.length ≤ 1000) {w : World} {vq vw vi : Value} {us : List Value} {xss : List (List Int)} {lo hi lo1 hi1 lo2 hi2 : Nat} [hp : Pres lo hi w vq q] [hx : Ints lo1 hi1 w vw ws] [hu : Pc.Rows lo2 hi2 w vi us xss] (hus : xss = vecs ys) :
    Calls Tryz.prog 162 #[vq, vw, vi] w (Ret fun v w' => Ext w w' ∧ Fr w.heap.size w' v (evalW ys ws).v) := by
  subst hus
  have hvl : (vecs ys).length = ys.length := by simp
  obtain ⟨vo, vpw, vc, ps, cs, css, rfl, h1, h2, h3⟩ := hp.ex
  refine enter (args := [.agg #[vo, vpw, vc], vw, vi]) (l := [.tmp 6]) Tryz.func162 rfl rfl Tryz.ntmps162 (by simp) ?_
  refine go ?_
  refine st_box3 (by ((try simp only [ev_tmp, ev_const, ev_func, get_put, get_args, get_putL, get_putL_nil, Nat.reduceEqDiff, reduceIte, List.getD_cons_zero, List.getD_cons_succ, List.getD_nil]); first | done | with_reducible rfl)) (by first | exact True.intro | exact ⟨_, rfl, by ((try simp only [ev_tmp, ev_const, ev_func, get_put, get_args, get_putL, get_putL_nil, Nat.reduceEqDiff, reduceIte, List.getD_cons_zero, List.getD_cons_succ, List.getD_nil, Bool.not_true, Bool.not_false]); first | done | with_reducible rfl)⟩) fun w1 b he1 hb1 hs1 hc0 hc1 hc2 => ?_
  have hz1 := he1.size
  refine go ?_
  refine rc (l10One_ok (p := q)) (next := fun v2 w2 h4 => ?_)
  obtain ⟨he2, hf2⟩ := h4
  refine go ?_
  refine r_for ws.length (fun k ρ w' => ∃ vr, Has ρ [(1, vw), (2, vi), (3, .pointer (some ⟨b, 0, none⟩)), (7, vr), (8, .int .i64 k)] ∧ Ext w1 w' ∧ Fr w1.heap.size w' vr (evalW ys (ws.take k)).v) ?_ ?_
  · refine ⟨v2, ?_, he2, hf2⟩
    exact hasP
  clear hf2
  rintro k ρ w3 hk ⟨vr, hH, he3, hf3⟩
  refine rwp_has hH fun ρ0 => ?_
  have hz3 := he3.size
  have hi3 := hf3.ints
  refine go ?_
  refine c_if (fun h4 => ?_) (fun h4 => ?_)
  · have hkn : k < ws.length := by omega
    have hlk := letW_at hw hkn
    have hst := evalW_take (ys := ys) hkn
    refine go ?_
    refine c_if (fun h5 => ?_) (fun h5 => ?_)
    · have hjn : ((ws.getD k 0).toNat - 1) < ys.length := by omega
      have hgj : (vecs ys).getD ((ws.getD k 0).toNat - 1) [] = (ys.getD ((ws.getD k 0).toNat - 1) 1).v := by rw [vecs_getD ys hjn, getD_one hjn]
      have hlv : letV ys (ws.getD k 0) = ys.getD ((ws.getD k 0).toNat - 1) 1 := by unfold letV; rw [if_pos (by omega), show (ws.getD k 0 - 1).toNat = (ws.getD k 0).toNat - 1 by omega]
      refine go ?_
      refine d_region fun w4 he4 _ => ?_
      refine dgo ?_
      refine dce (l08Mul_ok (p := q) (x := evalW ys (ws.take k)) (y := ys.getD ((ws.getD k 0).toNat - 1) 1) rfl hgj) (next := fun v6 w6 h6 => ?_)
      obtain ⟨he6, hf6⟩ := h6
      refine dgo ?_
      refine d_end (h := ?_)
      refine go ?_
      refine forQ_normal (by omega) ⟨v6, ?_, (he3.trans he4).trans he6, ?_⟩
      · exact hasP
      · rw [hst, hlv]
        exact hf6.mono (he3.trans he4).size
    · have hjn : ((-ws.getD k 0).toNat - 1) < ys.length := by omega
      have hgj : (vecs ys).getD ((-ws.getD k 0).toNat - 1) [] = (ys.getD ((-ws.getD k 0).toNat - 1) 1).v := by rw [vecs_getD ys hjn, getD_one hjn]
      have hlv : letV ys (ws.getD k 0) = (ys.getD ((-ws.getD k 0).toNat - 1) 1)⁻¹ := by unfold letV; rw [if_neg (by omega), show (-ws.getD k 0 - 1).toNat = (-ws.getD k 0).toNat - 1 by omega]
      refine go ?_
      refine d_region fun w4 he4 _ => ?_
      refine dgo ?_
      refine dce (l10Inv_ok (p := q) (x := ys.getD ((-ws.getD k 0).toNat - 1) 1) hgj) (next := fun v5 w5 h5 => ?_)
      obtain ⟨he5, hf5⟩ := h5
      refine dce (l08Mul_ok (p := q) (x := evalW ys (ws.take k)) (y := (ys.getD ((-ws.getD k 0).toNat - 1) 1)⁻¹) rfl rfl) (next := fun v6 w6 h6 => ?_)
      obtain ⟨he6, hf6⟩ := h6
      refine dgo ?_
      refine d_end (h := ?_)
      refine go ?_
      have hE := (he3.trans he4).trans he5
      refine forQ_normal (by omega) ⟨v6, ?_, hE.trans he6, ?_⟩
      · exact hasP
      · rw [hst, hlv]
        exact hf6.mono hE.size
  · obtain rfl : k = ws.length := by omega
    rw [List.take_length] at hf3
    refine go ?_
    exact ret1 ⟨he1.trans he3, hf3.mono hz1⟩
set_option maxHeartbeats 2000000 in
theorem l16Relators_ok {p q : Pr} (hvp : Valid p) [hc : ConAll q] {ys : List (El q)} (hyl : ys.length = p.n) {w : World} {vp vq vi : Value} {us : List Value} {xss : List (List Int)} {lo hi lo1 hi1 lo2 hi2 : Nat} [hp : Pres lo hi w vp p] [hq : Pres lo1 hi1 w vq q] [hu : Pc.Rows lo2 hi2 w vi us xss] (hus : xss = vecs ys) :
    Calls Tryz.prog 117 #[vp, vq, vi] w (Ret fun v w' => ∃ b, v = .bool b ∧ (b = true ↔ RelOk p ys) ∧ Ext w w') := by
  subst hus
  have hn6 := hvp.n6
  have hq6 := hc.valid.n6
  have hvl : (vecs ys).length = ys.length := by simp
  have hrp := rels_props hvp
  replace hp := hp.wide
  replace hq := hq.wide
  replace hu := hu.wide
  obtain ⟨vo, vpw, vc, ps, cs, css, rfl, h1, h2, h3⟩ := hp.ex
  obtain ⟨uo, upw, uc, qs, ds, dss, rfl, k1, k2, k3⟩ := hq.ex
  refine enter (args := [.agg #[vo, vpw, vc], .agg #[uo, upw, uc], vi]) (l := [.tmp 6]) Tryz.func117 rfl rfl Tryz.ntmps117 (by simp) ?_
  refine go ?_
  refine st_box3 (by ((try simp only [ev_tmp, ev_const, ev_func, get_put, get_args, get_putL, get_putL_nil, Nat.reduceEqDiff, reduceIte, List.getD_cons_zero, List.getD_cons_succ, List.getD_nil]); first | done | with_reducible rfl)) (by first | exact True.intro | exact ⟨_, rfl, by ((try simp only [ev_tmp, ev_const, ev_func, get_put, get_args, get_putL, get_putL_nil, Nat.reduceEqDiff, reduceIte, List.getD_cons_zero, List.getD_cons_succ, List.getD_nil, Bool.not_true, Bool.not_false]); first | done | with_reducible rfl)⟩) fun w0 b0 he0 hb0 hs0 ha0 ha1 ha2 => ?_
  refine go ?_
  refine st_box3 (by ((try simp only [ev_tmp, ev_const, ev_func, get_put, get_args, get_putL, get_putL_nil, Nat.reduceEqDiff, reduceIte, List.getD_cons_zero, List.getD_cons_succ, List.getD_nil]); first | done | with_reducible rfl)) (by first | exact True.intro | exact ⟨_, rfl, by ((try simp only [ev_tmp, ev_const, ev_func, get_put, get_args, get_putL, get_putL_nil, Nat.reduceEqDiff, reduceIte, List.getD_cons_zero, List.getD_cons_succ, List.getD_nil, Bool.not_true, Bool.not_false]); first | done | with_reducible rfl)⟩) fun w1 b he1 hb1 hs1 hc0 hc1 hc2 => ?_
  have hE1 := he0.trans he1
  refine go ?_
  refine rc (l07Relators_ok (p := p) hvp) (next := fun v2 w2 h4 => ?_)
  obtain ⟨he2, rs, hrs, hG2⟩ := h4
  have hR2 := hG2.rows
  rw [hrs] at hR2
  have hul2 := hR2.vals.len
  have hE2 := hE1.trans he2
  refine go ?_
  refine r_for (rels p).length (fun k ρ w' => Has ρ [(2, vi), (4, .pointer (some ⟨b, 0, none⟩)), (7, v2), (8, .int .i64 k)] ∧ Ext w2 w' ∧ ∀ j, j < k → evalW ys ((rels p).getD j []) = 1) ?_ ?_
  · refine ⟨?_, Ext.refl _, fun j hj => by omega⟩
    exact hasP
  rintro k ρ w3 hk ⟨hH, he3, hI⟩
  refine rwp_has hH fun ρ0 => ?_
  have hE3 := hE2.trans he3
  refine go ?_
  refine c_if (fun h4 => ?_) (fun h4 => ?_)
  · have hkn : k < (rels p).length := by omega
    have e1 : (rels p).getD k [] = (rels p)[k] := by simp [hkn]
    have hwk := hrp.2 _ (List.getElem_mem hkn)
    rw [← e1, ← hyl] at hwk
    have hel := (evalW ys ((rels p).getD k [])).inr.len
    refine go ?_
    refine d_region fun w4 he4 _ => ?_
    refine dgo ?_
    refine dce (l10Eval_ok (q := q) (ys := ys) (ws := (rels p).getD k []) hwk.2 (by omega) (by omega) rfl) (next := fun v5 w5 h5 => ?_)
    obtain ⟨he5, hf5⟩ := h5
    have hi5 := hf5.ints
    refine dce (l01Zero_ok (xs := (evalW ys ((rels p).getD k [])).v) (by omega)) (next := fun v6 w6 h6 => ?_)
    obtain ⟨b6, rfl, hb6, he6⟩ := h6
    rw [← el_one_iff] at hb6
    refine dgo ?_
    refine d_end (h := ?_)
    have hE6 := (he4.trans he5).trans he6
    refine go ?_
    refine c_b (fun h7 => ?_) (fun h7 => ?_)
    · refine go ?_
      refine ret1 ⟨false, rfl, ⟨fun h => (by cases h), fun h => ?_⟩, hE3.trans hE6⟩
      rw [hb6.2 (h k hkn)] at h7; cases h7
    · refine go ?_
      refine forQ_normal (by omega) ⟨?_, he3.trans hE6, fun j hj => ?_⟩
      · exact hasP
      · by_cases e : j = k
        · subst e; exact hb6.1 (by simpa using h7)
        · exact hI j (by omega)
  · refine go ?_
    exact ret1 ⟨true, rfl, ⟨fun _ j hj => hI j (by omega), fun _ => rfl⟩, hE3⟩
end Go.Proofs.YtnphljflkpekmaaGreat

/-
  Walks: the reference's IsAutomorphism, IsIsomorphism, ApplyAutomorphism, ComposeAutomorphisms.
  Conditions: stated at each theorem.
-/
namespace Go.Proofs.YtnphljflkpekmaaGreat
open Go Go.Pc
theorem inr_small {p : Pr} (hv : Valid p) {xs : List Int} (h : InR p xs) : ∀ i, i < xs.length → 0 ≤ xs.getD i 0 ∧ xs.getD i 0 ≤ 7 := fun i hi => by
  have h1 := h.rng i (by have := h.len; omega)
  have h2 := hv.opos (i := i) (by have := h.len; omega)
  omega
set_option maxHeartbeats 1000000 in
theorem l16Apply_ok {q : Pr} [hc : ConAll q] {ys : List (El q)} {x : List Int} (hyl : ys.length ≤ 1000) (hxl : x.length = ys.length) (hxr : ∀ i, i < x.length → 0 ≤ x.getD i 0 ∧ x.getD i 0 ≤ 7) {w : World} {vq vi vx : Value} {us : List Value} {xss : List (List Int)} {xs : List Int} {lo hi lo1 hi1 lo2 hi2 : Nat} [hp : Pres lo hi w vq q] [hu : Pc.Rows lo1 hi1 w vi us xss] [hx : Ints lo2 hi2 w vx xs] (hus : xss = vecs ys) (hxe : xs = x) :
    Calls Tryz.prog 74 #[vq, vi, vx] w (Ret fun v w' => Ext w w' ∧ Fr w.heap.size w' v (imgE ys x).v) := by
  subst hxe
  obtain ⟨vo, vpw, vc, ps, cs, css, rfl, h1, h2, h3⟩ := hp.ex
  refine enter (args := [.agg #[vo, vpw, vc], vi, vx]) (l := [.tmp 6]) Tryz.func74 rfl rfl Tryz.ntmps74 (by simp) ?_
  refine go ?_
  refine st_box3 (by ((try simp only [ev_tmp, ev_const, ev_func, get_put, get_args, get_putL, get_putL_nil, Nat.reduceEqDiff, reduceIte, List.getD_cons_zero, List.getD_cons_succ, List.getD_nil]); first | done | with_reducible rfl)) (by first | exact True.intro | exact ⟨_, rfl, by ((try simp only [ev_tmp, ev_const, ev_func, get_put, get_args, get_putL, get_putL_nil, Nat.reduceEqDiff, reduceIte, List.getD_cons_zero, List.getD_cons_succ, List.getD_nil, Bool.not_true, Bool.not_false]); first | done | with_reducible rfl)⟩) fun w1 b he1 hb1 hs1 hc0 hc1 hc2 => ?_
  refine go ?_
  refine rc (l12Product_ok (p := q) (ys := ys) (as_ := xs) hyl hus hxl (fun i hi => by have := hxr i (by omega); omega)) (next := fun v2 w2 h4 => ?_)
  obtain ⟨he2, hf2⟩ := h4
  refine go ?_
  exact ret1 ⟨he1.trans he2, hf2.mono he1.size⟩
end Go.Proofs.YtnphljflkpekmaaGreat

/-
  The builtin copy into a list of the call's own; operations on literal words.
  Conditions: none; nothing of the program stands here.
-/
namespace Go.Pc
open Go Go.RowKit
section
variable {P : Program} {N : Nat} {ops : Array Oper} {π : List Nat} {K : Env → World → Prop} {ρ : Env} {w w0 : World} {l : List Oper}
variable {i : Nat} {ty : TypeId} {pos : String} {after : Array Edge} {g : Option (Nat × Bool)} {d : Nat}
theorem rd_bin {o : BinOp} {x y : Operand} {a b v : Value} {tx tyy : TypeId} (hx : ev ρ x = a) (hy : ev ρ y = b) (ho : ∀ w, (eqGuard o tx x y a b).run P w = .ok () w) (hv : ∀ w, (binOp o tx a b).run P w = .ok v w) : Rd P (.binOp o tx x y tyy) ty ρ w v := by
  constructor; intro _ _ _ _
  simp [execOp, hx, hy, hv, ho]
theorem rd_conv {x : Operand} {n m : Int} {k k' : IntKind} {src dst : TypeId} {u : TypeDesc} (hx : ev ρ x = .int k n) (hs : P.underlying src = some u) (hd : P.underlying dst = some (.int k')) (hv : k'.wrap n = m) : Rd P (.convert src dst x) ty ρ w (.int k' m) := by
  constructor; intro _ _ _ _
  simp [execOp, hx, convert, run_underlying hs, run_underlying hd, Conv.intToInt, hv]
theorem splice_take {α : Type} (L us cs : List α) {n o : Nat} (h : L.take n = us) (hn : us.length = n) (hf : o + cs.length ≤ n) : (L.take o ++ cs ++ L.drop (o + cs.length)).take n = us.take o ++ cs ++ us.drop (o + cs.length) := by
  obtain ⟨r, rfl⟩ : ∃ r, L = us ++ r := ⟨L.drop n, by rw [← h, List.take_append_drop]⟩
  have e1 : (us ++ r).take o = us.take o := List.take_append_of_le_length (by omega)
  have e2 : (us ++ r).drop (o + cs.length) = us.drop (o + cs.length) ++ r := List.drop_append_of_le_length (by omega)
  rw [e1, e2, ← List.append_assoc]
  refine List.take_left' ?_
  simp only [List.length_append, List.length_take, List.length_drop]
  omega
theorem run_copyI {t e b bytes n dl dc sl sc : Nat} {x y : Operand} {z v : Value} {a : Addr} {xs cs : List Int} [ht : SlT P t e] [he : ElT P e 1 bytes z] (ho : OwnI e b w v xs) (hx : ev ρ x = .slice (some ⟨b, n, none⟩) dl dc) (hy : ev ρ y = .slice (some a) sl sc)
    (hn : cs.length = Nat.min sl dl) (hsrc : ∀ (j : Nat) (u : Int), cs[j]? = some u → w.cell? (a.add j) = some (.int .i64 u)) (hf : n + cs.length ≤ xs.length) :
    ∃ w', Ex P (.call { callee := .builtin .copy, args := #[x, y], argTypes := #[t, t] }) ty ρ w (.int .i64 cs.length) w' ∧ Chg b w w' ∧ w'.heap.size = w.heap.size ∧ OwnI e b w' v (xs.take n ++ cs ++ xs.drop (n + cs.length)) := by
  obtain ⟨cap, cur, hv, hb, h1, h2, h3, h4⟩ := ho.own.ex
  obtain ⟨i, hi, hs, hby, hz'⟩ := he.ex
  have hml : (cs.map (Value.int .i64)).length = cs.length := by simp
  have hxl : (xs.map (Value.int .i64)).length = xs.length := by simp
  have hrun := run_copy_row (P := P) w t t ty e b n dl dc a sl sc cur e (cs.map (Value.int .i64)) ht.eq (by simp [hi, hs]) hb (by rw [hml]; exact hn) (fun j u hu => by
    rw [List.getElem?_map] at hu
    cases hj : cs[j]? with
    | none => rw [hj] at hu; cases hu
    | some k => rw [hj] at hu; injection hu with hu; rw [← hu]; exact hsrc j k hj) (by rw [hml]; omega) (fun u hu => by
    obtain ⟨k, _, rfl⟩ := List.mem_map.1 hu
    rfl)
  refine ⟨w.setRow b (cur.toList.take n ++ cs.map (Value.int .i64) ++ cur.toList.drop (n + (cs.map (Value.int .i64)).length)).toArray, ⟨fun _ _ _ _ => ?_⟩, ⟨⟨rfl, rfl, rfl, ?_, fun k hk hne => setRow_other w b k _ (fun e => hne (by simp [e]))⟩⟩, ?_, ⟨⟨cap, _, ?_, setRow_heap w b _ _ e _ hb, ?_, h2, ?_, ?_⟩⟩⟩
  · simp [execOp, resolve, invoke, builtin, hx, hy, hrun, goInt]
  · simp
  · simp
  · rw [hv]
    simp only [List.length_map, List.length_append, List.length_take, List.length_drop]
    congr 1
    omega
  · simp only [List.length_map, List.length_append, List.length_take, List.length_drop]
    omega
  · have : cur.toList.length = cap := by simpa using h3
    simp only [List.size_toArray, List.length_append, List.length_take, List.length_drop, hml]
    omega
  · rw [List.toList_toArray]
    have e1 : ((xs.take n ++ cs ++ xs.drop (n + cs.length)).map (Value.int .i64)).length = (xs.map (Value.int .i64)).length := by
      simp only [List.length_map, List.length_append, List.length_take, List.length_drop]; omega
    rw [e1, splice_take cur.toList (xs.map (Value.int .i64)) (cs.map (Value.int .i64)) h4 rfl (by rw [hml, hxl]; exact hf)]
    simp only [List.map_append, List.map_take, List.map_drop, hml]
theorem st_copyi {t e b bytes n dl dc sl sc : Nat} {x y : Operand} {z v : Value} {a : Addr} {xs cs : List Int} [ht : SlT P t e] [he : ElT P e 1 bytes z] (ho : OwnI e b w v xs) (hx : ev ρ x = .slice (some ⟨b, n, none⟩) dl dc) (hy : ev ρ y = .slice (some a) sl sc)
    (hn : cs.length = Nat.min sl dl) (hsrc : ∀ (j : Nat) (u : Int), cs[j]? = some u → w.cell? (a.add j) = some (.int .i64 u)) (hf : n + cs.length ≤ xs.length)
    (next : ∀ w', Chg b w w' → OwnI e b w' v (xs.take n ++ cs ++ xs.drop (n + cs.length)) → rops P N ops K l (put ρ d (.int .i64 cs.length)) w') (hg : Wants ops ρ g := by first | exact True.intro | exact ⟨_, rfl, by ((try simp only [ev_tmp, ev_const, ev_func, get_put, get_args, get_putL, get_putL_nil, Nat.reduceEqDiff, reduceIte, List.getD_cons_zero, List.getD_cons_succ, List.getD_nil, Bool.not_true, Bool.not_false]); first | done | with_reducible rfl)⟩) :
    rops P N ops K (⟨some d, .call { callee := .builtin .copy, args := #[x, y], argTypes := #[t, t] }, ty, pos, after, g⟩ :: l) ρ w := by
  obtain ⟨w', h1, h2, h3, h4⟩ := run_copyI (P := P) (ρ := ρ) (ty := ty) (t := t) ho hx hy hn hsrc hf
  exact st_ex hg h1 (next w' h2 h4)
theorem z_copyi {t e b bytes n dl dc sl sc : Nat} {x y : Operand} {z v : Value} {a : Addr} {xs cs : List Int} [ht : SlT P t e] [he : ElT P e 1 bytes z] (ho : OwnI e b w v xs) (hi : opAt ops π i = some ⟨some d, .call { callee := .builtin .copy, args := #[x, y], argTypes := #[t, t] }, ty, pos, after, g⟩ := by exact rfl) (hx : ev ρ x = .slice (some ⟨b, n, none⟩) dl dc) (hy : ev ρ y = .slice (some a) sl sc)
    (hn : cs.length = Nat.min sl dl) (hsrc : ∀ (j : Nat) (u : Int), cs[j]? = some u → w.cell? (a.add j) = some (.int .i64 u)) (hf : n + cs.length ≤ xs.length)
    (next : ∀ w', Chg b w w' → OwnI e b w' v (xs.take n ++ cs ++ xs.drop (n + cs.length)) → dops P N ops π (Chg b w0) K (i + 1) (put ρ d (.int .i64 cs.length)) w')
    (hn1 : nextOk ops π i = true := by decide +kernel) (hd : d < N := by decide) (hg : Wants ops ρ g := by first | exact True.intro | exact ⟨_, rfl, by ((try simp only [ev_tmp, ev_const, ev_func, get_put, get_args, get_putL, get_putL_nil, Nat.reduceEqDiff, reduceIte, List.getD_cons_zero, List.getD_cons_succ, List.getD_nil, Bool.not_true, Bool.not_false]); first | done | with_reducible rfl)⟩) :
    dops P N ops π (Chg b w0) K i ρ w := by
  obtain ⟨w', h1, h2, h3, h4⟩ := run_copyI (P := P) (ρ := ρ) (ty := ty) (t := t) ho hx hy hn hsrc hf
  exact dt_ex hi hn1 hd hg h1 (fun hS => hS.trans h2) (next w' h2 h4)
end
end Go.Pc

/-
  Walks: the program's words (slices.Reverse, invertWord, normalWord).
  Conditions: stated at each theorem.
-/
namespace Go.Proofs.YtnphljflkpekmaaGreat
open Go Go.Pc
theorem _root_.Go.Pc.Ex.ofRd {P : Program} {o : Op} {ty : TypeId} {ρ : Env} {w : World} {v : Value} (h : Rd P o ty ρ w v) : Ex P o ty ρ w v w := ⟨h.run⟩
set_option maxHeartbeats 2000000 in
theorem sliceReverse_ok {e b : Nat} {w : World} {v : Value} {xs : List Int} [ho : OwnI e b w v xs] (hl : xs.length ≤ 1000000) :
    Calls Tryz.prog 190 #[v] w (Ret fun _ w' => Chg b w w' ∧ OwnI e b w' v xs.reverse) := by
  refine enter (args := [v]) (l := []) Tryz.func190 rfl rfl Tryz.ntmps190 (by simp) ?_
  refine go ?_
  refine r_for xs.length (fun k ρ w' => ∃ ys, Has ρ [(0, v), (2, .int .i64 k), (3, .int .i64 ((xs.length : Int) - 1 - k))] ∧ Chg b w w' ∧ OwnI e b w' v ys ∧ ys.length = xs.length ∧ 2 * k ≤ xs.length ∧ (∀ t, t < k → ys.getD t 0 = xs.getD (xs.length - 1 - t) 0 ∧ ys.getD (xs.length - 1 - t) 0 = xs.getD t 0) ∧ ∀ t, k ≤ t → t + k < xs.length → ys.getD t 0 = xs.getD t 0) ?_ ?_
  · refine ⟨xs, ?_, Chg.refl _ _, ho, rfl, by omega, fun t ht => by omega, fun t _ _ => rfl⟩
    exact hasP
  clear ho
  rintro k ρ w2 hk ⟨ys, hH, hc2, ho2, hyl, hk2, hI, hJ⟩
  refine rwp_has hH fun ρ0 => ?_
  refine go ?_
  refine c_if (fun h4 => ?_) (fun h4 => ?_)
  · have hkn : 2 * k + 1 < xs.length := by omega
    obtain ⟨j, hj⟩ : ∃ j, xs.length - 1 - k = j := ⟨_, rfl⟩
    have hcast : ((xs.length : Int) - 1 - k) = (j : Int) := by omega
    have hjn : j < ys.length := by omega
    have hkn2 : k < ys.length := by omega
    have hkj : k < j := by omega
    rw [hcast]
    refine go ?_
    have hcast2 : ((xs.length : Int) - 1 - ((k + 1 : Nat) : Int)) = (j : Int) - 1 := by omega
    have hstepI : ∀ t, t < k + 1 → ((ys.set k (ys.getD j 0)).set j (ys.getD k 0)).getD t 0 = xs.getD (xs.length - 1 - t) 0 ∧ ((ys.set k (ys.getD j 0)).set j (ys.getD k 0)).getD (xs.length - 1 - t) 0 = xs.getD t 0 := fun t ht => by
      by_cases e : t = k
      · subst e
        rw [hj, Pc.getD_set_ne _ _ _ _ (by omega), Pc.getD_set_eq _ _ _ hkn2, Pc.getD_set_eq _ _ _ (by simpa using hjn)]
        exact ⟨hJ j (by omega) (by omega), hJ t (by omega) (by omega)⟩
      · rw [Pc.getD_set_ne _ _ _ _ (by omega), Pc.getD_set_ne _ _ _ _ (by omega), Pc.getD_set_ne _ _ _ _ (by omega), Pc.getD_set_ne _ _ _ _ (by omega)]
        exact hI t (by omega)
    have hstepJ : ∀ t, k + 1 ≤ t → t + (k + 1) < xs.length → ((ys.set k (ys.getD j 0)).set j (ys.getD k 0)).getD t 0 = xs.getD t 0 := fun t h1 h2 => by
      rw [Pc.getD_set_ne _ _ _ _ (by omega), Pc.getD_set_ne _ _ _ _ (by omega)]
      exact hJ t (by omega) (by omega)
    refine z_order b [0, 1, 2, 3, 4, 5, 6, 8, 9, 10, 7, 11, 12, 13, 14, 15] (h := fun w3 he3 _ => ?_)
    have hi3 : Ints b (b + 1) w3 v ys := ⟨(OwnI.ext (x := he3) (h := ho2)).own.toSl⟩
    refine zgo ?_
    refine dt_fork (π' := [0, 1, 2, 3, 4, 5, 6, 8, 9, 10, 11, 7, 12, 13, 14, 15]) (by decide) rfl rfl (by decide +kernel) ?_ ?_
    · refine dstp_ex (v := .int .i64 (ys.getD j 0)) (by exact rfl) (by decide) (by first | exact True.intro | exact ⟨_, rfl, by ((try simp only [ev_tmp, ev_const, ev_func, get_put, get_args, get_putL, get_putL_nil, Nat.reduceEqDiff, reduceIte, List.getD_cons_zero, List.getD_cons_succ, List.getD_nil, Bool.not_true, Bool.not_false]); first | done | with_reducible rfl)⟩) (Ex.ofRd (rd_load_ints (by ((try simp only [ev_tmp, ev_const, ev_func, get_put, get_args, get_putL, get_putL_nil, Nat.reduceEqDiff, reduceIte, List.getD_cons_zero, List.getD_cons_succ, List.getD_nil]); first | done | with_reducible rfl)) hjn)) id ?_
      refine dt_ex (v := .int .i64 (ys.getD k 0)) (by exact rfl) (by decide +kernel) (by decide) (by first | exact True.intro | exact ⟨_, rfl, by ((try simp only [ev_tmp, ev_const, ev_func, get_put, get_args, get_putL, get_putL_nil, Nat.reduceEqDiff, reduceIte, List.getD_cons_zero, List.getD_cons_succ, List.getD_nil, Bool.not_true, Bool.not_false]); first | done | with_reducible rfl)⟩) (Ex.ofRd (rd_load_ints (by ((try simp only [ev_tmp, ev_const, ev_func, get_put, get_args, get_putL, get_putL_nil, Nat.reduceEqDiff, reduceIte, List.getD_cons_zero, List.getD_cons_succ, List.getD_nil]); first | done | with_reducible rfl)) hkn2)) id ?_
      refine zgo ?_
      refine z_store_int (h := OwnI.ext (x := he3) (h := ho2)) (m := k) (hx := (by ((try simp only [ev_tmp, ev_const, ev_func, get_put, get_args, get_putL, get_putL_nil, Nat.reduceEqDiff, reduceIte, List.getD_cons_zero, List.getD_cons_succ, List.getD_nil]); first | done | with_reducible rfl))) (hy := (by ((try simp only [ev_tmp, ev_const, ev_func, get_put, get_args, get_putL, get_putL_nil, Nat.reduceEqDiff, reduceIte, List.getD_cons_zero, List.getD_cons_succ, List.getD_nil]); first | done | with_reducible rfl))) (hm := hkn2) (next := fun w5 hc5 hs5 ho5 => ?_)
      refine zgo ?_
      refine z_store_int (h := ho5) (m := j) (hx := (by ((try simp only [ev_tmp, ev_const, ev_func, get_put, get_args, get_putL, get_putL_nil, Nat.reduceEqDiff, reduceIte, List.getD_cons_zero, List.getD_cons_succ, List.getD_nil]); first | done | with_reducible rfl))) (hy := (by ((try simp only [ev_tmp, ev_const, ev_func, get_put, get_args, get_putL, get_putL_nil, Nat.reduceEqDiff, reduceIte, List.getD_cons_zero, List.getD_cons_succ, List.getD_nil]); first | done | with_reducible rfl))) (hm := by simpa using hjn) (next := fun w6 hc6 hs6 ho6 => ?_)
      refine z_end ?_
      refine go ?_
      refine forQ_normal (by omega) ⟨_, ?_, (hc2.grow he3).trans (hc5.trans hc6), ho6, by simp [hyl], by omega, fun t ht => ?_, fun t ht ht2 => ?_⟩
      · rw [← hcast2]
        exact hasP
      · exact hstepI t ht
      · exact hstepJ t ht ht2
    · refine dstp_ex (v := .int .i64 (ys.getD k 0)) (by exact rfl) (by decide) (by first | exact True.intro | exact ⟨_, rfl, by ((try simp only [ev_tmp, ev_const, ev_func, get_put, get_args, get_putL, get_putL_nil, Nat.reduceEqDiff, reduceIte, List.getD_cons_zero, List.getD_cons_succ, List.getD_nil, Bool.not_true, Bool.not_false]); first | done | with_reducible rfl)⟩) (Ex.ofRd (rd_load_ints (by ((try simp only [ev_tmp, ev_const, ev_func, get_put, get_args, get_putL, get_putL_nil, Nat.reduceEqDiff, reduceIte, List.getD_cons_zero, List.getD_cons_succ, List.getD_nil]); first | done | with_reducible rfl)) hkn2)) id ?_
      refine dt_ex (v := .int .i64 (ys.getD j 0)) (by exact rfl) (by decide +kernel) (by decide) (by first | exact True.intro | exact ⟨_, rfl, by ((try simp only [ev_tmp, ev_const, ev_func, get_put, get_args, get_putL, get_putL_nil, Nat.reduceEqDiff, reduceIte, List.getD_cons_zero, List.getD_cons_succ, List.getD_nil, Bool.not_true, Bool.not_false]); first | done | with_reducible rfl)⟩) (Ex.ofRd (rd_load_ints (by ((try simp only [ev_tmp, ev_const, ev_func, get_put, get_args, get_putL, get_putL_nil, Nat.reduceEqDiff, reduceIte, List.getD_cons_zero, List.getD_cons_succ, List.getD_nil]); first | done | with_reducible rfl)) hjn)) id ?_
      refine zgo ?_
      refine z_store_int (h := OwnI.ext (x := he3) (h := ho2)) (m := k) (hx := (by ((try simp only [ev_tmp, ev_const, ev_func, get_put, get_args, get_putL, get_putL_nil, Nat.reduceEqDiff, reduceIte, List.getD_cons_zero, List.getD_cons_succ, List.getD_nil]); first | done | with_reducible rfl))) (hy := (by ((try simp only [ev_tmp, ev_const, ev_func, get_put, get_args, get_putL, get_putL_nil, Nat.reduceEqDiff, reduceIte, List.getD_cons_zero, List.getD_cons_succ, List.getD_nil]); first | done | with_reducible rfl))) (hm := hkn2) (next := fun w5 hc5 hs5 ho5 => ?_)
      refine zgo ?_
      refine z_store_int (h := ho5) (m := j) (hx := (by ((try simp only [ev_tmp, ev_const, ev_func, get_put, get_args, get_putL, get_putL_nil, Nat.reduceEqDiff, reduceIte, List.getD_cons_zero, List.getD_cons_succ, List.getD_nil]); first | done | with_reducible rfl))) (hy := (by ((try simp only [ev_tmp, ev_const, ev_func, get_put, get_args, get_putL, get_putL_nil, Nat.reduceEqDiff, reduceIte, List.getD_cons_zero, List.getD_cons_succ, List.getD_nil]); first | done | with_reducible rfl))) (hm := by simpa using hjn) (next := fun w6 hc6 hs6 ho6 => ?_)
      refine z_end ?_
      refine go ?_
      refine forQ_normal (by omega) ⟨_, ?_, (hc2.grow he3).trans (hc5.trans hc6), ho6, by simp [hyl], by omega, fun t ht => ?_, fun t ht ht2 => ?_⟩
      · rw [← hcast2]
        exact hasP
      · exact hstepI t ht
      · exact hstepJ t ht ht2
  · refine go ?_
    refine retQ_0 ⟨hc2, ?_⟩
    have e : ys = xs.reverse := list_ext0 (by simp [hyl]) fun t ht => by
      have hr : xs.reverse.getD t 0 = xs.getD (xs.length - 1 - t) 0 := by
        have h1 : t < xs.reverse.length := by simp; omega
        have h2 : xs.length - 1 - t < xs.length := by omega
        rw [List.getD_eq_getElem?_getD, List.getElem?_eq_getElem h1, List.getD_eq_getElem?_getD, List.getElem?_eq_getElem h2, List.getElem_reverse]
      rw [hr]
      by_cases e1 : t < k
      · exact (hI t e1).1
      · by_cases e2 : t + k < xs.length
        · rw [hJ t (by omega) e2, show xs.length - 1 - t = t by omega]
        · have h3 := (hI (xs.length - 1 - t) (by omega)).2
          rw [show xs.length - 1 - (xs.length - 1 - t) = t by omega] at h3
          exact h3
    rw [← e]
    exact ho2
theorem sliceReverse_nil {w : World} {v : Value} {lo hi : Nat} [hx : Ints lo hi w v []] :
    Calls Tryz.prog 190 #[v] w (Ret fun _ w' => w' = w) := by
  have h0 : (([] : List Int).length : Int) = 0 := rfl
  refine enter (args := [v]) (l := []) Tryz.func190 rfl rfl Tryz.ntmps190 (by simp) ?_
  refine go ?_
  refine r_for 0 (fun k ρ w' => Has ρ [(0, v), (2, .int .i64 0), (3, .int .i64 ((([] : List Int).length : Int) - 1))] ∧ w' = w) ?_ ?_
  · refine ⟨?_, rfl⟩
    exact hasP
  rintro k ρ w2 hk ⟨hH, rfl⟩
  refine rwp_has hH fun ρ0 => ?_
  refine go ?_
  refine c_if (fun h4 => ?_) (fun h4 => ?_)
  · omega
  · refine go ?_
    exact retQ_0 rfl
theorem app_repl' (w : List Int) (m : Nat) (a : Int) : (w ++ List.replicate m a) ++ [a] = w ++ List.replicate (m + 1) a := by
  rw [List.append_assoc]
  congr 1
  exact (List.replicate_succ' (n := m) (a := a)).symm
set_option maxHeartbeats 2000000 in
theorem normalWord_ok {e : List Int} {w : World} {vx : Value} {lo hi : Nat} [hx : Ints lo hi w vx e] (hl : e.length ≤ 100) (hr : ∀ i, i < e.length → 0 ≤ e.getD i 0 ∧ e.getD i 0 ≤ 100) :
    Calls Tryz.prog 165 #[vx] w (Ret fun v w' => Ext w w' ∧ GrowI 2 w.heap.size w' v (wordV e)) := by
  have hwl : ∀ k, (wordV (e.take k)).length ≤ 10000 := fun k => by
    have h1 := wordA_len (b := 100) (e.take k) 0 fun x hx => by
      obtain ⟨i, hi, rfl⟩ := List.getElem_of_mem (List.mem_of_mem_take hx)
      have := (hr i hi).2
      simpa [hi] using this
    have h2 : (e.take k).length * 100 ≤ 100 * 100 := Nat.mul_le_mul_right _ (by rw [List.length_take]; omega)
    exact Nat.le_trans h1 h2
  refine enter (args := [vx]) (l := [.tmp 2]) Tryz.func165 rfl rfl Tryz.ntmps165 (by simp) ?_
  refine go ?_
  refine r_for e.length (fun k ρ w' => ∃ vl, Has ρ [(3, vl), (6, vx), (7, .int .i64 e.length), (8, .int .i64 k)] ∧ Ext w w' ∧ GrowI 2 w.heap.size w' vl (wordV (e.take k))) ?_ ?_
  · refine ⟨nilv, ?_, Ext.refl _, GrowI.nil _ _ _⟩
    exact hasP
  rintro k ρ w2 hk ⟨vl, hH, he2, hG2⟩
  refine rwp_has hH fun ρ0 => ?_
  refine go ?_
  refine c_if (fun h4 => ?_) (fun h4 => ?_)
  · have hkn : k < e.length := by omega
    have hrk := hr k hkn
    have hst := wordV_take hkn
    have hwk := hwl k
    refine go ?_
    refine r_for (e.getD k 0).toNat (fun j ρ w' => ∃ vl, Has ρ [(3, vl), (4, .int .i64 k), (6, vx), (7, .int .i64 e.length), (8, .int .i64 k), (13, .int .i64 (e.getD k 0)), (14, .int .i64 j)] ∧ Ext w w' ∧ GrowI 2 w.heap.size w' vl (wordV (e.take k) ++ List.replicate j ((k : Int) + 1))) ?_ ?_
    · refine ⟨vl, ?_, he2, by simpa using hG2⟩
      exact hasP
    clear hG2 he2
    rintro j ρ w3 hj ⟨vl, hH3, he3, hG3⟩
    refine rwp_has hH3 fun ρ1 => ?_
    have hz3 := he3.size
    refine go ?_
    refine c_if (fun h5 => ?_) (fun h5 => ?_)
    · refine go ?_
      refine st_growi hG3 hz3 (by simp only [List.length_append, List.length_replicate]; omega) (next := fun v4 v5 w5 hG5 hx5 hz5 hgs5 => ?_)
      refine go ?_
      refine forQ_normal (by omega) ⟨v5, ?_, hx5 w he3 (Nat.le_refl _), ?_⟩
      · exact hasP
      · rw [← app_repl']; exact hG5
    · obtain rfl : j = (e.getD k 0).toNat := by omega
      rw [← hst] at hG3
      refine go ?_
      refine forQ_normal (by omega) ⟨vl, ?_, he3, hG3⟩
      exact hasP
  · obtain rfl : k = e.length := by omega
    rw [List.take_length] at hG2
    refine go ?_
    exact ret1 ⟨he2, hG2⟩
set_option maxHeartbeats 2000000 in
theorem invertWord_ok {e : List Int} {w : World} {vx : Value} {lo hi : Nat} [hx : Ints lo hi w vx e] (hl : e.length ≤ 100000) (hr : ∀ i, i < e.length → -1000000 ≤ e.getD i 0 ∧ e.getD i 0 ≤ 1000000) :
    Calls Tryz.prog 164 #[vx] w (Ret fun v w' => Ext w w' ∧ GrowI 2 w.heap.size w' v (invW e)) := by
  have hml : (e.map fun x => -x).length = e.length := by simp
  refine enter (args := [vx]) (l := [.tmp 2]) Tryz.func164 rfl rfl Tryz.ntmps164 (by simp) ?_
  refine go ?_
  refine r_for e.length (fun k ρ w' => ∃ vl, Has ρ [(3, vl), (6, vx), (7, .int .i64 e.length), (8, .int .i64 k)] ∧ Ext w w' ∧ GrowI 2 w.heap.size w' vl ((e.map fun x => -x).take k)) ?_ ?_
  · refine ⟨nilv, ?_, Ext.refl _, GrowI.nil _ _ _⟩
    exact hasP
  rintro k ρ w2 hk ⟨vl, hH, he2, hG2⟩
  refine rwp_has hH fun ρ0 => ?_
  have hz2 := he2.size
  refine go ?_
  refine c_if (fun h4 => ?_) (fun h4 => ?_)
  · have hkn : k < e.length := by omega
    have hri := hr k hkn
    have hst : (e.map fun x => -x).take (k + 1) = (e.map fun x => -x).take k ++ [-(e.getD k 0)] := by
      rw [List.take_succ_eq_append_getElem (by omega)]
      congr 2
      simp [hkn]
    refine go ?_
    refine st_growi hG2 hz2 (by rw [List.length_take]; omega) (next := fun v4 v5 w5 hG5 hx5 hz5 hgs5 => ?_)
    refine go ?_
    refine forQ_normal (by omega) ⟨v5, ?_, hx5 w he2 (Nat.le_refl _), ?_⟩
    · exact hasP
    · rw [hst]; exact hG5
  · obtain rfl : k = e.length := by omega
    rw [List.take_of_length_le (by omega)] at hG2
    by_cases hn : e = []
    · subst hn
      have hi2 : Ints w.heap.size w2.heap.size w2 vl [] := hG2.fr.ints
      refine go ?_
      refine rc (sliceReverse_nil) (next := fun v3 w3 h3 => ?_)
      obtain rfl := h3
      refine go ?_
      exact ret1 ⟨he2, hG2⟩
    · obtain ⟨b, hb, _, ho⟩ := hG2.own.toOwn (by simpa using hn)
      have hoi : OwnI 2 b w2 vl (e.map fun x => -x) := ⟨ho⟩
      clear hG2
      refine go ?_
      refine rc (sliceReverse_ok (xs := e.map fun x => -x) (by omega)) (next := fun v3 w3 h3 => ?_)
      obtain ⟨hc3, ho3⟩ := h3
      refine go ?_
      exact ret1 ⟨hc3.ext he2 hb, ⟨ho3.own.toN.mono hb⟩⟩
end Go.Proofs.YtnphljflkpekmaaGreat

/-
  Walks: math/bits.Mul at small words, slices.Repeat of one integer.
  Conditions: stated at each theorem.
-/
namespace Go.Proofs.YtnphljflkpekmaaGreat
open Go Go.Pc
set_option maxHeartbeats 1000000 in
theorem bitsMul64_2 {w : World} : Calls Tryz.prog 197 #[.int .u64 1, .int .u64 2] w (Ret fun v w' => v = .tuple #[.int .u64 0, .int .u64 2] ∧ w' = w) := by
  refine enter (args := [.int .u64 1, .int .u64 2]) (l := [.tmp 4, .tmp 5]) Tryz.func197 rfl rfl Tryz.ntmps197 (by simp) ?_
  refine go ?_
  refine ra (v := .int .u64 1) (h := rd_bin (by ((try simp only [ev_tmp, ev_const, ev_func, get_put, get_args, get_putL, get_putL_nil, Nat.reduceEqDiff, reduceIte, List.getD_cons_zero, List.getD_cons_succ, List.getD_nil]); first | done | with_reducible rfl)) (by ((try simp only [ev_tmp, ev_const, ev_func, get_put, get_args, get_putL, get_putL_nil, Nat.reduceEqDiff, reduceIte, List.getD_cons_zero, List.getD_cons_succ, List.getD_nil]); first | done | with_reducible rfl)) (fun _ => rfl) (fun _ => rfl)) (next := ?_)
  refine go ?_
  refine ra (v := .int .u64 0) (h := rd_bin (by ((try simp only [ev_tmp, ev_const, ev_func, get_put, get_args, get_putL, get_putL_nil, Nat.reduceEqDiff, reduceIte, List.getD_cons_zero, List.getD_cons_succ, List.getD_nil]); first | done | with_reducible rfl)) (by ((try simp only [ev_tmp, ev_const, ev_func, get_put, get_args, get_putL, get_putL_nil, Nat.reduceEqDiff, reduceIte, List.getD_cons_zero, List.getD_cons_succ, List.getD_nil]); first | done | with_reducible rfl)) (fun _ => rfl) (fun _ => rfl)) (next := ?_)
  refine go ?_
  refine ra (v := .int .u64 2) (h := rd_bin (by ((try simp only [ev_tmp, ev_const, ev_func, get_put, get_args, get_putL, get_putL_nil, Nat.reduceEqDiff, reduceIte, List.getD_cons_zero, List.getD_cons_succ, List.getD_nil]); first | done | with_reducible rfl)) (by ((try simp only [ev_tmp, ev_const, ev_func, get_put, get_args, get_putL, get_putL_nil, Nat.reduceEqDiff, reduceIte, List.getD_cons_zero, List.getD_cons_succ, List.getD_nil]); first | done | with_reducible rfl)) (fun _ => rfl) (fun _ => rfl)) (next := ?_)
  refine go ?_
  refine ra (v := .int .u64 0) (h := rd_bin (by ((try simp only [ev_tmp, ev_const, ev_func, get_put, get_args, get_putL, get_putL_nil, Nat.reduceEqDiff, reduceIte, List.getD_cons_zero, List.getD_cons_succ, List.getD_nil]); first | done | with_reducible rfl)) (by ((try simp only [ev_tmp, ev_const, ev_func, get_put, get_args, get_putL, get_putL_nil, Nat.reduceEqDiff, reduceIte, List.getD_cons_zero, List.getD_cons_succ, List.getD_nil]); first | done | with_reducible rfl)) (fun _ => rfl) (fun _ => rfl)) (next := ?_)
  refine go ?_
  refine ra (v := .int .u64 2) (h := rd_bin (by ((try simp only [ev_tmp, ev_const, ev_func, get_put, get_args, get_putL, get_putL_nil, Nat.reduceEqDiff, reduceIte, List.getD_cons_zero, List.getD_cons_succ, List.getD_nil]); first | done | with_reducible rfl)) (by ((try simp only [ev_tmp, ev_const, ev_func, get_put, get_args, get_putL, get_putL_nil, Nat.reduceEqDiff, reduceIte, List.getD_cons_zero, List.getD_cons_succ, List.getD_nil]); first | done | with_reducible rfl)) (fun _ => rfl) (fun _ => rfl)) (next := ?_)
  refine go ?_
  refine ra (v := .int .u64 0) (h := rd_bin (by ((try simp only [ev_tmp, ev_const, ev_func, get_put, get_args, get_putL, get_putL_nil, Nat.reduceEqDiff, reduceIte, List.getD_cons_zero, List.getD_cons_succ, List.getD_nil]); first | done | with_reducible rfl)) (by ((try simp only [ev_tmp, ev_const, ev_func, get_put, get_args, get_putL, get_putL_nil, Nat.reduceEqDiff, reduceIte, List.getD_cons_zero, List.getD_cons_succ, List.getD_nil]); first | done | with_reducible rfl)) (fun _ => rfl) (fun _ => rfl)) (next := ?_)
  refine go ?_
  refine ra (v := .int .u64 0) (h := rd_bin (by ((try simp only [ev_tmp, ev_const, ev_func, get_put, get_args, get_putL, get_putL_nil, Nat.reduceEqDiff, reduceIte, List.getD_cons_zero, List.getD_cons_succ, List.getD_nil]); first | done | with_reducible rfl)) (by ((try simp only [ev_tmp, ev_const, ev_func, get_put, get_args, get_putL, get_putL_nil, Nat.reduceEqDiff, reduceIte, List.getD_cons_zero, List.getD_cons_succ, List.getD_nil]); first | done | with_reducible rfl)) (fun _ => rfl) (fun _ => rfl)) (next := ?_)
  refine go ?_
  refine ra (v := .int .u64 0) (h := rd_bin (by ((try simp only [ev_tmp, ev_const, ev_func, get_put, get_args, get_putL, get_putL_nil, Nat.reduceEqDiff, reduceIte, List.getD_cons_zero, List.getD_cons_succ, List.getD_nil]); first | done | with_reducible rfl)) (by ((try simp only [ev_tmp, ev_const, ev_func, get_put, get_args, get_putL, get_putL_nil, Nat.reduceEqDiff, reduceIte, List.getD_cons_zero, List.getD_cons_succ, List.getD_nil]); first | done | with_reducible rfl)) (fun _ => rfl) (fun _ => rfl)) (next := ?_)
  refine go ?_
  refine ra (v := .int .u64 0) (h := rd_bin (by ((try simp only [ev_tmp, ev_const, ev_func, get_put, get_args, get_putL, get_putL_nil, Nat.reduceEqDiff, reduceIte, List.getD_cons_zero, List.getD_cons_succ, List.getD_nil]); first | done | with_reducible rfl)) (by ((try simp only [ev_tmp, ev_const, ev_func, get_put, get_args, get_putL, get_putL_nil, Nat.reduceEqDiff, reduceIte, List.getD_cons_zero, List.getD_cons_succ, List.getD_nil]); first | done | with_reducible rfl)) (fun _ => rfl) (fun _ => rfl)) (next := ?_)
  refine go ?_
  refine ra (v := .int .u64 0) (h := rd_bin (by ((try simp only [ev_tmp, ev_const, ev_func, get_put, get_args, get_putL, get_putL_nil, Nat.reduceEqDiff, reduceIte, List.getD_cons_zero, List.getD_cons_succ, List.getD_nil]); first | done | with_reducible rfl)) (by ((try simp only [ev_tmp, ev_const, ev_func, get_put, get_args, get_putL, get_putL_nil, Nat.reduceEqDiff, reduceIte, List.getD_cons_zero, List.getD_cons_succ, List.getD_nil]); first | done | with_reducible rfl)) (fun _ => rfl) (fun _ => rfl)) (next := ?_)
  refine go ?_
  refine ra (v := .int .u64 0) (h := rd_bin (by ((try simp only [ev_tmp, ev_const, ev_func, get_put, get_args, get_putL, get_putL_nil, Nat.reduceEqDiff, reduceIte, List.getD_cons_zero, List.getD_cons_succ, List.getD_nil]); first | done | with_reducible rfl)) (by ((try simp only [ev_tmp, ev_const, ev_func, get_put, get_args, get_putL, get_putL_nil, Nat.reduceEqDiff, reduceIte, List.getD_cons_zero, List.getD_cons_succ, List.getD_nil]); first | done | with_reducible rfl)) (fun _ => rfl) (fun _ => rfl)) (next := ?_)
  refine go ?_
  refine ra (v := .int .u64 0) (h := rd_bin (by ((try simp only [ev_tmp, ev_const, ev_func, get_put, get_args, get_putL, get_putL_nil, Nat.reduceEqDiff, reduceIte, List.getD_cons_zero, List.getD_cons_succ, List.getD_nil]); first | done | with_reducible rfl)) (by ((try simp only [ev_tmp, ev_const, ev_func, get_put, get_args, get_putL, get_putL_nil, Nat.reduceEqDiff, reduceIte, List.getD_cons_zero, List.getD_cons_succ, List.getD_nil]); first | done | with_reducible rfl)) (fun _ => rfl) (fun _ => rfl)) (next := ?_)
  refine go ?_
  refine ra (v := .int .u64 0) (h := rd_bin (by ((try simp only [ev_tmp, ev_const, ev_func, get_put, get_args, get_putL, get_putL_nil, Nat.reduceEqDiff, reduceIte, List.getD_cons_zero, List.getD_cons_succ, List.getD_nil]); first | done | with_reducible rfl)) (by ((try simp only [ev_tmp, ev_const, ev_func, get_put, get_args, get_putL, get_putL_nil, Nat.reduceEqDiff, reduceIte, List.getD_cons_zero, List.getD_cons_succ, List.getD_nil]); first | done | with_reducible rfl)) (fun _ => rfl) (fun _ => rfl)) (next := ?_)
  refine go ?_
  refine ra (v := .int .u64 0) (h := rd_bin (by ((try simp only [ev_tmp, ev_const, ev_func, get_put, get_args, get_putL, get_putL_nil, Nat.reduceEqDiff, reduceIte, List.getD_cons_zero, List.getD_cons_succ, List.getD_nil]); first | done | with_reducible rfl)) (by ((try simp only [ev_tmp, ev_const, ev_func, get_put, get_args, get_putL, get_putL_nil, Nat.reduceEqDiff, reduceIte, List.getD_cons_zero, List.getD_cons_succ, List.getD_nil]); first | done | with_reducible rfl)) (fun _ => rfl) (fun _ => rfl)) (next := ?_)
  refine go ?_
  refine ra (v := .int .u64 0) (h := rd_bin (by ((try simp only [ev_tmp, ev_const, ev_func, get_put, get_args, get_putL, get_putL_nil, Nat.reduceEqDiff, reduceIte, List.getD_cons_zero, List.getD_cons_succ, List.getD_nil]); first | done | with_reducible rfl)) (by ((try simp only [ev_tmp, ev_const, ev_func, get_put, get_args, get_putL, get_putL_nil, Nat.reduceEqDiff, reduceIte, List.getD_cons_zero, List.getD_cons_succ, List.getD_nil]); first | done | with_reducible rfl)) (fun _ => rfl) (fun _ => rfl)) (next := ?_)
  refine go ?_
  refine ra (v := .int .u64 0) (h := rd_bin (by ((try simp only [ev_tmp, ev_const, ev_func, get_put, get_args, get_putL, get_putL_nil, Nat.reduceEqDiff, reduceIte, List.getD_cons_zero, List.getD_cons_succ, List.getD_nil]); first | done | with_reducible rfl)) (by ((try simp only [ev_tmp, ev_const, ev_func, get_put, get_args, get_putL, get_putL_nil, Nat.reduceEqDiff, reduceIte, List.getD_cons_zero, List.getD_cons_succ, List.getD_nil]); first | done | with_reducible rfl)) (fun _ => rfl) (fun _ => rfl)) (next := ?_)
  refine go ?_
  refine ra (v := .int .u64 2) (h := rd_bin (by ((try simp only [ev_tmp, ev_const, ev_func, get_put, get_args, get_putL, get_putL_nil, Nat.reduceEqDiff, reduceIte, List.getD_cons_zero, List.getD_cons_succ, List.getD_nil]); first | done | with_reducible rfl)) (by ((try simp only [ev_tmp, ev_const, ev_func, get_put, get_args, get_putL, get_putL_nil, Nat.reduceEqDiff, reduceIte, List.getD_cons_zero, List.getD_cons_succ, List.getD_nil]); first | done | with_reducible rfl)) (fun _ => rfl) (fun _ => rfl)) (next := ?_)
  refine go ?_
  exact ret2 ⟨rfl, rfl⟩
theorem bitsMul_2 {w : World} : Calls Tryz.prog 189 #[.int .u64 1, .int .u64 2] w (Ret fun v w' => v = .tuple #[.int .u64 0, .int .u64 2] ∧ w' = w) := by
  refine enter (args := [.int .u64 1, .int .u64 2]) (l := [.tmp 4, .tmp 5]) Tryz.func189 rfl rfl Tryz.ntmps189 (by simp) ?_
  refine go ?_
  refine rc bitsMul64_2 (next := fun v1 w1 h1 => ?_)
  obtain ⟨rfl, rfl⟩ := h1
  refine go ?_
  exact ret2 ⟨rfl, rfl⟩
set_option maxHeartbeats 1000000 in
theorem bitsMul64_3 {w : World} : Calls Tryz.prog 197 #[.int .u64 1, .int .u64 3] w (Ret fun v w' => v = .tuple #[.int .u64 0, .int .u64 3] ∧ w' = w) := by
  refine enter (args := [.int .u64 1, .int .u64 3]) (l := [.tmp 4, .tmp 5]) Tryz.func197 rfl rfl Tryz.ntmps197 (by simp) ?_
  refine go ?_
  refine ra (v := .int .u64 1) (h := rd_bin (by ((try simp only [ev_tmp, ev_const, ev_func, get_put, get_args, get_putL, get_putL_nil, Nat.reduceEqDiff, reduceIte, List.getD_cons_zero, List.getD_cons_succ, List.getD_nil]); first | done | with_reducible rfl)) (by ((try simp only [ev_tmp, ev_const, ev_func, get_put, get_args, get_putL, get_putL_nil, Nat.reduceEqDiff, reduceIte, List.getD_cons_zero, List.getD_cons_succ, List.getD_nil]); first | done | with_reducible rfl)) (fun _ => rfl) (fun _ => rfl)) (next := ?_)
  refine go ?_
  refine ra (v := .int .u64 0) (h := rd_bin (by ((try simp only [ev_tmp, ev_const, ev_func, get_put, get_args, get_putL, get_putL_nil, Nat.reduceEqDiff, reduceIte, List.getD_cons_zero, List.getD_cons_succ, List.getD_nil]); first | done | with_reducible rfl)) (by ((try simp only [ev_tmp, ev_const, ev_func, get_put, get_args, get_putL, get_putL_nil, Nat.reduceEqDiff, reduceIte, List.getD_cons_zero, List.getD_cons_succ, List.getD_nil]); first | done | with_reducible rfl)) (fun _ => rfl) (fun _ => rfl)) (next := ?_)
  refine go ?_
  refine ra (v := .int .u64 3) (h := rd_bin (by ((try simp only [ev_tmp, ev_const, ev_func, get_put, get_args, get_putL, get_putL_nil, Nat.reduceEqDiff, reduceIte, List.getD_cons_zero, List.getD_cons_succ, List.getD_nil]); first | done | with_reducible rfl)) (by ((try simp only [ev_tmp, ev_const, ev_func, get_put, get_args, get_putL, get_putL_nil, Nat.reduceEqDiff, reduceIte, List.getD_cons_zero, List.getD_cons_succ, List.getD_nil]); first | done | with_reducible rfl)) (fun _ => rfl) (fun _ => rfl)) (next := ?_)
  refine go ?_
  refine ra (v := .int .u64 0) (h := rd_bin (by ((try simp only [ev_tmp, ev_const, ev_func, get_put, get_args, get_putL, get_putL_nil, Nat.reduceEqDiff, reduceIte, List.getD_cons_zero, List.getD_cons_succ, List.getD_nil]); first | done | with_reducible rfl)) (by ((try simp only [ev_tmp, ev_const, ev_func, get_put, get_args, get_putL, get_putL_nil, Nat.reduceEqDiff, reduceIte, List.getD_cons_zero, List.getD_cons_succ, List.getD_nil]); first | done | with_reducible rfl)) (fun _ => rfl) (fun _ => rfl)) (next := ?_)
  refine go ?_
  refine ra (v := .int .u64 3) (h := rd_bin (by ((try simp only [ev_tmp, ev_const, ev_func, get_put, get_args, get_putL, get_putL_nil, Nat.reduceEqDiff, reduceIte, List.getD_cons_zero, List.getD_cons_succ, List.getD_nil]); first | done | with_reducible rfl)) (by ((try simp only [ev_tmp, ev_const, ev_func, get_put, get_args, get_putL, get_putL_nil, Nat.reduceEqDiff, reduceIte, List.getD_cons_zero, List.getD_cons_succ, List.getD_nil]); first | done | with_reducible rfl)) (fun _ => rfl) (fun _ => rfl)) (next := ?_)
  refine go ?_
  refine ra (v := .int .u64 0) (h := rd_bin (by ((try simp only [ev_tmp, ev_const, ev_func, get_put, get_args, get_putL, get_putL_nil, Nat.reduceEqDiff, reduceIte, List.getD_cons_zero, List.getD_cons_succ, List.getD_nil]); first | done | with_reducible rfl)) (by ((try simp only [ev_tmp, ev_const, ev_func, get_put, get_args, get_putL, get_putL_nil, Nat.reduceEqDiff, reduceIte, List.getD_cons_zero, List.getD_cons_succ, List.getD_nil]); first | done | with_reducible rfl)) (fun _ => rfl) (fun _ => rfl)) (next := ?_)
  refine go ?_
  refine ra (v := .int .u64 0) (h := rd_bin (by ((try simp only [ev_tmp, ev_const, ev_func, get_put, get_args, get_putL, get_putL_nil, Nat.reduceEqDiff, reduceIte, List.getD_cons_zero, List.getD_cons_succ, List.getD_nil]); first | done | with_reducible rfl)) (by ((try simp only [ev_tmp, ev_const, ev_func, get_put, get_args, get_putL, get_putL_nil, Nat.reduceEqDiff, reduceIte, List.getD_cons_zero, List.getD_cons_succ, List.getD_nil]); first | done | with_reducible rfl)) (fun _ => rfl) (fun _ => rfl)) (next := ?_)
  refine go ?_
  refine ra (v := .int .u64 0) (h := rd_bin (by ((try simp only [ev_tmp, ev_const, ev_func, get_put, get_args, get_putL, get_putL_nil, Nat.reduceEqDiff, reduceIte, List.getD_cons_zero, List.getD_cons_succ, List.getD_nil]); first | done | with_reducible rfl)) (by ((try simp only [ev_tmp, ev_const, ev_func, get_put, get_args, get_putL, get_putL_nil, Nat.reduceEqDiff, reduceIte, List.getD_cons_zero, List.getD_cons_succ, List.getD_nil]); first | done | with_reducible rfl)) (fun _ => rfl) (fun _ => rfl)) (next := ?_)
  refine go ?_
  refine ra (v := .int .u64 0) (h := rd_bin (by ((try simp only [ev_tmp, ev_const, ev_func, get_put, get_args, get_putL, get_putL_nil, Nat.reduceEqDiff, reduceIte, List.getD_cons_zero, List.getD_cons_succ, List.getD_nil]); first | done | with_reducible rfl)) (by ((try simp only [ev_tmp, ev_const, ev_func, get_put, get_args, get_putL, get_putL_nil, Nat.reduceEqDiff, reduceIte, List.getD_cons_zero, List.getD_cons_succ, List.getD_nil]); first | done | with_reducible rfl)) (fun _ => rfl) (fun _ => rfl)) (next := ?_)
  refine go ?_
  refine ra (v := .int .u64 0) (h := rd_bin (by ((try simp only [ev_tmp, ev_const, ev_func, get_put, get_args, get_putL, get_putL_nil, Nat.reduceEqDiff, reduceIte, List.getD_cons_zero, List.getD_cons_succ, List.getD_nil]); first | done | with_reducible rfl)) (by ((try simp only [ev_tmp, ev_const, ev_func, get_put, get_args, get_putL, get_putL_nil, Nat.reduceEqDiff, reduceIte, List.getD_cons_zero, List.getD_cons_succ, List.getD_nil]); first | done | with_reducible rfl)) (fun _ => rfl) (fun _ => rfl)) (next := ?_)
  refine go ?_
  refine ra (v := .int .u64 0) (h := rd_bin (by ((try simp only [ev_tmp, ev_const, ev_func, get_put, get_args, get_putL, get_putL_nil, Nat.reduceEqDiff, reduceIte, List.getD_cons_zero, List.getD_cons_succ, List.getD_nil]); first | done | with_reducible rfl)) (by ((try simp only [ev_tmp, ev_const, ev_func, get_put, get_args, get_putL, get_putL_nil, Nat.reduceEqDiff, reduceIte, List.getD_cons_zero, List.getD_cons_succ, List.getD_nil]); first | done | with_reducible rfl)) (fun _ => rfl) (fun _ => rfl)) (next := ?_)
  refine go ?_
  refine ra (v := .int .u64 0) (h := rd_bin (by ((try simp only [ev_tmp, ev_const, ev_func, get_put, get_args, get_putL, get_putL_nil, Nat.reduceEqDiff, reduceIte, List.getD_cons_zero, List.getD_cons_succ, List.getD_nil]); first | done | with_reducible rfl)) (by ((try simp only [ev_tmp, ev_const, ev_func, get_put, get_args, get_putL, get_putL_nil, Nat.reduceEqDiff, reduceIte, List.getD_cons_zero, List.getD_cons_succ, List.getD_nil]); first | done | with_reducible rfl)) (fun _ => rfl) (fun _ => rfl)) (next := ?_)
  refine go ?_
  refine ra (v := .int .u64 0) (h := rd_bin (by ((try simp only [ev_tmp, ev_const, ev_func, get_put, get_args, get_putL, get_putL_nil, Nat.reduceEqDiff, reduceIte, List.getD_cons_zero, List.getD_cons_succ, List.getD_nil]); first | done | with_reducible rfl)) (by ((try simp only [ev_tmp, ev_const, ev_func, get_put, get_args, get_putL, get_putL_nil, Nat.reduceEqDiff, reduceIte, List.getD_cons_zero, List.getD_cons_succ, List.getD_nil]); first | done | with_reducible rfl)) (fun _ => rfl) (fun _ => rfl)) (next := ?_)
  refine go ?_
  refine ra (v := .int .u64 0) (h := rd_bin (by ((try simp only [ev_tmp, ev_const, ev_func, get_put, get_args, get_putL, get_putL_nil, Nat.reduceEqDiff, reduceIte, List.getD_cons_zero, List.getD_cons_succ, List.getD_nil]); first | done | with_reducible rfl)) (by ((try simp only [ev_tmp, ev_const, ev_func, get_put, get_args, get_putL, get_putL_nil, Nat.reduceEqDiff, reduceIte, List.getD_cons_zero, List.getD_cons_succ, List.getD_nil]); first | done | with_reducible rfl)) (fun _ => rfl) (fun _ => rfl)) (next := ?_)
  refine go ?_
  refine ra (v := .int .u64 0) (h := rd_bin (by ((try simp only [ev_tmp, ev_const, ev_func, get_put, get_args, get_putL, get_putL_nil, Nat.reduceEqDiff, reduceIte, List.getD_cons_zero, List.getD_cons_succ, List.getD_nil]); first | done | with_reducible rfl)) (by ((try simp only [ev_tmp, ev_const, ev_func, get_put, get_args, get_putL, get_putL_nil, Nat.reduceEqDiff, reduceIte, List.getD_cons_zero, List.getD_cons_succ, List.getD_nil]); first | done | with_reducible rfl)) (fun _ => rfl) (fun _ => rfl)) (next := ?_)
  refine go ?_
  refine ra (v := .int .u64 0) (h := rd_bin (by ((try simp only [ev_tmp, ev_const, ev_func, get_put, get_args, get_putL, get_putL_nil, Nat.reduceEqDiff, reduceIte, List.getD_cons_zero, List.getD_cons_succ, List.getD_nil]); first | done | with_reducible rfl)) (by ((try simp only [ev_tmp, ev_const, ev_func, get_put, get_args, get_putL, get_putL_nil, Nat.reduceEqDiff, reduceIte, List.getD_cons_zero, List.getD_cons_succ, List.getD_nil]); first | done | with_reducible rfl)) (fun _ => rfl) (fun _ => rfl)) (next := ?_)
  refine go ?_
  refine ra (v := .int .u64 3) (h := rd_bin (by ((try simp only [ev_tmp, ev_const, ev_func, get_put, get_args, get_putL, get_putL_nil, Nat.reduceEqDiff, reduceIte, List.getD_cons_zero, List.getD_cons_succ, List.getD_nil]); first | done | with_reducible rfl)) (by ((try simp only [ev_tmp, ev_const, ev_func, get_put, get_args, get_putL, get_putL_nil, Nat.reduceEqDiff, reduceIte, List.getD_cons_zero, List.getD_cons_succ, List.getD_nil]); first | done | with_reducible rfl)) (fun _ => rfl) (fun _ => rfl)) (next := ?_)
  refine go ?_
  exact ret2 ⟨rfl, rfl⟩
theorem bitsMul_3 {w : World} : Calls Tryz.prog 189 #[.int .u64 1, .int .u64 3] w (Ret fun v w' => v = .tuple #[.int .u64 0, .int .u64 3] ∧ w' = w) := by
  refine enter (args := [.int .u64 1, .int .u64 3]) (l := [.tmp 4, .tmp 5]) Tryz.func189 rfl rfl Tryz.ntmps189 (by simp) ?_
  refine go ?_
  refine rc bitsMul64_3 (next := fun v1 w1 h1 => ?_)
  obtain ⟨rfl, rfl⟩ := h1
  refine go ?_
  exact ret2 ⟨rfl, rfl⟩
set_option maxHeartbeats 1000000 in
theorem bitsMul64_5 {w : World} : Calls Tryz.prog 197 #[.int .u64 1, .int .u64 5] w (Ret fun v w' => v = .tuple #[.int .u64 0, .int .u64 5] ∧ w' = w) := by
  refine enter (args := [.int .u64 1, .int .u64 5]) (l := [.tmp 4, .tmp 5]) Tryz.func197 rfl rfl Tryz.ntmps197 (by simp) ?_
  refine go ?_
  refine ra (v := .int .u64 1) (h := rd_bin (by ((try simp only [ev_tmp, ev_const, ev_func, get_put, get_args, get_putL, get_putL_nil, Nat.reduceEqDiff, reduceIte, List.getD_cons_zero, List.getD_cons_succ, List.getD_nil]); first | done | with_reducible rfl)) (by ((try simp only [ev_tmp, ev_const, ev_func, get_put, get_args, get_putL, get_putL_nil, Nat.reduceEqDiff, reduceIte, List.getD_cons_zero, List.getD_cons_succ, List.getD_nil]); first | done | with_reducible rfl)) (fun _ => rfl) (fun _ => rfl)) (next := ?_)
  refine go ?_
  refine ra (v := .int .u64 0) (h := rd_bin (by ((try simp only [ev_tmp, ev_const, ev_func, get_put, get_args, get_putL, get_putL_nil, Nat.reduceEqDiff, reduceIte, List.getD_cons_zero, List.getD_cons_succ, List.getD_nil]); first | done | with_reducible rfl)) (by ((try simp only [ev_tmp, ev_const, ev_func, get_put, get_args, get_putL, get_putL_nil, Nat.reduceEqDiff, reduceIte, List.getD_cons_zero, List.getD_cons_succ, List.getD_nil]); first | done | with_reducible rfl)) (fun _ => rfl) (fun _ => rfl)) (next := ?_)
  refine go ?_
  refine ra (v := .int .u64 5) (h := rd_bin (by ((try simp only [ev_tmp, ev_const, ev_func, get_put, get_args, get_putL, get_putL_nil, Nat.reduceEqDiff, reduceIte, List.getD_cons_zero, List.getD_cons_succ, List.getD_nil]); first | done | with_reducible rfl)) (by ((try simp only [ev_tmp, ev_const, ev_func, get_put, get_args, get_putL, get_putL_nil, Nat.reduceEqDiff, reduceIte, List.getD_cons_zero, List.getD_cons_succ, List.getD_nil]); first | done | with_reducible rfl)) (fun _ => rfl) (fun _ => rfl)) (next := ?_)
  refine go ?_
  refine ra (v := .int .u64 0) (h := rd_bin (by ((try simp only [ev_tmp, ev_const, ev_func, get_put, get_args, get_putL, get_putL_nil, Nat.reduceEqDiff, reduceIte, List.getD_cons_zero, List.getD_cons_succ, List.getD_nil]); first | done | with_reducible rfl)) (by ((try simp only [ev_tmp, ev_const, ev_func, get_put, get_args, get_putL, get_putL_nil, Nat.reduceEqDiff, reduceIte, List.getD_cons_zero, List.getD_cons_succ, List.getD_nil]); first | done | with_reducible rfl)) (fun _ => rfl) (fun _ => rfl)) (next := ?_)
  refine go ?_
  refine ra (v := .int .u64 5) (h := rd_bin (by ((try simp only [ev_tmp, ev_const, ev_func, get_put, get_args, get_putL, get_putL_nil, Nat.reduceEqDiff, reduceIte, List.getD_cons_zero, List.getD_cons_succ, List.getD_nil]); first | done | with_reducible rfl)) (by ((try simp only [ev_tmp, ev_const, ev_func, get_put, get_args, get_putL, get_putL_nil, Nat.reduceEqDiff, reduceIte, List.getD_cons_zero, List.getD_cons_succ, List.getD_nil]); first | done | with_reducible rfl)) (fun _ => rfl) (fun _ => rfl)) (next := ?_)
  refine go ?_
  refine ra (v := .int .u64 0) (h := rd_bin (by ((try simp only [ev_tmp, ev_const, ev_func, get_put, get_args, get_putL, get_putL_nil, Nat.reduceEqDiff, reduceIte, List.getD_cons_zero, List.getD_cons_succ, List.getD_nil]); first | done | with_reducible rfl)) (by ((try simp only [ev_tmp, ev_const, ev_func, get_put, get_args, get_putL, get_putL_nil, Nat.reduceEqDiff, reduceIte, List.getD_cons_zero, List.getD_cons_succ, List.getD_nil]); first | done | with_reducible rfl)) (fun _ => rfl) (fun _ => rfl)) (next := ?_)
  refine go ?_
  refine ra (v := .int .u64 0) (h := rd_bin (by ((try simp only [ev_tmp, ev_const, ev_func, get_put, get_args, get_putL, get_putL_nil, Nat.reduceEqDiff, reduceIte, List.getD_cons_zero, List.getD_cons_succ, List.getD_nil]); first | done | with_reducible rfl)) (by ((try simp only [ev_tmp, ev_const, ev_func, get_put, get_args, get_putL, get_putL_nil, Nat.reduceEqDiff, reduceIte, List.getD_cons_zero, List.getD_cons_succ, List.getD_nil]); first | done | with_reducible rfl)) (fun _ => rfl) (fun _ => rfl)) (next := ?_)
  refine go ?_
  refine ra (v := .int .u64 0) (h := rd_bin (by ((try simp only [ev_tmp, ev_const, ev_func, get_put, get_args, get_putL, get_putL_nil, Nat.reduceEqDiff, reduceIte, List.getD_cons_zero, List.getD_cons_succ, List.getD_nil]); first | done | with_reducible rfl)) (by ((try simp only [ev_tmp, ev_const, ev_func, get_put, get_args, get_putL, get_putL_nil, Nat.reduceEqDiff, reduceIte, List.getD_cons_zero, List.getD_cons_succ, List.getD_nil]); first | done | with_reducible rfl)) (fun _ => rfl) (fun _ => rfl)) (next := ?_)
  refine go ?_
  refine ra (v := .int .u64 0) (h := rd_bin (by ((try simp only [ev_tmp, ev_const, ev_func, get_put, get_args, get_putL, get_putL_nil, Nat.reduceEqDiff, reduceIte, List.getD_cons_zero, List.getD_cons_succ, List.getD_nil]); first | done | with_reducible rfl)) (by ((try simp only [ev_tmp, ev_const, ev_func, get_put, get_args, get_putL, get_putL_nil, Nat.reduceEqDiff, reduceIte, List.getD_cons_zero, List.getD_cons_succ, List.getD_nil]); first | done | with_reducible rfl)) (fun _ => rfl) (fun _ => rfl)) (next := ?_)
  refine go ?_
  refine ra (v := .int .u64 0) (h := rd_bin (by ((try simp only [ev_tmp, ev_const, ev_func, get_put, get_args, get_putL, get_putL_nil, Nat.reduceEqDiff, reduceIte, List.getD_cons_zero, List.getD_cons_succ, List.getD_nil]); first | done | with_reducible rfl)) (by ((try simp only [ev_tmp, ev_const, ev_func, get_put, get_args, get_putL, get_putL_nil, Nat.reduceEqDiff, reduceIte, List.getD_cons_zero, List.getD_cons_succ, List.getD_nil]); first | done | with_reducible rfl)) (fun _ => rfl) (fun _ => rfl)) (next := ?_)
  refine go ?_
  refine ra (v := .int .u64 0) (h := rd_bin (by ((try simp only [ev_tmp, ev_const, ev_func, get_put, get_args, get_putL, get_putL_nil, Nat.reduceEqDiff, reduceIte, List.getD_cons_zero, List.getD_cons_succ, List.getD_nil]); first | done | with_reducible rfl)) (by ((try simp only [ev_tmp, ev_const, ev_func, get_put, get_args, get_putL, get_putL_nil, Nat.reduceEqDiff, reduceIte, List.getD_cons_zero, List.getD_cons_succ, List.getD_nil]); first | done | with_reducible rfl)) (fun _ => rfl) (fun _ => rfl)) (next := ?_)
  refine go ?_
  refine ra (v := .int .u64 0) (h := rd_bin (by ((try simp only [ev_tmp, ev_const, ev_func, get_put, get_args, get_putL, get_putL_nil, Nat.reduceEqDiff, reduceIte, List.getD_cons_zero, List.getD_cons_succ, List.getD_nil]); first | done | with_reducible rfl)) (by ((try simp only [ev_tmp, ev_const, ev_func, get_put, get_args, get_putL, get_putL_nil, Nat.reduceEqDiff, reduceIte, List.getD_cons_zero, List.getD_cons_succ, List.getD_nil]); first | done | with_reducible rfl)) (fun _ => rfl) (fun _ => rfl)) (next := ?_)
  refine go ?_
  refine ra (v := .int .u64 0) (h := rd_bin (by ((try simp only [ev_tmp, ev_const, ev_func, get_put, get_args, get_putL, get_putL_nil, Nat.reduceEqDiff, reduceIte, List.getD_cons_zero, List.getD_cons_succ, List.getD_nil]); first | done | with_reducible rfl)) (by ((try simp only [ev_tmp, ev_const, ev_func, get_put, get_args, get_putL, get_putL_nil, Nat.reduceEqDiff, reduceIte, List.getD_cons_zero, List.getD_cons_succ, List.getD_nil]); first | done | with_reducible rfl)) (fun _ => rfl) (fun _ => rfl)) (next := ?_)
  refine go ?_
  refine ra (v := .int .u64 0) (h := rd_bin (by ((try simp only [ev_tmp, ev_const, ev_func, get_put, get_args, get_putL, get_putL_nil, Nat.reduceEqDiff, reduceIte, List.getD_cons_zero, List.getD_cons_succ, List.getD_nil]); first | done | with_reducible rfl)) (by ((try simp only [ev_tmp, ev_const, ev_func, get_put, get_args, get_putL, get_putL_nil, Nat.reduceEqDiff, reduceIte, List.getD_cons_zero, List.getD_cons_succ, List.getD_nil]); first | done | with_reducible rfl)) (fun _ => rfl) (fun _ => rfl)) (next := ?_)
  refine go ?_
  refine ra (v := .int .u64 0) (h := rd_bin (by ((try simp only [ev_tmp, ev_const, ev_func, get_put, get_args, get_putL, get_putL_nil, Nat.reduceEqDiff, reduceIte, List.getD_cons_zero, List.getD_cons_succ, List.getD_nil]); first | done | with_reducible rfl)) (by ((try simp only [ev_tmp, ev_const, ev_func, get_put, get_args, get_putL, get_putL_nil, Nat.reduceEqDiff, reduceIte, List.getD_cons_zero, List.getD_cons_succ, List.getD_nil]); first | done | with_reducible rfl)) (fun _ => rfl) (fun _ => rfl)) (next := ?_)
  refine go ?_
  refine ra (v := .int .u64 0) (h := rd_bin (by ((try simp only [ev_tmp, ev_const, ev_func, get_put, get_args, get_putL, get_putL_nil, Nat.reduceEqDiff, reduceIte, List.getD_cons_zero, List.getD_cons_succ, List.getD_nil]); first | done | with_reducible rfl)) (by ((try simp only [ev_tmp, ev_const, ev_func, get_put, get_args, get_putL, get_putL_nil, Nat.reduceEqDiff, reduceIte, List.getD_cons_zero, List.getD_cons_succ, List.getD_nil]); first | done | with_reducible rfl)) (fun _ => rfl) (fun _ => rfl)) (next := ?_)
  refine go ?_
  refine ra (v := .int .u64 5) (h := rd_bin (by ((try simp only [ev_tmp, ev_const, ev_func, get_put, get_args, get_putL, get_putL_nil, Nat.reduceEqDiff, reduceIte, List.getD_cons_zero, List.getD_cons_succ, List.getD_nil]); first | done | with_reducible rfl)) (by ((try simp only [ev_tmp, ev_const, ev_func, get_put, get_args, get_putL, get_putL_nil, Nat.reduceEqDiff, reduceIte, List.getD_cons_zero, List.getD_cons_succ, List.getD_nil]); first | done | with_reducible rfl)) (fun _ => rfl) (fun _ => rfl)) (next := ?_)
  refine go ?_
  exact ret2 ⟨rfl, rfl⟩
theorem bitsMul_5 {w : World} : Calls Tryz.prog 189 #[.int .u64 1, .int .u64 5] w (Ret fun v w' => v = .tuple #[.int .u64 0, .int .u64 5] ∧ w' = w) := by
  refine enter (args := [.int .u64 1, .int .u64 5]) (l := [.tmp 4, .tmp 5]) Tryz.func189 rfl rfl Tryz.ntmps189 (by simp) ?_
  refine go ?_
  refine rc bitsMul64_5 (next := fun v1 w1 h1 => ?_)
  obtain ⟨rfl, rfl⟩ := h1
  refine go ?_
  exact ret2 ⟨rfl, rfl⟩
set_option maxHeartbeats 1000000 in
theorem bitsMul64_7 {w : World} : Calls Tryz.prog 197 #[.int .u64 1, .int .u64 7] w (Ret fun v w' => v = .tuple #[.int .u64 0, .int .u64 7] ∧ w' = w) := by
  refine enter (args := [.int .u64 1, .int .u64 7]) (l := [.tmp 4, .tmp 5]) Tryz.func197 rfl rfl Tryz.ntmps197 (by simp) ?_
  refine go ?_
  refine ra (v := .int .u64 1) (h := rd_bin (by ((try simp only [ev_tmp, ev_const, ev_func, get_put, get_args, get_putL, get_putL_nil, Nat.reduceEqDiff, reduceIte, List.getD_cons_zero, List.getD_cons_succ, List.getD_nil]); first | done | with_reducible rfl)) (by ((try simp only [ev_tmp, ev_const, ev_func, get_put, get_args, get_putL, get_putL_nil, Nat.reduceEqDiff, reduceIte, List.getD_cons_zero, List.getD_cons_succ, List.getD_nil]); first | done | with_reducible rfl)) (fun _ => rfl) (fun _ => rfl)) (next := ?_)
  refine go ?_
  refine ra (v := .int .u64 0) (h := rd_bin (by ((try simp only [ev_tmp, ev_const, ev_func, get_put, get_args, get_putL, get_putL_nil, Nat.reduceEqDiff, reduceIte, List.getD_cons_zero, List.getD_cons_succ, List.getD_nil]); first | done | with_reducible rfl)) (by ((try simp only [ev_tmp, ev_const, ev_func, get_put, get_args, get_putL, get_putL_nil, Nat.reduceEqDiff, reduceIte, List.getD_cons_zero, List.getD_cons_succ, List.getD_nil]); first | done | with_reducible rfl)) (fun _ => rfl) (fun _ => rfl)) (next := ?_)
  refine go ?_
  refine ra (v := .int .u64 7) (h := rd_bin (by ((try simp only [ev_tmp, ev_const, ev_func, get_put, get_args, get_putL, get_putL_nil, Nat.reduceEqDiff, reduceIte, List.getD_cons_zero, List.getD_cons_succ, List.getD_nil]); first | done | with_reducible rfl)) (by ((try simp only [ev_tmp, ev_const, ev_func, get_put, get_args, get_putL, get_putL_nil, Nat.reduceEqDiff, reduceIte, List.getD_cons_zero, List.getD_cons_succ, List.getD_nil]); first | done | with_reducible rfl)) (fun _ => rfl) (fun _ => rfl)) (next := ?_)
  refine go ?_
  refine ra (v := .int .u64 0) (h := rd_bin (by ((try simp only [ev_tmp, ev_const, ev_func, get_put, get_args, get_putL, get_putL_nil, Nat.reduceEqDiff, reduceIte, List.getD_cons_zero, List.getD_cons_succ, List.getD_nil]); first | done | with_reducible rfl)) (by ((try simp only [ev_tmp, ev_const, ev_func, get_put, get_args, get_putL, get_putL_nil, Nat.reduceEqDiff, reduceIte, List.getD_cons_zero, List.getD_cons_succ, List.getD_nil]); first | done | with_reducible rfl)) (fun _ => rfl) (fun _ => rfl)) (next := ?_)
  refine go ?_
  refine ra (v := .int .u64 7) (h := rd_bin (by ((try simp only [ev_tmp, ev_const, ev_func, get_put, get_args, get_putL, get_putL_nil, Nat.reduceEqDiff, reduceIte, List.getD_cons_zero, List.getD_cons_succ, List.getD_nil]); first | done | with_reducible rfl)) (by ((try simp only [ev_tmp, ev_const, ev_func, get_put, get_args, get_putL, get_putL_nil, Nat.reduceEqDiff, reduceIte, List.getD_cons_zero, List.getD_cons_succ, List.getD_nil]); first | done | with_reducible rfl)) (fun _ => rfl) (fun _ => rfl)) (next := ?_)
  refine go ?_
  refine ra (v := .int .u64 0) (h := rd_bin (by ((try simp only [ev_tmp, ev_const, ev_func, get_put, get_args, get_putL, get_putL_nil, Nat.reduceEqDiff, reduceIte, List.getD_cons_zero, List.getD_cons_succ, List.getD_nil]); first | done | with_reducible rfl)) (by ((try simp only [ev_tmp, ev_const, ev_func, get_put, get_args, get_putL, get_putL_nil, Nat.reduceEqDiff, reduceIte, List.getD_cons_zero, List.getD_cons_succ, List.getD_nil]); first | done | with_reducible rfl)) (fun _ => rfl) (fun _ => rfl)) (next := ?_)
  refine go ?_
  refine ra (v := .int .u64 0) (h := rd_bin (by ((try simp only [ev_tmp, ev_const, ev_func, get_put, get_args, get_putL, get_putL_nil, Nat.reduceEqDiff, reduceIte, List.getD_cons_zero, List.getD_cons_succ, List.getD_nil]); first | done | with_reducible rfl)) (by ((try simp only [ev_tmp, ev_const, ev_func, get_put, get_args, get_putL, get_putL_nil, Nat.reduceEqDiff, reduceIte, List.getD_cons_zero, List.getD_cons_succ, List.getD_nil]); first | done | with_reducible rfl)) (fun _ => rfl) (fun _ => rfl)) (next := ?_)
  refine go ?_
  refine ra (v := .int .u64 0) (h := rd_bin (by ((try simp only [ev_tmp, ev_const, ev_func, get_put, get_args, get_putL, get_putL_nil, Nat.reduceEqDiff, reduceIte, List.getD_cons_zero, List.getD_cons_succ, List.getD_nil]); first | done | with_reducible rfl)) (by ((try simp only [ev_tmp, ev_const, ev_func, get_put, get_args, get_putL, get_putL_nil, Nat.reduceEqDiff, reduceIte, List.getD_cons_zero, List.getD_cons_succ, List.getD_nil]); first | done | with_reducible rfl)) (fun _ => rfl) (fun _ => rfl)) (next := ?_)
  refine go ?_
  refine ra (v := .int .u64 0) (h := rd_bin (by ((try simp only [ev_tmp, ev_const, ev_func, get_put, get_args, get_putL, get_putL_nil, Nat.reduceEqDiff, reduceIte, List.getD_cons_zero, List.getD_cons_succ, List.getD_nil]); first | done | with_reducible rfl)) (by ((try simp only [ev_tmp, ev_const, ev_func, get_put, get_args, get_putL, get_putL_nil, Nat.reduceEqDiff, reduceIte, List.getD_cons_zero, List.getD_cons_succ, List.getD_nil]); first | done | with_reducible rfl)) (fun _ => rfl) (fun _ => rfl)) (next := ?_)
  refine go ?_
  refine ra (v := .int .u64 0) (h := rd_bin (by ((try simp only [ev_tmp, ev_const, ev_func, get_put, get_args, get_putL, get_putL_nil, Nat.reduceEqDiff, reduceIte, List.getD_cons_zero, List.getD_cons_succ, List.getD_nil]); first | done | with_reducible rfl)) (by ((try simp only [ev_tmp, ev_const, ev_func, get_put, get_args, get_putL, get_putL_nil, Nat.reduceEqDiff, reduceIte, List.getD_cons_zero, List.getD_cons_succ, List.getD_nil]); first | done | with_reducible rfl)) (fun _ => rfl) (fun _ => rfl)) (next := ?_)
  refine go ?_
  refine ra (v := .int .u64 0) (h := rd_bin (by ((try simp only [ev_tmp, ev_const, ev_func, get_put, get_args, get_putL, get_putL_nil, Nat.reduceEqDiff, reduceIte, List.getD_cons_zero, List.getD_cons_succ, List.getD_nil]); first | done | with_reducible rfl)) (by ((try simp only [ev_tmp, ev_const, ev_func, get_put, get_args, get_putL, get_putL_nil, Nat.reduceEqDiff, reduceIte, List.getD_cons_zero, List.getD_cons_succ, List.getD_nil]); first | done | with_reducible rfl)) (fun _ => rfl) (fun _ => rfl)) (next := ?_)
  refine go ?_
  refine ra (v := .int .u64 0) (h := rd_bin (by ((try simp only [ev_tmp, ev_const, ev_func, get_put, get_args, get_putL, get_putL_nil, Nat.reduceEqDiff, reduceIte, List.getD_cons_zero, List.getD_cons_succ, List.getD_nil]); first | done | with_reducible rfl)) (by ((try simp only [ev_tmp, ev_const, ev_func, get_put, get_args, get_putL, get_putL_nil, Nat.reduceEqDiff, reduceIte, List.getD_cons_zero, List.getD_cons_succ, List.getD_nil]); first | done | with_reducible rfl)) (fun _ => rfl) (fun _ => rfl)) (next := ?_)
  refine go ?_
  refine ra (v := .int .u64 0) (h := rd_bin (by ((try simp only [ev_tmp, ev_const, ev_func, get_put, get_args, get_putL, get_putL_nil, Nat.reduceEqDiff, reduceIte, List.getD_cons_zero, List.getD_cons_succ, List.getD_nil]); first | done | with_reducible rfl)) (by ((try simp only [ev_tmp, ev_const, ev_func, get_put, get_args, get_putL, get_putL_nil, Nat.reduceEqDiff, reduceIte, List.getD_cons_zero, List.getD_cons_succ, List.getD_nil]); first | done | with_reducible rfl)) (fun _ => rfl) (fun _ => rfl)) (next := ?_)
  refine go ?_
  refine ra (v := .int .u64 0) (h := rd_bin (by ((try simp only [ev_tmp, ev_const, ev_func, get_put, get_args, get_putL, get_putL_nil, Nat.reduceEqDiff, reduceIte, List.getD_cons_zero, List.getD_cons_succ, List.getD_nil]); first | done | with_reducible rfl)) (by ((try simp only [ev_tmp, ev_const, ev_func, get_put, get_args, get_putL, get_putL_nil, Nat.reduceEqDiff, reduceIte, List.getD_cons_zero, List.getD_cons_succ, List.getD_nil]); first | done | with_reducible rfl)) (fun _ => rfl) (fun _ => rfl)) (next := ?_)
  refine go ?_
  refine ra (v := .int .u64 0) (h := rd_bin (by ((try simp only [ev_tmp, ev_const, ev_func, get_put, get_args, get_putL, get_putL_nil, Nat.reduceEqDiff, reduceIte, List.getD_cons_zero, List.getD_cons_succ, List.getD_nil]); first | done | with_reducible rfl)) (by ((try simp only [ev_tmp, ev_const, ev_func, get_put, get_args, get_putL, get_putL_nil, Nat.reduceEqDiff, reduceIte, List.getD_cons_zero, List.getD_cons_succ, List.getD_nil]); first | done | with_reducible rfl)) (fun _ => rfl) (fun _ => rfl)) (next := ?_)
  refine go ?_
  refine ra (v := .int .u64 0) (h := rd_bin (by ((try simp only [ev_tmp, ev_const, ev_func, get_put, get_args, get_putL, get_putL_nil, Nat.reduceEqDiff, reduceIte, List.getD_cons_zero, List.getD_cons_succ, List.getD_nil]); first | done | with_reducible rfl)) (by ((try simp only [ev_tmp, ev_const, ev_func, get_put, get_args, get_putL, get_putL_nil, Nat.reduceEqDiff, reduceIte, List.getD_cons_zero, List.getD_cons_succ, List.getD_nil]); first | done | with_reducible rfl)) (fun _ => rfl) (fun _ => rfl)) (next := ?_)
  refine go ?_
  refine ra (v := .int .u64 7) (h := rd_bin (by ((try simp only [ev_tmp, ev_const, ev_func, get_put, get_args, get_putL, get_putL_nil, Nat.reduceEqDiff, reduceIte, List.getD_cons_zero, List.getD_cons_succ, List.getD_nil]); first | done | with_reducible rfl)) (by ((try simp only [ev_tmp, ev_const, ev_func, get_put, get_args, get_putL, get_putL_nil, Nat.reduceEqDiff, reduceIte, List.getD_cons_zero, List.getD_cons_succ, List.getD_nil]); first | done | with_reducible rfl)) (fun _ => rfl) (fun _ => rfl)) (next := ?_)
  refine go ?_
  exact ret2 ⟨rfl, rfl⟩
theorem bitsMul_7 {w : World} : Calls Tryz.prog 189 #[.int .u64 1, .int .u64 7] w (Ret fun v w' => v = .tuple #[.int .u64 0, .int .u64 7] ∧ w' = w) := by
  refine enter (args := [.int .u64 1, .int .u64 7]) (l := [.tmp 4, .tmp 5]) Tryz.func189 rfl rfl Tryz.ntmps189 (by simp) ?_
  refine go ?_
  refine rc bitsMul64_7 (next := fun v1 w1 h1 => ?_)
  obtain ⟨rfl, rfl⟩ := h1
  refine go ?_
  exact ret2 ⟨rfl, rfl⟩
theorem bitsMul_ok {o : Int} (ho : o = 2 ∨ o = 3 ∨ o = 5 ∨ o = 7) {w : World} : Calls Tryz.prog 189 #[.int .u64 1, .int .u64 o] w (Ret fun v w' => v = .tuple #[.int .u64 0, .int .u64 o] ∧ w' = w) := by
  rcases ho with rfl | rfl | rfl | rfl
  · exact bitsMul_2
  · exact bitsMul_3
  · exact bitsMul_5
  · exact bitsMul_7
end Go.Proofs.YtnphljflkpekmaaGreat

/-
  Walks: slices.Repeat of one integer.
  Conditions: stated at each theorem.
-/
namespace Go.Proofs.YtnphljflkpekmaaGreat
open Go Go.Pc
theorem rep_step {a : Int} {n m k : Nat} (hnm : n + m ≤ k) : (List.replicate n a ++ List.replicate (k - n) 0).take n ++ List.replicate m a ++ (List.replicate n a ++ List.replicate (k - n) (0 : Int)).drop (n + (List.replicate m a).length) = List.replicate (n + m) a ++ List.replicate (k - (n + m)) 0 := by
  have e1 : (List.replicate n a ++ List.replicate (k - n) (0 : Int)).take n = List.replicate n a := List.take_left' (by simp)
  have e2 : (List.replicate n a ++ List.replicate (k - n) (0 : Int)).drop (n + (List.replicate m a).length) = List.replicate (k - (n + m)) 0 := by
    rw [List.length_replicate, ← List.drop_drop, List.drop_left' (by simp), List.drop_replicate]
    congr 1
    omega
  rw [e1, e2, List.replicate_append_replicate]
set_option maxHeartbeats 2000000 in
theorem sliceRepeat_ok {o : Int} (ho : o = 2 ∨ o = 3 ∨ o = 5 ∨ o = 7) {a : Int} {w : World} {vx : Value} {lo hi : Nat} [hx : Ints lo hi w vx [a]] :
    Calls Tryz.prog 163 #[vx, .int .i64 o] w (Ret fun v w' => Ext w w' ∧ GrowI 2 w.heap.size w' v (List.replicate o.toNat a)) := by
  have hob : 2 ≤ o ∧ o ≤ 7 := by omega
  have hl1 : [a].length = 1 := rfl
  refine enter (args := [vx, .int .i64 o]) (l := [.tmp 4]) Tryz.func163 rfl rfl Tryz.ntmps163 (by simp) ?_
  refine go ?_
  refine c_if (fun h4 => ?_) (fun h4 => ?_)
  · omega
  refine go ?_
  refine ra (v := .int .u64 1) (h := rd_conv (u := .int .i64) (by ((try simp only [ev_tmp, ev_const, ev_func, get_put, get_args, get_putL, get_putL_nil, Nat.reduceEqDiff, reduceIte, List.getD_cons_zero, List.getD_cons_succ, List.getD_nil]); first | done | with_reducible rfl)) (by kernel_rfl) (by kernel_rfl) rfl) (next := ?_)
  refine go ?_
  refine ra (v := .int .u64 o) (h := rd_conv (u := .int .i64) (by ((try simp only [ev_tmp, ev_const, ev_func, get_put, get_args, get_putL, get_putL_nil, Nat.reduceEqDiff, reduceIte, List.getD_cons_zero, List.getD_cons_succ, List.getD_nil]); first | done | with_reducible rfl)) (by kernel_rfl) (by kernel_rfl) (by rw [IntKind.wrap_u64]; omega)) (next := ?_)
  refine go ?_
  refine rc (bitsMul_ok ho) (next := fun v1 w1 h1 => ?_)
  obtain ⟨rfl, rfl⟩ := h1
  refine go ?_
  refine ra (v := .bool false) (h := rd_bin (by ((try simp only [ev_tmp, ev_const, ev_func, get_put, get_args, get_putL, get_putL_nil, Nat.reduceEqDiff, reduceIte, List.getD_cons_zero, List.getD_cons_succ, List.getD_nil]); first | done | with_reducible rfl)) (by ((try simp only [ev_tmp, ev_const, ev_func, get_put, get_args, get_putL, get_putL_nil, Nat.reduceEqDiff, reduceIte, List.getD_cons_zero, List.getD_cons_succ, List.getD_nil]); first | done | with_reducible rfl)) (fun _ => rfl) (fun _ => rfl)) (next := ?_)
  refine go ?_
  refine ra (v := .bool false) (h := rd_bin (by ((try simp only [ev_tmp, ev_const, ev_func, get_put, get_args, get_putL, get_putL_nil, Nat.reduceEqDiff, reduceIte, List.getD_cons_zero, List.getD_cons_succ, List.getD_nil]); first | done | with_reducible rfl)) (by ((try simp only [ev_tmp, ev_const, ev_func, get_put, get_args, get_putL, get_putL_nil, Nat.reduceEqDiff, reduceIte, List.getD_cons_zero, List.getD_cons_succ, List.getD_nil]); first | done | with_reducible rfl)) (fun _ => rfl) (fun w => by simp [binOp, Op.intCmp]; omega)) (next := ?_)
  refine go ?_
  refine ra (v := .int .i64 o) (h := rd_conv (u := .int .u64) (by ((try simp only [ev_tmp, ev_const, ev_func, get_put, get_args, get_putL, get_putL_nil, Nat.reduceEqDiff, reduceIte, List.getD_cons_zero, List.getD_cons_succ, List.getD_nil]); first | done | with_reducible rfl)) (by kernel_rfl) (by kernel_rfl) (IntWalk.i64_in _ (by omega))) (next := ?_)
  refine go ?_
  refine st_make_int (by ((try simp only [ev_tmp, ev_const, ev_func, get_put, get_args, get_putL, get_putL_nil, Nat.reduceEqDiff, reduceIte, List.getD_cons_zero, List.getD_cons_succ, List.getD_nil]); first | done | with_reducible rfl)) (by ((try simp only [ev_tmp, ev_const, ev_func, get_put, get_args, get_putL, get_putL_nil, Nat.reduceEqDiff, reduceIte, List.getD_cons_zero, List.getD_cons_succ, List.getD_nil]); first | done | with_reducible rfl)) (by omega) (by omega) (by first | exact True.intro | exact ⟨_, rfl, by ((try simp only [ev_tmp, ev_const, ev_func, get_put, get_args, get_putL, get_putL_nil, Nat.reduceEqDiff, reduceIte, List.getD_cons_zero, List.getD_cons_succ, List.getD_nil, Bool.not_true, Bool.not_false]); first | done | with_reducible rfl)⟩) fun w2 v2 he2 hs2 ho2 => ?_
  have hx2 : Ints lo hi w2 vx [a] := hx.same (he2.same _ _)
  obtain ⟨A, c, hvx, _, _, hcell⟩ := hx2.sl.ex
  obtain ⟨a0, hA, _, _, hc0⟩ := hcell 0 (.int .i64 a) rfl
  obtain ⟨cap, cur, hv2, _, hcap, hcapm, _⟩ := ho2.own.ex
  have hrl : (List.replicate o.toNat (0 : Int)).length = o.toNat := by simp
  have hml : ((List.replicate o.toNat (0 : Int)).map (Value.int .i64)).length = o.toNat := by simp
  have hzl : ([a].map (Value.int .i64)).length = 1 := rfl
  rw [hml] at hv2 hcap
  rw [hA] at hvx
  refine go ?_
  refine st_copyi (cs := [a]) (n := 0) ho2 (Eq.trans (by ((try simp only [ev_tmp, ev_const, ev_func, get_put, get_args, get_putL, get_putL_nil, Nat.reduceEqDiff, reduceIte, List.getD_cons_zero, List.getD_cons_succ, List.getD_nil]); first | done | with_reducible rfl)) hv2) (Eq.trans (by ((try simp only [ev_tmp, ev_const, ev_func, get_put, get_args, get_putL, get_putL_nil, Nat.reduceEqDiff, reduceIte, List.getD_cons_zero, List.getD_cons_succ, List.getD_nil]); first | done | with_reducible rfl)) hvx) ?_ ?_ ?_ (next := fun w3 hch3 ho3 => ?_)
  · rw [hzl]
    show 1 = Nat.min 1 o.toNat
    have : 1 ≤ o.toNat := by omega
    exact (Nat.min_eq_left this).symm
  · intro j u hu
    have hj : j = 0 := by
      cases j with
      | zero => rfl
      | succ j => simp at hu
    subst hj
    have : a = u := by simpa using hu
    rw [← this]; exact hc0
  · rw [hrl]; show 0 + 1 ≤ o.toNat; omega
  have e3 := rep_step (a := a) (n := 0) (m := 1) (k := o.toNat) (by omega)
  simp only [List.replicate_zero, List.nil_append, Nat.sub_zero, List.replicate_succ] at e3
  have ho3' : OwnI 2 w1.heap.size w3 v2 (List.replicate 1 a ++ List.replicate (o.toNat - 1) 0) := by
    have h := ho3
    rw [show (List.replicate o.toNat (0 : Int)).take 0 ++ [a] ++ (List.replicate o.toNat 0).drop (0 + [a].length) = List.replicate 1 a ++ List.replicate (o.toNat - 1) 0 by simp [List.drop_replicate]] at h
    exact h
  have hE3 : Ext w1 w3 := hch3.ext he2 (Nat.le_refl _)
  clear ho2 ho3 hch3 e3
  refine go ?_
  refine r_loop (fun m ρ w' => ∃ n : Nat, Has ρ [(7, v2), (8, .int .i64 n)] ∧ Chg w1.heap.size w3 w' ∧ OwnI 2 w1.heap.size w' v2 (List.replicate n a ++ List.replicate (o.toNat - n) 0) ∧ 1 ≤ n ∧ n ≤ o.toNat ∧ m = o.toNat - n) (o.toNat - 1) ?_ ?_
  · refine ⟨1, ?_, Chg.refl _ _, ho3', Nat.le_refl _, by omega, rfl⟩
    exact hasP
  clear ho3'
  rintro m ρ w4 ⟨n, hH, hch4, ho4, hn1, hno, hm⟩
  refine rwp_has hH fun ρ0 => ?_
  have hxl : (List.replicate n a ++ List.replicate (o.toNat - n) (0 : Int)).length = o.toNat := by simp; omega
  refine go ?_
  refine c_if (fun h5 => ?_) (fun h5 => ?_)
  · have hno' : n < o.toNat := by omega
    refine go ?_
    refine z_order w1.heap.size (List.range 10) (h := fun w5 he5 _ => ?_)
    have ho5 : OwnI 2 w1.heap.size w5 v2 (List.replicate n a ++ List.replicate (o.toNat - n) 0) := OwnI.ext (x := he5) (h := ho4)
    obtain ⟨m, hmd⟩ : ∃ m, min n (o.toNat - n) = m := ⟨_, rfl⟩
    have hm0 : 1 ≤ m ∧ n + m ≤ o.toNat ∧ m ≤ n := by omega
    have hcl : (List.replicate m a).length = m := by simp
    have hadd : ∀ q, (Addr.mk w1.heap.size 0 none).add q = ⟨w1.heap.size, q, none⟩ := fun q => by unfold Addr.add; split <;> simp_all
    have hcut : ∀ h, cut v2 n h = .slice (some ⟨w1.heap.size, n, none⟩) (h - n) (cap - n) := fun h => by
      rw [hv2]
      simp only [cut, sliced]
      rw [if_neg (by omega)]
      simp [hadd]
    have hcutTo : cutTo v2 n = .slice (some ⟨w1.heap.size, 0, none⟩) n cap := by rw [hv2]; rfl
    obtain ⟨A5, c5, hv5, _, _, hcell5⟩ := ho5.own.toSl.ex
    have hlen2 : ∀ w', Len w' v2 o.toNat := fun w' => ⟨some ⟨w1.heap.size, 0, none⟩, cap, hv2, hcap, by have := hcapm; simp only [maxLen] at this; omega, fun _ => ⟨_, rfl⟩⟩
    refine zgo ?_
    refine za (v := cut v2 n o.toNat) (h := ⟨fun w' _ => rd_slice_l (hl := hlen2 w') (by ((try simp only [ev_tmp, ev_const, ev_func, get_put, get_args, get_putL, get_putL_nil, Nat.reduceEqDiff, reduceIte, List.getD_cons_zero, List.getD_cons_succ, List.getD_nil]); first | done | with_reducible rfl)) (by ((try simp only [ev_tmp, ev_const, ev_func, get_put, get_args, get_putL, get_putL_nil, Nat.reduceEqDiff, reduceIte, List.getD_cons_zero, List.getD_cons_succ, List.getD_nil]); first | done | with_reducible rfl)) (by omega) (by omega)⟩) (next := ?_)
    refine zgo ?_
    refine za (v := cutTo v2 n) (h := ⟨fun w' _ => rd_slice_h (hl := hlen2 w') (by ((try simp only [ev_tmp, ev_const, ev_func, get_put, get_args, get_putL, get_putL_nil, Nat.reduceEqDiff, reduceIte, List.getD_cons_zero, List.getD_cons_succ, List.getD_nil]); first | done | with_reducible rfl)) (by ((try simp only [ev_tmp, ev_const, ev_func, get_put, get_args, get_putL, get_putL_nil, Nat.reduceEqDiff, reduceIte, List.getD_cons_zero, List.getD_cons_succ, List.getD_nil]); first | done | with_reducible rfl)) (by omega) (by omega)⟩) (next := ?_)
    refine z_copyi (cs := List.replicate m a) (n := n) ho5 (hx := Eq.trans (by ((try simp only [ev_tmp, ev_const, ev_func, get_put, get_args, get_putL, get_putL_nil, Nat.reduceEqDiff, reduceIte, List.getD_cons_zero, List.getD_cons_succ, List.getD_nil]); first | done | with_reducible rfl)) (hcut _)) (hy := Eq.trans (by ((try simp only [ev_tmp, ev_const, ev_func, get_put, get_args, get_putL, get_putL_nil, Nat.reduceEqDiff, reduceIte, List.getD_cons_zero, List.getD_cons_succ, List.getD_nil]); first | done | with_reducible rfl)) hcutTo) (hn := ?_) (hsrc := ?_) (hf := ?_) (next := fun w6 hch6 ho6 => ?_)
    · rw [hcl, ← hmd]
    · intro j u hu
      have hjm : j < m := by
        rw [List.getElem?_replicate] at hu
        by_cases e : j < m
        · exact e
        · rw [if_neg e] at hu; cases hu
      have hua : a = u := by
        rw [List.getElem?_replicate, if_pos hjm] at hu
        injection hu
      obtain ⟨a5, hA5, _, _, hc5⟩ := hcell5 j (.int .i64 a) (by
        rw [List.getElem?_map, List.getElem?_append_left (by simp; omega), List.getElem?_replicate, if_pos (by omega)]
        rfl)
      rw [hv2] at hv5
      injection hv5 with hv5 _ _
      rw [hA5] at hv5
      injection hv5 with hv5
      rw [hv5, ← hua]
      exact hc5
    · rw [hcl, hxl]; exact hm0.2.1
    rw [rep_step hm0.2.1] at ho6
    refine zgo ?_
    refine z_end ?_
    refine go ?_
    refine loopQ_normal ?_ ⟨n + m, ?_, (hch4.grow he5).trans hch6, ho6, by omega, hm0.2.1, rfl⟩
    · omega
    · exact hasP
  · obtain rfl : n = o.toNat := by omega
    rw [Nat.sub_self, List.replicate_zero, List.append_nil] at ho4
    refine go ?_
    exact ret1 ⟨hch4.ext hE3 (Nat.le_refl _), ⟨ho4.own.toN⟩⟩
end Go.Proofs.YtnphljflkpekmaaGreat

/-
  Walks: the program's relators, values of words, tests of homomorphisms (PresentationRelators, evaluate, respects).
  Conditions: stated at each theorem.
-/
namespace Go.Proofs.YtnphljflkpekmaaGreat
open Go Go.Pc
theorem ints_bdI {e : List Int} {n : Nat} (hl : LetW n e) (hn : n ≤ 6) : ∀ i, i < e.length → -1000000 ≤ e.getD i 0 ∧ e.getD i 0 ≤ 1000000 := fun i hi => by
  have e1 : e.getD i 0 = e[i] := by simp [hi]
  have := hl _ (List.getElem_mem hi)
  omega
theorem letW_atI {n : Nat} {w : List Int} (h : LetW n w) {k : Nat} (hk : k < w.length) : w.getD k 0 ≠ 0 ∧ -(n : Int) ≤ w.getD k 0 ∧ w.getD k 0 ≤ n := by
  have e1 : w.getD k 0 = w[k] := by simp [hk]
  rw [e1]
  exact h _ (List.getElem_mem hk)
theorem rels_bd {p : Pr} (hv : Valid p) : ∀ m, m ≤ p.n → (relL p m).length ≤ 100 := fun m hm => by
  have h := (rels_props hv).1
  have : (relL p m).length ≤ (rels p).length := by
    unfold rels relL
    simp only [List.length_append]
    have e : List.range p.n = List.range m ++ (List.range (p.n - m)).map (m + ·) := by
      rw [← List.range_add, show m + (p.n - m) = p.n by omega]
    rw [e, List.flatMap_append, List.length_append]
    simp only [List.length_append, List.length_map, List.length_range]
    omega
  omega
set_option maxHeartbeats 4000000 in
theorem PresentationRelators_ok {p : Pr} (hv : Valid p) {w : World} {vp : Value} {lo hi : Nat} [hp : Pres lo hi w vp p] :
    Calls Tryz.prog 121 #[vp] w (Ret fun v w' => ∃ (u : Value) (e : Int), v = .tuple #[u, .int .i64 e] ∧ Ext w w' ∧ ∃ rs, rs.map (·.2) = rels p ∧ GrowL 22 w.heap.size w' u rs) := by
  have hn6 := hv.n6
  have hol : p.ord.length = p.n := rfl
  have hwl := hv.lenw
  have hcl := hv.lenc
  replace hp := hp.wide
  obtain ⟨vo, vpw, vc, ps, cs, css, rfl, h1, h2, h3⟩ := hp.ex
  refine enter (args := [.agg #[vo, vpw, vc]]) (l := [.tmp 2, .tmp 3]) Tryz.func121 rfl rfl Tryz.ntmps121 (by simp) ?_
  refine go ?_
  refine st_box3 (by ((try simp only [ev_tmp, ev_const, ev_func, get_put, get_args, get_putL, get_putL_nil, Nat.reduceEqDiff, reduceIte, List.getD_cons_zero, List.getD_cons_succ, List.getD_nil]); first | done | with_reducible rfl)) (by first | exact True.intro | exact ⟨_, rfl, by ((try simp only [ev_tmp, ev_const, ev_func, get_put, get_args, get_putL, get_putL_nil, Nat.reduceEqDiff, reduceIte, List.getD_cons_zero, List.getD_cons_succ, List.getD_nil, Bool.not_true, Bool.not_false]); first | done | with_reducible rfl)⟩) fun w1 b he1 hb1 hs1 hc0 hc1 hc2 => ?_
  have hz1 := he1.size
  refine go ?_
  refine rc (impl_IsPresentation_ok (p := p) (by omega)) (next := fun v0 w0 h0 => ?_)
  obtain ⟨b0, rfl, hb0, he0⟩ := h0
  have hE0 := he1.trans he0
  refine go ?_
  refine c_b (fun e0 => ?_) (fun e0 => ?_)
  · rw [hb0.2 hv] at e0; cases e0
  refine go ?_
  refine r_for p.n (fun i ρ w' => ∃ vl rs, Has ρ [(1, .pointer (some ⟨b, 0, none⟩)), (4, vl), (16, vo), (17, .int .i64 p.n), (18, .int .i64 i)] ∧ Ext w0 w' ∧ GrowL 22 w0.heap.size w' vl rs ∧ rs.map (·.2) = (List.range i).map (relP p)) ?_ ?_
  · refine ⟨nilv, [], ?_, Ext.refl _, GrowL.nil _ _ _ (Nat.le_refl _), rfl⟩
    exact hasP
  rintro i ρ w3 hi ⟨vl, rs, hH, he3, hG3, hrs3⟩
  refine rwp_has hH fun ρ0 => ?_
  have hz3 := he3.size
  have hE3 := hE0.trans he3
  have hrl3 : rs.length = i := by have := congrArg List.length hrs3; simpa using this
  refine go ?_
  refine c_if (fun h4 => ?_) (fun h4 => ?_)
  · have hin : i < p.n := by omega
    have ho := hv.opos hin
    have hoi : p.ord.getD i 0 = p.o i := rfl
    have hop := hv.prime i hin
    have hiw := invec_word hv (hv.w_in i hin)
    have hpw : p.w i = p.pow.getD i [] := rfl
    rw [hpw] at hiw
    have hlw := letW_word hiw.1
    obtain ⟨b', hb', hvb'⟩ := own_some' vl w0.heap.size w3.heap.size hz3 (fun g h => (hG3.lst.lt h).1)
    have hzE0 := hE0.size
    have hz0 := he0.size
    have ap1 : Apart 0 w.heap.size b' := ⟨.inr (by omega)⟩
    have ap2 : Apart b (b + 1) b' := ⟨.inr (by have := hc0.lt; omega)⟩
    refine go ?_
    rw [hoi]
    refine z_order b' [0, 1, 2, 6, 7, 8, 9, 10, 4, 3, 5, 11, 12, 13, 14, 15, 16] (h := fun w4 he4 hs4 => ?_)
    refine zgo ?_
    refine z_slice1i (t := 22) (e := 2) (z := .int .i64 0) (a := (i : Int) + 1) (next := fun w5 v5 he5 hs5 ho5 => ?_)
    have hx5 : Ints w4.heap.size (w4.heap.size + 1) w5 v5 [(i : Int) + 1] := ⟨ho5.toSl⟩
    refine zc (sliceRepeat_ok (o := p.o i) hop) (next := fun v6 w6 h6 => ?_)
    obtain ⟨he6, hG6⟩ := h6
    refine zc (normalWord_ok (e := p.pow.getD i []) (by omega) (fun j hj => by have := hiw.2.2 j hj; omega)) (next := fun v7 w7 h7 => ?_)
    obtain ⟨he7, hG7⟩ := h7
    have hi7 := hG7.fr.ints
    refine zc (invertWord_ok (e := wordV (p.pow.getD i [])) (by omega) (ints_bdI hlw hn6)) (next := fun v8 w8 h8 => ?_)
    obtain ⟨he8, hG8⟩ := h8
    have hG68 := @GrowI.ext _ _ _ _ _ _ (he7.trans he8) hG6
    have hz5 := he5.size
    have hz58 := ((he6.trans he7).trans he8).size
    refine z_appi hG68 hG8.fr.ints hz58 hz5 (by simp only [List.length_replicate, invW_len]; omega) (next := fun v9 w9 hG9 hx9 hz9 => ?_)
    have hx49 := hx9 w4 (he5.trans ((he6.trans he7).trans he8)) hz5
    refine z_grow (hG3.ext he4) hx49 (hG9.fr.mono hz5) (by have := he4.size; omega) (by omega) hvb' (next := fun v10 v11 w11 hG11 hx11 hz11 hgs11 => ?_)
    refine zgo ?_
    refine z_end ?_
    refine go ?_
    refine forQ_normal (by omega) ⟨v11, _, ?_, hx11 w0 ((he3.trans he4).trans hx49) (Nat.le_refl _), hG11, ?_⟩
    · exact hasP
    · rw [List.map_append, hrs3, List.range_succ, List.map_append]; rfl
  · obtain rfl : i = p.n := by omega
    have hrs0 : rs.map (·.2) = relL p 0 := by rw [hrs3]; simp [relL]
    have hrb := rels_bd hv
    clear hrs3
    refine go ?_
    refine r_for p.n (fun i ρ w' => ∃ vl rs, Has ρ [(1, .pointer (some ⟨b, 0, none⟩)), (4, vl), (41, vo), (42, .int .i64 p.n), (43, .int .i64 i)] ∧ Ext w0 w' ∧ GrowL 22 w0.heap.size w' vl rs ∧ rs.map (·.2) = relL p i) ?_ ?_
    · refine ⟨vl, rs, ?_, he3, hG3, hrs0⟩
      exact hasP
    clear hG3 he3 hrs0 hrl3 hz3 hE3
    rintro i ρ w3 hi ⟨vl, rs, hH3, he3, hG3, hrs3⟩
    refine rwp_has hH3 fun ρ1 => ?_
    have hz3 := he3.size
    have hE3 := hE0.trans he3
    refine go ?_
    refine c_if (fun h5 => ?_) (fun h5 => ?_)
    · have hin : i < p.n := by omega
      have hci := hv.lenci i hin
      refine go ?_
      refine r_for (p.n - 1 - i) (fun k ρ w' => ∃ vl rs, Has ρ [(1, .pointer (some ⟨b, 0, none⟩)), (4, vl), (7, .int .i64 i), (41, vo), (42, .int .i64 p.n), (43, .int .i64 i), (50, Pc.rowAt vc cs i), (51, .int .i64 (p.cnj.getD i []).length), (52, .int .i64 k)] ∧ Ext w0 w' ∧ GrowL 22 w0.heap.size w' vl rs ∧ rs.map (·.2) = relL p i ++ relCs p i k) ?_ ?_
      · refine ⟨vl, rs, ?_, he3, hG3, by simpa [relCs] using hrs3⟩
        exact hasP
      clear hG3 he3 hrs3 hz3 hE3
      rintro k ρ w4 hk ⟨vl, rs, hH4, he4, hG4, hrs4⟩
      refine rwp_has hH4 fun ρ2 => ?_
      have hz4 := he4.size
      have hE4 := hE0.trans he4
      have hrl4 : rs.length ≤ 1000 := by
        have h := congrArg List.length hrs4
        have h2 := hrb i (by omega)
        simp only [List.length_map, List.length_append, relCs, List.length_range] at h
        omega
      have hrow : Pc.Rows 0 w1.heap.size w4 (Pc.rowAt vc cs i) (css.getD i []) (p.cnj.getD i []) := ((h3.same ((hE4).same _ _)).vals.at_ i).mono (Nat.zero_le _) (by have := he1.size; omega)
      refine go ?_
      refine c_if (fun h6 => ?_) (fun h6 => ?_)
      · have hkn : k < p.n - 1 - i := by omega
        have hiw := invec_word hv (hv.c_in i (i + 1 + k) (by omega) (by omega))
        have hw : p.c i (i + 1 + k) = (p.cnj.getD i []).getD k [] := by
          show (p.cnj.getD i []).getD (i + 1 + k - (i + 1)) [] = _
          rw [show i + 1 + k - (i + 1) = k by omega]
        rw [hw] at hiw
        have hlw := letW_word hiw.1
        refine go ?_
        refine st_slice3i (a := -((i : Int) + 1)) (b := (i : Int) + k + 2) (c := (i : Int) + 1) (by ((try simp only [ev_tmp, ev_const, ev_func, get_put, get_args, get_putL, get_putL_nil, Nat.reduceEqDiff, reduceIte, List.getD_cons_zero, List.getD_cons_succ, List.getD_nil]); first | done | with_reducible rfl)) (by ((try simp only [ev_tmp, ev_const, ev_func, get_put, get_args, get_putL, get_putL_nil, Nat.reduceEqDiff, reduceIte, List.getD_cons_zero, List.getD_cons_succ, List.getD_nil]); first | done | with_reducible rfl)) (by ((try simp only [ev_tmp, ev_const, ev_func, get_put, get_args, get_putL, get_putL_nil, Nat.reduceEqDiff, reduceIte, List.getD_cons_zero, List.getD_cons_succ, List.getD_nil]); first | done | with_reducible rfl)) ?_ (by first | exact True.intro | exact ⟨_, rfl, by ((try simp only [ev_tmp, ev_const, ev_func, get_put, get_args, get_putL, get_putL_nil, Nat.reduceEqDiff, reduceIte, List.getD_cons_zero, List.getD_cons_succ, List.getD_nil, Bool.not_true, Bool.not_false]); first | done | with_reducible rfl)⟩) fun w5 v5 he5 hG5 => ?_
        · rfl
        have e3 : [-((i : Int) + 1), (i : Int) + k + 2, (i : Int) + 1] = [-(i : Int) - 1, ((i + 1 + k : Nat) : Int) + 1, (i : Int) + 1] := by
          rw [show -((i : Int) + 1) = -(i : Int) - 1 by omega, show (i : Int) + k + 2 = ((i + 1 + k : Nat) : Int) + 1 by omega]
        rw [e3] at hG5
        refine go ?_
        refine rc (normalWord_ok (e := (p.cnj.getD i []).getD k []) (by omega) (fun j hj => by have := hiw.2.2 j hj; omega)) (next := fun v6 w6 h7 => ?_)
        obtain ⟨he6, hG6⟩ := h7
        have hi6 := hG6.fr.ints
        refine go ?_
        refine rc (invertWord_ok (e := wordV ((p.cnj.getD i []).getD k [])) (by omega) (ints_bdI hlw hn6)) (next := fun v7 w7 h8 => ?_)
        obtain ⟨he7, hG7⟩ := h8
        have hG57 := @GrowI.ext _ _ _ _ _ _ (he6.trans he7) hG5
        have hz7 := (he5.trans (he6.trans he7)).size
        refine go ?_
        refine st_appi hG57 hG7.fr.ints hz7 (by simp only [List.length_cons, List.length_nil, invW_len]; omega) (next := fun v8 w8 hG8 hx8 hz8 => ?_)
        have hx48 := hx8 w4 (he5.trans (he6.trans he7)) (Nat.le_refl _)
        refine go ?_
        refine st_grow hG4 hx48 hG8.fr hz4 (by omega) (next := fun v9 v10 w10 hG10 hx10 hz10 hgs10 => ?_)
        refine go ?_
        refine forQ_normal (by omega) ⟨v10, _, ?_, hx10 w0 (he4.trans hx48) (Nat.le_refl _), hG10, ?_⟩
        · exact hasP
        · rw [List.map_append, hrs4, relCs_succ, List.append_assoc]; rfl
      · obtain rfl : k = p.n - 1 - i := by omega
        rw [← relL_succ] at hrs4
        refine go ?_
        refine forQ_normal (by omega) ⟨vl, rs, ?_, he4, hG4, hrs4⟩
        exact hasP
    · obtain rfl : i = p.n := by omega
      refine go ?_
      exact ret2 ⟨vl, 0, rfl, hE3, rs, hrs3, hG3.lower hE0.size hE3.size⟩
theorem _root_.Go.Pc.rd_max {P : Program} {ρ : Env} {w : World} {x y : Operand} {a b : Int} {ty : TypeId} {ts : Array TypeId} (h : ev ρ x = .int .i64 a) (k : ev ρ y = .int .i64 b) : Rd P (.call { callee := .builtin .max, args := #[x, y], argTypes := ts }) ty ρ w (.int .i64 (if b > a then b else a)) := by
  constructor; intro _ _ _ _
  simp [execOp, resolve, invoke, builtin, h, k, Builtin.max_, Builtin.max2]
theorem absI_ok {n : Int} {m : Nat} (h : n = m ∨ n = -(m : Int)) (hm : m ≤ 1000000) {w : World} : Calls Tryz.prog 191 #[.int .i64 n] w (Ret fun v w' => v = .int .i64 m ∧ w' = w) := by
  refine enter (args := [.int .i64 n]) (l := [.tmp 2]) Tryz.func191 rfl rfl Tryz.ntmps191 (by simp) ?_
  refine go ?_
  refine ra (v := .int .i64 (if -n > n then -n else n)) (h := rd_max (by ((try simp only [ev_tmp, ev_const, ev_func, get_put, get_args, get_putL, get_putL_nil, Nat.reduceEqDiff, reduceIte, List.getD_cons_zero, List.getD_cons_succ, List.getD_nil]); first | done | with_reducible rfl)) (by ((try simp only [ev_tmp, ev_const, ev_func, get_put, get_args, get_putL, get_putL_nil, Nat.reduceEqDiff, reduceIte, List.getD_cons_zero, List.getD_cons_succ, List.getD_nil]); first | done | with_reducible rfl))) (next := ?_)
  refine go ?_
  refine ret1 (v := .int .i64 (if -n > n then -n else n)) ⟨?_, rfl⟩
  congr 1
  split <;> omega
set_option maxHeartbeats 2000000 in
theorem evaluate_ok {q : Pr} [hc : ConAll q] {ys : List (El q)} {ws : List Int} (hw : LetW ys.length ws) (hwl : ws.length ≤ 100000) (hyl : ys.length ≤ 1000) {w : World} {vq vw vi : Value} {us : List Value} {xss : List (List Int)} {lo hi lo1 hi1 lo2 hi2 : Nat} [hp : PresP lo hi w vq q] [hx : Ints lo1 hi1 w vw ws] [hu : Pc.Rows lo2 hi2 w vi us xss] (hus : xss = vecs ys) :
    Calls Tryz.prog 166 #[vq, vw, vi] w (Ret fun v w' => Ext w w' ∧ Fr w.heap.size w' v (evalW ys ws).v) := by
  subst hus
  have hv := hc.valid
  have hn6 := hv.n6
  have hol : q.ord.length = q.n := rfl
  have hvl : (vecs ys).length = ys.length := by simp
  replace hp := hp.wide
  replace hx := hx.wide
  replace hu := hu.wide
  have hpP := hp
  obtain ⟨g, og, vo, vpw, vc, ps, cs, css, rfl, hg1, hg2, hc0, hc1, hc2, h1, h2, h3⟩ := hp.ex
  refine enter (args := [.pointer (some ⟨g, og, none⟩), vw, vi]) (l := [.tmp 6]) Tryz.func166 rfl rfl Tryz.ntmps166 (by simp) ?_
  refine go ?_
  refine st_make_int (by ((try simp only [ev_tmp, ev_const, ev_func, get_put, get_args, get_putL, get_putL_nil, Nat.reduceEqDiff, reduceIte, List.getD_cons_zero, List.getD_cons_succ, List.getD_nil]); first | done | with_reducible rfl)) (by ((try simp only [ev_tmp, ev_const, ev_func, get_put, get_args, get_putL, get_putL_nil, Nat.reduceEqDiff, reduceIte, List.getD_cons_zero, List.getD_cons_succ, List.getD_nil]); first | done | with_reducible rfl)) (by omega) (by omega) (by first | exact True.intro | exact ⟨_, rfl, by ((try simp only [ev_tmp, ev_const, ev_func, get_put, get_args, get_putL, get_putL_nil, Nat.reduceEqDiff, reduceIte, List.getD_cons_zero, List.getD_cons_succ, List.getD_nil, Bool.not_true, Bool.not_false]); first | done | with_reducible rfl)⟩) fun w2 v2 he2 hs2 ho2 => ?_
  have hz2 := he2.size
  have hzz : List.replicate q.ord.length (0 : Int) = (1 : El q).v := rfl
  rw [hzz] at ho2
  have ap1 : Apart 0 w.heap.size w.heap.size := ⟨.inr (Nat.le_refl _)⟩
  have hgs : g + 1 ≤ w.heap.size := by have := hc0.lt; omega
  have ap2 : Apart g (g + 1) w.heap.size := ⟨.inr hgs⟩
  refine go ?_
  refine r_for ws.length (fun k ρ w' => ∃ xs, Has ρ [(0, .pointer (some ⟨g, og, none⟩)), (2, vi), (7, v2), (17, vw), (18, .int .i64 ws.length), (19, .int .i64 k)] ∧ Chg w.heap.size w2 w' ∧ OwnI 2 w.heap.size w' v2 xs ∧ xs = (evalW ys (ws.take k)).v) ?_ ?_
  · refine ⟨_, ?_, Chg.refl _ _, ho2, rfl⟩
    exact hasP
  clear ho2
  rintro k ρ w3 hk ⟨xs, hH, hch3, ho3, hxs⟩
  refine rwp_has hH fun ρ0 => ?_
  have hE3 : Ext w w3 := hch3.ext he2 (Nat.le_refl _)
  refine go ?_
  refine c_if (fun h4 => ?_) (fun h4 => ?_)
  · have hkn : k < ws.length := by omega
    have hlk := letW_atI hw hkn
    have hst := evalW_take (ys := ys) hkn
    refine go ?_
    obtain ⟨j, hj⟩ : ∃ j : Nat, ws.getD k 0 = ((j + 1 : Nat) : Int) ∨ ws.getD k 0 = -((j + 1 : Nat) : Int) := ⟨(ws.getD k 0).natAbs - 1, by omega⟩
    have hjn : j < ys.length := by omega
    have hgj : (vecs ys).getD j [] = (ys.getD j 1).v := by rw [vecs_getD ys hjn, getD_one hjn]
    refine rc (absI_ok hj (by omega)) (next := fun v5 w5 h5 => ?_)
    obtain ⟨rfl, rfl⟩ := h5
    have hj1 : j + 1 - 1 = j := rfl
    have hrow : Ints 0 w.heap.size w5 (Pc.rowAt vi us j) ((vecs ys).getD j []) := (hu.same (hE3.same _ _)).vals.at_ j
    refine go ?_
    rw [hj1]
    refine c_if (fun h6 => ?_) (fun h6 => ?_)
    · have hlv : letV ys (ws.getD k 0) = (ys.getD j 1)⁻¹ := by
        unfold letV
        rw [if_neg (by omega), show (-ws.getD k 0 - 1).toNat = j by omega]
      refine go ?_
      refine rc (invert_ok (p := q) (i := 0) (x := ys.getD j 1) hgj) (next := fun v6 w6 h7 => ?_)
      obtain ⟨he6, hf6⟩ := h7
      have hi6 := hf6.ints
      have ho6 : OwnI 2 w.heap.size w6 v2 xs := OwnI.ext (x := he6) (h := ho3)
      have hz3 := hch3.size
      have ap3 : Apart w5.heap.size w6.heap.size w.heap.size := ⟨.inl (by omega)⟩
      clear ho3
      refine go ?_
      refine rc (timesVector_ok (p := q) 0 (i := 0) (x := evalW ys (ws.take k)) (y := (ys.getD j 1)⁻¹) (Nat.zero_le _) hxs rfl (fun k hk => absurd hk (Nat.not_lt_zero _))) (next := fun v7 w7 h8 => ?_)
      obtain ⟨hch7, ho7⟩ := h8
      refine go ?_
      refine forQ_normal (by omega) ⟨_, ?_, (hch3.grow he6).trans hch7, ho7, by rw [hst, hlv]⟩
      exact hasP
    · have hlv : letV ys (ws.getD k 0) = ys.getD j 1 := by
        unfold letV
        rw [if_pos (by omega), show (ws.getD k 0 - 1).toNat = j by omega]
      refine go ?_
      refine rc (timesVector_ok (p := q) 0 (i := 0) (x := evalW ys (ws.take k)) (y := ys.getD j 1) (Nat.zero_le _) hxs hgj (fun k hk => absurd hk (Nat.not_lt_zero _))) (next := fun v7 w7 h8 => ?_)
      obtain ⟨hch7, ho7⟩ := h8
      refine go ?_
      refine forQ_normal (by omega) ⟨_, ?_, hch3.trans hch7, ho7, by rw [hst, hlv]⟩
      exact hasP
  · obtain rfl : k = ws.length := by omega
    rw [List.take_length] at hxs
    refine go ?_
    refine ret1 ⟨hE3, ?_⟩
    rw [← hxs]
    exact ho3.toFr (Nat.le_refl _)
set_option maxHeartbeats 2000000 in
theorem respects_ok {p q : Pr} (hvp : Valid p) [hc : ConAll q] {ys : List (El q)} (hyl : ys.length = p.n) {w : World} {vr vq vi : Value} {ur us : List Value} {rss xss : List (List Int)} {lo hi lo1 hi1 lo2 hi2 : Nat} [hq : PresP lo1 hi1 w vq q] [hr : Pc.Rows lo hi w vr ur rss] [hu : Pc.Rows lo2 hi2 w vi us xss] (hrs : rss = rels p) (hus : xss = vecs ys) :
    Calls Tryz.prog 122 #[vr, vq, vi] w (Ret fun v w' => ∃ b, v = .bool b ∧ (b = true ↔ RelOk p ys) ∧ Ext w w') := by
  subst hus hrs
  have hn6 := hvp.n6
  have hq6 := hc.valid.n6
  have hvl : (vecs ys).length = ys.length := by simp
  have hrp := rels_props hvp
  have hul := hr.vals.len
  refine enter (args := [vr, vq, vi]) (l := [.tmp 6]) Tryz.func122 rfl rfl Tryz.ntmps122 (by simp) ?_
  refine go ?_
  refine r_for (rels p).length (fun k ρ w' => Has ρ [(1, vq), (2, vi), (9, vr), (10, .int .i64 (rels p).length), (11, .int .i64 k)] ∧ Ext w w' ∧ ∀ j, j < k → evalW ys ((rels p).getD j []) = 1) ?_ ?_
  · refine ⟨?_, Ext.refl _, fun j hj => by omega⟩
    exact hasP
  rintro k ρ w3 hk ⟨hH, he3, hI⟩
  refine rwp_has hH fun ρ0 => ?_
  refine go ?_
  refine c_if (fun h4 => ?_) (fun h4 => ?_)
  · have hkn : k < (rels p).length := by omega
    have e1 : (rels p).getD k [] = (rels p)[k] := by simp [hkn]
    have hwk := hrp.2 _ (List.getElem_mem hkn)
    rw [← e1, ← hyl] at hwk
    have hel := (evalW ys ((rels p).getD k [])).inr.len
    refine go ?_
    refine rc (evaluate_ok (q := q) (ys := ys) (ws := (rels p).getD k []) hwk.2 (by omega) (by omega) rfl) (next := fun v5 w5 h5 => ?_)
    obtain ⟨he5, hf5⟩ := h5
    have hi5 := hf5.ints
    refine go ?_
    refine rc (isZero_ok (xs := (evalW ys ((rels p).getD k [])).v) (by omega)) (next := fun v6 w6 h6 => ?_)
    obtain ⟨b6, rfl, hb6, he6⟩ := h6
    rw [← el_one_iff] at hb6
    have hE6 := he5.trans he6
    refine go ?_
    refine c_b (fun h7 => ?_) (fun h7 => ?_)
    · refine go ?_
      refine ret1 ⟨false, rfl, ⟨fun h => (by cases h), fun h => ?_⟩, he3.trans hE6⟩
      rw [hb6.2 (h k hkn)] at h7; cases h7
    · refine go ?_
      refine forQ_normal (by omega) ⟨?_, he3.trans hE6, fun j hj => ?_⟩
      · exact hasP
      · by_cases e : j = k
        · subst e; exact hb6.1 (by simpa using h7)
        · exact hI j (by omega)
  · refine go ?_
    exact ret1 ⟨true, rfl, ⟨fun _ j hj => hI j (by omega), fun _ => rfl⟩, he3⟩
end Go.Proofs.YtnphljflkpekmaaGreat

/-
  Homomorphisms by images: what the tests ask for.
  Conditions: none.
-/
namespace Go.Proofs.YtnphljflkpekmaaGreat
open Go Go.Pc
/-- The images satisfy the relators. -/
def RelC (p q : Pr) [ConAll q] (xss : List (List Int)) : Prop := ∃ ys : List (El q), xss = vecs ys ∧ RelOk p ys
def HomP (p q : Pr) (xss : List (List Int)) : Prop := IsGrp p ∧ xss.length = p.n ∧ ∃ hq : IsGrp q, (∀ i, i < xss.length → InR q (xss.getD i [])) ∧ @RelC p q ⟨hq.con⟩ xss
theorem relC_iff {p q : Pr} [ConAll q] {ys : List (El q)} : RelC p q (vecs ys) ↔ RelOk p ys := by
  constructor
  · rintro ⟨zs, h1, h2⟩
    obtain rfl := vecs_inj h1
    exact h2
  · exact fun h => ⟨ys, rfl, h⟩
/-- The image. -/
def HiV (q : Pr) (xss r : List (List Int)) (e : Int) : Prop := (∃ (_ : ConAll q) (ys : List (El q)), xss = vecs ys ∧ r = canon (Gen (fun a : El q => a ∈ ys))) ∧ e = 0
theorem HiV.uniq {q : Pr} {xss : List (List Int)} (a b : List (List Int)) (c d : Int) (h : HiV q xss a c) (k : HiV q xss b d) : a = b ∧ c = d := by
  obtain ⟨⟨hc, ys, h2, h3⟩, h5⟩ := h
  obtain ⟨⟨hc', ys', k2, k3⟩, k5⟩ := k
  obtain rfl := vecs_inj (h2.symm.trans k2)
  exact ⟨by rw [h3, k3], by rw [h5, k5]⟩
/-- The image of a subgroup. -/
def SiV (p q : Pr) (xss uss r : List (List Int)) (e : Int) : Prop := (∃ (_ : ConAll p) (_ : ConAll q) (ys : List (El q)) (zs : List (El p)), xss = vecs ys ∧ uss = vecs zs ∧ r = canon (Gen (fun a : El q => a ∈ zs.map fun z => imgE ys z.v))) ∧ e = 0
theorem SiV.uniq {p q : Pr} {xss uss : List (List Int)} (a b : List (List Int)) (c d : Int) (h : SiV p q xss uss a c) (k : SiV p q xss uss b d) : a = b ∧ c = d := by
  obtain ⟨⟨hc, _, ys, zs, h2, h3, h4⟩, h5⟩ := h
  obtain ⟨⟨hc', _, ys', zs', k2, k3, k4⟩, k5⟩ := k
  obtain rfl := vecs_inj (h2.symm.trans k2)
  obtain rfl := vecs_inj (h3.symm.trans k3)
  exact ⟨by rw [h4, k4], by rw [h5, k5]⟩
/-- The least element that is mapped to an element. -/
def PeV (p q : Pr) (xss : List (List Int)) (xs r : List Int) (e : Int) : Prop := ∃ (_ : ConAll p) (_ : ConAll q) (ys : List (El q)), xss = vecs ys ∧
  (((∀ j, j < ordN p → (imgE ys (allE p j).v).v ≠ xs) ∧ r = [] ∧ e = 4) ∨ (∃ k, k < ordN p ∧ (imgE ys (allE p k).v).v = xs ∧ (∀ j, j < k → (imgE ys (allE p j).v).v ≠ xs) ∧ r = (allE p k).v ∧ e = 0))
theorem PeV.uniq {p q : Pr} {xss : List (List Int)} {xs : List Int} (a b : List Int) (c d : Int) (h : PeV p q xss xs a c) (k : PeV p q xss xs b d) : a = b ∧ c = d := by
  obtain ⟨hc, _, ys, h2, h4⟩ := h
  obtain ⟨hc', _, ys', k2, k4⟩ := k
  obtain rfl := vecs_inj (h2.symm.trans k2)
  rcases h4 with ⟨h5, rfl, rfl⟩ | ⟨i, hi, h6, h7, rfl, rfl⟩ <;> rcases k4 with ⟨k5, rfl, rfl⟩ | ⟨j, hj, k6, k7, rfl, rfl⟩
  · exact ⟨rfl, rfl⟩
  · exact absurd k6 (h5 j hj)
  · exact absurd h6 (k5 i hi)
  · rcases Nat.lt_trichotomy i j with e | e | e
    · exact absurd h6 (k7 i e)
    · subst e; exact ⟨rfl, rfl⟩
    · exact absurd k6 (h7 j e)
end Go.Proofs.YtnphljflkpekmaaGreat

/-
  Lists of lists of rows that grow by one list at a time: 'out = append(out, list)'.
  Conditions: none; nothing of the program stands here.
-/
namespace Go.Pc
open Go Go.RowKit
/-- Rows that lie apart from some blocks. -/
def RsA (s : Nat) (av : Nat → Prop) (w : World) (v : Value) (us : List Value) (xss : List (List Int)) : Prop := ∃ lo hi, Rows lo hi w v us xss ∧ s ≤ lo ∧ hi ≤ w.heap.size ∧ ∀ g, av g → g < lo ∨ hi ≤ g
structure GrowV (e sb s : Nat) (w : World) (v : Value) (us : List Value) (uss : List (List Value)) (xsss : List (List (List Int))) : Prop where
  own : OwnN e sb w v us
  len : us.length = xsss.length
  len' : uss.length = xsss.length
  at_ : ∀ i, i < us.length → RsA s (fun g => v.ownBlock = some g) w (us.getD i nilv) (uss.getD i []) (xsss.getD i [])
/-- The rows of the lists are the call's own. -/
structure OwnC (s : Nat) (w : World) (v : Value) (gs : List (Value × List (Value × List Int))) : Prop where
  own : RowsO s w (flat gs)
  off : ∀ b, v.ownBlock = some b → ¬ BlkOf (flat gs) b
  sp : ∀ q, q ∈ gs → SpA (fun b => BlkOf (flat gs) b ∨ b < s ∨ v.ownBlock = some b) w q.1 (q.2.map (·.1))
section
variable {av av' : Nat → Prop} {e sb s lo hi : Nat} {w w' w0 w1 w2 w3 : World} {v v' u : Value} {us ut : List Value} {uss : List (List Value)} {xss : List (List Int)} {xsss : List (List (List Int))} {rs : List (Value × List Int)} {gs : List (Value × List (Value × List Int))}
theorem RsA.ext (h : RsA s av w v us xss) (x : Ext w w') : RsA s av w' v us xss := by
  obtain ⟨lo, hi, h1, h2, h3, h4⟩ := h
  exact ⟨lo, hi, h1.same (x.same _ _), h2, Nat.le_trans h3 x.size, h4⟩
theorem RsA.beside {ob : Option Nat} (h : RsA s av w v us xss) (hg : w.grownBy w' ob) (hob : ∀ g, ob = some g → av g) (ha : ∀ g, av' g → av g ∨ g = w.heap.size) : RsA s av' w' v us xss := by
  obtain ⟨lo, hi, h1, h2, h3, h4⟩ := h
  refine ⟨lo, hi, h1.same ((Wrt.grown hg).same fun b hb => h4 b (hob b hb)), h2, Nat.le_trans h3 hg.size, fun g hg' => ?_⟩
  rcases ha g hg' with h | h
  · exact h4 g h
  · omega
theorem rows_nilv (lo : Nat) (w : World) : Rows lo lo w nilv [] [] :=
  ⟨⟨⟨none, 0, rfl, Nat.le_refl _, by omega, fun k u hu => by simp at hu⟩⟩, rfl, fun i => ⟨⟨none, 0, by simp, by simp, by omega, fun k u hu => by simp at hu⟩⟩⟩
theorem GrowV.ext (h : GrowV e sb s w v us uss xsss) (x : Ext w w') : GrowV e sb s w' v us uss xsss := ⟨@OwnN.ext _ _ _ _ _ _ x h.own, h.len, h.len', fun i hi => (h.at_ i hi).ext x⟩
theorem GrowV.rowss (h : GrowV e sb s w v us uss xsss) (hsb : s ≤ sb) (hs : s ≤ w.heap.size) : Rowss s w.heap.size w v us uss xsss := by
  refine ⟨h.own.toSl.mono hsb (Nat.le_refl _), h.len, h.len', fun i => ?_⟩
  by_cases hi : i < us.length
  · obtain ⟨lo, hi', h1, h2, h3, _⟩ := h.at_ i hi
    exact h1.mono h2 h3
  · have h1 := h.len
    have h2 := h.len'
    have e1 : us.getD i nilv = nilv := by rw [List.getD_eq_getElem?_getD, List.getElem?_eq_none (by omega)]; rfl
    have e2 : uss.getD i [] = [] := by rw [List.getD_eq_getElem?_getD, List.getElem?_eq_none (by omega)]; rfl
    have e3 : xsss.getD i [] = [] := by rw [List.getD_eq_getElem?_getD, List.getElem?_eq_none (by omega)]; rfl
    rw [e1, e2, e3]
    exact (rows_nilv s w).mono (Nat.le_refl _) hs
theorem GrowV.one {b : Nat} (ho : Own e b w2 v [u]) (hb : b = w1.heap.size) (hsb : sb ≤ b) (hu : Rows s w1.heap.size w1 u ut xss) (hs : s ≤ w1.heap.size) (x : Ext w1 w2) : GrowV e sb s w2 v [u] [ut] [xss] := by
  have h1 := x.size
  refine ⟨ho.toN.mono (by omega), rfl, rfl, fun i hi => ?_⟩
  obtain rfl : i = 0 := by simpa using hi
  refine ⟨s, w1.heap.size, hu.same (x.same _ _), Nat.le_refl _, h1, fun g hg => ?_⟩
  rw [ho.toN_block] at hg; injection hg with hg; omega
theorem GrowV.push (h : GrowV e sb s w0 v us uss xsss) (x01 : Ext w0 w1) (hu : Rows w0.heap.size w1.heap.size w1 u ut xss) (hs : s ≤ w0.heap.size) (x12 : Ext w1 w2)
    (ho : OwnN e sb w3 v' (us ++ [u])) (hg : w2.grownBy w3 v.ownBlock) (hv : v'.ownBlock = v.ownBlock ∨ v'.ownBlock = some w2.heap.size) : GrowV e sb s w3 v' (us ++ [u]) (uss ++ [ut]) (xsss ++ [xss]) := by
  have h1 := h.len
  have h2 := h.len'
  have hav : ∀ g, v'.ownBlock = some g → v.ownBlock = some g ∨ g = w2.heap.size := fun g hg' => by
    rcases hv with e | e
    · rw [e] at hg'; exact .inl hg'
    · rw [e] at hg'; injection hg' with hg'; exact .inr hg'.symm
  refine ⟨ho, by simp [h1], by simp [h2], fun i hi => ?_⟩
  by_cases hi2 : i < us.length
  · have e1 : (us ++ [u]).getD i nilv = us.getD i nilv := by simp [List.getElem?_append_left hi2]
    have e2 : (uss ++ [ut]).getD i [] = uss.getD i [] := by simp [List.getElem?_append_left (show i < uss.length by omega)]
    have e3 : (xsss ++ [xss]).getD i [] = xsss.getD i [] := by simp [List.getElem?_append_left (show i < xsss.length by omega)]
    rw [e1, e2, e3]
    exact ((h.at_ i hi2).ext (x01.trans x12)).beside hg (fun g e => e) hav
  · have hi3 : i = us.length := by simp at hi; omega
    have e1 : (us ++ [u]).getD i nilv = u := by rw [hi3]; simp
    have e2 : (uss ++ [ut]).getD i [] = ut := by rw [show i = uss.length by omega]; simp
    have e3 : (xsss ++ [xss]).getD i [] = xss := by rw [show i = xsss.length by omega]; simp
    rw [e1, e2, e3]
    have hr : RsA s (fun g => v.ownBlock = some g) w2 u ut xss := ⟨w0.heap.size, w1.heap.size, hu.same (x12.same _ _), hs, x12.size, fun g hg' => .inl (h.own.lt g hg').2⟩
    exact hr.beside hg (fun g e => e) hav
theorem OwnC.ext (h : OwnC s w v gs) (x : Ext w w') (hb : ∀ b, v.ownBlock = some b → b < w.heap.size) : OwnC s w' v gs :=
  ⟨h.own.ext x, h.off, fun q hq => (h.sp q hq).grow x fun b hb => .inl hb⟩
theorem OwnC.one {b : Nat} (ho : Own e b w2 v [u]) (hb : b = w1.heap.size) (hM : MatO s w1.heap.size w1 u rs) (hs : s ≤ w1.heap.size) (x : Ext w1 w2) : OwnC s w2 v [(u, rs)] := by
  have hvb := ho.toN_block
  have hf : flat [(u, rs)] = rs := flat_one _
  refine ⟨by rw [hf]; exact hM.own.ext x, fun b' hb' hB => ?_, fun q hq => ?_⟩
  · rw [hf] at hB
    rw [hvb] at hb'; injection hb' with hb'
    have := hM.lt _ hB
    omega
  · obtain rfl := List.mem_singleton.1 hq
    rw [hf]
    refine SpA.grow hM.sp x fun g hg => ?_
    rcases hg with hg | hg | hg
    · exact .inl (.inl hg)
    · exact .inl (.inr hg)
    · rw [hvb] at hg; injection hg with hg; exact .inr (by omega)
theorem OwnC.push (h : OwnC s w0 v gs) (hvl : ∀ b, v.ownBlock = some b → b < w0.heap.size) (x01 : Ext w0 w1) (hM : MatO w0.heap.size w1.heap.size w1 u rs) (hs : s ≤ w0.heap.size) (x12 : Ext w1 w2)
    (hg : w2.grownBy w3 v.ownBlock) (hv : v'.ownBlock = v.ownBlock ∨ v'.ownBlock = some w2.heap.size) : OwnC s w3 v' (gs ++ [(u, rs)]) := by
  have hz1 := x01.size
  have hz2 := x12.size
  have hf : flat (gs ++ [(u, rs)]) = flat gs ++ rs := by rw [flat_append, flat_one]
  have hav : ∀ g, v'.ownBlock = some g → v.ownBlock = some g ∨ g = w2.heap.size := fun g hg' => by
    rcases hv with e | e
    · rw [e] at hg'; exact .inl hg'
    · rw [e] at hg'; injection hg' with hg'; exact .inr hg'.symm
  have hoff : ∀ b, v.ownBlock = some b → ¬ BlkOf (flat gs ++ rs) b := fun b hb hB => by
    rcases blkOf_append'.1 hB with hB | hB
    · exact h.off b hb hB
    · have h1 := (hM.own.blk hB).1
      have h2 := hvl b hb
      omega
  have hO := (h.own.append x01 hs hM.own).ext x12
  refine ⟨?_, fun b hb hB => ?_, fun q hq => ?_⟩
  · rw [hf]
    exact hO.wr (Wrt.grown hg) fun b hb hB => hoff b hB hb
  · rw [hf] at hB
    rcases hav b hb with hb | hb
    · exact hoff b hb hB
    · rcases blkOf_append'.1 hB with hB | hB
      · have := (h.own.blk hB).2; omega
      · have := hM.lt b hB; omega
  · rw [hf]
    have key : SpA (fun b => BlkOf (flat gs ++ rs) b ∨ b < s ∨ v.ownBlock = some b ∨ b = w2.heap.size) w2 q.1 (q.2.map (·.1)) := by
      rcases List.mem_append.1 hq with hq | hq
      · refine SpA.grow (h.sp q hq) (x01.trans x12) fun b hb => ?_
        rcases hb with hb | hb | hb | hb
        · rcases blkOf_append'.1 hb with hb | hb
          · exact .inl (.inl hb)
          · exact .inr (hM.own.blk hb).1
        · exact .inl (.inr (.inl hb))
        · exact .inl (.inr (.inr hb))
        · exact .inr (by omega)
      · obtain rfl := List.mem_singleton.1 hq
        refine SpA.grow hM.sp x12 fun b hb => ?_
        rcases hb with hb | hb | hb | hb
        · rcases blkOf_append'.1 hb with hb | hb
          · exact .inl (.inr (h.own.blk hb).2)
          · exact .inl (.inl hb)
        · exact .inl (.inr (by omega))
        · exact .inl (.inr (hvl b hb))
        · exact .inr (by omega)
    refine (key.wr (Wrt.grown hg) fun b hb => .inr (.inr (.inl hb))).weak fun b hb => ?_
    rcases hb with hb | hb | hb
    · exact .inl hb
    · exact .inr (.inl hb)
    · rcases hav b hb with hb | hb
      · exact .inr (.inr (.inl hb))
      · exact .inr (.inr (.inr hb))
theorem OwnC.cub (h : OwnC s w v gs) (ho : OwnN e sb w v (gs.map (·.1))) (hsb : s ≤ sb) : CubO (fun b => BlkOf (flat gs) b ∨ b < s) w v gs := by
  refine ⟨?_, fun q hq => (h.sp q hq).weak fun b hb => hb.imp id .inl⟩
  cases hv : v.ownBlock with
  | none =>
    rcases ho.own.2 with ⟨rfl, h0⟩ | ⟨g, cap, cur, rfl, _⟩
    · have e0 : gs.map (·.1) = [] := List.eq_nil_of_length_eq_zero h0
      rw [e0]
      exact ⟨0, 0, ⟨⟨none, 0, rfl, Nat.le_refl _, by omega, fun k u hu => by simp at hu⟩⟩, fun b _ => .inr (Nat.zero_le _)⟩
    · cases hv
  | some k =>
    have hk := ho.lt k hv
    refine ⟨k, k + 1, ho.toSlAt hv, fun b hb => ?_⟩
    rcases hb with hb | hb
    · have : b ≠ k := fun e => h.off k hv (e ▸ hb)
      omega
    · omega
end
/-- A list of lists of rows that is the call's own, in blocks from s on, below t. -/
structure MatC (s t : Nat) (w : World) (v : Value) (gs : List (Value × List (Value × List Int))) : Prop where
  rows : Rowss s t w v (gs.map (·.1)) (gs.map fun q => q.2.map (·.1)) (gs.map fun q => q.2.map (·.2))
  own : RowsO s w (flat gs)
  lt : ∀ b, BlkOf (flat gs) b → b < t
  cub : CubO (fun b => BlkOf (flat gs) b ∨ b < s) w v gs
section
variable {e sb s s' t : Nat} {B : Nat → Prop} {w w' : World} {v : Value} {gs : List (Value × List (Value × List Int))}
theorem MatC.of (h : OwnC s w v gs) (hG : GrowV e sb s w v (gs.map (·.1)) (gs.map fun q => q.2.map (·.1)) (gs.map fun q => q.2.map (·.2))) (hsb : s ≤ sb) (hs : s ≤ w.heap.size) : MatC s w.heap.size w v gs :=
  ⟨hG.rowss hsb hs, h.own, fun b hb => (h.own.blk hb).2, h.cub hG.own hsb⟩
theorem MatC.lower (h : MatC s t w v gs) (hs : s' ≤ s) : MatC s' t w v gs :=
  ⟨⟨h.rows.sl.mono hs (Nat.le_refl _), h.rows.vals.len, h.rows.vals.len', fun i => (h.rows.vals.at_ i).mono hs (Nat.le_refl _)⟩, h.own.mono hs, h.lt,
    ⟨h.cub.sp0.weak fun b hb => hb.imp id fun hb => by omega, fun q hq => (h.cub.sp q hq).weak fun b hb => hb.imp id fun hb => by omega⟩⟩
theorem MatC.wr (h : MatC s t w v gs) (k : Wrt B w w') (hb : ∀ b, B b → b < s ∨ t ≤ b) : MatC s t w' v gs := by
  refine ⟨h.rows.same (k.same hb), h.own.wr k (fun b hR hB => by
    have h1 := h.lt b hR
    have h2 := (h.own.blk hR).1
    have := hb b hB; omega), h.lt, ⟨h.cub.sp0.wr' k h.rows.sl hb, fun q hq => ?_⟩⟩
  obtain ⟨i, hi, rfl⟩ := List.getElem_of_mem hq
  have h1 := (h.rows.vals.at_ i).sl
  have e1 : (gs.map (·.1)).getD i nilv = gs[i].1 := by simp [hi]
  have e2 : (gs.map fun q => q.2.map (·.1)).getD i [] = gs[i].2.map (·.1) := by simp [hi]
  rw [e1, e2] at h1
  exact (h.cub.sp _ hq).wr' k h1 hb
theorem MatC.nilR (s t : Nat) (w : World) (hst : s ≤ t) : MatC s t w nilv [] := by
  refine ⟨⟨⟨⟨none, 0, rfl, Nat.le_refl _, by omega, fun k u hu => by simp at hu⟩⟩, rfl, rfl, fun i => (rows_nilv s w).mono (Nat.le_refl _) hst⟩, RowsO.nil _ _, fun b hb => ?_, ⟨⟨0, 0, ⟨⟨none, 0, rfl, Nat.le_refl _, by omega, fun k u hu => by simp at hu⟩⟩, fun b _ => .inr (Nat.zero_le _)⟩, fun q hq => (by cases hq)⟩⟩
  obtain ⟨r, hr, _⟩ := hb
  cases hr
end
section
variable {P : Program} {N : Nat} {ops : Array Oper} {K : Env → World → Prop} {ρ : Env} {w0 w1 : World} {l : List Oper}
variable {ty ty2 : TypeId} {pos pos2 : String} {after after2 : Array Edge} {g g2 : Option (Nat × Bool)} {d d2 : Nat}
end
end Go.Pc

/-
  A homomorphism's value, and one of the call's own; stores into a part of a block.
  Conditions: none; nothing of the program stands here.
-/
namespace Go.Pc
open Go Go.RowKit
class HomV (lo hi : outParam Nat) (w : World) (v : Value) (p q : outParam Pr) (xss : outParam (List (List Int))) : Prop where
  ex : ∃ a0 a1 a2 a3 a4 a5 a6 us, v = .agg #[a0, a1, a2, a3, a4, a5, a6] ∧ Pres lo hi w (.agg #[a0, a1, a2]) p ∧ Pres lo hi w (.agg #[a3, a4, a5]) q ∧ Rows lo hi w a6 us xss
structure HomO (s t : Nat) (w : World) (v : Value) (p q : Pr) (rs : List (Value × List Int)) : Prop where
  ex : ∃ a0 a1 a2 a3 a4 a5 a6 m0 m1 m2 m3, v = .agg #[a0, a1, a2, a3, a4, a5, a6] ∧ s ≤ m0 ∧ m0 ≤ m1 ∧ m1 ≤ m2 ∧ m2 ≤ m3 ∧ m3 ≤ t ∧ PresO m0 m1 w (.agg #[a0, a1, a2]) p ∧ PresO m1 m2 w (.agg #[a3, a4, a5]) q ∧ MatO m2 m3 w a6 rs
section
variable {lo hi lo' hi' s t b : Nat} {w w' : World} {v : Value} {p q : Pr} {xss : List (List Int)} {rs : List (Value × List Int)} {B : Nat → Prop}
theorem Pres.mono (h : Pres lo hi w v p) (h1 : lo' ≤ lo) (h2 : hi ≤ hi') : Pres lo' hi' w v p := by
  obtain ⟨vo, vp, vc, ps, cs, css, rfl, k1, k2, k3⟩ := h.ex
  exact ⟨⟨vo, vp, vc, ps, cs, css, rfl, k1.mono h1 h2, k2.mono h1 h2, ⟨k3.sl.mono h1 h2, k3.vals.len, k3.vals.len', fun i => (k3.vals.at_ i).mono h1 h2⟩⟩⟩
theorem Pres.one3 {a0 a1 a2 : Value} (h : Pres lo hi w (.agg #[a0, a1, a2]) p) : a0.oneCell' = true ∧ a1.oneCell' = true ∧ a2.oneCell' = true := by
  obtain ⟨vo, vp, vc, ps, cs, css, e, h1, h2, h3⟩ := h.ex
  injection e with e
  have e0 : a0 = vo := by have := congrArg (fun a : Array Value => a.getD 0 undef) e; simpa using this
  have e1 : a1 = vp := by have := congrArg (fun a : Array Value => a.getD 1 undef) e; simpa using this
  have e2 : a2 = vc := by have := congrArg (fun a : Array Value => a.getD 2 undef) e; simpa using this
  subst e0 e1 e2
  exact ⟨h1.sl.one, h2.sl.one, h3.sl.one⟩
theorem HomV.same (h : HomV lo hi w v p q xss) (k : Same lo hi w w') : HomV lo hi w' v p q xss := by
  obtain ⟨a0, a1, a2, a3, a4, a5, a6, us, rfl, h1, h2, h3⟩ := h.ex
  exact ⟨⟨a0, a1, a2, a3, a4, a5, a6, us, rfl, h1.same k, h2.same k, h3.same k⟩⟩
theorem HomV.wide (h : HomV lo hi w v p q xss) : HomV 0 w.heap.size w v p q xss := by
  obtain ⟨a0, a1, a2, a3, a4, a5, a6, us, rfl, h1, h2, h3⟩ := h.ex
  exact ⟨⟨a0, a1, a2, a3, a4, a5, a6, us, rfl, h1.wide, h2.wide, h3.wide⟩⟩
instance (priority := low) HomV.ext [x : Ext w w'] [h : HomV lo hi w v p q xss] : HomV lo hi w' v p q xss := h.same (x.same _ _)
instance (priority := low) HomV.chg [c : Chg b w w'] [h : HomV lo hi w v p q xss] [a : Apart lo hi b] : HomV lo hi w' v p q xss := h.same (c.same a.out)
theorem HomO.hom (h : HomO s t w v p q rs) : HomV s t w v p q (rs.map (·.2)) := by
  obtain ⟨a0, a1, a2, a3, a4, a5, a6, m0, m1, m2, m3, rfl, l0, l1, l2, l3, l4, h1, h2, h3⟩ := h.ex
  exact ⟨⟨a0, a1, a2, a3, a4, a5, a6, _, rfl, h1.pres.mono (by omega) (by omega), h2.pres.mono (by omega) (by omega), h3.rows.mono (by omega) (by omega)⟩⟩
theorem HomO.wr (h : HomO s t w v p q rs) (k : Wrt B w w') (hb : ∀ b, B b → b < s ∨ t ≤ b) : HomO s t w' v p q rs := by
  obtain ⟨a0, a1, a2, a3, a4, a5, a6, m0, m1, m2, m3, rfl, l0, l1, l2, l3, l4, h1, h2, h3⟩ := h.ex
  exact ⟨a0, a1, a2, a3, a4, a5, a6, m0, m1, m2, m3, rfl, l0, l1, l2, l3, l4, h1.wr k (fun b h => by have := hb b h; omega), h2.wr k (fun b h => by have := hb b h; omega), h3.wr k (fun b h => by have := hb b h; omega)⟩
theorem Blk.cells7 {a0 a1 a2 a3 a4 a5 a6 : Value} (h : Blk w b [a0, a1, a2, a3, a4, a5, a6]) : Cell w b 0 a0 ∧ Cell w b 1 a1 ∧ Cell w b 2 a2 ∧ Cell w b 3 a3 ∧ Cell w b 4 a4 ∧ Cell w b 5 a5 ∧ Cell w b 6 a6 :=
  ⟨h.cell rfl, h.cell rfl, h.cell rfl, h.cell rfl, h.cell rfl, h.cell rfl, h.cell rfl⟩
end
section
variable {P : Program} {N : Nat} {ops : Array Oper} {K : Env → World → Prop} {l : List Oper} {ρ : Env} {w : World} {ty : TypeId} {pos : String} {after : Array Edge} {g : Option (Nat × Bool)}
theorem blk_set {w : World} {b m : Nat} {cs : List Value} {u : Value} (h : Blk w b cs) : Blk (w.setCell ⟨b, m, none⟩ u) b (cs.set m u) ∧ Chg b w (w.setCell ⟨b, m, none⟩ u) ∧ (w.setCell ⟨b, m, none⟩ u).heap.size = w.heap.size := by
  obtain ⟨tb, hb⟩ := h.ex
  refine ⟨⟨tb, ?_⟩, ⟨⟨rfl, rfl, rfl, by simp [World.setCell], fun k hk hne => Below.heap_setCell _ _ _ _ (by intro e; subst e; exact hne rfl)⟩⟩, by simp [World.setCell]⟩
  simp [World.setCell, Array.getElem?_modify, hb]
/-- A value of three cells is stored into a part of a block. -/
theorem st_store_sub {b o t : Nat} {x y : Operand} {cs : List Value} {u0 u1 u2 : Value} [hp : StructT P t 3] [h : Blk w b cs] (hx : ev ρ x = .pointer (some ⟨b, o, none⟩)) (hy : ev ρ y = .agg #[u0, u1, u2]) (hc : o + 2 < cs.length) (h1 : u0.oneCell' = true ∧ u1.oneCell' = true ∧ u2.oneCell' = true) (hg : Wants ops ρ g)
    (next : ∀ w', Chg b w w' → w'.heap.size = w.heap.size → Blk w' b (((cs.set o u0).set (o + 1) u1).set (o + 2) u2) → rops P N ops K l ρ w') : rops P N ops K (⟨none, .store t x y, ty, pos, after, g⟩ :: l) ρ w := by
  obtain ⟨fs, i, hu, hi, hs⟩ := hp.ex
  obtain ⟨tb, hb⟩ := h.ex
  have ht : w.there b o (#[u0, u1, u2] : Array Value).size := fun j hj => by
    simp only [List.size_toArray, List.length_cons, List.length_nil] at hj
    refine ⟨?_, by simp [World.frozen?, hb]⟩
    rw [cell_of_row w b _ _ tb (0, 0) hb]
    simp [show o + j < cs.length by omega]
  have hr := run_storeVar_mid (P := P) w b o t #[u0, u1, u2] ht (by simp [hi, hs]) (by simp [h1.1, h1.2.1, h1.2.2])
  obtain ⟨b1, c1, s1⟩ := blk_set (m := o) (u := u0) h
  obtain ⟨b2, c2, s2⟩ := blk_set (m := o + 1) (u := u1) b1
  obtain ⟨b3, c3, s3⟩ := blk_set (m := o + 2) (u := u2) b2
  have hW : w.setCells b o (#[u0, u1, u2] : Array Value).toList = ((w.setCell ⟨b, o, none⟩ u0).setCell ⟨b, o + 1, none⟩ u1).setCell ⟨b, o + 2, none⟩ u2 := rfl
  rw [hW] at hr
  refine st_wr hg (w' := ((w.setCell ⟨b, o, none⟩ u0).setCell ⟨b, o + 1, none⟩ u1).setCell ⟨b, o + 2, none⟩ u2) ⟨fun _ _ _ _ => ?_⟩ (next _ ?_ (by rw [s3, s2, s1]) b3)
  · simp [execOp, hx, hy, Instr.storeAt, Instr.sureAddr, hr]
  · obtain ⟨e1, e2, e3, e4, e5⟩ := c1.by_
    obtain ⟨f1, f2, f3, f4, f5⟩ := c2.by_
    obtain ⟨g1, g2, g3, g4, g5⟩ := c3.by_
    exact ⟨⟨g1.trans (f1.trans e1), g2.trans (f2.trans e2), g3.trans (f3.trans e3), by omega, fun k hk hn => ((g5 k (by omega) hn).trans (f5 k (by omega) hn)).trans (e5 k hk hn)⟩⟩
end
section
variable {P : Program} {N : Nat} {ops : Array Oper} {ρ : Env} {w w0 : World}
/-- A drawn region, what it reads known at an older world. -/
theorem d_regionW {Q : Post} {id : Nat} [hm : Draws P] (he : Ext w0 w) (h : ∀ w1, Ext w w1 → w1.heap.size = w.heap.size → dops P N ops (List.range ops.size) (Ext w0) (fun ρ w => Q .normal ρ w) 0 ρ w1) : rwp P N (.region id ops true) Q ρ w :=
  r_draw _ (by simp) _ hm.eq (he.trans (Ext.drew' w)) (h _ (Ext.drew' w) rfl)
end
section
variable {lo hi b : Nat} {w w' : World} {v : Value} {p q : Pr} {xss : List (List Int)}
theorem Pres.ints3 {a0 a1 a2 : Value} (h : Pres lo hi w (.agg #[a0, a1, a2]) p) : Ints lo hi w a0 p.ord ∧ ∃ ps cs css, Rows lo hi w a1 ps p.pow ∧ Rowss lo hi w a2 cs css p.cnj := by
  obtain ⟨vo, vp, vc, ps, cs, css, e, h1, h2, h3⟩ := h.ex
  injection e with e
  have e0 : a0 = vo := by have := congrArg (fun a : Array Value => a.getD 0 undef) e; simpa using this
  have e1 : a1 = vp := by have := congrArg (fun a : Array Value => a.getD 1 undef) e; simpa using this
  have e2 : a2 = vc := by have := congrArg (fun a : Array Value => a.getD 2 undef) e; simpa using this
  subst e0 e1 e2
  exact ⟨h1, ps, cs, css, h2, h3⟩
/-- A block that holds a homomorphism. -/
class HomB (w : World) (b : Nat) (p q : outParam Pr) (xss : outParam (List (List Int))) : Prop where
  ex : ∃ a0 a1 a2 a3 a4 a5 a6 us, Cell w b 0 a0 ∧ Cell w b 1 a1 ∧ Cell w b 2 a2 ∧ Cell w b 3 a3 ∧ Cell w b 4 a4 ∧ Cell w b 5 a5 ∧ Cell w b 6 a6 ∧ Pres 0 w.heap.size w (.agg #[a0, a1, a2]) p ∧ Pres 0 w.heap.size w (.agg #[a3, a4, a5]) q ∧ Rows 0 w.heap.size w a6 us xss
theorem HomB.ext' (h : HomB w b p q xss) (x : Ext w w') : HomB w' b p q xss := by
  obtain ⟨a0, a1, a2, a3, a4, a5, a6, us, c0, c1, c2, c3, c4, c5, c6, hp, hq, hx⟩ := h.ex
  exact ⟨⟨a0, a1, a2, a3, a4, a5, a6, us, c0.same (x.same _ _) x.size, c1.same (x.same _ _) x.size, c2.same (x.same _ _) x.size, c3.same (x.same _ _) x.size, c4.same (x.same _ _) x.size, c5.same (x.same _ _) x.size, c6.same (x.same _ _) x.size,
    (hp.same (x.same _ _)).wide, (hq.same (x.same _ _)).wide, (hx.same (x.same _ _)).wide⟩⟩
instance (priority := low) HomB.ext [x : Ext w w'] [h : HomB w b p q xss] : HomB w' b p q xss := h.ext' x
theorem HomB.src (h : HomB w b p q xss) : PresP 0 w.heap.size w (.pointer (some ⟨b, 0, none⟩)) p := by
  obtain ⟨a0, a1, a2, a3, a4, a5, a6, us, c0, c1, c2, c3, c4, c5, c6, hp, hq, hx⟩ := h.ex
  exact PresP.part hp c0 c1 c2
theorem HomB.tgt (h : HomB w b p q xss) : PresP 0 w.heap.size w (.pointer (some ⟨b, 3, none⟩)) q := by
  obtain ⟨a0, a1, a2, a3, a4, a5, a6, us, c0, c1, c2, c3, c4, c5, c6, hp, hq, hx⟩ := h.ex
  exact PresP.part hq c3 c4 c5
/-- The block that a homomorphism given by value is put into. -/
theorem HomV.boxed {a0 a1 a2 a3 a4 a5 a6 : Value} (h : HomV lo hi w (.agg #[a0, a1, a2, a3, a4, a5, a6]) p q xss) (x : Ext w w') (hb : Blk w' b [a0, a1, a2, a3, a4, a5, a6]) : HomB w' b p q xss := by
  obtain ⟨d0, d1, d2, d3, d4, d5, d6, us, e, hp, hq, hx⟩ := h.ex
  injection e with e
  have f : ∀ i, (#[a0, a1, a2, a3, a4, a5, a6] : Array Value).getD i undef = (#[d0, d1, d2, d3, d4, d5, d6] : Array Value).getD i undef := fun i => by rw [e]
  obtain rfl : a0 = d0 := by simpa using f 0
  obtain rfl : a1 = d1 := by simpa using f 1
  obtain rfl : a2 = d2 := by simpa using f 2
  obtain rfl : a3 = d3 := by simpa using f 3
  obtain rfl : a4 = d4 := by simpa using f 4
  obtain rfl : a5 = d5 := by simpa using f 5
  obtain rfl : a6 = d6 := by simpa using f 6
  obtain ⟨c0, c1, c2, c3, c4, c5, c6⟩ := hb.cells7
  exact ⟨⟨_, _, _, _, _, _, _, us, c0, c1, c2, c3, c4, c5, c6, (hp.same (x.same _ _)).wide, (hq.same (x.same _ _)).wide, (hx.same (x.same _ _)).wide⟩⟩
end
end Go.Pc

/-
  Three lists that grow side by side, fields of one struct: what each takes up, and that none touches another.
  Conditions: none; nothing of the program stands here.
-/
namespace Go.Pc
open Go Go.RowKit
section
variable {A B : Nat → Prop} {e e' eo ep ec ei s s' : Nat} {w w' w0 w1 w2 w3 : World} {v v' u vo vo' vp vp' vc vc' : Value} {us : List Value} {xs ord : List Int} {rs rp : List (Value × List Int)} {gs : List (Value × List (Value × List Int))}
theorem OwnN.wr (h : OwnN e s w v us) (k : Wrt B w w') (hb : ∀ b, v.ownBlock = some b → ¬ B b) : OwnN e s w' v us := by
  induction k with
  | refl => exact h
  | step _ hB c ih => exact ih.other c (fun e => hb _ e hB)
  | grow _ x ih => exact @OwnN.ext _ _ _ _ _ _ x ih
theorem OwnN.spA (h : OwnN e s w v us) (hA : ∀ b, v.ownBlock = some b → ¬ A b) : SpA A w v us := by
  cases hv : v.ownBlock with
  | none =>
    rcases h.own.2 with ⟨rfl, h0⟩ | ⟨g, cap, cur, rfl, _⟩
    · have e0 : us = [] := List.eq_nil_of_length_eq_zero h0
      subst e0
      exact ⟨0, 0, ⟨⟨none, 0, rfl, Nat.le_refl _, by omega, fun k u hu => by simp at hu⟩⟩, fun b _ => .inr (Nat.zero_le _)⟩
    · cases hv
  | some g => exact ⟨g, g + 1, h.toSlAt hv, fun b hb => by
      have : b ≠ g := fun e => hA g hv (e ▸ hb)
      omega⟩
structure GrL (e s : Nat) (w : World) (v : Value) (rs : List (Value × List Int)) : Prop where
  own : OwnN e s w v (rs.map (·.1))
  rows : RowsO s w rs
  off : ∀ b, v.ownBlock = some b → ¬ BlkOf rs b
/-- What a list of rows takes up. -/
def FL (v : Value) (rs : List (Value × List Int)) (b : Nat) : Prop := v.ownBlock = some b ∨ BlkOf rs b
theorem GrL.of (h : GrowL e s w v rs) : GrL e s w v rs := ⟨h.lst.own, h.own, fun _ hb hB => h.lst.off h.own hB hb⟩
theorem GrL.wr (h : GrL e s w v rs) (k : Wrt B w w') (hb : ∀ b, FL v rs b → ¬ B b) : GrL e s w' v rs :=
  ⟨h.own.wr k fun b hB => hb b (.inl hB), h.rows.wr k fun b hB => hb b (.inr hB), h.off⟩
theorem GrL.lt (h : GrL e s w v rs) {b : Nat} (hb : FL v rs b) : s ≤ b ∧ b < w.heap.size := by
  rcases hb with hb | hb
  · exact h.own.lt b hb
  · exact h.rows.blk hb
theorem GrL.grow (h : GrL e s w v rs) (hs : s ≤ w.heap.size) : GrowL e s w v rs := by
  refine ⟨⟨h.own, ⟨by simp, fun i => ?_⟩, fun g hg hB => by have := (h.own.lt g hg).1; omega, fun g hg => by omega⟩, h.rows⟩
  by_cases hi : i < rs.length
  · have e1 : (rs.map (·.1)).getD i nilv = rs[i].1 := by simp [hi]
    have e2 : (rs.map (·.2)).getD i [] = rs[i].2 := by simp [hi]
    rw [e1, e2]
    have hf := h.rows.fr _ (List.getElem_mem hi)
    by_cases hn : rs[i].2 = []
    · rw [hn] at hf ⊢
      obtain ⟨X, c, hv, hc, hm, _⟩ := hf.ints.sl.ex
      exact ⟨0, 0, ⟨⟨X, c, hv, hc, hm, fun k u hu => by simp at hu⟩⟩, Nat.zero_le _, fun g _ => .inr (Nat.zero_le _)⟩
    · obtain ⟨te, b, hb, ho⟩ := hf.own hn
      refine ⟨b, b + 1, ⟨ho.own.toSl⟩, ho.lt, fun g hg => ?_⟩
      rcases hg with hg | hg
      · omega
      · have : g ≠ b := fun e => h.off g hg (e ▸ ⟨_, List.getElem_mem hi, hn, ho.block⟩)
        omega
  · have e1 : (rs.map (·.1)).getD i nilv = nilv := by rw [List.getD_eq_getElem?_getD, List.getElem?_eq_none (by simp; omega)]; rfl
    have e2 : (rs.map (·.2)).getD i [] = [] := by rw [List.getD_eq_getElem?_getD, List.getElem?_eq_none (by simp; omega)]; rfl
    rw [e1, e2]
    exact IntsAp.nil _ _
theorem Rows.ofOwn (h : OwnN e s w v (rs.map (·.1))) (hf : ∀ r, r ∈ rs → Fr s w r.1 r.2) (hs : s ≤ w.heap.size) : Rows s w.heap.size w v (rs.map (·.1)) (rs.map (·.2)) := by
  refine ⟨h.toSl, by simp, fun i => ?_⟩
  by_cases hi : i < rs.length
  · have e1 : (rs.map (·.1)).getD i nilv = rs[i].1 := by simp [hi]
    have e2 : (rs.map (·.2)).getD i [] = rs[i].2 := by simp [hi]
    rw [e1, e2]
    exact (hf _ (List.getElem_mem hi)).ints
  · have e1 : (rs.map (·.1)).getD i nilv = nilv := by rw [List.getD_eq_getElem?_getD, List.getElem?_eq_none (by simp; omega)]; rfl
    have e2 : (rs.map (·.2)).getD i [] = [] := by rw [List.getD_eq_getElem?_getD, List.getElem?_eq_none (by simp; omega)]; rfl
    rw [e1, e2]
    exact ⟨⟨none, 0, by simp, by simp, by omega, fun k u hu => by simp at hu⟩⟩
structure GrC (e e' s : Nat) (w : World) (v : Value) (gs : List (Value × List (Value × List Int))) : Prop where
  own : OwnN e s w v (gs.map (·.1))
  inn : ∀ q, q ∈ gs → OwnN e' s w q.1 (q.2.map (·.1))
  rows : RowsO s w (flat gs)
  off : ∀ b, v.ownBlock = some b → ¬ BlkOf (flat gs) b ∧ ∀ q, q ∈ gs → q.1.ownBlock ≠ some b
  offi : ∀ q, q ∈ gs → ∀ b, q.1.ownBlock = some b → ¬ BlkOf (flat gs) b
/-- What a list of lists of rows takes up. -/
def FC (v : Value) (gs : List (Value × List (Value × List Int))) (b : Nat) : Prop := v.ownBlock = some b ∨ (∃ q, q ∈ gs ∧ q.1.ownBlock = some b) ∨ BlkOf (flat gs) b
theorem GrC.nil (e e' s : Nat) (w : World) : GrC e e' s w nilv [] := ⟨OwnN.nil _ _ _, fun q h => (by cases h), RowsO.nil _ _, fun b h => (by cases h), fun q h => (by cases h)⟩
theorem GrC.wr (h : GrC e e' s w v gs) (k : Wrt B w w') (hb : ∀ b, FC v gs b → ¬ B b) : GrC e e' s w' v gs :=
  ⟨h.own.wr k fun b hB => hb b (.inl hB), fun q hq => (h.inn q hq).wr k fun b hB => hb b (.inr (.inl ⟨q, hq, hB⟩)), h.rows.wr k fun b hB => hb b (.inr (.inr hB)), h.off, h.offi⟩
theorem GrC.lt (h : GrC e e' s w v gs) {b : Nat} (hb : FC v gs b) : s ≤ b ∧ b < w.heap.size := by
  rcases hb with hb | ⟨q, hq, hb⟩ | hb
  · exact h.own.lt b hb
  · exact (h.inn q hq).lt b hb
  · exact h.rows.blk hb
theorem FC.push {b : Nat} (hL : GrL e' w0.heap.size w1 u rs) (x01 : Ext w0 w1) (x12 : Ext w1 w2) (hv : v'.ownBlock = v.ownBlock ∨ v'.ownBlock = some w2.heap.size) (h : FC v' (gs ++ [(u, rs)]) b) : FC v gs b ∨ w0.heap.size ≤ b := by
  have z1 := x01.size
  have z2 := x12.size
  rcases h with h | ⟨q, hq, h⟩ | h
  · rcases hv with e | e
    · exact .inl (.inl (e ▸ h))
    · rw [e] at h; injection h with h; exact .inr (by omega)
  · rcases List.mem_append.1 hq with hq | hq
    · exact .inl (.inr (.inl ⟨q, hq, h⟩))
    · obtain rfl := List.mem_singleton.1 hq
      exact .inr (hL.own.lt b h).1
  · rw [flat_append, flat_one] at h
    rcases blkOf_append'.1 h with h | h
    · exact .inl (.inr (.inr h))
    · exact .inr (hL.rows.blk h).1
theorem GrC.push (h : GrC e e' s w0 v gs) (x01 : Ext w0 w1) (hL : GrL e' w0.heap.size w1 u rs) (hs : s ≤ w0.heap.size) (x12 : Ext w1 w2)
    (ho : OwnN e s w3 v' (gs.map (·.1) ++ [u])) (hg : w2.grownBy w3 v.ownBlock) (hv : v'.ownBlock = v.ownBlock ∨ v'.ownBlock = some w2.heap.size) : GrC e e' s w3 v' (gs ++ [(u, rs)]) := by
  have z1 := x01.size
  have z2 := x12.size
  have x02 := x01.trans x12
  have hvl : ∀ b, v.ownBlock = some b → b < w0.heap.size := fun b hb => (h.own.lt b hb).2
  have hvn : ∀ b, v'.ownBlock = some b → (v.ownBlock = some b ∨ b = w2.heap.size) := fun b hb => by
    rcases hv with e | e
    · exact .inl (e ▸ hb)
    · rw [e] at hb; injection hb with hb; exact .inr hb.symm
  have k23 : Wrt (fun b => v.ownBlock = some b) w2 w3 := Wrt.grown hg
  have hI : ∀ q, q ∈ gs ++ [(u, rs)] → OwnN e' s w2 q.1 (q.2.map (·.1)) ∧ ∀ b, q.1.ownBlock = some b → v.ownBlock ≠ some b := fun q hq => by
    rcases List.mem_append.1 hq with hq | hq
    · exact ⟨@OwnN.ext _ _ _ _ _ _ x02 (h.inn q hq), fun b hb hB => (h.off b hB).2 q hq hb⟩
    · obtain rfl := List.mem_singleton.1 hq
      exact ⟨(@OwnN.ext _ _ _ _ _ _ x12 hL.own).mono hs, fun b hb hB => by have := hvl b hB; have := (hL.own.lt b hb).1; omega⟩
  have hR : RowsO s w2 (flat (gs ++ [(u, rs)])) := by
    rw [flat_append, flat_one]
    exact (h.rows.append x01 hs hL.rows).ext x12
  have hRv : ∀ b, BlkOf (flat (gs ++ [(u, rs)])) b → v.ownBlock ≠ some b := fun b hb hB => by
    rw [flat_append, flat_one] at hb
    rcases blkOf_append'.1 hb with hb | hb
    · exact (h.off b hB).1 hb
    · have := hvl b hB; have := (hL.rows.blk hb).1; omega
  refine ⟨by simpa using ho, fun q hq => (hI q hq).1.wr k23 (hI q hq).2, hR.wr k23 hRv, fun b hb => ⟨fun hB => ?_, fun q hq hB => ?_⟩, fun q hq b hb hB => ?_⟩
  · rcases hvn b hb with hb | rfl
    · exact hRv b hB hb
    · have := (hR.blk hB).2; omega
  · rcases hvn b hb with hb | rfl
    · exact (hI q hq).2 b hB hb
    · have := ((hI q hq).1.lt _ hB).2; omega
  · rw [flat_append, flat_one] at hB
    rcases List.mem_append.1 hq with hq | hq
    · rcases blkOf_append'.1 hB with hB | hB
      · exact h.offi q hq b hb hB
      · have := ((h.inn q hq).lt b hb).2; have := (hL.rows.blk hB).1; omega
    · obtain rfl := List.mem_singleton.1 hq
      rcases blkOf_append'.1 hB with hB | hB
      · have := (h.rows.blk hB).2; have := (hL.own.lt b hb).1; omega
      · exact hL.off b hb hB
/-- The three lists. -/
structure Tri (eo ep ec ei s : Nat) (w : World) (vo : Value) (ord : List Int) (vp : Value) (rp : List (Value × List Int)) (vc : Value) (gs : List (Value × List (Value × List Int))) : Prop where
  o : OwnN eo s w vo (ord.map (Value.int .i64))
  p : GrL ep s w vp rp
  c : GrC ec ei s w vc gs
  op : ∀ b, vo.ownBlock = some b → ¬ FL vp rp b
  oc : ∀ b, vo.ownBlock = some b → ¬ FC vc gs b
  pc : ∀ b, FL vp rp b → ¬ FC vc gs b
  lo : s ≤ w.heap.size
theorem Tri.nil (eo ep ec ei s : Nat) (w : World) (hs : s ≤ w.heap.size) : Tri eo ep ec ei s w nilv [] nilv [] nilv [] :=
  ⟨OwnN.nil _ _ _, ⟨OwnN.nil _ _ _, RowsO.nil _ _, fun b h => (by cases h)⟩, GrC.nil _ _ _ _, fun b h => (by cases h), fun b h => (by cases h), fun b h => (by
    rcases h with h | ⟨r, hr, _⟩
    · cases h
    · cases hr), hs⟩
theorem Tri.wr (h : Tri eo ep ec ei s w vo ord vp rp vc gs) (k : Wrt B w w') (hB : ∀ b, B b → b < s) : Tri eo ep ec ei s w' vo ord vp rp vc gs :=
  ⟨h.o.wr k fun b hb hb' => by have := (h.o.lt b hb).1; have := hB b hb'; omega, h.p.wr k fun b hb hb' => by have := (h.p.lt hb).1; have := hB b hb'; omega,
   h.c.wr k fun b hb hb' => by have := (h.c.lt hb).1; have := hB b hb'; omega, h.op, h.oc, h.pc, Nat.le_trans h.lo k.size⟩
theorem Tri.ext (h : Tri eo ep ec ei s w vo ord vp rp vc gs) (x : Ext w w') : Tri eo ep ec ei s w' vo ord vp rp vc gs := h.wr (.ofExt (B := fun _ => False) x) fun b hb => hb.elim
theorem GStep.wrt (h : GStep w w' v v') : Wrt (fun b => v.ownBlock = some b) w w' := by
  obtain ⟨w2, x, hg, _⟩ := h.ex
  exact (Wrt.ofExt x).trans (Wrt.grown hg)
theorem GStep.new (h : GStep w w' v v') {b : Nat} (hb : v'.ownBlock = some b) : v.ownBlock = some b ∨ w.heap.size ≤ b := by
  obtain ⟨w2, x, hg, e | e⟩ := h.ex
  · exact .inl (e ▸ hb)
  · rw [e] at hb; injection hb with hb; have := x.size; exact .inr (by omega)
theorem FL.push {b : Nat} (hu : Fr w0.heap.size w1 u xs) (x01 : Ext w0 w1) (hst : GStep w1 w' v v') (h : FL v' (rs ++ [(u, xs)]) b) : FL v rs b ∨ w0.heap.size ≤ b := by
  have z1 := x01.size
  rcases h with h | h
  · rcases hst.new h with h | h
    · exact .inl (.inl h)
    · exact .inr (by omega)
  · rcases blkOf_append'.1 h with h | ⟨r, hr, hn, eb⟩
    · exact .inl (.inr h)
    · obtain rfl := List.mem_singleton.1 hr
      obtain ⟨g, e1, e2, _⟩ := hu.block hn
      rw [eb] at e1; injection e1 with e1
      exact .inr (by omega)
theorem Tri.rowss (h : Tri eo ep ec ei s w vo ord vp rp vc gs) : Rowss s w.heap.size w vc (gs.map (·.1)) (gs.map fun q => q.2.map (·.1)) (gs.map fun q => q.2.map (·.2)) := by
  refine ⟨h.c.own.toSl, by simp, by simp, fun i => ?_⟩
  by_cases hi : i < gs.length
  · have e1 : (gs.map (·.1)).getD i nilv = gs[i].1 := by simp [hi]
    have e2 : (gs.map fun q => q.2.map (·.1)).getD i [] = gs[i].2.map (·.1) := by simp [hi]
    have e3 : (gs.map fun q => q.2.map (·.2)).getD i [] = gs[i].2.map (·.2) := by simp [hi]
    rw [e1, e2, e3]
    refine Rows.ofOwn (h.c.inn _ (List.getElem_mem hi)) (fun r hr => h.c.rows.fr r ?_) h.lo
    exact List.mem_flatten.2 ⟨gs[i].2, List.mem_map.2 ⟨gs[i], List.getElem_mem hi, rfl⟩, hr⟩
  · have e1 : (gs.map (·.1)).getD i nilv = nilv := by rw [List.getD_eq_getElem?_getD, List.getElem?_eq_none (by simp; omega)]; rfl
    have e2 : (gs.map fun q => q.2.map (·.1)).getD i [] = [] := by rw [List.getD_eq_getElem?_getD, List.getElem?_eq_none (by simp; omega)]; rfl
    have e3 : (gs.map fun q => q.2.map (·.2)).getD i [] = [] := by rw [List.getD_eq_getElem?_getD, List.getElem?_eq_none (by simp; omega)]; rfl
    rw [e1, e2, e3]
    exact (rows_nilv s w).mono (Nat.le_refl _) h.lo
theorem Tri.pres (h : Tri eo ep ec ei s w vo ord vp rp vc gs) : PresO s w.heap.size w (.agg #[vo, vp, vc]) ⟨ord, rp.map (·.2), gs.map fun q => q.2.map (·.2)⟩ := by
  have hfo := h.o.toFr
  have hO : RowsO s w ((vo, ord) :: (rp ++ flat gs)) := by
    refine ⟨fun r hr => ?_, List.pairwise_cons.2 ⟨fun r hr h1 h2 e => ?_, List.pairwise_append.2 ⟨h.p.rows.sep, h.c.rows.sep, fun a ha b hb h1 h2 e => ?_⟩⟩⟩
    · rcases List.mem_cons.1 hr with rfl | hr
      · exact hfo
      · rcases List.mem_append.1 hr with hr | hr
        · exact h.p.rows.fr r hr
        · exact h.c.rows.fr r hr
    · obtain ⟨g, e1, _⟩ := hfo.block h1
      rcases List.mem_append.1 hr with hr | hr
      · exact h.op g e1 (.inr ⟨r, hr, h2, e ▸ e1⟩)
      · exact h.oc g e1 (.inr (.inr ⟨r, hr, h2, e ▸ e1⟩))
    · obtain ⟨g, e1, _⟩ := (h.p.rows.fr a ha).block h1
      exact h.pc g (.inr ⟨a, ha, h1, e1⟩) (.inr (.inr ⟨b, hb, h2, e ▸ e1⟩))
  have hp : ∀ b, vp.ownBlock = some b → ¬ BlkOf ((vo, ord) :: (rp ++ flat gs)) b := fun b hb ⟨r, hr, hn, e⟩ => by
    rcases List.mem_cons.1 hr with rfl | hr
    · exact h.op b e (.inl hb)
    · rcases List.mem_append.1 hr with hr | hr
      · exact h.p.off b hb ⟨r, hr, hn, e⟩
      · exact h.pc b (.inl hb) (.inr (.inr ⟨r, hr, hn, e⟩))
  have hc : ∀ b, (vc.ownBlock = some b ∨ ∃ q, q ∈ gs ∧ q.1.ownBlock = some b) → ¬ BlkOf ((vo, ord) :: (rp ++ flat gs)) b := fun b hb ⟨r, hr, hn, e⟩ => by
    have hF : FC vc gs b := hb.imp id .inl
    rcases List.mem_cons.1 hr with rfl | hr
    · exact h.oc b e hF
    · rcases List.mem_append.1 hr with hr | hr
      · exact h.pc b (.inr ⟨r, hr, hn, e⟩) hF
      · rcases hb with hb | ⟨q, hq, hb⟩
        · exact (h.c.off b hb).1 ⟨r, hr, hn, e⟩
        · exact h.c.offi q hq b hb ⟨r, hr, hn, e⟩
  exact ⟨vo, vp, vc, rp, gs, rfl, hO, fun b hb => (hO.blk hb).2, h.p.own.spA hp, ⟨h.c.own.spA fun b hb => hc b (.inl hb), fun q hq => (h.c.inn q hq).spA fun b hb => hc b (.inr ⟨q, hq, hb⟩)⟩, rfl, rfl, hfo.ints, Rows.ofOwn h.p.own h.p.rows.fr h.lo, h.rowss⟩
end
end Go.Pc

/-
  A struct of three lists that is built up field by field: the append of a row to a list of lists, the store of a field that ends a drawn region, what stays.
  Conditions: none; nothing of the program stands here.
-/
namespace Go.Pc
open Go Go.RowKit
section
variable {P : Program} {N : Nat} {ops : Array Oper} {π : List Nat} {S : World → Prop} {K : Env → World → Prop} {ρ : Env} {w w0 w1 w00 : World} {l : List Oper}
variable {i : Nat} {ty ty2 : TypeId} {pos pos2 : String} {after after2 : Array Edge} {g g2 : Option (Nat × Bool)} {d d2 : Nat}
theorem retc2 {t s : Tmp} {ty : TypeId} {R : Value → World → Prop} {b n : Nat} {cs : List Value} {x : Value} [hp : StructT P ty n] [hb : Blk w b cs] (h : R (.tuple #[.agg cs.toArray, x]) w) (hn : n = cs.length) (hv : get ρ t = .pointer (some ⟨b, 0, none⟩) := by ((try simp only [ev_tmp, ev_const, ev_func, get_put, get_args, get_putL, get_putL_nil, Nat.reduceEqDiff, reduceIte, List.getD_cons_zero, List.getD_cons_succ, List.getD_nil, Bool.not_true, Bool.not_false]); first | done | with_reducible rfl)) (hx : get ρ s = x := by ((try simp only [ev_tmp, ev_const, ev_func, get_put, get_args, get_putL, get_putL_nil, Nat.reduceEqDiff, reduceIte, List.getD_cons_zero, List.getD_cons_succ, List.getD_nil, Bool.not_true, Bool.not_false]); first | done | with_reducible rfl)) : retQ P [.cell t ty, .tmp s] R .ret ρ w :=
  retQ_2 (rv_cell hv (run_loadAgg (h := hb) hn)) (rv_tmp hx) h
/-- The store of a field, the last operation of a drawn region. -/
theorem z_stfld {bo t m bytes : Nat} {x y : Operand} {u z : Value} {cs : List Value} [he : ElT P t 1 bytes z] (h : Blk w bo cs) (hu : u.oneCell' = true) (hm : m < cs.length)
    (next : ∀ w', Chg bo w w' → w'.heap.size = w.heap.size → Blk w' bo (cs.set m u) → K ρ w')
    (hi : opAt ops π i = some ⟨none, .store t x y, ty, pos, after, g⟩ := by exact rfl) (hx : ev ρ x = .pointer (some ⟨bo, m, none⟩) := by ((try simp only [ev_tmp, ev_const, ev_func, get_put, get_args, get_putL, get_putL_nil, Nat.reduceEqDiff, reduceIte, List.getD_cons_zero, List.getD_cons_succ, List.getD_nil]); first | done | with_reducible rfl)) (hy : ev ρ y = u := by ((try simp only [ev_tmp, ev_const, ev_func, get_put, get_args, get_putL, get_putL_nil, Nat.reduceEqDiff, reduceIte, List.getD_cons_zero, List.getD_cons_succ, List.getD_nil]); first | done | with_reducible rfl)) (hg : Wants ops ρ g := by first | exact True.intro | exact ⟨_, rfl, by ((try simp only [ev_tmp, ev_const, ev_func, get_put, get_args, get_putL, get_putL_nil, Nat.reduceEqDiff, reduceIte, List.getD_cons_zero, List.getD_cons_succ, List.getD_nil, Bool.not_true, Bool.not_false]); first | done | with_reducible rfl)⟩)
    (hn : nextOk ops π i = true := by decide +kernel) (hl : lastOf ops π = some (π.getD i 0) := by decide +kernel) (hd : doneOk ops π (i + 1) = true := by decide +kernel) : dops P N ops π S K i ρ w := by
  obtain ⟨tb, hb⟩ := h.ex
  have hr := run_storeVar_one (P := P) he hu hb (m := m) (by simpa using hm)
  have hw : Wr P (.store t x y) ty ρ w (w.setCell ⟨bo, m, none⟩ u) := by
    constructor; intro _ _ _ _
    simp [execOp, hx, hy, Instr.storeAt, Instr.sureAddr, hr]
  refine dt_lastw hi hn hl hd hg hw (next _ ⟨⟨rfl, rfl, rfl, by simp [World.setCell], fun k hk hne => Below.heap_setCell _ _ _ _ (by intro e; subst e; exact hne rfl)⟩⟩ (by simp [World.setCell]) ⟨tb, ?_⟩)
  simp [World.setCell, Array.getElem?_modify, hb]
end
section
variable {B : Nat → Prop} {e e' eo ep ec ei s s' s0 bo : Nat} {w w' w0 w1 w2 w3 w4 w5 : World} {v v' u vo vo' vp vp' vc vc' : Value} {us : List Value} {cs : List Value} {xs ord : List Int} {rs rp : List (Value × List Int)} {gs : List (Value × List (Value × List Int))}
theorem Tri.chg (h : Tri eo ep ec ei s w vo ord vp rp vc gs) (c : Chg bo w w') (hb : bo < s) : Tri eo ep ec ei s w' vo ord vp rp vc gs :=
  h.wr (.one (B := fun g => g = bo) rfl c) fun b e => e ▸ hb
/-- The block of the struct, when one of its lists has grown. -/
theorem Blk.gstep (h : Blk w bo cs) (k : GStep w w' v v') (hb : ∀ b, v.ownBlock = some b → bo < b) : Blk w' bo cs :=
  h.wr k.wrt fun e => by have := hb _ e; omega
theorem Tri.ob (h : Tri eo ep ec ei s w vo ord vp rp vc gs) (hb : bo < s) : ∀ b, vo.ownBlock = some b → bo < b := fun b e => Nat.lt_of_lt_of_le hb (h.o.lt b e).1
/-- The three lists, the first of which came from elsewhere. -/
theorem Tri.presO (h : Tri eo ep ec ei s w nilv [] vp rp vc gs) (hfo : Fr s0 w vo ord) (hs0 : s0 ≤ s) (hlt : ord ≠ [] → ∀ b, vo.ownBlock = some b → b < s) : PresO s0 w.heap.size w (.agg #[vo, vp, vc]) ⟨ord, rp.map (·.2), gs.map fun q => q.2.map (·.2)⟩ := by
  have hP := h.p.rows.mono hs0
  have hC := h.c.rows.mono hs0
  have hpl : ∀ b, FL vp rp b → s ≤ b := fun b hb => (h.p.lt hb).1
  have hcl : ∀ b, FC vc gs b → s ≤ b := fun b hb => (h.c.lt hb).1
  have hO : RowsO s0 w ((vo, ord) :: (rp ++ flat gs)) := by
    refine ⟨fun r hr => ?_, List.pairwise_cons.2 ⟨fun r hr h1 h2 e => ?_, List.pairwise_append.2 ⟨h.p.rows.sep, h.c.rows.sep, fun a ha b hb h1 h2 e => ?_⟩⟩⟩
    · rcases List.mem_cons.1 hr with rfl | hr
      · exact hfo
      · rcases List.mem_append.1 hr with hr | hr
        · exact hP.fr r hr
        · exact hC.fr r hr
    · obtain ⟨g, e1, _⟩ := hfo.block h1
      have h3 := hlt h1 g e1
      rcases List.mem_append.1 hr with hr | hr
      · have := hpl g (.inr ⟨r, hr, h2, e ▸ e1⟩); omega
      · have := hcl g (.inr (.inr ⟨r, hr, h2, e ▸ e1⟩)); omega
    · obtain ⟨g, e1, _⟩ := (h.p.rows.fr a ha).block h1
      exact h.pc g (.inr ⟨a, ha, h1, e1⟩) (.inr (.inr ⟨b, hb, h2, e ▸ e1⟩))
  have hp : ∀ b, vp.ownBlock = some b → ¬ BlkOf ((vo, ord) :: (rp ++ flat gs)) b := fun b hb ⟨r, hr, hn, e⟩ => by
    rcases List.mem_cons.1 hr with rfl | hr
    · have := hlt hn b e; have := hpl b (.inl hb); omega
    · rcases List.mem_append.1 hr with hr | hr
      · exact h.p.off b hb ⟨r, hr, hn, e⟩
      · exact h.pc b (.inl hb) (.inr (.inr ⟨r, hr, hn, e⟩))
  have hc : ∀ b, (vc.ownBlock = some b ∨ ∃ q, q ∈ gs ∧ q.1.ownBlock = some b) → ¬ BlkOf ((vo, ord) :: (rp ++ flat gs)) b := fun b hb ⟨r, hr, hn, e⟩ => by
    have hF : FC vc gs b := hb.imp id .inl
    rcases List.mem_cons.1 hr with rfl | hr
    · have := hlt hn b e; have := hcl b hF; omega
    · rcases List.mem_append.1 hr with hr | hr
      · exact h.pc b (.inr ⟨r, hr, hn, e⟩) hF
      · rcases hb with hb | ⟨q, hq, hb⟩
        · exact (h.c.off b hb).1 ⟨r, hr, hn, e⟩
        · exact h.c.offi q hq b hb ⟨r, hr, hn, e⟩
  have h2 := Rows.ofOwn h.p.own h.p.rows.fr h.lo
  have h3 := h.rowss
  exact ⟨vo, vp, vc, rp, gs, rfl, hO, fun b hb => (hO.blk hb).2, h.p.own.spA hp, ⟨h.c.own.spA fun b hb => hc b (.inl hb), fun q hq => (h.c.inn q hq).spA fun b hb => hc b (.inr ⟨q, hq, hb⟩)⟩, rfl, rfl, hfo.ints, h2.mono hs0 (Nat.le_refl _), ⟨h3.sl.mono hs0 (Nat.le_refl _), h3.vals.len, h3.vals.len', fun i => (h3.vals.at_ i).mono hs0 (Nat.le_refl _)⟩⟩
theorem PresO.sub {t t' : Nat} {p : Pr} (h : PresO s t w v p) (hs : s' ≤ s) (ht : t ≤ t') : PresO s' t' w v p := by
  obtain ⟨vo, vp, vc, rp, gs, rfl, hO, hl, h1, h2, h3, h4, h5, h6, h7⟩ := h.ex
  exact ⟨vo, vp, vc, rp, gs, rfl, hO.mono hs, fun b hb => Nat.lt_of_lt_of_le (hl b hb) ht, h1, h2, h3, h4, h5.mono hs ht, h6.mono hs ht, ⟨h7.sl.mono hs ht, h7.vals.len, h7.vals.len', fun i => (h7.vals.at_ i).mono hs ht⟩⟩
theorem getD_cut {α : Type} (l : List α) (z : α) {a k : Nat} (i : Nat) (hi : a + i < k) : ((l.take k).drop a).getD i z = l.getD (a + i) z := by
  rw [List.getD_eq_getElem?_getD, List.getElem?_drop, List.getElem?_take, if_pos hi, ← List.getD_eq_getElem?_getD]
theorem Rows.cut {lo hi : Nat} {xss : List (List Int)} (h : Rows lo hi w v us xss) {a k : Nat} (hlk : a ≤ k) (hk : k ≤ us.length) : Rows lo hi w (Pc.cut v a k) ((us.take k).drop a) ((xss.take k).drop a) := by
  refine ⟨h.sl.cut hlk hk, by simp [h.vals.len], fun i => ?_⟩
  by_cases hi : a + i < k
  · rw [getD_cut _ _ _ hi, getD_cut _ _ _ hi]
    exact h.vals.at_ _
  · have e1 : ((us.take k).drop a).getD i nilv = nilv := by rw [List.getD_eq_getElem?_getD, List.getElem?_eq_none (by simp; omega)]; rfl
    have e2 : ((xss.take k).drop a).getD i [] = [] := by rw [List.getD_eq_getElem?_getD, List.getElem?_eq_none (by simp; omega)]; rfl
    rw [e1, e2]
    exact ⟨⟨none, 0, by simp, by simp, by omega, fun k u hu => by simp at hu⟩⟩
end
end Go.Pc

/-
  A presentation whose three lists came one after the other; homomorphisms put together; the sizes of a group's lists.
  Conditions: none; nothing of the program stands here.
-/
namespace Go.Pc
open Go Go.RowKit
section
variable {e e' ep ec ei s m0 m1 m2 : Nat} {w w' : World} {v vo vp vc : Value} {us : List Value} {xs ord : List Int} {rs rp : List (Value × List Int)} {gs : List (Value × List (Value × List Int))}
theorem Tri.ofC (h : GrC ec ei s w vc gs) (hs : s ≤ w.heap.size) : Tri 0 0 ec ei s w nilv [] nilv [] vc gs :=
  ⟨OwnN.nil _ _ _, ⟨OwnN.nil _ _ _, RowsO.nil _ _, fun b h => (by cases h)⟩, h, fun b h => (by cases h), fun b h => (by cases h), fun b h => (by
    rcases h with h | ⟨r, hr, _⟩
    · cases h
    · cases hr), hs⟩
/-- The three lists, one after the other. -/
theorem PresO.of3 (hfo : Fr m0 w vo ord) (h01 : m0 ≤ m1) (hlt : ord ≠ [] → ∀ b, vo.ownBlock = some b → b < m1) (hP : GrL ep m1 w vp rp) (hPl : ∀ b, FL vp rp b → b < m2) (h12 : m1 ≤ m2) (h : GrC ec ei m2 w vc gs) (h2 : m2 ≤ w.heap.size) :
    PresO m0 w.heap.size w (.agg #[vo, vp, vc]) ⟨ord, rp.map (·.2), gs.map fun q => q.2.map (·.2)⟩ := by
  have hPo := hP.rows.mono h01
  have hC := h.rows.mono (Nat.le_trans h01 h12)
  have hpl : ∀ b, FL vp rp b → m1 ≤ b := fun b hb => (hP.lt hb).1
  have hcl : ∀ b, FC vc gs b → m2 ≤ b := fun b hb => (h.lt hb).1
  have hO : RowsO m0 w ((vo, ord) :: (rp ++ flat gs)) := by
    refine ⟨fun r hr => ?_, List.pairwise_cons.2 ⟨fun r hr h1 h2 e => ?_, List.pairwise_append.2 ⟨hP.rows.sep, h.rows.sep, fun a ha b hb h1 h2 e => ?_⟩⟩⟩
    · rcases List.mem_cons.1 hr with rfl | hr
      · exact hfo
      · rcases List.mem_append.1 hr with hr | hr
        · exact hPo.fr r hr
        · exact hC.fr r hr
    · obtain ⟨g, e1, _⟩ := hfo.block h1
      have h3 := hlt h1 g e1
      rcases List.mem_append.1 hr with hr | hr
      · have := hpl g (.inr ⟨r, hr, h2, e ▸ e1⟩); omega
      · have := hcl g (.inr (.inr ⟨r, hr, h2, e ▸ e1⟩)); omega
    · obtain ⟨g, e1, _⟩ := (hP.rows.fr a ha).block h1
      have := hPl g (.inr ⟨a, ha, h1, e1⟩)
      have := hcl g (.inr (.inr ⟨b, hb, h2, e ▸ e1⟩))
      omega
  have hp : ∀ b, vp.ownBlock = some b → ¬ BlkOf ((vo, ord) :: (rp ++ flat gs)) b := fun b hb ⟨r, hr, hn, e⟩ => by
    rcases List.mem_cons.1 hr with rfl | hr
    · have := hlt hn b e; have := hpl b (.inl hb); omega
    · rcases List.mem_append.1 hr with hr | hr
      · exact hP.off b hb ⟨r, hr, hn, e⟩
      · have := hPl b (.inl hb); have := hcl b (.inr (.inr ⟨r, hr, hn, e⟩)); omega
  have hc : ∀ b, (vc.ownBlock = some b ∨ ∃ q, q ∈ gs ∧ q.1.ownBlock = some b) → ¬ BlkOf ((vo, ord) :: (rp ++ flat gs)) b := fun b hb ⟨r, hr, hn, e⟩ => by
    have hF : FC vc gs b := hb.imp id .inl
    rcases List.mem_cons.1 hr with rfl | hr
    · have := hlt hn b e; have := hcl b hF; omega
    · rcases List.mem_append.1 hr with hr | hr
      · have := hPl b (.inr ⟨r, hr, hn, e⟩); have := hcl b hF; omega
      · rcases hb with hb | ⟨q, hq, hb⟩
        · exact (h.off b hb).1 ⟨r, hr, hn, e⟩
        · exact h.offi q hq b hb ⟨r, hr, hn, e⟩
  have hlo : m1 ≤ w.heap.size := Nat.le_trans h12 h2
  have k2 := Rows.ofOwn hP.own hP.rows.fr hlo
  have k3 := (Tri.ofC h h2).rowss
  have h02 := Nat.le_trans h01 h12
  exact ⟨vo, vp, vc, rp, gs, rfl, hO, fun b hb => (hO.blk hb).2, hP.own.spA hp, ⟨h.own.spA fun b hb => hc b (.inl hb), fun q hq => (h.inn q hq).spA fun b hb => hc b (.inr ⟨q, hq, hb⟩)⟩, rfl, rfl, hfo.ints, k2.mono h01 (Nat.le_refl _), ⟨k3.sl.mono h02 (Nat.le_refl _), k3.vals.len, k3.vals.len', fun i => (k3.vals.at_ i).mono h02 (Nat.le_refl _)⟩⟩
/-- A homomorphism out of its parts. -/
theorem HomO.of {s t m0 m1 m2 m3 : Nat} {a0 a1 a2 a3 a4 a5 a6 : Value} {p q : Pr} (h1 : PresO m0 m1 w (.agg #[a0, a1, a2]) p) (h2 : PresO m1 m2 w (.agg #[a3, a4, a5]) q) (h3 : MatO m2 m3 w a6 rs) (l0 : s ≤ m0) (l1 : m0 ≤ m1) (l2 : m1 ≤ m2) (l3 : m2 ≤ m3) (l4 : m3 ≤ t) : HomO s t w (.agg #[a0, a1, a2, a3, a4, a5, a6]) p q rs :=
  ⟨a0, a1, a2, a3, a4, a5, a6, m0, m1, m2, m3, rfl, l0, l1, l2, l3, l4, h1, h2, h3⟩
end
end Go.Pc
namespace Go.Proofs.YtnphljflkpekmaaGreat
open Go Go.Pc
theorem getD_ofMem {α : Type} {l : List α} {x z : α} (h : x ∈ l) : ∃ i, i < l.length ∧ l.getD i z = x := by
  obtain ⟨i, hi, rfl⟩ := List.getElem_of_mem h
  exact ⟨i, hi, by simp [hi]⟩
/-- The lists of a valid presentation are short. -/
theorem valid_pow {p : Pr} (hv : Valid p) (i : Nat) : (p.pow.getD i []).length ≤ 6 := by
  have h6 := hv.n6
  by_cases h : i < p.n
  · have h2 : (p.pow.getD i []).length = p.n := (hv.w_in i h).len
    omega
  · rw [List.getD_eq_getElem?_getD, List.getElem?_eq_none (by rw [hv.lenw]; omega)]
    exact Nat.zero_le _
theorem valid_cnji {p : Pr} (hv : Valid p) (i : Nat) : (p.cnj.getD i []).length ≤ 6 := by
  have h6 := hv.n6
  by_cases h : i < p.n
  · have h2 := hv.lenci i h
    omega
  · rw [List.getD_eq_getElem?_getD, List.getElem?_eq_none (by rw [hv.lenc]; omega)]
    exact Nat.zero_le _
theorem valid_cnjij {p : Pr} (hv : Valid p) (i j : Nat) : ((p.cnj.getD i []).getD j []).length ≤ 6 := by
  have h6 := hv.n6
  by_cases h : i < p.n
  · have h2 := hv.lenci i h
    by_cases hj : j < p.n - 1 - i
    · have h3 : (p.c i (i + 1 + j)).length = p.n := (hv.c_in i (i + 1 + j) (by omega) (by omega)).len
      have e : p.c i (i + 1 + j) = (p.cnj.getD i []).getD j [] := by
        unfold Pr.c
        congr 1
        omega
      rw [e] at h3
      omega
    · have e : (p.cnj.getD i []).getD j [] = [] := by rw [List.getD_eq_getElem?_getD, List.getElem?_eq_none (by omega)]; rfl
      rw [e]
      exact Nat.zero_le _
  · have e : p.cnj.getD i [] = [] := by rw [List.getD_eq_getElem?_getD, List.getElem?_eq_none (by rw [hv.lenc]; omega)]; rfl
    rw [e]
    simp
theorem valid_totP {p : Pr} (hv : Valid p) : totP p ≤ 1000 := by
  have h6 := hv.n6
  have h1 : p.ord.length = p.n := rfl
  have e2 : tot p.pow ≤ p.pow.length * 6 := tot_le _ fun x hx => by
    obtain ⟨i, _, rfl⟩ := getD_ofMem (z := []) hx
    exact valid_pow hv i
  have e3 : tot p.cnj.flatten ≤ p.cnj.length * (6 * 6) := tot_flatten _ fun x hx => by
    obtain ⟨i, _, rfl⟩ := getD_ofMem (z := []) hx
    refine ⟨valid_cnji hv i, fun y hy => ?_⟩
    obtain ⟨j, _, rfl⟩ := getD_ofMem (z := []) hy
    exact valid_cnjij hv i j
  have h2 := hv.lenw
  have h3 := hv.lenc
  unfold totP
  omega
end Go.Proofs.YtnphljflkpekmaaGreat

/-
  The sizes of the presentations of subgroups and quotients.
  Conditions: none.
-/
namespace Go.Proofs.YtnphljflkpekmaaGreat
open Go Go.Pc
theorem noP_sz : SizeP noP 2000000 ∧ totP noP ≤ 1000 := ⟨⟨by simp [noP], by simp [noP], fun i => by simp [noP], by simp [noP], fun i => by simp [noP], fun i j => by simp [noP]⟩, by simp [noP, totP, tot]⟩
end Go.Proofs.YtnphljflkpekmaaGreat

/-
  What InclusionHom, NaturalHom and ComposeHoms answer.
  Conditions: none.
-/
namespace Go.Proofs.YtnphljflkpekmaaGreat
open Go Go.Pc
def noH : Pr × Pr × List (List Int) := (noP, noP, [])
def SzH (k : Pr × Pr × List (List Int)) : Prop := (SizeP k.1 2000000 ∧ SizeP k.2.1 2000000 ∧ k.2.2.length ≤ 2000000 ∧ ∀ i, (k.2.2.getD i []).length ≤ 2000000) ∧ totP k.1 + totP k.2.1 + tot k.2.2 ≤ 4000000000000
theorem valid_szP {p : Pr} (hv : Valid p) : SizeP p 2000000 ∧ totP p ≤ 1000 := by
  have h6 := hv.n6
  have h1 : p.ord.length = p.n := rfl
  have h2 := hv.lenw
  have h3 := hv.lenc
  exact ⟨⟨by omega, by omega, fun i => by have := valid_pow hv i; omega, by omega, fun i => by have := valid_cnji hv i; omega, fun i j => by have := valid_cnjij hv i j; omega⟩, valid_totP hv⟩
theorem valid_sz6 {p : Pr} (hv : Valid p) : SizeP p 6 := by
  have h6 := hv.n6
  have h1 : p.ord.length = p.n := rfl
  have h2 := hv.lenw
  have h3 := hv.lenc
  exact ⟨by omega, by omega, fun i => by have := valid_pow hv i; omega, by omega, fun i => by have := valid_cnji hv i; omega, fun i j => by have := valid_cnjij hv i j; omega⟩
theorem noH_sz : SzH noH := by
  obtain ⟨h1, h2⟩ := noP_sz
  exact ⟨⟨h1, h1, by simp [noH], by simp [noH]⟩, by simp only [noH, tot]; omega⟩
theorem szH_of {p q : Pr} {xss : List (List Int)} (hp : SizeP p 2000000 ∧ totP p ≤ 1000) (hq : SizeP q 2000000 ∧ totP q ≤ 1000) (hl : xss.length ≤ 6) (hx : ∀ x, x ∈ xss → x.length ≤ 6) : SzH (p, q, xss) := by
  have ht := tot_le xss hx
  refine ⟨⟨hp.1, hq.1, by simp only; omega, fun i => ?_⟩, by have := hp.2; have := hq.2; simp only; omega⟩
  by_cases h : i < xss.length
  · have e : xss.getD i [] = xss[i] := by simp [h]
    have := hx _ (List.getElem_mem h)
    rw [e]; omega
  · have e : xss.getD i [] = [] := by rw [List.getD_eq_getElem?_getD, List.getElem?_eq_none (by omega)]; rfl
    rw [e]; exact Nat.zero_le _
/-- The inclusion of a subgroup. -/
def IhV (p : Pr) (xss : List (List Int)) (k : Pr × Pr × List (List Int)) (e : Int) : Prop := (∃ (_ : ConAll p) (ys : List (El p)), xss = vecs ys ∧ k = (subPr ys, p, vecs ys)) ∧ e = 0
theorem IhV.uniq {p : Pr} {xss : List (List Int)} (a b : Pr × Pr × List (List Int)) (c d : Int) (h : IhV p xss a c) (k : IhV p xss b d) : a = b ∧ c = d := by
  obtain ⟨⟨hc, ys, h2, h3⟩, h5⟩ := h
  obtain ⟨⟨hc', ys', k2, k3⟩, k5⟩ := k
  obtain rfl := vecs_inj (h2.symm.trans k2)
  exact ⟨by rw [h3, k3], by rw [h5, k5]⟩
/-- The natural homomorphism. -/
def NhV (p : Pr) (xss : List (List Int)) (k : Pr × Pr × List (List Int)) (e : Int) : Prop := (¬ NormP p xss ∧ k = noH ∧ e = 5) ∨ (NormP p xss ∧ (∃ (_ : ConAll p) (ys : List (El p)), xss = vecs ys ∧ k = (p, quoPr ys, (List.range p.n).map fun i => prjE ys (gOf p 0 i))) ∧ e = 0)
theorem NhV.uniq {p : Pr} {xss : List (List Int)} (a b : Pr × Pr × List (List Int)) (c d : Int) (h : NhV p xss a c) (k : NhV p xss b d) : a = b ∧ c = d := by
  rcases h with ⟨h1, rfl, rfl⟩ | ⟨h1, ⟨hc, ys, h2, rfl⟩, rfl⟩ <;> rcases k with ⟨k1, rfl, rfl⟩ | ⟨k1, ⟨kc, zs, k2, rfl⟩, rfl⟩
  · exact ⟨rfl, rfl⟩
  · exact absurd k1 h1
  · exact absurd h1 k1
  · obtain rfl := vecs_inj (h2.symm.trans k2)
    exact ⟨rfl, rfl⟩
/-- The composition of two homomorphisms. -/
def HcV (p q : Pr) (xss : List (List Int)) (p' q' : Pr) (yss : List (List Int)) (k : Pr × Pr × List (List Int)) (e : Int) : Prop := (q ≠ p' ∧ k = noH ∧ e = 5) ∨ (q = p' ∧ (∃ (_ : ConAll q') (ys : List (El q')), yss = vecs ys ∧ k = (p, q', xss.map fun x => (imgE ys x).v)) ∧ e = 0)
theorem HcV.uniq {p q p' q' : Pr} {xss yss : List (List Int)} (a b : Pr × Pr × List (List Int)) (c d : Int) (h : HcV p q xss p' q' yss a c) (k : HcV p q xss p' q' yss b d) : a = b ∧ c = d := by
  rcases h with ⟨h1, rfl, rfl⟩ | ⟨h1, ⟨hc, ys, h2, rfl⟩, rfl⟩ <;> rcases k with ⟨k1, rfl, rfl⟩ | ⟨k1, ⟨kc, zs, k2, rfl⟩, rfl⟩
  · exact ⟨rfl, rfl⟩
  · exact absurd k1 h1
  · exact absurd h1 k1
  · obtain rfl := vecs_inj (h2.symm.trans k2)
    exact ⟨rfl, rfl⟩
theorem ComposeHoms_sz0 {p q p' q' : Pr} {xss yss : List (List Int)} {r : Pr × Pr × List (List Int)} {e : Int} (_ : p.ord.length ≤ 2000000) (_ : q.ord.length ≤ 2000000) (_ : xss.length ≤ 2000000) (_ : p'.ord.length ≤ 2000000) (_ : q'.ord.length ≤ 2000000) (_ : yss.length ≤ 2000000) (h : Ans (HomP p q xss ∧ HomP p' q' yss) (HcV p q xss p' q' yss) noH r e) : SzH r := by
  rcases h with ⟨⟨⟨hG, hlen, _⟩, ⟨_, _, hG', _⟩⟩, ⟨_, rfl, _⟩ | ⟨_, ⟨hc, ys, hys, rfl⟩, _⟩⟩ | ⟨_, rfl, _⟩
  · exact noH_sz
  · have h6 := hG.valid.n6
    have h6' := hG'.valid.n6
    refine szH_of (valid_szP hG.valid) (valid_szP hG'.valid) (by rw [List.length_map]; omega) fun x hx => ?_
    obtain ⟨y, _, rfl⟩ := List.mem_map.1 hx
    have := (imgE ys y).inr.len
    omega
  · exact noH_sz
end Go.Proofs.YtnphljflkpekmaaGreat

/-
  What LiftElement, ProjectSubgroup and LiftSubgroup answer.
  Conditions: none.
-/
namespace Go.Proofs.YtnphljflkpekmaaGreat
open Go Go.Pc
/-- The representative of the coset with some exponents. -/
def LeV (p : Pr) (xss : List (List Int)) (y r : List Int) (e : Int) : Prop := (¬ NormP p xss ∧ r = [] ∧ e = 5) ∨ (NormP p xss ∧ ∃ (_ : ConAll p) (ys : List (El p)), xss = vecs ys ∧ ((¬ InR (quoPr ys) y ∧ r = [] ∧ e = 2) ∨ (InR (quoPr ys) y ∧ r = liftL p ys y ∧ e = 0)))
theorem LeV.uniq {p : Pr} {xss : List (List Int)} {y : List Int} (a b : List Int) (c d : Int) (h : LeV p xss y a c) (k : LeV p xss y b d) : a = b ∧ c = d := by
  rcases h with ⟨h1, rfl, rfl⟩ | ⟨h1, hc, ys, h2, h3⟩ <;> rcases k with ⟨k1, rfl, rfl⟩ | ⟨k1, kc, zs, k2, k3⟩
  · exact ⟨rfl, rfl⟩
  · exact absurd k1 h1
  · exact absurd h1 k1
  · obtain rfl := vecs_inj (h2.symm.trans k2)
    rcases h3 with ⟨h4, rfl, rfl⟩ | ⟨h4, rfl, rfl⟩ <;> rcases k3 with ⟨k4, rfl, rfl⟩ | ⟨k4, rfl, rfl⟩
    · exact ⟨rfl, rfl⟩
    · exact absurd k4 h4
    · exact absurd h4 k4
    · exact ⟨rfl, rfl⟩
section
variable {p : Pr} [hc : ConAll p]
/-- The coset of an element, as an element of the quotient. -/
noncomputable def prjQ (ys : List (El p)) (x : El p) : El (quoPr ys) := ⟨prjE ys x, prjE_in x, fun k hk => absurd hk (Nat.not_lt_zero k)⟩
/-- The representative of an element of the quotient. -/
def liftQ {ys : List (El p)} (z : El (quoPr ys)) : El p := liftE z.inr
end
/-- The image of a subgroup in the quotient. -/
def PgV (p : Pr) (xss uss r : List (List Int)) (e : Int) : Prop := (¬ NormP p xss ∧ r = [] ∧ e = 5) ∨ (NormP p xss ∧ (∃ (_ : ConAll p) (ys zs : List (El p)) (_ : ConAll (quoPr ys)), xss = vecs ys ∧ uss = vecs zs ∧ r = canon (Gen (fun a : El (quoPr ys) => a ∈ zs.map (prjQ ys)))) ∧ e = 0)
theorem PgV.uniq {p : Pr} {xss uss : List (List Int)} (a b : List (List Int)) (c d : Int) (h : PgV p xss uss a c) (k : PgV p xss uss b d) : a = b ∧ c = d := by
  rcases h with ⟨h1, rfl, rfl⟩ | ⟨h1, ⟨hc, ys, zs, hq, h2, h3, rfl⟩, rfl⟩ <;> rcases k with ⟨k1, rfl, rfl⟩ | ⟨k1, ⟨kc, ys', zs', kq, k2, k3, rfl⟩, rfl⟩
  · exact ⟨rfl, rfl⟩
  · exact absurd k1 h1
  · exact absurd h1 k1
  · obtain rfl := vecs_inj (h2.symm.trans k2)
    obtain rfl := vecs_inj (h3.symm.trans k3)
    exact ⟨rfl, rfl⟩
/-- All elements whose cosets lie in a subgroup of the quotient. -/
def LsV (p : Pr) (xss wss r : List (List Int)) (e : Int) : Prop := (¬ NormP p xss ∧ r = [] ∧ e = 5) ∨ (NormP p xss ∧ ∃ (_ : ConAll p) (ys : List (El p)), xss = vecs ys ∧ ((¬ IsSubP (quoPr ys) wss ∧ r = [] ∧ e = 2) ∨ (IsSubP (quoPr ys) wss ∧ ∃ zs : List (El (quoPr ys)), wss = vecs zs ∧ r = canon (Gen (fun a : El p => a ∈ ys ++ zs.map liftQ)) ∧ e = 0)))
theorem LsV.uniq {p : Pr} {xss wss : List (List Int)} (a b : List (List Int)) (c d : Int) (h : LsV p xss wss a c) (k : LsV p xss wss b d) : a = b ∧ c = d := by
  rcases h with ⟨h1, rfl, rfl⟩ | ⟨h1, hc, ys, h2, h3⟩ <;> rcases k with ⟨k1, rfl, rfl⟩ | ⟨k1, kc, zs, k2, k3⟩
  · exact ⟨rfl, rfl⟩
  · exact absurd k1 h1
  · exact absurd h1 k1
  · obtain rfl := vecs_inj (h2.symm.trans k2)
    rcases h3 with ⟨h4, rfl, rfl⟩ | ⟨h4, us, h5, rfl, rfl⟩ <;> rcases k3 with ⟨k4, rfl, rfl⟩ | ⟨k4, vs, k5, rfl, rfl⟩
    · exact ⟨rfl, rfl⟩
    · exact absurd k4 h4
    · exact absurd h4 k4
    · obtain rfl := vecs_inj (h5.symm.trans k5)
      exact ⟨rfl, rfl⟩
end Go.Proofs.YtnphljflkpekmaaGreat

/-
  Walks: the reference's ProjectElement.
  Conditions: stated at each theorem.
-/
namespace Go.Proofs.YtnphljflkpekmaaGreat
open Go Go.Pc
end Go.Proofs.YtnphljflkpekmaaGreat

/-
  Walks: the reference's presentation of a subgroup (l15Sub).
  Conditions: stated at each theorem.
-/
namespace Go.Proofs.YtnphljflkpekmaaGreat
open Go Go.Pc
end Go.Proofs.YtnphljflkpekmaaGreat

/-
  Walks: the reference's presentation of a quotient (l15Quo), SubgroupPresentation, QuotientPresentation.
  Conditions: stated at each theorem.
-/
namespace Go.Proofs.YtnphljflkpekmaaGreat
open Go Go.Pc
end Go.Proofs.YtnphljflkpekmaaGreat

/-
  Drawn regions in which a variable is made, at whatever moment; stores of structs in drawn regions.
  Conditions: none; nothing of the program stands here.
-/
namespace Go.Pc
open Go Go.RowKit
section
variable {P : Program} {N : Nat} {ops : Array Oper} {π : List Nat} {S : World → Prop} {K : Env → World → Prop} {ρ : Env} {w w0 : World}
variable {i : Nat} {d : Nat} {op : Op} {ty : TypeId} {pos : String} {after : Array Edge} {g : Option (Nat × Bool)}
/-- A drawn region and what holds behind it. -/
theorem d_post {Q : Post} {id : Nat} (R : Env → World → Prop) (h : rwp P N (.region id ops true) (fun e ρ w => e = .normal ∧ R ρ w) ρ w) (hk : ∀ ρ w, R ρ w → Q .normal ρ w) : rwp P N (.region id ops true) Q ρ w :=
  rwp_mono h fun e ρ w he => by
    obtain ⟨rfl, hr⟩ := he
    exact hk ρ w hr
theorem ds_call {f : FuncId} {args : Array Value} {R : Value → World → Prop} (hc : Calls P f args w (Ret R)) (hi : opAt ops π i = some ⟨some d, op, ty, pos, after, g⟩ := by exact rfl) (hd : d < N := by decide)
    (ho : Cl P op ty ρ f args := by ((first | refine cl_func ?_ | refine cl_fval ((by ((try simp only [ev_tmp, ev_const, ev_func, get_put, get_args, get_putL, get_putL_nil, Nat.reduceEqDiff, reduceIte, List.getD_cons_zero, List.getD_cons_succ, List.getD_nil]); first | done | with_reducible rfl))) ?_); ((try simp only [List.map_toArray, List.map_cons, List.map_nil, ev_tmp, ev_const, ev_func, get_put, get_args, get_putL, get_putL_nil, Nat.reduceEqDiff, reduceIte, List.getD_cons_zero, List.getD_cons_succ, List.getD_nil]); first | done | with_reducible rfl | rfl))) (hg : Wants ops ρ g := by first | exact True.intro | exact ⟨_, rfl, by ((try simp only [ev_tmp, ev_const, ev_func, get_put, get_args, get_putL, get_putL_nil, Nat.reduceEqDiff, reduceIte, List.getD_cons_zero, List.getD_cons_succ, List.getD_nil, Bool.not_true, Bool.not_false]); first | done | with_reducible rfl)⟩) (hR : ∀ v w', R v w' → Ext w w' := by first | exact fun _ _ h => And.left h | (rintro _ _ ⟨_, h⟩; exact h) | (rintro _ _ ⟨_, rfl, _, h⟩; exact h) | (rintro _ _ ⟨_, rfl, _, _, h⟩; exact h) | (rintro _ _ ⟨_, rfl, _, _, _, h⟩; exact h)) (next : ∀ v w', R v w' → dops P N ops π (Ext w0) K (i + 1) (put ρ d v) w') : dstp P N ops π (Ext w0) K i ρ w := by
  refine dstp_step hi hg fun hS a ha => ?_
  unfold Oper.wp
  rw [ha.eval, ho.run w]
  refine Calls.mono hc fun e w' he => ?_
  cases e with
  | returned v => exact ⟨hS.trans (hR v w' he), _, ha.put hd v, fun _ => next v w' he⟩
  | panicked c => exact he.elim
  | outgrown => exact he.elim
theorem ex_alloc {t : TypeId} {zs : List Value} [hz : ZeroT P t zs] : Ex P (.alloc t) ty ρ w (.pointer (some ⟨w.heap.size, 0, none⟩)) (w.alloc (.cells zs.toArray t)) := by
  obtain ⟨i, hi, hz, hs⟩ := hz.ex
  exact ⟨fun _ _ _ _ => by simp [execOp, Instr.alloc, zeroValue, typeInfo, hi, hz, newVar, newRow, Value.cells]⟩
theorem ds_alloc {t : TypeId} {zs : List Value} [hz : ZeroT P t zs] (next : ∀ w' b, Ext w w' → b = w.heap.size → w'.heap.size = b + 1 → Blk w' b zs → dops P N ops π (Ext w0) K (i + 1) (put ρ d (.pointer (some ⟨b, 0, none⟩))) w')
    (hi : opAt ops π i = some ⟨some d, .alloc t, ty, pos, after, g⟩ := by exact rfl) (hd : d < N := by decide) (hg : Wants ops ρ g := by first | exact True.intro | exact ⟨_, rfl, by ((try simp only [ev_tmp, ev_const, ev_func, get_put, get_args, get_putL, get_putL_nil, Nat.reduceEqDiff, reduceIte, List.getD_cons_zero, List.getD_cons_succ, List.getD_nil, Bool.not_true, Bool.not_false]); first | done | with_reducible rfl)⟩) : dstp P N ops π (Ext w0) K i ρ w :=
  dstp_ex hi hd hg ex_alloc (fun h => h.trans (Ext.alloc _ _)) (next _ _ (Ext.alloc _ _) rfl (by simp) (blk_alloc _ _ _))
theorem d_alloc {t : TypeId} {zs : List Value} [hz : ZeroT P t zs] (next : ∀ w' b, Ext w w' → b = w.heap.size → w'.heap.size = b + 1 → Blk w' b zs → dops P N ops π (Ext w0) K (i + 1) (put ρ d (.pointer (some ⟨b, 0, none⟩))) w')
    (hi : opAt ops π i = some ⟨some d, .alloc t, ty, pos, after, g⟩ := by exact rfl) (hn : nextOk ops π i = true := by decide +kernel) (hd : d < N := by decide) (hg : Wants ops ρ g := by first | exact True.intro | exact ⟨_, rfl, by ((try simp only [ev_tmp, ev_const, ev_func, get_put, get_args, get_putL, get_putL_nil, Nat.reduceEqDiff, reduceIte, List.getD_cons_zero, List.getD_cons_succ, List.getD_nil, Bool.not_true, Bool.not_false]); first | done | with_reducible rfl)⟩) : dops P N ops π (Ext w0) K i ρ w :=
  dt_ex hi hn hd hg ex_alloc (fun h => h.trans (Ext.alloc _ _)) (next _ _ (Ext.alloc _ _) rfl (by simp) (blk_alloc _ _ _))
theorem wr_agg {t b n : Nat} {x y : Operand} {cs vs : List Value} [hp : StructT P t n] (hb : Blk w b cs) (hx : ev ρ x = .pointer (some ⟨b, 0, none⟩)) (hy : ev ρ y = .agg vs.toArray) (hn : n = vs.length) (hc : cs.length = vs.length) (h1 : vs.all (·.oneCell') = true) :
    ∃ w', Wr P (.store t x y) ty ρ w w' ∧ Chg b w w' ∧ w'.heap.size = w.heap.size ∧ Blk w' b vs := by
  obtain ⟨fs, i, hu, hi, hs⟩ := hp.ex
  obtain ⟨tb, hb'⟩ := hb.ex
  have hr := run_storeVar_row (P := P) w b tb t cs.toArray vs.toArray hb' (by simp [hi, hs, hn]) (by simpa using hc) (by simpa using h1)
  exact ⟨w.setRow b vs.toArray, ⟨fun _ _ _ _ => by simp [execOp, hx, hy, Instr.storeAt, Instr.sureAddr, hr]⟩, ⟨⟨rfl, rfl, rfl, by simp, fun k hk hne => setRow_other w b k _ (fun e => hne (by simp [e]))⟩⟩, by simp, ⟨tb, setRow_heap w b _ _ tb _ hb'⟩⟩
/-- A struct is stored into a variable that is new in this region. -/
theorem d_store_agg {t b n : Nat} {x y : Operand} {cs vs : List Value} [hp : StructT P t n] (hb : Blk w b cs) (h0 : w0.heap.size ≤ b) (hn0 : n = vs.length) (hc : cs.length = vs.length) (h1 : vs.all (·.oneCell') = true)
    (next : ∀ w', Chg b w w' → w'.heap.size = w.heap.size → Blk w' b vs → dops P N ops π (Ext w0) K (i + 1) ρ w')
    (hi : opAt ops π i = some ⟨none, .store t x y, ty, pos, after, g⟩ := by exact rfl) (hx : ev ρ x = .pointer (some ⟨b, 0, none⟩) := by ((try simp only [ev_tmp, ev_const, ev_func, get_put, get_args, get_putL, get_putL_nil, Nat.reduceEqDiff, reduceIte, List.getD_cons_zero, List.getD_cons_succ, List.getD_nil]); first | done | with_reducible rfl)) (hy : ev ρ y = .agg vs.toArray := by ((try simp only [ev_tmp, ev_const, ev_func, get_put, get_args, get_putL, get_putL_nil, Nat.reduceEqDiff, reduceIte, List.getD_cons_zero, List.getD_cons_succ, List.getD_nil]); first | done | with_reducible rfl)) (hn : nextOk ops π i = true := by decide +kernel) (hg : Wants ops ρ g := by first | exact True.intro | exact ⟨_, rfl, by ((try simp only [ev_tmp, ev_const, ev_func, get_put, get_args, get_putL, get_putL_nil, Nat.reduceEqDiff, reduceIte, List.getD_cons_zero, List.getD_cons_succ, List.getD_nil, Bool.not_true, Bool.not_false]); first | done | with_reducible rfl)⟩) : dops P N ops π (Ext w0) K i ρ w := by
  obtain ⟨w', hw, hC, hs, hB⟩ := wr_agg (P := P) (t := t) (ty := ty) hb hx hy hn0 hc h1
  exact z_wr hi hn hg hw (fun h => hC.ext h h0) (next w' hC hs hB)
/-- A struct is stored into the variable that the region writes. -/
theorem z_store_agg {t b n : Nat} {x y : Operand} {cs vs : List Value} [hp : StructT P t n] (hb : Blk w b cs) (hn0 : n = vs.length) (hc : cs.length = vs.length) (h1 : vs.all (·.oneCell') = true)
    (next : ∀ w', Chg b w w' → w'.heap.size = w.heap.size → Blk w' b vs → dops P N ops π (Chg b w0) K (i + 1) ρ w')
    (hi : opAt ops π i = some ⟨none, .store t x y, ty, pos, after, g⟩ := by exact rfl) (hx : ev ρ x = .pointer (some ⟨b, 0, none⟩) := by ((try simp only [ev_tmp, ev_const, ev_func, get_put, get_args, get_putL, get_putL_nil, Nat.reduceEqDiff, reduceIte, List.getD_cons_zero, List.getD_cons_succ, List.getD_nil]); first | done | with_reducible rfl)) (hy : ev ρ y = .agg vs.toArray := by ((try simp only [ev_tmp, ev_const, ev_func, get_put, get_args, get_putL, get_putL_nil, Nat.reduceEqDiff, reduceIte, List.getD_cons_zero, List.getD_cons_succ, List.getD_nil]); first | done | with_reducible rfl)) (hn : nextOk ops π i = true := by decide +kernel) (hg : Wants ops ρ g := by first | exact True.intro | exact ⟨_, rfl, by ((try simp only [ev_tmp, ev_const, ev_func, get_put, get_args, get_putL, get_putL_nil, Nat.reduceEqDiff, reduceIte, List.getD_cons_zero, List.getD_cons_succ, List.getD_nil, Bool.not_true, Bool.not_false]); first | done | with_reducible rfl)⟩) : dops P N ops π (Chg b w0) K i ρ w := by
  obtain ⟨w', hw, hC, hs, hB⟩ := wr_agg (P := P) (t := t) (ty := ty) hb hx hy hn0 hc h1
  exact z_wr hi hn hg hw (fun h => h.trans hC) (next w' hC hs hB)
end
section
variable {P : Program} {N : Nat} {ops : Array Oper} {π : List Nat} {K : Env → World → Prop} {ρ : Env} {w00 w1 : World}
variable {i : Nat} {ty ty2 : TypeId} {pos pos2 : String} {after after2 : Array Edge} {g g2 : Option (Nat × Bool)} {d d2 : Nat}
/-- 'append(s, x)', x of one cell, s the call's own, in a drawn region. -/
theorem z_growu {s x : Operand} {b t e bytes sb : Nat} {z v u : Value} {us : List Value} [ht : SlT P t e] [he : ElT P e 1 bytes z] (hO : OwnN e sb w1 v us) (hu1 : u.cells = #[u]) (hu2 : u.oneCell' = true) (hs0 : sb ≤ w1.heap.size)
    (hn : us.length ≤ 1000000) (hvb : ∀ g, v.ownBlock = some g → g = b) (hi1 : opAt ops π i = some ⟨some d, .buildSlice t 1 #[(0, x)], ty, pos, after, g⟩ := by exact rfl) (hi2 : opAt ops π (i + 1) = some ⟨some d2, .call { callee := .builtin .append, args := #[s, .tmp d], argTypes := #[t, t] }, ty2, pos2, after2, g2⟩ := by exact rfl)
    (next : ∀ v1 v' w', OwnN e sb w' v' (us ++ [u]) → (∀ wb, Ext wb w1 → wb.heap.size ≤ sb → Ext wb w') → w1.heap.size ≤ w'.heap.size → GStep w1 w' v v' → dops P N ops π (Chg b w00) K (i + 1 + 1) (put (put ρ d v1) d2 v') w')
    (hx : ev ρ x = u := by ((try simp only [ev_tmp, ev_const, ev_func, get_put, get_args, get_putL, get_putL_nil, Nat.reduceEqDiff, reduceIte, List.getD_cons_zero, List.getD_cons_succ, List.getD_nil]); first | done | with_reducible rfl)) (hs : ∀ v1, ev (put ρ d v1) s = v := by intro v1; ((try simp only [ev_tmp, ev_const, ev_func, get_put, get_args, get_putL, get_putL_nil, Nat.reduceEqDiff, reduceIte, List.getD_cons_zero, List.getD_cons_succ, List.getD_nil]); first | done | with_reducible rfl)) (hd : ∀ v1, ev (put ρ d v1) (.tmp d) = v1 := by intro v1; ((try simp only [ev_tmp, ev_const, ev_func, get_put, get_args, get_putL, get_putL_nil, Nat.reduceEqDiff, reduceIte, List.getD_cons_zero, List.getD_cons_succ, List.getD_nil]); first | done | with_reducible rfl)) (hz : z.cells = #[z] := by rfl) (hby : bytes ≤ 100 := by decide) (hg1 : Wants ops ρ g := by first | exact True.intro | exact ⟨_, rfl, by ((try simp only [ev_tmp, ev_const, ev_func, get_put, get_args, get_putL, get_putL_nil, Nat.reduceEqDiff, reduceIte, List.getD_cons_zero, List.getD_cons_succ, List.getD_nil, Bool.not_true, Bool.not_false]); first | done | with_reducible rfl)⟩) (hg2 : ∀ v1, Wants ops (put ρ d v1) g2 := by intro v1; first | exact True.intro | exact ⟨_, rfl, by ((try simp only [ev_tmp, ev_const, ev_func, get_put, get_args, get_putL, get_putL_nil, Nat.reduceEqDiff, reduceIte, List.getD_cons_zero, List.getD_cons_succ, List.getD_nil, Bool.not_true, Bool.not_false]); first | done | with_reducible rfl)⟩)
    (hn1 : nextOk ops π i = true := by decide +kernel) (hn2 : nextOk ops π (i + 1) = true := by decide +kernel) (hd1 : d < N := by decide) (hd2 : d2 < N := by decide) :
    dops P N ops π (Chg b w00) K i ρ w1 := by
  refine z_slice1 (u := u) hi1 hx hu1 hz (fun w2 v2 he2 hs2 ho2 => ?_) hn1 hd1 hg1
  have hO2 : OwnN e sb w2 v us := @OwnN.ext _ _ _ _ _ _ he2 hO
  have hz2 := he2.size
  have hb : (us.length + 1) * bytes ≤ 1000001 * 100 := Nat.mul_le_mul (by omega) hby
  refine z_append (hv := hO2) (hy := ho2) hi2 (hs v2) (hd v2) (by rw [hz]; rfl) ?_ ?_ ?_ ?_ hvb (fun v3 w3 ho3 hg3 ha3 => ?_) hn2 hd2 (hg2 v2)
  · intro a ha
    rw [List.mem_singleton.1 ha]; exact hu2
  · simp only [List.length_singleton]; omega
  · simp only [List.length_singleton, maxLen]; omega
  · omega
  · exact next v2 v3 w3 ho3 (fun wb hb1 hb2 => (hb1.trans he2).app hg3 (fun k hk => by have := (hO2.lt k hk).1; omega)) (Nat.le_trans hz2 hg3.size) ⟨w2, he2, hg3, ha3⟩
end
section
variable {B : Nat → Prop} {ep ec ei m0 m1 m2 bq : Nat} {w w' : World} {vo vp vc : Value} {ord : List Int} {rp : List (Value × List Int)} {gs : List (Value × List (Value × List Int))}
/-- The first two lists of a presentation that is being copied into a variable. -/
structure Hd (ep m0 m1 m2 bq : Nat) (w : World) (vo : Value) (ord : List Int) (vp : Value) (rp : List (Value × List Int)) : Prop where
  o : Fr m0 w vo ord
  ol : ord ≠ [] → ∀ b, vo.ownBlock = some b → b < m1 ∧ b ≠ bq
  p : GrL ep m1 w vp rp
  pl : ∀ b, FL vp rp b → b < m2 ∧ b ≠ bq
  l1 : m0 ≤ m1
  l2 : m1 ≤ m2
  l3 : m2 ≤ w.heap.size
theorem Hd.wr (h : Hd ep m0 m1 m2 bq w vo ord vp rp) (k : Wrt B w w') (hB : ∀ b, B b → b = bq ∨ m2 ≤ b) : Hd ep m0 m1 m2 bq w' vo ord vp rp :=
  ⟨h.o.wr k fun hn b hb hb' => by
    have h1 := h.ol hn b hb
    have h2 := h.l2
    rcases hB b hb' with e | e
    · exact h1.2 e
    · omega, h.ol, h.p.wr k fun b hb hb' => by
    have h1 := h.pl b hb
    rcases hB b hb' with e | e
    · exact h1.2 e
    · omega, h.pl, h.l1, h.l2, Nat.le_trans h.l3 k.size⟩
theorem Hd.ext (h : Hd ep m0 m1 m2 bq w vo ord vp rp) (x : Ext w w') : Hd ep m0 m1 m2 bq w' vo ord vp rp := h.wr (.ofExt (B := fun _ => False) x) fun b hb => hb.elim
theorem Hd.presO (h : Hd ep m0 m1 m2 bq w vo ord vp rp) (hc : GrC ec ei m2 w vc gs) : PresO m0 w.heap.size w (.agg #[vo, vp, vc]) ⟨ord, rp.map (·.2), gs.map fun q => q.2.map (·.2)⟩ :=
  PresO.of3 h.o h.l1 (fun hn b hb => (h.ol hn b hb).1) h.p (fun b hb => (h.pl b hb).1) h.l2 hc h.l3
/-- One more list of rows. -/
theorem GrC.field {w1 w2 w3 : World} {s bo : Nat} {u : Value} {rs : List (Value × List Int)} {vc' : Value} (h : GrC ec ei s w vc gs) (hs : s ≤ w.heap.size) (x : Ext w w1) (hL : GrL ei w.heap.size w1 u rs) (hO : OwnN ec s w2 vc' (gs.map (·.1) ++ [u])) (hst : GStep w1 w2 vc vc') (c : Chg bo w2 w3) (hb : bo < s) : GrC ec ei s w3 vc' (gs ++ [(u, rs)]) := by
  obtain ⟨w5, x5, hg, ha⟩ := hst.ex
  exact (h.push x hL hs x5 hO hg ha).wr (.one (B := fun g => g = bo) rfl c) fun b hb' e => by
    have h1 := (h.push x hL hs x5 hO hg ha).lt hb'
    omega
theorem Hd.of {sA : Nat} {wB wC wD w6 : World} (hf : Fr sA wB vo ord) (h0 : m0 ≤ sA) (hA : sA ≤ wC.heap.size) (hBC : wB.heap.size ≤ wC.heap.size) (hG : GrowL ep wC.heap.size wD vp rp) (xB : Ext wB w6) (xD : Ext wD w6) (hCD : wC.heap.size ≤ wD.heap.size) (hq : bq < sA ∨ (wB.heap.size ≤ bq ∧ bq < wC.heap.size) ∨ wD.heap.size ≤ bq) : Hd ep m0 wC.heap.size w6.heap.size bq w6 vo ord vp rp := by
  have z1 := xB.size
  have z2 := xD.size
  have hL := GrL.of hG
  refine ⟨(hf.ext' xB).mono h0, fun hn b hb => ?_, hL.wr (.ofExt (B := fun _ => False) xD) fun b _ hb => hb.elim, fun b hb => ?_, by omega, by omega, Nat.le_refl _⟩
  · obtain ⟨g, e1, l1, l2⟩ := hf.block hn
    rw [hb] at e1; injection e1 with e1
    omega
  · have := hL.lt hb
    omega
end
end Go.Pc

/-
  Walks: the reference's SubgroupPresentation, QuotientPresentation.
  Conditions: stated at each theorem.
-/
namespace Go.Proofs.YtnphljflkpekmaaGreat
open Go Go.Pc
theorem presO_nil {s : Nat} {w : World} (h : s ≤ w.heap.size) : PresO s w.heap.size w (.agg #[nilv, nilv, nilv]) noP := (Tri.nil 0 0 0 0 s w h).pres
end Go.Proofs.YtnphljflkpekmaaGreat

/-
  Walks: the reference's copy of a presentation (l07Own).
  Conditions: stated at each theorem.
-/
namespace Go.Proofs.YtnphljflkpekmaaGreat
open Go Go.Pc
set_option maxHeartbeats 8000000 in
theorem l07Own_ok {p : Pr} {w : World} {vp : Value} {lo hi : Nat} [hp : Pres lo hi w vp p] (hsz : SizeP p 6) :
    Calls Tryz.prog 101 #[vp] w (Ret fun v w' => Ext w w' ∧ PresO w.heap.size w'.heap.size w' v p) := by
  have hol := hsz.ord
  have hpl := hsz.pow
  have hcl := hsz.cnj
  replace hp := hp.wide
  obtain ⟨vo, vpw, vc, ps, cs, css, rfl, h1, h2, h3⟩ := hp.ex
  refine enter (args := [.agg #[vo, vpw, vc]]) (l := [.cell 2 29]) Tryz.func101 rfl rfl Tryz.ntmps101 (by simp) ?_
  refine go ?_
  refine st_box3 (by ((try simp only [ev_tmp, ev_const, ev_func, get_put, get_args, get_putL, get_putL_nil, Nat.reduceEqDiff, reduceIte, List.getD_cons_zero, List.getD_cons_succ, List.getD_nil]); first | done | with_reducible rfl)) (by first | exact True.intro | exact ⟨_, rfl, by ((try simp only [ev_tmp, ev_const, ev_func, get_put, get_args, get_putL, get_putL_nil, Nat.reduceEqDiff, reduceIte, List.getD_cons_zero, List.getD_cons_succ, List.getD_nil, Bool.not_true, Bool.not_false]); first | done | with_reducible rfl)⟩) fun w1 b he1 hb1 hs1 hc0 hc1 hc2 => ?_
  have hz1 := he1.size
  refine go ?_
  refine st_alloc (by first | exact True.intro | exact ⟨_, rfl, by ((try simp only [ev_tmp, ev_const, ev_func, get_put, get_args, get_putL, get_putL_nil, Nat.reduceEqDiff, reduceIte, List.getD_cons_zero, List.getD_cons_succ, List.getD_nil, Bool.not_true, Bool.not_false]); first | done | with_reducible rfl)⟩) fun w2 br he2 hbr hs2 hbk2 => ?_
  have hz2 := he2.size
  refine go ?_
  refine d_post (fun ρ' w' => ∃ vo' vp' rp bq m1, Has ρ' [(1, .pointer (some ⟨b, 0, none⟩)), (2, .pointer (some ⟨br, 0, none⟩)), (3, .pointer (some ⟨bq, 0, none⟩))] ∧ Ext w2 w' ∧ Blk w' bq [vo', vp', nilv] ∧ Hd 22 w2.heap.size m1 w'.heap.size bq w' vo' p.ord vp' rp ∧ rp.map (·.2) = p.pow ∧ w2.heap.size ≤ bq ∧ bq < w'.heap.size) ?_ ?_
  · refine d_order [0, 1, 3, 4, 2, 5, 6, 7, 8] (h := fun w3 he3 hs3 => ?_)
    refine dgo ?_
    refine dt_fork (π' := [0, 1, 3, 4, 7, 2, 5, 6, 8]) (by decide) rfl rfl (by decide +kernel) ?_ ?_
    · refine ds_call (l01Own_ok (xs := p.ord) (by omega)) (next := fun v4 w4 h4 => ?_)
      obtain ⟨he4, hf4⟩ := h4
      have hz4 := he4.size
      refine dt_fork (π' := [0, 1, 3, 4, 2, 7, 5, 6, 8]) (by decide) rfl rfl (by decide +kernel) ?_ ?_
      · refine ds_call (l01Own2G_ok (xss := p.pow) (fun i => by have := hsz.powi i; omega) (by omega)) (next := fun v5 w5 h5 => ?_)
        obtain ⟨he5, rs5, hG5, hrs5⟩ := h5
        have hz5 := he5.size
        refine da (v := .agg #[v4, v5, nilv]) (h := ⟨fun _ _ => rd_build (by simp only [ev_tmp, ev_const, ev_func, get_put, get_args, get_putL, get_putL_nil, Nat.reduceEqDiff, reduceIte, List.getD_cons_zero, List.getD_cons_succ, List.getD_nil, List.map_toArray, List.map_cons, List.map_nil]; rfl) (fun _ => ?_)⟩) (next := ?_)
        · obtain ⟨A, c, rfl, _⟩ := hf4.ints.sl.ex
          obtain ⟨A', c', rfl, _⟩ := hG5.lst.own.toSl.ex
          kernel_rfl
        refine d_alloc (next := fun w6 bq he6 hbq hs6 hbk6 => ?_)
        refine d_store_agg (vs := [v4, v5, nilv]) (cs := _) hbk6 (by omega) rfl rfl (by simp [hf4.ints.sl.one, hG5.lst.own.toSl.one]; rfl) (next := fun w7 hc7 hs7 hb7 => ?_)
        refine d_end (h := ?_)
        refine ⟨rfl, v4, v5, rs5, bq, w4.heap.size, ?_, hc7.ext (((he3.trans he4).trans he5).trans he6) (by omega), hb7, ?_, hrs5, by omega, by omega⟩
        · exact hasP
        · rw [hs7]
          exact (Hd.of hf4 (by omega) (by omega) (Nat.le_refl _) hG5 (he5.trans he6) he6 (by omega) (by omega)).wr (.one (B := fun g => g = bq) rfl hc7) (fun g hg => .inl hg)
      · refine ds_alloc (next := fun w6 bq he6 hbq hs6 hbk6 => ?_)
        refine dce (l01Own2G_ok (xss := p.pow) (fun i => by have := hsz.powi i; omega) (by omega)) (next := fun v5 w5 h5 => ?_)
        obtain ⟨he5, rs5, hG5, hrs5⟩ := h5
        have hz5 := he5.size
        refine da (v := .agg #[v4, v5, nilv]) (h := ⟨fun _ _ => rd_build (by simp only [ev_tmp, ev_const, ev_func, get_put, get_args, get_putL, get_putL_nil, Nat.reduceEqDiff, reduceIte, List.getD_cons_zero, List.getD_cons_succ, List.getD_nil, List.map_toArray, List.map_cons, List.map_nil]; rfl) (fun _ => ?_)⟩) (next := ?_)
        · obtain ⟨A, c, rfl, _⟩ := hf4.ints.sl.ex
          obtain ⟨A', c', rfl, _⟩ := hG5.lst.own.toSl.ex
          kernel_rfl
        have hbk5 : Blk w5 bq _ := @Blk.ext _ _ _ _ he5 hbk6
        refine d_store_agg (vs := [v4, v5, nilv]) (cs := _) hbk5 (by omega) rfl rfl (by simp [hf4.ints.sl.one, hG5.lst.own.toSl.one]; rfl) (next := fun w7 hc7 hs7 hb7 => ?_)
        refine d_end (h := ?_)
        refine ⟨rfl, v4, v5, rs5, bq, w6.heap.size, ?_, hc7.ext (((he3.trans he4).trans he6).trans he5) (by omega), hb7, ?_, hrs5, by omega, by omega⟩
        · exact hasP
        · rw [hs7]
          exact (Hd.of hf4 (by omega) (by omega) (by omega) hG5 (he6.trans he5) (Ext.refl _) (by omega) (by omega)).wr (.one (B := fun g => g = bq) rfl hc7) (fun g hg => .inl hg)
    · refine ds_alloc (next := fun w6 bq he6 hbq hs6 hbk6 => ?_)
      refine dce (l01Own_ok (xs := p.ord) (by omega)) (next := fun v4 w4 h4 => ?_)
      obtain ⟨he4, hf4⟩ := h4
      have hz4 := he4.size
      refine dce (l01Own2G_ok (xss := p.pow) (fun i => by have := hsz.powi i; omega) (by omega)) (next := fun v5 w5 h5 => ?_)
      obtain ⟨he5, rs5, hG5, hrs5⟩ := h5
      have hz5 := he5.size
      refine da (v := .agg #[v4, v5, nilv]) (h := ⟨fun _ _ => rd_build (by simp only [ev_tmp, ev_const, ev_func, get_put, get_args, get_putL, get_putL_nil, Nat.reduceEqDiff, reduceIte, List.getD_cons_zero, List.getD_cons_succ, List.getD_nil, List.map_toArray, List.map_cons, List.map_nil]; rfl) (fun _ => ?_)⟩) (next := ?_)
      · obtain ⟨A, c, rfl, _⟩ := hf4.ints.sl.ex
        obtain ⟨A', c', rfl, _⟩ := hG5.lst.own.toSl.ex
        kernel_rfl
      have hbk5 : Blk w5 bq _ := @Blk.ext _ _ _ _ (he4.trans he5) hbk6
      refine d_store_agg (vs := [v4, v5, nilv]) (cs := _) hbk5 (by omega) rfl rfl (by simp [hf4.ints.sl.one, hG5.lst.own.toSl.one]; rfl) (next := fun w7 hc7 hs7 hb7 => ?_)
      refine d_end (h := ?_)
      refine ⟨rfl, v4, v5, rs5, bq, w4.heap.size, ?_, hc7.ext (((he3.trans he6).trans he4).trans he5) (by omega), hb7, ?_, hrs5, by omega, by omega⟩
      · exact hasP
      · rw [hs7]
        exact (Hd.of hf4 (by omega) (by omega) (Nat.le_refl _) hG5 he5 (Ext.refl _) (by omega) (by omega)).wr (.one (B := fun g => g = bq) rfl hc7) (fun g hg => .inl hg)
  rintro ρ' w3 ⟨vo', vp', rp, bq, m1, hH, he3, hb3, hD3, hrp, hbq1, hbq2⟩
  refine thn_normal (rwp_has hH fun ρ0 => ?_)
  have hz3 := he3.size
  have hE2 := he1.trans he2
  refine go ?_
  refine r_for p.cnj.length (fun i ρ w' => ∃ vc' gs, Has ρ [(1, .pointer (some ⟨b, 0, none⟩)), (2, .pointer (some ⟨br, 0, none⟩)), (3, .pointer (some ⟨bq, 0, none⟩)), (4, .int .i64 i)] ∧ Ext w2 w' ∧ Blk w' bq [vo', vp', vc'] ∧ Hd 22 w2.heap.size m1 w3.heap.size bq w' vo' p.ord vp' rp ∧ GrC 23 22 w3.heap.size w' vc' gs ∧ w3.heap.size ≤ w'.heap.size ∧ (gs.map fun q => q.2.map (·.2)) = p.cnj.take i) ?_ ?_
  · refine ⟨nilv, [], ?_, he3, hb3, hD3, GrC.nil _ _ _ _, Nat.le_refl _, rfl⟩
    exact hasP
  clear hb3 hD3
  rintro i ρ w4 hi ⟨vc4, gs, hH, he4, hb4, hD4, hC4, hz4, hgs⟩
  refine rwp_has hH fun ρ0 => ?_
  have hgl : gs.length = i := by have := congrArg List.length hgs; simp at this; omega
  refine go ?_
  refine c_if (fun h4 => ?_) (fun h4 => ?_)
  · have hin : i < p.cnj.length := by omega
    obtain ⟨b', hb', hvb'⟩ := own_some' vc4 w3.heap.size w4.heap.size hz4 (fun g h => (hC4.own.lt g h).1)
    have ap1 : Apart 0 w.heap.size b' := ⟨.inr (by omega)⟩
    have ap2 : Apart b (b + 1) b' := ⟨.inr (by omega)⟩
    have ap3 : Apart bq (bq + 1) b' := ⟨.inr (by omega)⟩
    have k2 : Cell w4 bq 2 vc4 := hb4.cell rfl
    refine go ?_
    refine z_order b' (List.range 12) (h := fun w5 he5 _ => ?_)
    refine zgo ?_
    refine zc (l01Own2G_ok (xss := p.cnj.getD i []) (fun j => by have := hsz.cnjij i j; omega) (by have := hsz.cnji i; omega)) (next := fun v6 w6 h6 => ?_)
    obtain ⟨he6, rs6, hG6, hrs6⟩ := h6
    have hx := he5.trans he6
    have hzx := hx.size
    have hL6 : GrL 22 w4.heap.size w6 v6 rs6 := by
      have h := GrL.of hG6
      exact ⟨h.own.mono (by have := he5.size; omega), h.rows.mono (by have := he5.size; omega), h.off⟩
    have hO6 : OwnN 23 w3.heap.size w6 vc4 _ := @OwnN.ext _ _ _ _ _ _ hx hC4.own
    have hb6 : Blk w6 bq [vo', vp', vc4] := @Blk.ext _ _ _ _ hx hb4
    have hlt : ∀ g, vc4.ownBlock = some g → w3.heap.size ≤ g := fun g hg => (hC4.own.lt g hg).1
    clear k2
    refine z_growu (sb := w3.heap.size) hO6 hG6.lst.own.toSl.cells hG6.lst.own.toSl.one (by omega) (by rw [List.length_map]; omega) hvb' (next := fun v7 v8 w8 hO8 hx8 hz8 hst8 => ?_)
    have hb8 : Blk w8 bq [vo', vp', vc4] := Blk.gstep hb6 hst8 (fun g hg => by have := hlt g hg; omega)
    refine zgo ?_
    refine z_stfld (bo := bq) (m := 2) (cs := [vo', vp', vc4]) hb8 hO8.toSl.one (by simp) (next := fun w9 hc9 hs9 hb9 => ?_)
    have hC9 := hC4.field hz4 hx hL6 hO8 hst8 hc9 (by omega)
    have hD9 := (((hD4.ext hx).wr hst8.wrt (fun g hg => .inr (hlt g hg))).wr (.one (B := fun g => g = bq) rfl hc9) (fun g hg => .inl hg))
    have hE9 : Ext w2 w9 := hc9.ext (hx8 w2 (he4.trans hx) (by omega)) (by omega)
    refine go ?_
    refine forQ_normal (by omega) ⟨v8, _, ?_, hE9, hb9, hD9, hC9, by omega, ?_⟩
    · exact hasP
    · rw [List.take_succ_eq_append_getElem hin, List.map_append, hgs]
      simp only [List.map_cons, List.map_nil, hrs6]
      simp [hin]
  · obtain rfl : i = p.cnj.length := by omega
    rw [List.take_length] at hgs
    have hbr4 : Blk w4 br _ := @Blk.ext _ _ _ _ he4 hbk2
    have hP := (show Hd 22 w2.heap.size m1 w3.heap.size bq w4 vo' p.ord vp' rp from hD4).presO hC4
    rw [hrp, hgs] at hP
    have o3 := hP.pres.one3
    refine go ?_
    refine ra (v := .agg #[vo', vp', vc4]) (h := rd_load_blk (hb := hb4) (by ((try simp only [ev_tmp, ev_const, ev_func, get_put, get_args, get_putL, get_putL_nil, Nat.reduceEqDiff, reduceIte, List.getD_cons_zero, List.getD_cons_succ, List.getD_nil]); first | done | with_reducible rfl)) rfl) (next := ?_)
    refine st_store_agg (vs := [vo', vp', vc4]) (cs := _) (hb := hbr4) (by ((try simp only [ev_tmp, ev_const, ev_func, get_put, get_args, get_putL, get_putL_nil, Nat.reduceEqDiff, reduceIte, List.getD_cons_zero, List.getD_cons_succ, List.getD_nil]); first | done | with_reducible rfl)) (by ((try simp only [ev_tmp, ev_const, ev_func, get_put, get_args, get_putL, get_putL_nil, Nat.reduceEqDiff, reduceIte, List.getD_cons_zero, List.getD_cons_succ, List.getD_nil]); first | done | with_reducible rfl)) rfl ?_ ?_ (by first | exact True.intro | exact ⟨_, rfl, by ((try simp only [ev_tmp, ev_const, ev_func, get_put, get_args, get_putL, get_putL_nil, Nat.reduceEqDiff, reduceIte, List.getD_cons_zero, List.getD_cons_succ, List.getD_nil, Bool.not_true, Bool.not_false]); first | done | with_reducible rfl)⟩) fun w7 hc7 hs7 hb7 => ?_
    · rfl
    · simp [o3.1, o3.2.1, o3.2.2]
    refine go ?_
    have hE7 : Ext w w7 := hc7.ext (hE2.trans he4) (by omega)
    refine retc (b := br) (hb := hb7) ⟨hE7, ?_⟩ rfl
    have hP7 := hP.wr (.one (B := fun g => g = br) rfl hc7) (fun g hg => .inl (by omega))
    rw [hs7]
    exact hP7.sub (by omega) (Nat.le_refl _)
set_option maxHeartbeats 4000000 in
theorem l16Make_ok {p q : Pr} {w : World} {vp vq vx : Value} {us : List Value} {xss : List (List Int)} {lo hi lo1 hi1 lo2 hi2 : Nat} [hp : Pres lo hi w vp p] [hq : Pres lo1 hi1 w vq q] [hx : Pc.Rows lo2 hi2 w vx us xss] (hsp : SizeP p 6) (hsq : SizeP q 6) (hxl : xss.length ≤ 1000000) (hxr : ∀ i, (xss.getD i []).length ≤ 2000000) :
    Calls Tryz.prog 57 #[vp, vq, vx] w (Ret fun v w' => Ext w w' ∧ HomV w.heap.size w'.heap.size w' v p q xss) := by
  replace hp := hp.wide
  replace hq := hq.wide
  replace hx := hx.wide
  obtain ⟨vo, vpw, vc, ps, cs, css, rfl, h1, h2, h3⟩ := hp.ex
  obtain ⟨uo, upw, uc, qs, ds, dss, rfl, k1, k2, k3⟩ := hq.ex
  refine enter (args := [.agg #[vo, vpw, vc], .agg #[uo, upw, uc], vx]) (l := [.cell 6 31]) Tryz.func57 rfl rfl Tryz.ntmps57 (by simp) ?_
  refine go ?_
  refine st_box3 (by ((try simp only [ev_tmp, ev_const, ev_func, get_put, get_args, get_putL, get_putL_nil, Nat.reduceEqDiff, reduceIte, List.getD_cons_zero, List.getD_cons_succ, List.getD_nil]); first | done | with_reducible rfl)) (by first | exact True.intro | exact ⟨_, rfl, by ((try simp only [ev_tmp, ev_const, ev_func, get_put, get_args, get_putL, get_putL_nil, Nat.reduceEqDiff, reduceIte, List.getD_cons_zero, List.getD_cons_succ, List.getD_nil, Bool.not_true, Bool.not_false]); first | done | with_reducible rfl)⟩) fun w0 b0 he0 hb0 hs0 ha0 ha1 ha2 => ?_
  refine go ?_
  refine st_box3 (by ((try simp only [ev_tmp, ev_const, ev_func, get_put, get_args, get_putL, get_putL_nil, Nat.reduceEqDiff, reduceIte, List.getD_cons_zero, List.getD_cons_succ, List.getD_nil]); first | done | with_reducible rfl)) (by first | exact True.intro | exact ⟨_, rfl, by ((try simp only [ev_tmp, ev_const, ev_func, get_put, get_args, get_putL, get_putL_nil, Nat.reduceEqDiff, reduceIte, List.getD_cons_zero, List.getD_cons_succ, List.getD_nil, Bool.not_true, Bool.not_false]); first | done | with_reducible rfl)⟩) fun w1 b he1 hb1 hs1 hc0 hc1 hc2 => ?_
  refine go ?_
  refine st_alloc (by first | exact True.intro | exact ⟨_, rfl, by ((try simp only [ev_tmp, ev_const, ev_func, get_put, get_args, get_putL, get_putL_nil, Nat.reduceEqDiff, reduceIte, List.getD_cons_zero, List.getD_cons_succ, List.getD_nil, Bool.not_true, Bool.not_false]); first | done | with_reducible rfl)⟩) fun w2 br he2 hbr hs2 hbk2 => ?_
  have hz0 := he0.size
  have hz1 := he1.size
  have hz2 := he2.size
  have hE2 := (he0.trans he1).trans he2
  have ap1 : Apart b0 (b0 + 1) br := ⟨.inr (by omega)⟩
  have ap2 : Apart b (b + 1) br := ⟨.inr (by omega)⟩
  refine go ?_
  refine z_order br [0, 2, 4, 1, 3, 5, 6, 7] (h := fun w3 he3 hs3 => ?_)
  refine zgo ?_
  refine zc (l07Own_ok (p := p) hsp) (next := fun v4 w4 h4 => ?_)
  obtain ⟨he4, hP4⟩ := h4
  refine zc (l07Own_ok (p := q) hsq) (next := fun v5 w5 h5 => ?_)
  obtain ⟨he5, hP5⟩ := h5
  refine zc (l01Own2G_ok (xss := xss) hxr hxl) (next := fun v6 w6 h6 => ?_)
  obtain ⟨he6, rs6, hG6, hrs6⟩ := h6
  have hz4 := he4.size
  have hz5 := he5.size
  have hz6 := he6.size
  obtain ⟨y0, y1, y2, rp4, gs4, rfl, _⟩ := hP4.ex
  obtain ⟨y3, y4, y5, rp5, gs5, rfl, _⟩ := hP5.ex
  have o1 := hP4.pres.one3
  have o2 := hP5.pres.one3
  have o3 := hG6.lst.own.toSl.one
  refine za (v := .agg #[y0, y1, y2, y3, y4, y5, v6]) (h := ⟨fun _ _ => rd_build (by simp only [ev_tmp, ev_const, ev_func, get_put, get_args, get_putL, get_putL_nil, Nat.reduceEqDiff, reduceIte, List.getD_cons_zero, List.getD_cons_succ, List.getD_nil, List.map_toArray, List.map_cons, List.map_nil]; rfl) (fun _ => ?_)⟩) (next := ?_)
  · obtain ⟨m0, m1⟩ := hP4.pres.ints3
    obtain ⟨ps', cs', css', m1, m2⟩ := m1
    obtain ⟨n0, n1⟩ := hP5.pres.ints3
    obtain ⟨qs', ds', dss', n1, n2⟩ := n1
    obtain ⟨A0, c0, rfl, _⟩ := m0.sl.ex
    obtain ⟨A1, c1, rfl, _⟩ := m1.sl.ex
    obtain ⟨A2, c2, rfl, _⟩ := m2.sl.ex
    obtain ⟨A3, c3, rfl, _⟩ := n0.sl.ex
    obtain ⟨A4, c4, rfl, _⟩ := n1.sl.ex
    obtain ⟨A5, c5, rfl, _⟩ := n2.sl.ex
    obtain ⟨A6, c6, rfl, _⟩ := hG6.lst.own.toSl.ex
    kernel_rfl
  have hE36 := (he4.trans he5).trans he6
  have hbk6 : Blk w6 br _ := @Blk.ext _ _ _ _ (he3.trans hE36) hbk2
  refine z_store_agg (vs := [y0, y1, y2, y3, y4, y5, v6]) (cs := _) hbk6 rfl rfl (by simp [o1.1, o1.2.1, o1.2.2, o2.1, o2.2.1, o2.2.2, o3]) (next := fun w7 hc7 hs7 hb7 => ?_)
  refine z_end ?_
  have hE7 : Ext w w7 := hc7.ext ((hE2.trans he3).trans hE36) (by omega)
  have hP4' := ((hP4.wr (.ofExt (B := fun b => b < w3.heap.size ∨ w4.heap.size ≤ b) (he5.trans he6)) (fun g hg => hg)).wr (.one (B := fun g => g = br) rfl hc7) (fun g hg => .inl (by omega))).pres
  have hP5' := ((hP5.wr (.ofExt (B := fun b => b < w4.heap.size ∨ w5.heap.size ≤ b) he6) (fun g hg => hg)).wr (.one (B := fun g => g = br) rfl hc7) (fun g hg => .inl (by omega))).pres
  have hR6 := hG6.mat.rows.same (hc7.same (.inl (by omega)))
  rw [hrs6] at hR6
  refine go ?_
  refine retc (b := br) (hb := hb7) ⟨hE7, ⟨y0, y1, y2, y3, y4, y5, v6, _, rfl, hP4'.mono (by omega) (by omega), hP5'.mono (by omega) (by omega), hR6.mono (by omega) (by omega)⟩⟩ rfl
end Go.Proofs.YtnphljflkpekmaaGreat

/-
  Walks: the reference's InclusionHom, NaturalHom.
  Conditions: stated at each theorem.
-/
namespace Go.Proofs.YtnphljflkpekmaaGreat
open Go Go.Pc
theorem homV_nil {s : Nat} {w : World} (h : s ≤ w.heap.size) : HomV s w.heap.size w (.agg #[nilv, nilv, nilv, nilv, nilv, nilv, nilv]) noP noP [] :=
  ⟨⟨nilv, nilv, nilv, nilv, nilv, nilv, nilv, [], rfl, (presO_nil h).pres, (presO_nil h).pres, Rows.nilR _ _ _⟩⟩
theorem homV_nilA {s : Nat} {w : World} (h : s ≤ w.heap.size) : HomV s w.heap.size w (.agg [nilv, nilv, nilv, nilv, nilv, nilv, nilv].toArray) noH.1 noH.2.1 noH.2.2 := homV_nil h
end Go.Proofs.YtnphljflkpekmaaGreat

/-
  Walks: the program's ProjectElement.
  Conditions: stated at each theorem.
-/
namespace Go.Proofs.YtnphljflkpekmaaGreat
open Go Go.Pc
end Go.Proofs.YtnphljflkpekmaaGreat

/-
  Walks: the program's presentations of subgroups and quotients (subgroupPresentation, quotientPresentation).
  Conditions: stated at each theorem.
-/
namespace Go.Proofs.YtnphljflkpekmaaGreat
open Go Go.Pc
end Go.Proofs.YtnphljflkpekmaaGreat

/-
  Walks: the program's presentation of a quotient (quotientPresentation), normalCode.
  Conditions: stated at each theorem.
-/
namespace Go.Proofs.YtnphljflkpekmaaGreat
open Go Go.Pc
end Go.Proofs.YtnphljflkpekmaaGreat

/-
  Walks: the program's SubgroupPresentation, QuotientPresentation.
  Conditions: stated at each theorem.
-/
namespace Go.Proofs.YtnphljflkpekmaaGreat
open Go Go.Pc
end Go.Proofs.YtnphljflkpekmaaGreat
