/-
  Texts of one proof, put together by program: Ctr, W27, I27.
  Conditions: those told at each part.
-/
import Derived.Test.YtgomfjhhfmhlgaaB5
set_option linter.unusedVariables false
set_option linter.unusedSimpArgs false
set_option linter.unusedSectionVars false
set_option linter.constructorNameAsVariable false
set_option linter.unnecessarySimpa false
set_option linter.deprecated false
/-
  Centralizers, normalizers, conjugators of subgroups: what the answers are.
  Conditions: none.
-/
namespace Go.Proofs.Ytgomfjhhfmhlgaa
open Go Go.Pc
section
variable {p : Pr} [hc : ConAll p]
/-- The element commutes with all elements of a list. -/
def CenP (ys : List (El p)) (a : El p) : Prop := ∀ i (h : i < ys.length), a * ys[i] = ys[i] * a
/-- The element carries the elements of a list into a subgroup. -/
def CarP (ys zs : List (El p)) (a : El p) : Prop := ∀ i (h : i < ys.length), Gen (fun b : El p => b ∈ zs) (Grp.cj ys[i] a)
end
theorem rows_one1 {w w' : World} {v u : Value} {xs : List Int} {lo hi lo1 hi1 : Nat} (hu : Ints lo hi w u xs) (x : Ext w w') (hs : Sl lo1 hi1 w' v [u]) : Pc.Rows 0 w'.heap.size w' v [u] [xs] := by
  refine ⟨hs.wide, rfl, fun i => ?_⟩
  cases i with
  | zero => exact (hu.same (x.same _ _)).wide
  | succ i => exact (Ints.nil_ w').mono (Nat.le_refl 0) (Nat.zero_le _)
def GrpE (p : Pr) (xs : List Int) : Prop := IsGrp p ∧ InR p xs
def CeV (p : Pr) (xss r : List (List Int)) (e : Int) : Prop := (∃ (_ : ConAll p) (ys : List (El p)), xss = vecs ys ∧ r = canon (Gen (fun a : El p => CenP ys a))) ∧ e = 0
theorem CeV.uniq {p : Pr} {xss : List (List Int)} (a b : List (List Int)) (c d : Int) (h : CeV p xss a c) (k : CeV p xss b d) : a = b ∧ c = d := by
  obtain ⟨⟨hc, ys, h2, h4⟩, h5⟩ := h
  obtain ⟨⟨hc', ys', k2, k4⟩, k5⟩ := k
  obtain rfl := vecs_inj (h2.symm.trans k2)
  exact ⟨by rw [h4, k4], by rw [h5, k5]⟩
def NzV (p : Pr) (xss r : List (List Int)) (e : Int) : Prop := (∃ (_ : ConAll p) (ys : List (El p)), xss = vecs ys ∧ r = canon (Gen (fun a : El p => CarP ys ys a))) ∧ e = 0
theorem NzV.uniq {p : Pr} {xss : List (List Int)} (a b : List (List Int)) (c d : Int) (h : NzV p xss a c) (k : NzV p xss b d) : a = b ∧ c = d := by
  obtain ⟨⟨hc, ys, h2, h4⟩, h5⟩ := h
  obtain ⟨⟨hc', ys', k2, k4⟩, k5⟩ := k
  obtain rfl := vecs_inj (h2.symm.trans k2)
  exact ⟨by rw [h4, k4], by rw [h5, k5]⟩
/-- The least element that carries a subgroup to another one. -/
def ScV (p : Pr) (xss yss : List (List Int)) (r : List Int) (e : Int) : Prop := ∃ (_ : ConAll p) (ys zs : List (El p)), xss = vecs ys ∧ yss = vecs zs ∧
  (((ordOf p ys ≠ ordOf p zs ∨ ∀ j, j < ordN p → ¬ CarP ys zs (allE p j)) ∧ r = [] ∧ e = 4) ∨ (ordOf p ys = ordOf p zs ∧ ∃ k, k < ordN p ∧ CarP ys zs (allE p k) ∧ (∀ j, j < k → ¬ CarP ys zs (allE p j)) ∧ r = (allE p k).v ∧ e = 0))
theorem ScV.uniq {p : Pr} {xss yss : List (List Int)} (a b : List Int) (c d : Int) (h : ScV p xss yss a c) (k : ScV p xss yss b d) : a = b ∧ c = d := by
  obtain ⟨hc, ys, zs, h2, h3, h4⟩ := h
  obtain ⟨hc', ys', zs', k2, k3, k4⟩ := k
  obtain rfl := vecs_inj (h2.symm.trans k2)
  obtain rfl := vecs_inj (h3.symm.trans k3)
  rcases h4 with ⟨h5, rfl, rfl⟩ | ⟨h5, i, hi, h6, h7, rfl, rfl⟩ <;> rcases k4 with ⟨k5, rfl, rfl⟩ | ⟨k5, j, hj, k6, k7, rfl, rfl⟩
  · exact ⟨rfl, rfl⟩
  · rcases h5 with h5 | h5
    · exact absurd k5 h5
    · exact absurd k6 (h5 j hj)
  · rcases k5 with k5 | k5
    · exact absurd h5 k5
    · exact absurd h6 (k5 i hi)
  · rcases Nat.lt_trichotomy i j with e | e | e
    · exact absurd h6 (k7 i e)
    · subst e; exact ⟨rfl, rfl⟩
    · exact absurd k6 (h7 j e)
theorem ElementCentralizer_sz0 {p : Pr} {xs : List Int} {r : List (List Int)} {e : Int} (_ : p.ord.length ≤ 2000000) (h : Ans (GrpE p xs) (CeV p [xs]) [] r e) : r.length ≤ 2000000 ∧ ∀ i, (r.getD i []).length ≤ 2000000 := by
  rcases h with ⟨⟨hG, _⟩, ⟨hc, ys, _, rfl⟩, _⟩ | ⟨_, rfl, _⟩
  · exact canon_sz _ hG.valid.n6
  · simp
theorem SubgroupCentralizer_sz0 {p : Pr} {xss r : List (List Int)} {e : Int} (_ : p.ord.length ≤ 2000000) (h : Ans (IsSubP p xss) (CeV p xss) [] r e) : r.length ≤ 2000000 ∧ ∀ i, (r.getD i []).length ≤ 2000000 := by
  rcases h with ⟨⟨hG, _⟩, ⟨hc, ys, _, rfl⟩, _⟩ | ⟨_, rfl, _⟩
  · exact canon_sz _ hG.valid.n6
  · simp
theorem SubgroupNormalizer_sz0 {p : Pr} {xss r : List (List Int)} {e : Int} (_ : p.ord.length ≤ 2000000) (h : Ans (IsSubP p xss) (NzV p xss) [] r e) : r.length ≤ 2000000 ∧ ∀ i, (r.getD i []).length ≤ 2000000 := by
  rcases h with ⟨⟨hG, _⟩, ⟨hc, ys, _, rfl⟩, _⟩ | ⟨_, rfl, _⟩
  · exact canon_sz _ hG.valid.n6
  · simp
theorem SubgroupConjugator_sz0 {p : Pr} {xss yss : List (List Int)} {r : List Int} {e : Int} (_ : p.ord.length ≤ 2000000) (h : Ans (IsSubP p xss ∧ IsSubP p yss) (ScV p xss yss) [] r e) : r.length ≤ 2000000 := by
  rcases h with ⟨⟨⟨hG, _⟩, _⟩, hc, ys, zs, _, _, h⟩ | ⟨_, rfl, _⟩
  · have := hG.valid.n6
    rcases h with ⟨_, rfl, _⟩ | ⟨_, k, _, _, _, rfl, _⟩
    · simp
    · rw [(allE p k).inr.len]; omega
  · simp
/-- The index of the centre. -/
def CiV (p : Pr) (r e : Int) : Prop := (∃ (_ : ConAll p), r = idxOf p (canEls (Gen (fun a : El p => AbP [] a)))) ∧ e = 0
theorem CiV.uniq {p : Pr} (a b : Int) (c d : Int) (h : CiV p a c) (k : CiV p b d) : a = b ∧ c = d := by
  obtain ⟨⟨_, h1⟩, h2⟩ := h
  obtain ⟨⟨_, k1⟩, k2⟩ := k
  exact ⟨by rw [h1, k1], by rw [h2, k2]⟩
end Go.Proofs.Ytgomfjhhfmhlgaa

/-
  Walks: the reference's ElementCentralizer, SubgroupCentralizer, SubgroupNormalizer, SubgroupConjugator, CountInner.
  Conditions: stated at each theorem.
-/
namespace Go.Proofs.Ytgomfjhhfmhlgaa
open Go Go.Pc
theorem spec_IsElement_ok {p : Pr} {w : World} {vp vx : Value} {xs : List Int} {lo hi lo1 hi1 : Nat} [hp : Pres lo hi w vp p] [hx : Ints lo1 hi1 w vx xs] (hl : p.ord.length ≤ 2000000) :
    Calls Try.prog 67 #[vp, vx] w (Ret fun v w' => ∃ b, v = .bool b ∧ (b = true ↔ GrpE p xs) ∧ Ext w w') := by
  obtain ⟨vo, vpw, vc, ps, cs, css, rfl, h1, h2, h3⟩ := hp.ex
  refine enter (args := [.agg #[vo, vpw, vc], vx]) (l := [.tmp 4]) Try.func67 rfl rfl Try.ntmps67 (by simp) ?_
  refine go ?_
  refine st_box3 (by ((try simp only [ev_tmp, ev_const, ev_func, get_put, get_args, get_putL, get_putL_nil, Nat.reduceEqDiff, reduceIte, List.getD_cons_zero, List.getD_cons_succ, List.getD_nil]); first | done | with_reducible rfl)) (by first | exact True.intro | exact ⟨_, rfl, by ((try simp only [ev_tmp, ev_const, ev_func, get_put, get_args, get_putL, get_putL_nil, Nat.reduceEqDiff, reduceIte, List.getD_cons_zero, List.getD_cons_succ, List.getD_nil, Bool.not_true, Bool.not_false]); first | done | with_reducible rfl)⟩) fun w1 b he1 hb1 hs1 hc0 hc1 hc2 => ?_
  refine go ?_
  refine rc (l08Group_ok (p := p) hl) (next := fun v5 w5 h5 => ?_)
  obtain ⟨b5, rfl, hb5, he5⟩ := h5
  have hE5 := he1.trans he5
  refine go ?_
  refine sp (fun e5 => ?_) (fun e5 => ?_)
  · subst e5
    have hG := hb5.1 rfl
    refine go ?_
    refine rc (l10Element_ok (p := p) (xs := xs) hG.valid) (next := fun v6 w6 h6 => ?_)
    obtain ⟨b6, rfl, hb6, he6⟩ := h6
    refine go ?_
    exact ret1 ⟨b6, rfl, ⟨fun h => ⟨hG, hb6.1 h⟩, fun h => hb6.2 h.2⟩, hE5.trans he6⟩
  · subst e5
    refine go ?_
    refine ret1 ⟨false, rfl, ⟨fun h => (by cases h), fun h => ?_⟩, hE5⟩
    have := hb5.2 h.1
    cases this
set_option maxHeartbeats 4000000 in
theorem l18Central_ok {p : Pr} [hc : ConAll p] {ys : List (El p)} (hyl : ys.length ≤ 1000) {w : World} {vp vu : Value} {us : List Value} {xss : List (List Int)} {lo hi lo1 hi1 : Nat} [hp : Pres lo hi w vp p] [hu : Pc.Rows lo1 hi1 w vu us xss] (hus : xss = vecs ys) :
    Calls Try.prog 68 #[vp, vu] w (Ret fun v w' => Ext w w' ∧ ∃ us', Pc.Rows w.heap.size w'.heap.size w' v us' (canon (Gen (fun a : El p => CenP ys a)))) := by
  subst hus
  have hv := hc.valid
  have hn6 := hv.n6
  have hyv : (vecs ys).length = ys.length := by simp
  obtain ⟨hoe, ho1, ho2⟩ := ordN_rng p
  replace hp := hp.wide
  replace hu := hu.wide
  have hvl := hu.vals.len
  obtain ⟨vo, vpw, vc, ps, cs, css, rfl, h1, h2, h3⟩ := hp.ex
  refine enter (args := [.agg #[vo, vpw, vc], vu]) (l := [.tmp 4]) Try.func68 rfl rfl Try.ntmps68 (by simp) ?_
  refine go ?_
  refine st_box3 (by ((try simp only [ev_tmp, ev_const, ev_func, get_put, get_args, get_putL, get_putL_nil, Nat.reduceEqDiff, reduceIte, List.getD_cons_zero, List.getD_cons_succ, List.getD_nil]); first | done | with_reducible rfl)) (by first | exact True.intro | exact ⟨_, rfl, by ((try simp only [ev_tmp, ev_const, ev_func, get_put, get_args, get_putL, get_putL_nil, Nat.reduceEqDiff, reduceIte, List.getD_cons_zero, List.getD_cons_succ, List.getD_nil, Bool.not_true, Bool.not_false]); first | done | with_reducible rfl)⟩) fun w2 b he2 hb2 hs2 hc0 hc1 hc2 => ?_
  have hz2 := he2.size
  refine go ?_
  refine st_slice0 (by first | exact True.intro | exact ⟨_, rfl, by ((try simp only [ev_tmp, ev_const, ev_func, get_put, get_args, get_putL, get_putL_nil, Nat.reduceEqDiff, reduceIte, List.getD_cons_zero, List.getD_cons_succ, List.getD_nil, Bool.not_true, Bool.not_false]); first | done | with_reducible rfl)⟩) fun w3 v3 he3 hs3 ho3 => ?_
  refine go ?_
  refine r_for (ordN p) (fun k ρ w' => ∃ vl rs, Has ρ [(1, vu), (2, .pointer (some ⟨b, 0, none⟩)), (5, vl), (6, .int .i64 k)] ∧ Ext w2 w' ∧ GrowL 22 w2.heap.size w' vl rs ∧ rs.map (·.2) = vecs (selL (CenP ys) k)) ?_ ?_
  · refine ⟨v3, [], ?_, he3, GrowL.start ho3 (Nat.le_refl _), by simp [selL]⟩
    exact hasP
  clear ho3 hs3 he3
  rintro k ρ wa hk ⟨vl, rs, hH, hea, hG, hrs⟩
  refine rwp_has hH fun ρ0 => ?_
  have hza := hea.size
  have hrl : rs.length ≤ k := by have := congrArg List.length hrs; have := selL_len (CenP ys) k; simp at *; omega
  have hEa := he2.trans hea
  refine go ?_
  refine rc (l10Order_ok (p := p) hv) (next := fun v4 w4 h5 => ?_)
  obtain ⟨rfl, he4⟩ := h5
  rw [hoe]
  have hG4 := hG.ext he4
  have hea4 := hea.trans he4
  have hEa4 := hEa.trans he4
  clear hG
  refine go ?_
  refine c_if (fun h6 => ?_) (fun h6 => ?_)
  · have hkn : k < ordN p := by omega
    refine go ?_
    refine rc (l10At_ok (p := p) (t := k) (by omega)) (next := fun v5 w5 h7 => ?_)
    obtain ⟨he5, hf5⟩ := h7
    refine go ?_
    refine r_for ys.length (fun i ρ w' => ∃ ib : Bool, Has ρ [(1, vu), (2, .pointer (some ⟨b, 0, none⟩)), (5, vl), (6, .int .i64 k), (7, v5), (8, .bool ib), (9, .int .i64 i)] ∧ Ext w5 w' ∧ (ib = true ↔ ∀ j (h : j < ys.length), j < i → allE p k * ys[j] = ys[j] * allE p k)) ?_ ?_
    · refine ⟨true, ?_, Ext.refl _, by simp⟩
      exact hasP
    rintro i ρ wb hi ⟨ib, hHb, heb, hib⟩
    refine rwp_has hHb fun ρ1 => ?_
    have hE5 := hEa4.trans (he5.trans heb)
    refine go ?_
    refine sp (fun eb => ?_) (fun eb => ?_)
    · subst eb
      refine go ?_
      refine c_if (fun h8 => ?_) (fun h8 => ?_)
      · have hin : i < ys.length := by omega
        have hgi := vecs_getD ys hin
        refine go ?_
        refine d_order [0, 1, 2, 3, 4, 5, 7, 8, 9, 10, 11, 12, 6, 13, 14, 15] (h := fun w6 he6 _ => ?_)
        refine dgo ?_
        refine dce (l08Mul_ok (p := p) (x := allE p k) (y := ys[i]) rfl hgi) (next := fun v7 w7 h9 => ?_)
        obtain ⟨he7, hf7⟩ := h9
        have hi7 := hf7.ints
        refine dce (l08Mul_ok (p := p) (x := ys[i]) (y := allE p k) hgi rfl) (next := fun v8 w8 h10 => ?_)
        obtain ⟨he8, hf8⟩ := h10
        refine dce (l01Same_ok (xs := (allE p k * ys[i]).v) (ys := (ys[i] * allE p k).v) (by rw [(allE p k * ys[i]).inr.len]; omega)) (next := fun v9 w9 h11 => ?_)
        obtain ⟨b9, rfl, hb9, he9⟩ := h11
        have hb9' : b9 = true ↔ allE p k * ys[i] = ys[i] * allE p k := hb9.trans ⟨fun h => T.ext h, fun h => by rw [h]⟩
        refine dgo ?_
        refine d_end (h := ?_)
        refine go ?_
        refine forQ_normal (by omega) ⟨b9, ?_, heb.trans (((he6.trans he7).trans he8).trans he9), ?_⟩
        · exact hasP
        · rw [hb9']
          refine ⟨fun h j hj hji => ?_, fun h => h i hin (by omega)⟩
          by_cases e : j = i
          · subst e; exact h
          · exact hib.1 rfl j hj (by omega)
      · have hP : CenP ys (allE p k) := fun j hj => hib.1 rfl j hj (by omega)
        refine go ?_
        refine st_grow hG4 (he5.trans heb) (hf5.ext' heb) (by have := hea4.size; omega) (by omega) (next := fun v10 v11 w11 hG11 hx11 hz11 hgs11 => ?_)
        refine go ?_
        refine forQ_normal (by omega) ⟨v11, _, ?_, hx11 w2 (hea4.trans (he5.trans heb)) (Nat.le_refl _), hG11, ?_⟩
        · exact hasP
        · rw [selL_yes hP]; simp [hrs]
    · have hP : ¬ CenP ys (allE p k) := fun h => by rw [hib.2 fun j hj _ => h j hj] at eb; cases eb
      subst eb
      refine go ?_
      refine forQ_normal (by omega) ⟨vl, rs, ?_, hea4.trans (he5.trans heb), hG4.ext (he5.trans heb), ?_⟩
      · exact hasP
      · rw [selL_no hP]; exact hrs
  · obtain rfl : k = ordN p := by omega
    have hRl := hG4.mat.rows
    rw [hrs] at hRl
    have hsl := selL_len (CenP ys) (ordN p)
    refine go ?_
    refine rc (l12Close_ok (p := p) (ys := selL (CenP ys) (ordN p)) rfl (by omega)) (next := fun v12 w12 h12 => ?_)
    obtain ⟨he12, us12, hL12⟩ := h12
    rw [selL_all] at hL12
    refine go ?_
    exact ret1 ⟨hEa4.trans he12, us12, hL12.newRows.mono hEa4.size (Nat.le_refl _)⟩
set_option maxHeartbeats 1000000 in
theorem spec_ElementCentralizer_ok {p : Pr} {w : World} {vp vx : Value} {xs : List Int} {lo hi lo1 hi1 : Nat} [hp : Pres lo hi w vp p] [hx : Ints lo1 hi1 w vx xs] (hl : p.ord.length ≤ 2000000) :
    Calls Try.prog 27 #[vp, vx] w (Ret fun v w' => ∃ (u : Value) (k : List (List Int)) (e : Int), v = .tuple #[u, .int .i64 e] ∧ Ans (GrpE p xs) (CeV p [xs]) [] k e ∧ Ext w w' ∧ ∃ us', Pc.Rows w.heap.size w'.heap.size w' u us' k) := by
  replace hx := hx.wide
  obtain ⟨vo, vpw, vc, ps, cs, css, rfl, h1, h2, h3⟩ := hp.ex
  refine enter (args := [.agg #[vo, vpw, vc], vx]) (l := [.tmp 4, .tmp 5]) Try.func27 rfl rfl Try.ntmps27 (by simp) ?_
  refine go ?_
  refine st_box3 (by ((try simp only [ev_tmp, ev_const, ev_func, get_put, get_args, get_putL, get_putL_nil, Nat.reduceEqDiff, reduceIte, List.getD_cons_zero, List.getD_cons_succ, List.getD_nil]); first | done | with_reducible rfl)) (by first | exact True.intro | exact ⟨_, rfl, by ((try simp only [ev_tmp, ev_const, ev_func, get_put, get_args, get_putL, get_putL_nil, Nat.reduceEqDiff, reduceIte, List.getD_cons_zero, List.getD_cons_succ, List.getD_nil, Bool.not_true, Bool.not_false]); first | done | with_reducible rfl)⟩) fun w1 b he1 hb1 hs1 hc0 hc1 hc2 => ?_
  refine go ?_
  refine rc (spec_IsElement_ok (p := p) (xs := xs) hl) (next := fun v5 w5 h5 => ?_)
  obtain ⟨b5, rfl, hb5, he5⟩ := h5
  have hE5 := he1.trans he5
  refine go ?_
  refine c_b (fun e5 => ?_) (fun e5 => ?_)
  · refine go ?_
    refine ret2 ⟨nilv, [], 1, rfl, .inr ⟨fun h => ?_, rfl, rfl⟩, hE5, [], Rows.nilR _ _ _⟩
    rw [hb5.2 h] at e5; cases e5
  obtain ⟨hG, hI⟩ := hb5.1 (by simpa using e5)
  haveI : ConAll p := ⟨hG.con⟩
  obtain ⟨x, rfl⟩ : ∃ x : El p, xs = x.v := ⟨⟨xs, hI, fun i hi => absurd hi (Nat.not_lt_zero i)⟩, rfl⟩
  have hx5 : Ints 0 w.heap.size w5 vx x.v := hx.same (hE5.same _ _)
  refine go ?_
  refine st_slice1 (u := vx) (by ((try simp only [ev_tmp, ev_const, ev_func, get_put, get_args, get_putL, get_putL_nil, Nat.reduceEqDiff, reduceIte, List.getD_cons_zero, List.getD_cons_succ, List.getD_nil]); first | done | with_reducible rfl)) hx5.sl.cells rfl (by first | exact True.intro | exact ⟨_, rfl, by ((try simp only [ev_tmp, ev_const, ev_func, get_put, get_args, get_putL, get_putL_nil, Nat.reduceEqDiff, reduceIte, List.getD_cons_zero, List.getD_cons_succ, List.getD_nil, Bool.not_true, Bool.not_false]); first | done | with_reducible rfl)⟩) fun w6 v6 he6 hs6 hsl6 => ?_
  have hR6 := rows_one1 hx5 he6 hsl6
  have hE6 := hE5.trans he6
  refine go ?_
  refine rc (l18Central_ok (p := p) (ys := [x]) (by simp) rfl) (next := fun v7 w7 h7 => ?_)
  obtain ⟨he7, us7, hR7⟩ := h7
  refine go ?_
  exact ret2 ⟨v7, _, 0, rfl, .inl ⟨⟨hG, hI⟩, ⟨inferInstance, [x], rfl, rfl⟩, rfl⟩, hE6.trans he7, us7, hR7.mono hE6.size (Nat.le_refl _)⟩
set_option maxHeartbeats 1000000 in
theorem spec_SubgroupCentralizer_ok {p : Pr} {w : World} {vp vu : Value} {us : List Value} {xss : List (List Int)} {lo hi lo1 hi1 : Nat} [hp : Pres lo hi w vp p] [hu : Pc.Rows lo1 hi1 w vu us xss] (hl : p.ord.length ≤ 2000000) :
    Calls Try.prog 36 #[vp, vu] w (Ret fun v w' => ∃ (u : Value) (k : List (List Int)) (e : Int), v = .tuple #[u, .int .i64 e] ∧ Ans (IsSubP p xss) (CeV p xss) [] k e ∧ Ext w w' ∧ ∃ us', Pc.Rows w.heap.size w'.heap.size w' u us' k) := by
  obtain ⟨vo, vpw, vc, ps, cs, css, rfl, h1, h2, h3⟩ := hp.ex
  refine enter (args := [.agg #[vo, vpw, vc], vu]) (l := [.tmp 4, .tmp 5]) Try.func36 rfl rfl Try.ntmps36 (by simp) ?_
  refine go ?_
  refine st_box3 (by ((try simp only [ev_tmp, ev_const, ev_func, get_put, get_args, get_putL, get_putL_nil, Nat.reduceEqDiff, reduceIte, List.getD_cons_zero, List.getD_cons_succ, List.getD_nil]); first | done | with_reducible rfl)) (by first | exact True.intro | exact ⟨_, rfl, by ((try simp only [ev_tmp, ev_const, ev_func, get_put, get_args, get_putL, get_putL_nil, Nat.reduceEqDiff, reduceIte, List.getD_cons_zero, List.getD_cons_succ, List.getD_nil, Bool.not_true, Bool.not_false]); first | done | with_reducible rfl)⟩) fun w1 b he1 hb1 hs1 hc0 hc1 hc2 => ?_
  refine go ?_
  refine rc (spec_IsSubgroup_ok (p := p) (xss := xss) hl) (next := fun v5 w5 h5 => ?_)
  obtain ⟨b5, rfl, hb5, he5⟩ := h5
  have hE5 := he1.trans he5
  refine go ?_
  refine c_b (fun e5 => ?_) (fun e5 => ?_)
  · refine go ?_
    refine ret2 ⟨nilv, [], 1, rfl, .inr ⟨fun h => ?_, rfl, rfl⟩, hE5, [], Rows.nilR _ _ _⟩
    rw [hb5.2 h] at e5; cases e5
  have hS := hb5.1 (by simpa using e5)
  obtain ⟨hG, hq⟩ := hS
  haveI : ConAll p := ⟨hG.con⟩
  have hv := hG.valid
  have hn6 := hv.n6
  obtain ⟨ys, hys, hse⟩ := isSeq_iff.1 hq
  have hyl := hse.len
  have hE6 := hE5
  refine go ?_
  refine rc (l18Central_ok (p := p) (ys := ys) (by omega) hys) (next := fun v7 w7 h7 => ?_)
  obtain ⟨he7, us7, hR7⟩ := h7
  refine go ?_
  exact ret2 ⟨v7, _, 0, rfl, .inl ⟨⟨hG, hq⟩, ⟨inferInstance, ys, hys, rfl⟩, rfl⟩, hE6.trans he7, us7, hR7.mono hE6.size (Nat.le_refl _)⟩
set_option maxHeartbeats 1000000 in
theorem spec_CountInner_ok {p : Pr} {w : World} {vp : Value} {lo hi : Nat} [hp : Pres lo hi w vp p] (hl : p.ord.length ≤ 2000000) :
    Calls Try.prog 39 #[vp] w (Ret fun v w' => ∃ (k e : Int), v = .tuple #[.int .i64 k, .int .i64 e] ∧ Ans (IsGrp p) (CiV p) 0 k e ∧ Ext w w') := by
  obtain ⟨vo, vpw, vc, ps, cs, css, rfl, h1, h2, h3⟩ := hp.ex
  refine enter (args := [.agg #[vo, vpw, vc]]) (l := [.tmp 2, .tmp 3]) Try.func39 rfl rfl Try.ntmps39 (by simp) ?_
  refine go ?_
  refine st_box3 (by ((try simp only [ev_tmp, ev_const, ev_func, get_put, get_args, get_putL, get_putL_nil, Nat.reduceEqDiff, reduceIte, List.getD_cons_zero, List.getD_cons_succ, List.getD_nil]); first | done | with_reducible rfl)) (by first | exact True.intro | exact ⟨_, rfl, by ((try simp only [ev_tmp, ev_const, ev_func, get_put, get_args, get_putL, get_putL_nil, Nat.reduceEqDiff, reduceIte, List.getD_cons_zero, List.getD_cons_succ, List.getD_nil, Bool.not_true, Bool.not_false]); first | done | with_reducible rfl)⟩) fun w1 b he1 hb1 hs1 hc0 hc1 hc2 => ?_
  refine go ?_
  refine rc (l08Group_ok (p := p) hl) (next := fun v5 w5 h5 => ?_)
  obtain ⟨b5, rfl, hb5, he5⟩ := h5
  have hE5 := he1.trans he5
  refine go ?_
  refine c_b (fun e5 => ?_) (fun e5 => ?_)
  · refine go ?_
    refine ret2 ⟨0, 1, rfl, .inr ⟨fun h => ?_, rfl, rfl⟩, hE5⟩
    rw [hb5.2 h] at e5; cases e5
  have hG := hb5.1 (by simpa using e5)
  haveI : ConAll p := ⟨hG.con⟩
  have hRn : Pc.Rows 0 0 w5 nilv [] [] := Rows.nilR _ _ _
  refine go ?_
  refine d_order [0, 1, 2, 3, 4, 5] (h := fun w7 he7 _ => ?_)
  refine dgo ?_
  refine dce (l17Above_ok (p := p) (ys := []) seqEl_nil rfl) (next := fun v8 w8 h8 => ?_)
  obtain ⟨he8, us8, hR8⟩ := h8
  rw [canon_vecs] at hR8
  refine dce (l14Index_ok (p := p) (ys := canEls (Gen (fun a : El p => AbP [] a))) (seqEl_can (Gen.sub _)) rfl) (next := fun v9 w9 h9 => ?_)
  obtain ⟨rfl, he9⟩ := h9
  refine dgo ?_
  refine d_end (h := ?_)
  refine go ?_
  exact ret2 ⟨_, 0, rfl, .inl ⟨hG, ⟨inferInstance, rfl⟩, rfl⟩, hE5.trans ((he7.trans he8).trans he9)⟩
end Go.Proofs.Ytgomfjhhfmhlgaa

/-
  Walks: the program's ElementCentralizer, SubgroupCentralizer, SubgroupNormalizer, SubgroupConjugator, CountInner.
  Conditions: stated at each theorem.
-/
namespace Go.Proofs.Ytgomfjhhfmhlgaa
open Go Go.Pc
set_option maxHeartbeats 2000000 in
theorem centralFn_ok {p : Pr} [hc : ConAll p] {ys : List (El p)} (hyl : ys.length ≤ 1000) {w : World} {vp vu vx : Value} {us : List Value} {xss : List (List Int)} {x : El p} {xs : List Int} {bp bu lo hi lo1 hi1 lo2 hi2 : Nat} [hp : PresP lo hi w vp p] [hu : Pc.Rows lo1 hi1 w vu us xss] [hx : Ints lo2 hi2 w vx xs] [hcp : Cell w bp 0 vp] [hcu : Cell w bu 0 vu] (hus : xss = vecs ys) (hxe : xs = x.v) :
    Calls Try.prog 111 #[vx, .pointer (some ⟨bu, 0, none⟩), .pointer (some ⟨bp, 0, none⟩)] w (Ret fun v w' => ∃ b, v = .bool b ∧ (b = true ↔ CenP ys x) ∧ Ext w w') := by
  subst hus
  have hn6 := hc.valid.n6
  have hyv : (vecs ys).length = ys.length := by simp
  have hvl := hu.vals.len
  refine enter (args := [vx, .pointer (some ⟨bu, 0, none⟩), .pointer (some ⟨bp, 0, none⟩)]) (l := [.tmp 4]) Try.func111 rfl rfl Try.ntmps111 (by simp) ?_
  refine go ?_
  refine r_for ys.length (fun k ρ w' => Has ρ [(0, vx), (1, .pointer (some ⟨bu, 0, none⟩)), (2, .pointer (some ⟨bp, 0, none⟩)), (7, vu), (8, .int .i64 (vecs ys).length), (9, .int .i64 k)] ∧ Ext w w' ∧ ∀ j (h : j < ys.length), j < k → x * ys[j] = ys[j] * x) ?_ ?_
  · refine ⟨?_, Ext.refl _, fun j _ hj => by omega⟩
    exact hasP
  rintro k ρ w3 hk ⟨hH, he3, hI⟩
  refine rwp_has hH fun ρ0 => ?_
  refine go ?_
  refine c_if (fun h4 => ?_) (fun h4 => ?_)
  · have hkn : k < ys.length := by omega
    have hgk := vecs_getD ys hkn
    refine go ?_
    refine d_order [0, 1, 2, 4, 5, 6, 3, 7, 8, 9] (h := fun w4 he4 _ => ?_)
    refine dgo ?_
    refine dce (multiply_ok (p := p) (i := 0) (x := ys[k]) (y := x) (Nat.zero_le _) hgk hxe) (next := fun v5 w5 h5 => ?_)
    obtain ⟨he5, hf5⟩ := h5
    have hi5 := hf5.ints
    refine dce (multiply_ok (p := p) (i := 0) (x := x) (y := ys[k]) (Nat.zero_le _) hxe hgk) (next := fun v6 w6 h6 => ?_)
    obtain ⟨he6, hf6⟩ := h6
    refine dce (equalI_ok (xs := (ys[k] * x).v) (ys := (x * ys[k]).v) (by rw [(ys[k] * x).inr.len]; omega)) (next := fun v7 w7 h7 => ?_)
    obtain ⟨b7, rfl, hb7, he7⟩ := h7
    have hb7' : b7 = true ↔ x * ys[k] = ys[k] * x := hb7.trans ⟨fun h => (T.ext h).symm, fun h => by rw [h]⟩
    refine dgo ?_
    refine d_end (h := ?_)
    have hE7 := ((he4.trans he5).trans he6).trans he7
    refine go ?_
    refine c_b (fun e6 => ?_) (fun e6 => ?_)
    · refine go ?_
      refine ret1 ⟨false, rfl, ?_, he3.trans hE7⟩
      simp only [Bool.false_eq_true, false_iff]
      intro h
      rw [hb7'.2 (h k hkn)] at e6; cases e6
    · have hb : b7 = true := by simpa using e6
      refine go ?_
      refine forQ_normal (by omega) ⟨?_, he3.trans hE7, fun j hj hjk => ?_⟩
      · exact hasP
      · by_cases e : j = k
        · subst e; exact hb7'.1 hb
        · exact hI j hj (by omega)
  · refine go ?_
    exact ret1 ⟨true, rfl, ⟨fun _ j hj => hI j hj (by omega), fun _ => rfl⟩, he3⟩
set_option maxHeartbeats 2000000 in
theorem centralizer_ok {p : Pr} [hc : ConAll p] {ys : List (El p)} (hyl : ys.length ≤ 1000) {w : World} {vp vu : Value} {us : List Value} {xss : List (List Int)} {lo hi lo1 hi1 : Nat} [hp : PresP lo hi w vp p] [hu : Pc.Rows lo1 hi1 w vu us xss] (hus : xss = vecs ys) :
    Calls Try.prog 70 #[vp, vu] w (Ret fun v w' => Ext w w' ∧ ∃ rs, canon (Gen (fun a : El p => CenP ys a)) = rs.map (·.2) ∧ MatO w.heap.size w'.heap.size w' v rs) := by
  have hpc : vp.cells = #[vp] := by obtain ⟨g, _, _, _, _, _, _, rfl, _⟩ := hp.ex; rfl
  refine enter (args := [vp, vu]) (l := [.tmp 4]) Try.func70 rfl rfl Try.ntmps70 (by simp) ?_
  refine go ?_
  refine st_box1 (v := vp) (by ((try simp only [ev_tmp, ev_const, ev_func, get_put, get_args, get_putL, get_putL_nil, Nat.reduceEqDiff, reduceIte, List.getD_cons_zero, List.getD_cons_succ, List.getD_nil]); first | done | with_reducible rfl)) hpc (by first | exact True.intro | exact ⟨_, rfl, by ((try simp only [ev_tmp, ev_const, ev_func, get_put, get_args, get_putL, get_putL_nil, Nat.reduceEqDiff, reduceIte, List.getD_cons_zero, List.getD_cons_succ, List.getD_nil, Bool.not_true, Bool.not_false]); first | done | with_reducible rfl)⟩) fun w1 bp he1 hb1 hs1 hbk1 => ?_
  have hcp := hbk1.cell (k := 0) rfl
  refine go ?_
  refine st_box1 (v := vu) (by ((try simp only [ev_tmp, ev_const, ev_func, get_put, get_args, get_putL, get_putL_nil, Nat.reduceEqDiff, reduceIte, List.getD_cons_zero, List.getD_cons_succ, List.getD_nil]); first | done | with_reducible rfl)) hu.sl.cells (by first | exact True.intro | exact ⟨_, rfl, by ((try simp only [ev_tmp, ev_const, ev_func, get_put, get_args, get_putL, get_putL_nil, Nat.reduceEqDiff, reduceIte, List.getD_cons_zero, List.getD_cons_succ, List.getD_nil, Bool.not_true, Bool.not_false]); first | done | with_reducible rfl)⟩) fun w2 bu he2 hb2 hs2 hbk2 => ?_
  have hcu := hbk2.cell (k := 0) rfl
  have hE2 := he1.trans he2
  have hcp2 : Cell w2 bp 0 vp := hcp.same (he2.same _ _) he2.size
  refine go ?_
  refine ra (h := rd_makeFunc (caps := #[.pointer (some ⟨bu, 0, none⟩), .pointer (some ⟨bp, 0, none⟩)]) (by simp only [List.map_toArray, List.map_cons, List.map_nil, ev_tmp, ev_const, ev_func, get_put, get_args, get_putL, get_putL_nil, Nat.reduceEqDiff, reduceIte, List.getD_cons_zero, List.getD_cons_succ, List.getD_nil])) (next := ?_)
  refine go ?_
  refine rc (elementsWith_ok (p := p) (P := CenP ys) (fun {w'} {vx} {lo'} {hi'} {xs} x0 x hx hxe => ?_)) (next := fun v3 w3 h3 => ?_)
  · have hx' := hE2.trans x0
    haveI : Ints lo' hi' w' vx xs := hx
    haveI : Cell w' bp 0 vp := hcp2.same (x0.same _ _) x0.size
    haveI : Cell w' bu 0 vu := hcu.same (x0.same _ _) x0.size
    haveI : Pc.Rows lo1 hi1 w' vu us xss := hu.same (hx'.same _ _)
    haveI : PresP lo hi w' vp p := hp.same (hx'.same _ _) hx'.size
    exact centralFn_ok (p := p) (x := x) hyl hus hxe
  obtain ⟨he3, rs3, hrs3, hM3⟩ := h3
  refine go ?_
  exact ret1 ⟨hE2.trans he3, rs3, hrs3, hM3.lower hE2.size⟩
set_option maxHeartbeats 1000000 in
theorem impl_ElementCentralizer_ok {p : Pr} {w : World} {vp vx : Value} {xs : List Int} {lo hi lo1 hi1 : Nat} [hp : Pres lo hi w vp p] [hx : Ints lo1 hi1 w vx xs] (hl : p.ord.length ≤ 2000000) :
    Calls Try.prog 29 #[vp, vx] w (Ret fun v w' => ∃ (u : Value) (k : List (List Int)) (e : Int), v = .tuple #[u, .int .i64 e] ∧ Ans (GrpE p xs) (CeV p [xs]) [] k e ∧ Ext w w' ∧ ∃ rs, k = rs.map (·.2) ∧ MatO w.heap.size w'.heap.size w' u rs) := by
  replace hx := hx.wide
  obtain ⟨vo, vpw, vc, ps, cs, css, rfl, h1, h2, h3⟩ := hp.ex
  refine enter (args := [.agg #[vo, vpw, vc], vx]) (l := [.tmp 4, .tmp 5]) Try.func29 rfl rfl Try.ntmps29 (by simp) ?_
  refine go ?_
  refine st_box3 (by ((try simp only [ev_tmp, ev_const, ev_func, get_put, get_args, get_putL, get_putL_nil, Nat.reduceEqDiff, reduceIte, List.getD_cons_zero, List.getD_cons_succ, List.getD_nil]); first | done | with_reducible rfl)) (by first | exact True.intro | exact ⟨_, rfl, by ((try simp only [ev_tmp, ev_const, ev_func, get_put, get_args, get_putL, get_putL_nil, Nat.reduceEqDiff, reduceIte, List.getD_cons_zero, List.getD_cons_succ, List.getD_nil, Bool.not_true, Bool.not_false]); first | done | with_reducible rfl)⟩) fun w1 b he1 hb1 hs1 hc0 hc1 hc2 => ?_
  have hpp := hp.boxed he1 hc0 hc1 hc2
  have hx1 : Ints 0 w.heap.size w1 vx xs := hx.same (he1.same _ _)
  refine go ?_
  refine st_slice1 (u := vx) (by ((try simp only [ev_tmp, ev_const, ev_func, get_put, get_args, get_putL, get_putL_nil, Nat.reduceEqDiff, reduceIte, List.getD_cons_zero, List.getD_cons_succ, List.getD_nil]); first | done | with_reducible rfl)) hx1.sl.cells rfl (by first | exact True.intro | exact ⟨_, rfl, by ((try simp only [ev_tmp, ev_const, ev_func, get_put, get_args, get_putL, get_putL_nil, Nat.reduceEqDiff, reduceIte, List.getD_cons_zero, List.getD_cons_succ, List.getD_nil, Bool.not_true, Bool.not_false]); first | done | with_reducible rfl)⟩) fun w2 v2 he2 hs2 ho2 => ?_
  have hR2 := rows_one1 hx1 he2 ho2
  have hE2 := he1.trans he2
  refine go ?_
  refine rc (areElements_ok (p := p) (xss := [xs]) hl (by simp)) (next := fun v5 w5 h5 => ?_)
  obtain ⟨b5, rfl, hb5, he5⟩ := h5
  have hb5' : b5 = true ↔ GrpE p xs := hb5.trans ⟨fun h => ⟨h.1, h.2 0 (by simp)⟩, fun h => ⟨h.1, fun i hi => by
    obtain rfl : i = 0 := by simpa using hi
    exact h.2⟩⟩
  have hE5 := hE2.trans he5
  refine go ?_
  refine c_b (fun e5 => ?_) (fun e5 => ?_)
  · refine go ?_
    refine ret2 ⟨nilv, [], 1, rfl, .inr ⟨fun h => ?_, rfl, rfl⟩, hE5, [], rfl, MatO.nilR _ _ _⟩
    rw [hb5'.2 h] at e5; cases e5
  obtain ⟨hG, hI⟩ := hb5'.1 (by simpa using e5)
  haveI : ConAll p := ⟨hG.con⟩
  obtain ⟨x, rfl⟩ : ∃ x : El p, xs = x.v := ⟨⟨xs, hI, fun i hi => absurd hi (Nat.not_lt_zero i)⟩, rfl⟩
  have hx5 : Ints 0 w.heap.size w5 vx x.v := hx.same (hE5.same _ _)
  refine go ?_
  refine st_slice1 (u := vx) (by ((try simp only [ev_tmp, ev_const, ev_func, get_put, get_args, get_putL, get_putL_nil, Nat.reduceEqDiff, reduceIte, List.getD_cons_zero, List.getD_cons_succ, List.getD_nil]); first | done | with_reducible rfl)) hx5.sl.cells rfl (by first | exact True.intro | exact ⟨_, rfl, by ((try simp only [ev_tmp, ev_const, ev_func, get_put, get_args, get_putL, get_putL_nil, Nat.reduceEqDiff, reduceIte, List.getD_cons_zero, List.getD_cons_succ, List.getD_nil, Bool.not_true, Bool.not_false]); first | done | with_reducible rfl)⟩) fun w6 v6 he6 hs6 hsl6 => ?_
  have hR6 := rows_one1 hx5 he6 hsl6
  have hE6 := hE5.trans he6
  refine go ?_
  refine rc (centralizer_ok (p := p) (ys := [x]) (by simp) rfl) (next := fun v7 w7 h7 => ?_)
  obtain ⟨he7, rs7, hrs7, hM7⟩ := h7
  refine go ?_
  exact ret2 ⟨v7, _, 0, rfl, .inl ⟨⟨hG, hI⟩, ⟨inferInstance, [x], rfl, rfl⟩, rfl⟩, hE6.trans he7, rs7, hrs7, hM7.lower hE6.size⟩
set_option maxHeartbeats 1000000 in
theorem impl_SubgroupCentralizer_ok {p : Pr} {w : World} {vp vu : Value} {us : List Value} {xss : List (List Int)} {lo hi lo1 hi1 : Nat} [hp : Pres lo hi w vp p] [hu : Pc.Rows lo1 hi1 w vu us xss] (hl : p.ord.length ≤ 2000000) :
    Calls Try.prog 38 #[vp, vu] w (Ret fun v w' => ∃ (u : Value) (k : List (List Int)) (e : Int), v = .tuple #[u, .int .i64 e] ∧ Ans (IsSubP p xss) (CeV p xss) [] k e ∧ Ext w w' ∧ ∃ rs, k = rs.map (·.2) ∧ MatO w.heap.size w'.heap.size w' u rs) := by
  obtain ⟨vo, vpw, vc, ps, cs, css, rfl, h1, h2, h3⟩ := hp.ex
  refine enter (args := [.agg #[vo, vpw, vc], vu]) (l := [.tmp 4, .tmp 5]) Try.func38 rfl rfl Try.ntmps38 (by simp) ?_
  refine go ?_
  refine st_box3 (by ((try simp only [ev_tmp, ev_const, ev_func, get_put, get_args, get_putL, get_putL_nil, Nat.reduceEqDiff, reduceIte, List.getD_cons_zero, List.getD_cons_succ, List.getD_nil]); first | done | with_reducible rfl)) (by first | exact True.intro | exact ⟨_, rfl, by ((try simp only [ev_tmp, ev_const, ev_func, get_put, get_args, get_putL, get_putL_nil, Nat.reduceEqDiff, reduceIte, List.getD_cons_zero, List.getD_cons_succ, List.getD_nil, Bool.not_true, Bool.not_false]); first | done | with_reducible rfl)⟩) fun w1 b he1 hb1 hs1 hc0 hc1 hc2 => ?_
  have hpp := hp.boxed he1 hc0 hc1 hc2
  refine go ?_
  refine st_slice1 (u := vu) (by ((try simp only [ev_tmp, ev_const, ev_func, get_put, get_args, get_putL, get_putL_nil, Nat.reduceEqDiff, reduceIte, List.getD_cons_zero, List.getD_cons_succ, List.getD_nil]); first | done | with_reducible rfl)) ?_ ?_ (by first | exact True.intro | exact ⟨_, rfl, by ((try simp only [ev_tmp, ev_const, ev_func, get_put, get_args, get_putL, get_putL_nil, Nat.reduceEqDiff, reduceIte, List.getD_cons_zero, List.getD_cons_succ, List.getD_nil, Bool.not_true, Bool.not_false]); first | done | with_reducible rfl)⟩) fun w2 v2 he2 hs2 ho2 => ?_
  · exact hu.sl.cells
  · rfl
  have hE2 := he1.trans he2
  have hR := rowss_one (xss := xss) ho2 inferInstance
  refine go ?_
  refine rc (areSubgroups_ok (p := p) (xsss := [xss]) hl (by simp)) (next := fun v5 w5 h5 => ?_)
  obtain ⟨b5, rfl, hb5, he5⟩ := h5
  rw [areSub1] at hb5
  have hE5 := hE2.trans he5
  refine go ?_
  refine c_b (fun e5 => ?_) (fun e5 => ?_)
  · refine go ?_
    refine ret2 ⟨nilv, [], 1, rfl, .inr ⟨fun h => ?_, rfl, rfl⟩, hE5, [], rfl, MatO.nilR _ _ _⟩
    rw [hb5.2 h] at e5; cases e5
  have hS := hb5.1 (by simpa using e5)
  obtain ⟨hG, hq⟩ := hS
  haveI : ConAll p := ⟨hG.con⟩
  have hv := hG.valid
  have hn6 := hv.n6
  obtain ⟨ys, hys, hse⟩ := isSeq_iff.1 hq
  have hyl := hse.len
  have hE6 := hE5
  refine go ?_
  refine rc (centralizer_ok (p := p) (ys := ys) (by omega) hys) (next := fun v7 w7 h7 => ?_)
  obtain ⟨he7, rs7, hrs7, hM7⟩ := h7
  refine go ?_
  exact ret2 ⟨v7, _, 0, rfl, .inl ⟨⟨hG, hq⟩, ⟨inferInstance, ys, hys, rfl⟩, rfl⟩, hE6.trans he7, rs7, hrs7, hM7.lower hE6.size⟩
set_option maxHeartbeats 1000000 in
theorem impl_CountInner_ok {p : Pr} {w : World} {vp : Value} {lo hi : Nat} [hp : Pres lo hi w vp p] (hl : p.ord.length ≤ 2000000) :
    Calls Try.prog 40 #[vp] w (Ret fun v w' => ∃ (k e : Int), v = .tuple #[.int .i64 k, .int .i64 e] ∧ Ans (IsGrp p) (CiV p) 0 k e ∧ Ext w w') := by
  obtain ⟨vo, vpw, vc, ps, cs, css, rfl, h1, h2, h3⟩ := hp.ex
  refine enter (args := [.agg #[vo, vpw, vc]]) (l := [.tmp 2, .tmp 3]) Try.func40 rfl rfl Try.ntmps40 (by simp) ?_
  refine go ?_
  refine st_box3 (by ((try simp only [ev_tmp, ev_const, ev_func, get_put, get_args, get_putL, get_putL_nil, Nat.reduceEqDiff, reduceIte, List.getD_cons_zero, List.getD_cons_succ, List.getD_nil]); first | done | with_reducible rfl)) (by first | exact True.intro | exact ⟨_, rfl, by ((try simp only [ev_tmp, ev_const, ev_func, get_put, get_args, get_putL, get_putL_nil, Nat.reduceEqDiff, reduceIte, List.getD_cons_zero, List.getD_cons_succ, List.getD_nil, Bool.not_true, Bool.not_false]); first | done | with_reducible rfl)⟩) fun w1 b he1 hb1 hs1 hc0 hc1 hc2 => ?_
  have hpp := hp.boxed he1 hc0 hc1 hc2
  refine go ?_
  refine rc (impl_IsConsistent_ok (p := p) hl) (next := fun v5 w5 h5 => ?_)
  obtain ⟨b5, rfl, hb5, he5⟩ := h5
  have hE5 := he1.trans he5
  refine go ?_
  refine c_b (fun e5 => ?_) (fun e5 => ?_)
  · refine go ?_
    refine ret2 ⟨0, 1, rfl, .inr ⟨fun h => ?_, rfl, rfl⟩, hE5⟩
    rw [hb5.2 h] at e5; cases e5
  have hG := hb5.1 (by simpa using e5)
  haveI : ConAll p := ⟨hG.con⟩
  have hRn : Pc.Rows 0 0 w5 nilv [] [] := Rows.nilR _ _ _
  obtain ⟨hoe, ho1, ho2⟩ := ordN_rng p
  have hseq : SeqEl (canEls (Gen (fun a : El p => AbP [] a))) := seqEl_can (Gen.sub _)
  have hord := ordOf_pos' hseq
  refine go ?_
  refine rc (orderOf_ok (p := p) hG.valid) (next := fun v6 w6 h6 => ?_)
  obtain ⟨rfl, he6⟩ := h6
  have hRn6 : Pc.Rows 0 0 w6 nilv [] [] := Rows.nilR _ _ _
  refine go ?_
  refine rc (centerAbove_ok (p := p) (ys := []) seqEl_nil rfl) (next := fun v8 w8 h8 => ?_)
  obtain ⟨he8, rs8, hrs8, hM8⟩ := h8
  have hR8 := hM8.rows
  rw [← hrs8, canon_vecs] at hR8
  refine go ?_
  refine rc (sizeOf_ok (p := p) hseq rfl) (next := fun v9 w9 h9 => ?_)
  obtain ⟨rfl, he9⟩ := h9
  refine go ?_
  refine ret2 ⟨_, 0, rfl, .inl ⟨hG, ⟨inferInstance, (idx_eq hseq.ok hord.1)⟩, rfl⟩, hE5.trans ((he6.trans he8).trans he9)⟩
end Go.Proofs.Ytgomfjhhfmhlgaa
