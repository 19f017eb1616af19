/-
  Texts of one proof, put together by program: L08.
  Conditions: those told at each part.
-/
import Derived.Test.YtnphljflkpekmaaGreatB6
set_option linter.unusedVariables false
set_option linter.unusedSimpArgs false
set_option linter.unusedSectionVars false
set_option linter.constructorNameAsVariable false
set_option linter.unnecessarySimpa false
set_option linter.deprecated false
/-
  Walks: marks on a presentation that is a result, and the test that they are held (markPresentation, heldPresentation).
  Conditions: stated at each theorem.
-/
namespace Go.Pc
open Go Go.RowKit
section
variable {lo hi s t : Nat} {w w' : World} {v : Value} {us us' : List Value} {uss : List (List Value)} {xs xs' : List Int} {xss xss' : List (List Int)} {xsss xsss' : List (List (List Int))}
/-- Where a slice's cells lie is told by the slice. -/
theorem Sl.range (h : Sl s t w v us) (k : Sl lo hi w' v us') (hl : us.length = us'.length) : Sl s t w' v us' := by
  obtain ⟨A, c, hv, hc, hm, hcell⟩ := h.ex
  obtain ⟨A', c', hv', hc', hm', hcell'⟩ := k.ex
  refine ⟨⟨A', c', hv', hc', hm', fun i u hu => ?_⟩⟩
  obtain ⟨a, hA', _, _, e3⟩ := hcell' i u hu
  have hi : i < us.length := by rw [hl]; exact (List.getElem?_eq_some_iff.1 hu).1
  obtain ⟨a2, hA, e1, e2, _⟩ := hcell i us[i] (by simp [hi])
  rw [hv] at hv'
  injection hv' with h1 _ _
  rw [hA, hA'] at h1
  injection h1 with h1
  subst h1
  exact ⟨a2, hA', e1, e2, e3⟩
theorem Ints.range (h : Ints s t w v xs) (k : Ints lo hi w' v xs') (hl : xs.length = xs'.length) : Ints s t w' v xs' := ⟨h.sl.range k.sl (by simpa using hl)⟩
theorem Rows.range (h : Rows s t w v us xss) (k : Rows lo hi w' v us xss') (hl : ∀ i, (xss.getD i []).length = (xss'.getD i []).length) : Rows s t w' v us xss' :=
  ⟨h.sl.range k.sl rfl, k.vals.len, fun i => (h.vals.at_ i).range (k.vals.at_ i) (hl i)⟩
theorem Rowss.range (h : Rowss s t w v us uss xsss) (k : Rowss lo hi w' v us uss xsss') (hl : ∀ i j, ((xsss.getD i []).getD j []).length = ((xsss'.getD i []).getD j []).length) : Rowss s t w' v us uss xsss' :=
  ⟨h.sl.range k.sl rfl, k.vals.len, k.vals.len', fun i => (h.vals.at_ i).range (k.vals.at_ i) (hl i)⟩
end
end Go.Pc
namespace Go.Proofs.YtnphljflkpekmaaGreat
open Go Go.Pc
theorem markL_lens (l : List (List Int)) (k : Int) (i : Nat) : (l.getD i []).length = ((markL k l).getD i []).length := by
  by_cases h : i < l.length
  · rw [markL_getD l k i h, marks_len]
  · rw [List.getD_eq_getElem?_getD, List.getElem?_eq_none (by omega), List.getD_eq_getElem?_getD, List.getElem?_eq_none (by rw [markL_len]; omega)]
theorem markC_lens (l : List (List (List Int))) (k : Int) (i j : Nat) : ((l.getD i []).getD j []).length = (((markC k l).getD i []).getD j []).length := by
  by_cases h : i < l.length
  · rw [markC_getD l k i h]; exact markL_lens _ _ _
  · have e1 : l.getD i [] = [] := by rw [List.getD_eq_getElem?_getD, List.getElem?_eq_none (by omega)]; rfl
    have e2 : (markC k l).getD i [] = [] := by rw [List.getD_eq_getElem?_getD, List.getElem?_eq_none (by rw [markC_len]; omega)]; rfl
    rw [e1, e2]
/-- A presentation after its marks. -/
def markP (k : Int) (p : Pr) : Pr := ⟨marks k p.ord.length, markL (k + p.ord.length) p.pow, markC (k + p.ord.length + tot p.pow) p.cnj⟩
set_option maxHeartbeats 1000000 in
theorem markPresentationR_ok {s t : Nat} {w : World} {v : Value} {p : Pr} {k : Int} (hP : PresO s t w v p) (hk : 0 ≤ k) (hb : k + totP p ≤ 9000000000000000000) :
    Calls Tryz.prog 22 #[v, .int .i64 k] w (Ret fun v' w' => v' = .int .i64 (k + totP p) ∧ Wrt (fun b => s ≤ b ∧ b < t) w w' ∧ Pres s t w' v (markP k p)) := by
  obtain ⟨vo, vp, vc, rp, gs, rfl, hO, hlt, hsp, hcub, hpow, hcnj, hr1, hr2, hr3⟩ := hP.ex
  have hA : ∀ b, BlkOf ((vo, p.ord) :: (rp ++ flat gs)) b → s ≤ b ∧ b < t := fun b hb => ⟨(hO.blk hb).1, hlt b hb⟩
  have e1 : totP p = p.ord.length + (tot (rp.map (·.2)) + tot ((flat gs).map (·.2))) := by rw [flat_tot, ← hpow, ← hcnj]; rfl
  refine enter (args := [.agg #[vo, vp, vc], .int .i64 k]) (l := [.tmp 4]) Tryz.func22 rfl rfl Tryz.ntmps22 (by simp) ?_
  refine go ?_
  refine st_box3 (by ((try simp only [ev_tmp, ev_const, ev_func, get_put, get_args, get_putL, get_putL_nil, Nat.reduceEqDiff, reduceIte, List.getD_cons_zero, List.getD_cons_succ, List.getD_nil]); first | done | with_reducible rfl)) (by first | exact True.intro | exact ⟨_, rfl, by ((try simp only [ev_tmp, ev_const, ev_func, get_put, get_args, get_putL, get_putL_nil, Nat.reduceEqDiff, reduceIte, List.getD_cons_zero, List.getD_cons_succ, List.getD_nil, Bool.not_true, Bool.not_false]); first | done | with_reducible rfl)⟩) fun w1 b he1 hb1 hs1 hc0 hc1 hc2 => ?_
  have hO1 := hO.ext he1
  have hB1 : ∀ g, BlkOf ((vo, p.ord) :: (rp ++ flat gs)) g → g ≠ b := fun g hg e => by have := (hO.blk hg).2; omega
  have hcell : ∀ {w2 : World} {j : Nat} {u : Value}, Cell w1 b j u → Wrt (BlkOf ((vo, p.ord) :: (rp ++ flat gs))) w1 w2 → Cell w2 b j u := fun h k => h.same (k.same fun g hg => by have := hB1 g hg; omega) k.size
  have hfr : Fr s w1 vo p.ord := hO1.fr _ List.mem_cons_self
  refine go ?_
  refine rc (markInt64S_ok hfr hk ?_) (next := fun v2 w2 h2 => ?_)
  · omega
  obtain ⟨rfl, hf2, hW2⟩ := h2
  have hW2' : Wrt (BlkOf ((vo, p.ord) :: (rp ++ flat gs))) w1 w2 := hW2.mono fun g ⟨hn, e⟩ => ⟨_, List.mem_cons_self, hn, e⟩
  have hO2 : RowsO s w2 ([] ++ (vo, marks k p.ord.length) :: (rp ++ flat gs)) := RowsO.upd (pre := []) (by simpa using hO1) hW2 hf2 marks_ne.1
  have hc0' := hcell hc0 hW2'
  have hc1' := hcell hc1 hW2'
  have hc2' := hcell hc2 hW2'
  have hO2' : RowsO s w2 (([(vo, marks k p.ord.length)]) ++ rp ++ flat gs) := by simpa using hO2
  have hsp2 := (SpA.grow hsp he1 (fun g hg => .inl hg)).wr hW2' (fun g hg => hg)
  refine go ?_
  refine rc (markInt64SS_ok hO2' hsp2 (fun g hg => ?_) ?_ ?_) (next := fun v3 w3 h3 => ?_)
  · obtain ⟨r, h1, h2⟩ := hg
    exact ⟨r, List.mem_cons_of_mem _ (List.mem_append_left _ h1), h2⟩
  · omega
  · omega
  obtain ⟨rfl, hO3, hW3⟩ := h3
  have hW3' : Wrt (BlkOf ((vo, p.ord) :: (rp ++ flat gs))) w2 w3 := hW3.mono fun g ⟨r, h1, h2⟩ => ⟨r, List.mem_cons_of_mem _ (List.mem_append_left _ h1), h2⟩
  have hc2'' := hcell hc2 (hW2'.trans hW3')
  have hO3' : RowsO s w3 (([(vo, marks k p.ord.length)] ++ mkR (k + p.ord.length) rp) ++ flat gs ++ []) := by simpa using hO3
  have hcub3 : CubO (BlkOf ((vo, p.ord) :: (rp ++ flat gs))) w3 vc gs := CubO.wr ⟨(SpA.grow hcub.sp0 he1 (fun g hg => .inl hg)).wr hW2' (fun g hg => hg), fun q hq => (SpA.grow (hcub.sp q hq) he1 (fun g hg => .inl hg)).wr hW2' (fun g hg => hg)⟩ hW3' (fun g hg => hg)
  clear hc0' hc1' hc2'
  refine go ?_
  refine rc (markInt64SSS_ok hO3' hcub3 (fun g hg => ?_) ?_ ?_) (next := fun v4 w4 h4 => ?_)
  · obtain ⟨r, h1, h2⟩ := hg
    exact ⟨r, List.mem_cons_of_mem _ (List.mem_append_right _ h1), h2⟩
  · omega
  · omega
  obtain ⟨rfl, hO4, hW4⟩ := h4
  refine go ?_
  have hW4' : Wrt (BlkOf ((vo, p.ord) :: (rp ++ flat gs))) w3 w4 := hW4.mono fun g ⟨r, h1, h2⟩ => ⟨r, List.mem_cons_of_mem _ (List.mem_append_right _ h1), h2⟩
  have hfo4 : Ints 0 w4.heap.size w4 vo (marks k p.ord.length) := ((hO4.fr (vo, marks k p.ord.length) (by simp)).ints).wide
  have hsp4 := (hsp2.wr (hW3'.trans hW4') (fun g hg => hg)).sl
  have hcub4 := hcub3.wr hW4' (fun g hg => hg)
  have hOp : RowsO s w4 (mkR (k + p.ord.length) rp) := RowsO.right (rs := [(vo, marks k p.ord.length)]) (RowsO.left (RowsO.left hO4))
  have hOc : RowsO s w4 (mkR (k + p.ord.length + tot (rp.map (·.2))) (flat gs)) := RowsO.right (RowsO.left hO4)
  have hRp := hOp.rows (v := vp) (by rw [mkR_fst]; exact hsp4)
  rw [mkR_fst, mkR_snd, ← hpow] at hRp
  have hRc : Rowss 0 w4.heap.size w4 vc (gs.map (·.1)) (gs.map fun q => q.2.map (·.1)) (markC (k + p.ord.length + tot (rp.map (·.2))) (gs.map fun q => q.2.map (·.2))) := by
    rw [← flat_mkC] at hOc
    rw [← mkC_fst gs (k + p.ord.length + tot (rp.map (·.2))), ← mkC_mid gs (k + p.ord.length + tot (rp.map (·.2))), ← mkC_snd gs (k + p.ord.length + tot (rp.map (·.2)))]
    refine rowss_of_cub (A := fun _ => True) (s := 0) ?_ (Nat.zero_le _) fun q hq => ?_
    · rw [mkC_fst]; exact hcub4.sp0.sl
    · obtain ⟨q', h1, h2, h3⟩ := mkC_mem hq
      refine (RowsO.ofFlat hOc hq).rows (v := q.1) ?_
      rw [h2, h3]
      exact (hcub4.sp _ h1).sl
  rw [← hpow] at hr2
  rw [← hcnj] at hr3
  rw [← hcnj, ← hpow] at hRc
  refine ret1 ⟨?_, ?_, ⟨⟨vo, vp, vc, _, _, _, rfl, hr1.range hfo4 (marks_len _ _).symm, hr2.range hRp (markL_lens _ _), hr3.range hRc (markC_lens _ _)⟩⟩⟩
  · rw [e1]
    exact int_congr (by omega)
  · refine (Wrt.ofExt he1).trans ((hW2'.mono hA).trans ((hW3'.mono hA).trans (hW4.mono fun g hg => hA g ?_)))
    obtain ⟨r, h1, h2⟩ := hg
    exact ⟨r, List.mem_cons_of_mem _ (List.mem_append_right _ h1), h2⟩
set_option maxHeartbeats 1000000 in
theorem heldPresentation_ok {w : World} {v : Value} {k : Int} {lo hi : Nat} {p q : Pr} [hp : Pres lo hi w v q] (hq : q = markP k p) (hk : 0 ≤ k) (hb : k + totP p ≤ 9000000000000000000) :
    Calls Tryz.prog 45 #[v, .int .i64 k] w (Ret fun v' w' => v' = .int .i64 (k + totP p) ∧ Ext w w') := by
  subst hq
  obtain ⟨vo, vpw, vc, ps, cs, css, rfl, h1, h2, h3⟩ := hp.ex
  have e1 : totP p = p.ord.length + (tot p.pow + tot p.cnj.flatten) := rfl
  replace h1 : Ints lo hi w vo (marks k p.ord.length) := h1
  replace h2 : Pc.Rows lo hi w vpw ps (markL (k + p.ord.length) p.pow) := h2
  replace h3 : Rowss lo hi w vc cs css (markC (k + p.ord.length + tot p.pow) p.cnj) := h3
  refine enter (args := [.agg #[vo, vpw, vc], .int .i64 k]) (l := [.tmp 4]) Tryz.func45 rfl rfl Tryz.ntmps45 (by simp) ?_
  refine go ?_
  refine st_box3 (by ((try simp only [ev_tmp, ev_const, ev_func, get_put, get_args, get_putL, get_putL_nil, Nat.reduceEqDiff, reduceIte, List.getD_cons_zero, List.getD_cons_succ, List.getD_nil]); first | done | with_reducible rfl)) (by first | exact True.intro | exact ⟨_, rfl, by ((try simp only [ev_tmp, ev_const, ev_func, get_put, get_args, get_putL, get_putL_nil, Nat.reduceEqDiff, reduceIte, List.getD_cons_zero, List.getD_cons_succ, List.getD_nil, Bool.not_true, Bool.not_false]); first | done | with_reducible rfl)⟩) fun w1 b he1 hb1 hs1 hc0 hc1 hc2 => ?_
  refine go ?_
  refine rc (heldInt64S_ok (k := k) (n := p.ord.length) (xs := marks k p.ord.length) rfl hk (by omega)) (next := fun v2 w2 h4 => ?_)
  obtain ⟨rfl, he2⟩ := h4
  refine go ?_
  refine c_if (fun h => ?_) (fun _ => ?_)
  · omega
  refine go ?_
  refine rc (heldInt64SS_ok (k := k + p.ord.length) (yss := p.pow) (xss := markL (k + p.ord.length) p.pow) rfl (by omega) (by omega)) (next := fun v3 w3 h5 => ?_)
  obtain ⟨rfl, he3⟩ := h5
  refine go ?_
  refine c_if (fun h => ?_) (fun _ => ?_)
  · omega
  refine go ?_
  refine rc (heldInt64SSS_ok (k := k + p.ord.length + tot p.pow) (ysss := p.cnj) (xsss := markC (k + p.ord.length + tot p.pow) p.cnj) rfl (by omega) (by omega)) (next := fun v4 w4 h6 => ?_)
  obtain ⟨rfl, he4⟩ := h6
  refine go ?_
  refine c_if (fun h => ?_) (fun _ => ?_)
  · omega
  refine go ?_
  refine ret1 ⟨?_, ((he1.trans he2).trans he3).trans he4⟩
  rw [e1]
  exact int_congr (by omega)
end Go.Proofs.YtnphljflkpekmaaGreat
