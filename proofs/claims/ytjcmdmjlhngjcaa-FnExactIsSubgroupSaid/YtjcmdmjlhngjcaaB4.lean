/-
  Texts of one proof, put together by program: W12b, W12c, W12d, I01, I01b, I02, I03.
  Conditions: those told at each part.
-/
import Derived.Test.YtjcmdmjlhngjcaaB3
set_option linter.unusedVariables false
set_option linter.unusedSimpArgs false
set_option linter.unusedSectionVars false
set_option linter.constructorNameAsVariable false
set_option linter.unnecessarySimpa false
set_option linter.deprecated false
/-
  Walk: the reference's canonical sequence out of a full table (l12Full).
  Conditions: the tails at all levels are groups, the table is full.
-/
namespace Go.Proofs.Ytjcmdmjlhngjcaa
open Go Go.Pc
set_option maxHeartbeats 2000000 in
theorem l12Full_ok {p : Pr} [hc : ConAll p] {t : Tab p} (hf : Full t) {av : Nat → Prop} {w : World} {vp vt : Value} {us : List Value} {lo hi lo1 hi1 : Nat} [hp : Pres lo hi w vp p] [ht : Pc.Rows lo1 hi1 w vt us (tabL t)]
    (hr : RowsAp av w us (tabL t)) (hbd : ∀ g, av g → g < w.heap.size) :
    Calls Try.prog 41 #[vp, vt] w (Ret fun v w' => Ext w w' ∧ ∃ us', Lst 22 w.heap.size av w' v us' (canon (Gen (Ents t)))) := by
  have hv := hc.valid
  have hn6 := hv.n6
  have htl := tabL_len t
  have hH := Gen.sub (Ents t)
  obtain ⟨vo, vpw, vc, ps, cs, css, rfl, h1, h2, h3⟩ := hp.ex
  refine enter (args := [.agg #[vo, vpw, vc], vt]) (l := [.tmp 4]) Try.func41 rfl rfl Try.ntmps41 (by simp) ?_
  repeat (first | (show rops _ _ _ _ (_ :: _) _ _; first | refine ra (next := ?_) | refine rk (next := ?_) | refine rku (next := ?_)) | refine st_end ?_ | refine thn_normal ?_ | refine r_seq ?_ | refine r_region rfl ?_ | refine thn_exit ?_ | refine thn_ret ?_ | refine inBlk_normal ?_ | refine inBlk_ret ?_ | refine inBlk_hit ?_ | refine inBlk_miss (by decide) ?_ | refine forQ_exit ?_ | refine forQ_ret ?_ | refine loopQ_exit ?_ | refine loopQ_ret ?_ | refine r_block ?_ | refine r_skip ?_ | refine r_exit ?_ | refine r_ret ?_ | (show rwp _ _ (.cond _ _ _) _ _ _; first | refine c_t (h := ?_) | refine c_f (h := ?_)))
  refine st_box3 (by ((try simp only [ev_tmp, ev_const, ev_func, get_put, get_args, get_putL, get_putL_nil, Nat.reduceEqDiff, reduceIte, List.getD_cons_zero, List.getD_cons_succ, List.getD_nil]); first | done | with_reducible rfl)) (by first | exact True.intro | exact ⟨_, rfl, by ((try simp only [ev_tmp, ev_const, ev_func, get_put, get_args, get_putL, get_putL_nil, Nat.reduceEqDiff, reduceIte, List.getD_cons_zero, List.getD_cons_succ, List.getD_nil, Bool.not_true, Bool.not_false]); first | done | with_reducible rfl)⟩) fun w1 b he1 hb1 hs1 hc0 hc1 hc2 => ?_
  repeat (first | (show rops _ _ _ _ (_ :: _) _ _; first | refine ra (next := ?_) | refine rk (next := ?_) | refine rku (next := ?_)) | refine st_end ?_ | refine thn_normal ?_ | refine r_seq ?_ | refine r_region rfl ?_ | refine thn_exit ?_ | refine thn_ret ?_ | refine inBlk_normal ?_ | refine inBlk_ret ?_ | refine inBlk_hit ?_ | refine inBlk_miss (by decide) ?_ | refine forQ_exit ?_ | refine forQ_ret ?_ | refine loopQ_exit ?_ | refine loopQ_ret ?_ | refine r_block ?_ | refine r_skip ?_ | refine r_exit ?_ | refine r_ret ?_ | (show rwp _ _ (.cond _ _ _) _ _ _; first | refine c_t (h := ?_) | refine c_f (h := ?_)))
  refine st_make_nil (by ((try simp only [ev_tmp, ev_const, ev_func, get_put, get_args, get_putL, get_putL_nil, Nat.reduceEqDiff, reduceIte, List.getD_cons_zero, List.getD_cons_succ, List.getD_nil]); first | done | with_reducible rfl)) (by ((try simp only [ev_tmp, ev_const, ev_func, get_put, get_args, get_putL, get_putL_nil, Nat.reduceEqDiff, reduceIte, List.getD_cons_zero, List.getD_cons_succ, List.getD_nil]); first | done | with_reducible rfl)) (by omega) (by omega) (by first | exact True.intro | exact ⟨_, rfl, by ((try simp only [ev_tmp, ev_const, ev_func, get_put, get_args, get_putL, get_putL_nil, Nat.reduceEqDiff, reduceIte, List.getD_cons_zero, List.getD_cons_succ, List.getD_nil, Bool.not_true, Bool.not_false]); first | done | with_reducible rfl)⟩) fun w2 v2 he2 hs2 ho2 => ?_
  have hz1 := he1.size
  have hvb := ho2.toN_block
  have hD0 : Lst 22 w1.heap.size av w2 v2 (List.replicate p.n nilv) (tabL (Tab.fr (canT (Gen (Ents t))) p.n)) := by
    rw [fr_end]
    rw [htl] at ho2
    exact Lst.ofNils ho2 (Nat.le_refl _) (fun h => by have := hbd _ h; omega) (fun g hg => by have := hbd g hg; have := he2.size; omega)
  repeat (first | (show rops _ _ _ _ (_ :: _) _ _; first | refine ra (next := ?_) | refine rk (next := ?_) | refine rku (next := ?_)) | refine st_end ?_ | refine thn_normal ?_ | refine r_seq ?_ | refine r_region rfl ?_ | refine thn_exit ?_ | refine thn_ret ?_ | refine inBlk_normal ?_ | refine inBlk_ret ?_ | refine inBlk_hit ?_ | refine inBlk_miss (by decide) ?_ | refine forQ_exit ?_ | refine forQ_ret ?_ | refine loopQ_exit ?_ | refine loopQ_ret ?_ | refine r_block ?_ | refine r_skip ?_ | refine r_exit ?_ | refine r_ret ?_ | (show rwp _ _ (.cond _ _ _) _ _ _; first | refine c_t (h := ?_) | refine c_f (h := ?_)))
  refine r_for p.n (fun k ρ w' => ∃ usd, Has ρ [(1, vt), (2, .pointer (some ⟨b, 0, none⟩)), (5, v2), (6, .int .i64 (p.n - 1 - k))] ∧ Ext w1 w' ∧ Lst 22 w1.heap.size av w' v2 usd (tabL (Tab.fr (canT (Gen (Ents t))) (p.n - k))) ∧ ∀ e, p.n - k ≤ e → t e ≠ none → canT (Gen (Ents t)) e ≠ none) ?_ ?_
  · refine ⟨_, ?_, he2, hD0, fun e h1 h2 => ?_⟩
    · ((try simp only [Has, ev_tmp, ev_const, ev_func, get_put, get_args, get_putL, get_putL_nil, Nat.reduceEqDiff, reduceIte, List.getD_cons_zero, List.getD_cons_succ, List.getD_nil]); repeat' (first | exact True.intro | apply And.intro | with_reducible rfl | exact int_congr (by first | omega | rfl)))
    · have := hf.dep.2 h2
      have := this.lt
      omega
  rintro k ρ w3 hk ⟨usd, hH3, he3, hD, hcn⟩
  refine rwp_has hH3 fun ρ0 => ?_
  repeat (first | (show rops _ _ _ _ (_ :: _) _ _; first | refine ra (next := ?_) | refine rk (next := ?_) | refine rku (next := ?_)) | refine st_end ?_ | refine thn_normal ?_ | refine r_seq ?_ | refine r_region rfl ?_ | refine thn_exit ?_ | refine thn_ret ?_ | refine inBlk_normal ?_ | refine inBlk_ret ?_ | refine inBlk_hit ?_ | refine inBlk_miss (by decide) ?_ | refine forQ_exit ?_ | refine forQ_ret ?_ | refine loopQ_exit ?_ | refine loopQ_ret ?_ | refine r_block ?_ | refine r_skip ?_ | refine r_exit ?_ | refine r_ret ?_ | (show rwp _ _ (.cond _ _ _) _ _ _; first | refine c_t (h := ?_) | refine c_f (h := ?_)))
  refine c_if (fun h4 => ?_) (fun h4 => ?_)
  · have hkn : k < p.n := by omega
    obtain ⟨d, hd⟩ : ∃ d, p.n - 1 - k = d := ⟨_, rfl⟩
    have hdn : d < p.n := by omega
    have hd1 : p.n - k = d + 1 := by omega
    have hd2 : p.n - (k + 1) = d := by omega
    rw [hd1] at hD hcn
    repeat (first | (show rops _ _ _ _ (_ :: _) _ _; first | refine ra (next := ?_) | refine rk (next := ?_) | refine rku (next := ?_)) | refine st_end ?_ | refine thn_normal ?_ | refine r_seq ?_ | refine r_region rfl ?_ | refine thn_exit ?_ | refine thn_ret ?_ | refine inBlk_normal ?_ | refine inBlk_ret ?_ | refine inBlk_hit ?_ | refine inBlk_miss (by decide) ?_ | refine forQ_exit ?_ | refine forQ_ret ?_ | refine loopQ_exit ?_ | refine loopQ_ret ?_ | refine r_block ?_ | refine r_skip ?_ | refine r_exit ?_ | refine r_ret ?_ | (show rwp _ _ (.cond _ _ _) _ _ _; first | refine c_t (h := ?_) | refine c_f (h := ?_)))
    refine c_if (fun h5 => ?_) (fun h5 => ?_)
    · repeat (first | (show rops _ _ _ _ (_ :: _) _ _; first | refine ra (next := ?_) | refine rk (next := ?_) | refine rku (next := ?_)) | refine st_end ?_ | refine thn_normal ?_ | refine r_seq ?_ | refine r_region rfl ?_ | refine thn_exit ?_ | refine thn_ret ?_ | refine inBlk_normal ?_ | refine inBlk_ret ?_ | refine inBlk_hit ?_ | refine inBlk_miss (by decide) ?_ | refine forQ_exit ?_ | refine forQ_ret ?_ | refine loopQ_exit ?_ | refine loopQ_ret ?_ | refine r_block ?_ | refine r_skip ?_ | refine r_exit ?_ | refine r_ret ?_ | (show rwp _ _ (.cond _ _ _) _ _ _; first | refine c_t (h := ?_) | refine c_f (h := ?_)))
      rw [hd, tabL_at t hdn] at h5
      have htn := (rowOf_len (t := t) hdn).1 (by omega)
      refine forQ_normal (by omega) ⟨usd, ?_, he3, ?_, ?_⟩
      · ((try simp only [Has, ev_tmp, ev_const, ev_func, get_put, get_args, get_putL, get_putL_nil, Nat.reduceEqDiff, reduceIte, List.getD_cons_zero, List.getD_cons_succ, List.getD_nil]); repeat' (first | exact True.intro | apply And.intro | with_reducible rfl | exact int_congr (by first | omega | rfl)))
      · rw [hd2, fr_none (hf.canT_none htn)]; exact hD
      · intro e h1 h2
        by_cases ee : e = d
        · subst ee; exact absurd htn h2
        · exact hcn e (by omega) h2
    · rw [hd, tabL_at t hdn] at h5
      obtain ⟨y, hy⟩ : ∃ y, t d = some y := by
        cases e : t d with
        | none => exact absurd ((rowOf_len hdn).2 e) (by omega)
        | some y => exact ⟨y, rfl⟩
      have hye : (tabL t).getD d [] = y.v := by rw [tabL_at t hdn, rowOf_some hy]
      repeat (first | (show rops _ _ _ _ (_ :: _) _ _; first | refine ra (next := ?_) | refine rk (next := ?_) | refine rku (next := ?_)) | refine st_end ?_ | refine thn_normal ?_ | refine r_seq ?_ | refine r_region rfl ?_ | refine thn_exit ?_ | refine thn_ret ?_ | refine inBlk_normal ?_ | refine inBlk_ret ?_ | refine inBlk_hit ?_ | refine inBlk_miss (by decide) ?_ | refine forQ_exit ?_ | refine forQ_ret ?_ | refine loopQ_exit ?_ | refine loopQ_ret ?_ | refine r_block ?_ | refine r_skip ?_ | refine r_exit ?_ | refine r_ret ?_ | (show rwp _ _ (.cond _ _ _) _ _ _; first | refine c_t (h := ?_) | refine c_f (h := ?_)))
      have hDr := hD.toRows
      refine r_for k (fun q ρ w' => ∃ vx x, Has ρ [(1, vt), (2, .pointer (some ⟨b, 0, none⟩)), (5, v2), (6, .int .i64 (p.n - 1 - k)), (7, vx), (8, .int .i64 (d + 1 + q : Nat))] ∧ Ext w3 w' ∧ IntsAp (fun g => av g ∨ v2.ownBlock = some g) w' vx (T.v (p := p) (i := 0) x) ∧ CanTo (Gen (Ents t)) d (d + 1 + q) x) ?_ ?_
      · refine ⟨Pc.rowAt vt us (p.n - 1 - k), y, ?_, Ext.refl _, ?_, hf.canTo hy⟩
        · ((try simp only [Has, ev_tmp, ev_const, ev_func, get_put, get_args, get_putL, get_putL_nil, Nat.reduceEqDiff, reduceIte, List.getD_cons_zero, List.getD_cons_succ, List.getD_nil]); repeat' (first | exact True.intro | apply And.intro | with_reducible rfl | exact int_congr (by first | omega | rfl)))
        · have := ((hr.at_ d).ext (he1.trans he3))
          rw [hye] at this
          rw [hd]
          have hz3 := he3.size
          exact ((hr.at_ d).weak (av' := fun g => av g ∨ v2.ownBlock = some g) (fun g hg => hg.imp id fun hg => by rw [hvb] at hg; injection hg with hg; omega)).ext (he1.trans he3) |> fun h => by rw [hye] at h; exact h
      rintro q ρ w4 hq ⟨vx, x, hH4, he4, hx4, hct⟩
      refine rwp_has hH4 fun ρ1 => ?_
      have hxi := hx4.ints
      have hxl := x.inr.len
      repeat (first | (show rops _ _ _ _ (_ :: _) _ _; first | refine ra (next := ?_) | refine rk (next := ?_) | refine rku (next := ?_)) | refine st_end ?_ | refine thn_normal ?_ | refine r_seq ?_ | refine r_region rfl ?_ | refine thn_exit ?_ | refine thn_ret ?_ | refine inBlk_normal ?_ | refine inBlk_ret ?_ | refine inBlk_hit ?_ | refine inBlk_miss (by decide) ?_ | refine forQ_exit ?_ | refine forQ_ret ?_ | refine loopQ_exit ?_ | refine loopQ_ret ?_ | refine r_block ?_ | refine r_skip ?_ | refine r_exit ?_ | refine r_ret ?_ | (show rwp _ _ (.cond _ _ _) _ _ _; first | refine c_t (h := ?_) | refine c_f (h := ?_)))
      refine c_if (fun h6 => ?_) (fun h6 => ?_)
      · have hen : d + 1 + q < p.n := by omega
        obtain ⟨e, he⟩ : ∃ e, d + 1 + q = e := ⟨_, rfl⟩
        have hle := tabL_len (Tab.fr (canT (Gen (Ents t))) (d + 1))
        have hrow : (tabL (Tab.fr (canT (Gen (Ents t))) (d + 1))).getD e [] = rowOf (canT (Gen (Ents t))) e := by
          rw [tabL_at _ (by omega)]; unfold rowOf; rw [fr_at _ (by omega)]
        repeat (first | (show rops _ _ _ _ (_ :: _) _ _; first | refine ra (next := ?_) | refine rk (next := ?_) | refine rku (next := ?_)) | refine st_end ?_ | refine thn_normal ?_ | refine r_seq ?_ | refine r_region rfl ?_ | refine thn_exit ?_ | refine thn_ret ?_ | refine inBlk_normal ?_ | refine inBlk_ret ?_ | refine inBlk_hit ?_ | refine inBlk_miss (by decide) ?_ | refine forQ_exit ?_ | refine forQ_ret ?_ | refine loopQ_exit ?_ | refine loopQ_ret ?_ | refine r_block ?_ | refine r_skip ?_ | refine r_exit ?_ | refine r_ret ?_ | (show rwp _ _ (.cond _ _ _) _ _ _; first | refine c_t (h := ?_) | refine c_f (h := ?_)))
        refine spd (fun h7 => ?_) (fun h7 => ?_)
        · rw [he, hrow] at h7
          obtain ⟨z, hz⟩ : ∃ z, canT (Gen (Ents t)) e = some z := by
            cases ez : canT (Gen (Ents t)) e with
            | none => exact absurd ((rowOf_len (by omega)).2 ez) (by omega)
            | some z => exact ⟨z, rfl⟩
          have hza := canT_some hz
          have hze : (tabL (Tab.fr (canT (Gen (Ents t))) (d + 1))).getD (d + 1 + q) [] = z.v := by rw [he, hrow, rowOf_some hz]
          repeat (first | (show rops _ _ _ _ (_ :: _) _ _; first | refine ra (next := ?_) | refine rk (next := ?_) | refine rku (next := ?_)) | refine st_end ?_ | refine thn_normal ?_ | refine r_seq ?_ | refine r_region rfl ?_ | refine thn_exit ?_ | refine thn_ret ?_ | refine inBlk_normal ?_ | refine inBlk_ret ?_ | refine inBlk_hit ?_ | refine inBlk_miss (by decide) ?_ | refine forQ_exit ?_ | refine forQ_ret ?_ | refine loopQ_exit ?_ | refine loopQ_ret ?_ | refine r_block ?_ | refine r_skip ?_ | refine r_exit ?_ | refine r_ret ?_ | (show rwp _ _ (.cond _ _ _) _ _ _; first | refine c_t (h := ?_) | refine c_f (h := ?_)))
          refine c_if (fun h8 => ?_) (fun h8 => ?_)
          · have hxe := x.inr.rng (d + 1 + q) (by omega)
            have hoe := hv.opos (i := d + 1 + q) (by omega)
            repeat (first | (show rops _ _ _ _ (_ :: _) _ _; first | refine ra (next := ?_) | refine rk (next := ?_) | refine rku (next := ?_)) | refine st_end ?_ | refine thn_normal ?_ | refine r_seq ?_ | refine r_region rfl ?_ | refine thn_exit ?_ | refine thn_ret ?_ | refine inBlk_normal ?_ | refine inBlk_ret ?_ | refine inBlk_hit ?_ | refine inBlk_miss (by decide) ?_ | refine forQ_exit ?_ | refine forQ_ret ?_ | refine loopQ_exit ?_ | refine loopQ_ret ?_ | refine r_block ?_ | refine r_skip ?_ | refine r_exit ?_ | refine r_ret ?_ | (show rwp _ _ (.cond _ _ _) _ _ _; first | refine c_t (h := ?_) | refine c_f (h := ?_)))
            refine d_region fun w5 he5 _ => ?_
            repeat (first | refine da (next := ?_) | refine dsk (next := ?_) | refine dsku (next := ?_))
            refine dce (l10Pow_ok (p := p) (x := z) hze ?_) (next := fun v6 w6 h6 => ?_)
            · omega
            obtain ⟨he6, hf6⟩ := h6
            refine dce (l08Mul_ok (p := p) (x := x) (y := Grp.pwz z (-(x.v.getD (d + 1 + q) 0))) rfl rfl) (next := fun v7 w7 h7 => ?_)
            obtain ⟨he7, hf7⟩ := h7
            repeat (first | refine da (next := ?_) | refine dsk (next := ?_) | refine dsku (next := ?_))
            refine d_end (h := ?_)
            repeat (first | (show rops _ _ _ _ (_ :: _) _ _; first | refine ra (next := ?_) | refine rk (next := ?_) | refine rku (next := ?_)) | refine st_end ?_ | refine thn_normal ?_ | refine r_seq ?_ | refine r_region rfl ?_ | refine thn_exit ?_ | refine thn_ret ?_ | refine inBlk_normal ?_ | refine inBlk_ret ?_ | refine inBlk_hit ?_ | refine inBlk_miss (by decide) ?_ | refine forQ_exit ?_ | refine forQ_ret ?_ | refine loopQ_exit ?_ | refine loopQ_ret ?_ | refine r_block ?_ | refine r_skip ?_ | refine r_exit ?_ | refine r_ret ?_ | (show rwp _ _ (.cond _ _ _) _ _ _; first | refine c_t (h := ?_) | refine c_f (h := ?_)))
            have hE := ((he4.trans he5).trans he6).trans he7
            have hz3 := he3.size
            have hz6 := ((he4.trans he5).trans he6).size
            refine forQ_normal (by omega) ⟨v7, x * Grp.pwz z (-(x.v.getD (d + 1 + q) 0)), ?_, hE, IntsAp.ofFr hf7 ?_, ?_⟩
            · ((try simp only [Has, ev_tmp, ev_const, ev_func, get_put, get_args, get_putL, get_putL_nil, Nat.reduceEqDiff, reduceIte, List.getD_cons_zero, List.getD_cons_succ, List.getD_nil]); repeat' (first | exact True.intro | apply And.intro | with_reducible rfl | exact int_congr (by first | omega | rfl)))
            · rintro g (hg | hg)
              · have := hbd g hg; omega
              · have := (hD.lt hg).2; omega
            · rw [show d + 1 + (q + 1) = e + 1 by omega]
              rw [he] at hct ⊢
              exact hct.step hH (by omega) (by omega) hza.mem hza.tl hza.lead
          · repeat (first | (show rops _ _ _ _ (_ :: _) _ _; first | refine ra (next := ?_) | refine rk (next := ?_) | refine rku (next := ?_)) | refine st_end ?_ | refine thn_normal ?_ | refine r_seq ?_ | refine r_region rfl ?_ | refine thn_exit ?_ | refine thn_ret ?_ | refine inBlk_normal ?_ | refine inBlk_ret ?_ | refine inBlk_hit ?_ | refine inBlk_miss (by decide) ?_ | refine forQ_exit ?_ | refine forQ_ret ?_ | refine loopQ_exit ?_ | refine loopQ_ret ?_ | refine r_block ?_ | refine r_skip ?_ | refine r_exit ?_ | refine r_ret ?_ | (show rwp _ _ (.cond _ _ _) _ _ _; first | refine c_t (h := ?_) | refine c_f (h := ?_)))
            refine forQ_normal (by omega) ⟨vx, x, ?_, he4, hx4, ?_⟩
            · ((try simp only [Has, ev_tmp, ev_const, ev_func, get_put, get_args, get_putL, get_putL_nil, Nat.reduceEqDiff, reduceIte, List.getD_cons_zero, List.getD_cons_succ, List.getD_nil]); repeat' (first | exact True.intro | apply And.intro | with_reducible rfl | exact int_congr (by first | omega | rfl)))
            · rw [he] at h8 hct
              rw [show d + 1 + (q + 1) = e + 1 by omega]
              exact hct.skip (.inl (Decidable.not_not.1 h8))
        · rw [he, hrow] at h7
          have hce : canT (Gen (Ents t)) e = none := (rowOf_len (by omega)).1 (by omega)
          repeat (first | (show rops _ _ _ _ (_ :: _) _ _; first | refine ra (next := ?_) | refine rk (next := ?_) | refine rku (next := ?_)) | refine st_end ?_ | refine thn_normal ?_ | refine r_seq ?_ | refine r_region rfl ?_ | refine thn_exit ?_ | refine thn_ret ?_ | refine inBlk_normal ?_ | refine inBlk_ret ?_ | refine inBlk_hit ?_ | refine inBlk_miss (by decide) ?_ | refine forQ_exit ?_ | refine forQ_ret ?_ | refine loopQ_exit ?_ | refine loopQ_ret ?_ | refine r_block ?_ | refine r_skip ?_ | refine r_exit ?_ | refine r_ret ?_ | (show rwp _ _ (.cond _ _ _) _ _ _; first | refine c_t (h := ?_) | refine c_f (h := ?_)))
          refine forQ_normal (by omega) ⟨vx, x, ?_, he4, hx4, ?_⟩
          · ((try simp only [Has, ev_tmp, ev_const, ev_func, get_put, get_args, get_putL, get_putL_nil, Nat.reduceEqDiff, reduceIte, List.getD_cons_zero, List.getD_cons_succ, List.getD_nil]); repeat' (first | exact True.intro | apply And.intro | with_reducible rfl | exact int_congr (by first | omega | rfl)))
          · rw [he] at hct
            rw [show d + 1 + (q + 1) = e + 1 by omega]
            refine hct.skip (.inr fun hde => ?_)
            exact hcn e (by omega) (hf.dep.1 hde) hce
      · obtain rfl : q = k := by omega
        have hcan := (show CanTo (Gen (Ents t)) d p.n x by rw [show p.n = d + 1 + q by omega]; exact hct).can
        have hD4 := hD.ext he4
        have hO4 := hD4.toOwn hvb
        have hul := hD.len
        rw [tabL_len] at hul
        have hle := tabL_len (Tab.fr (canT (Gen (Ents t))) (d + 1))
        repeat (first | (show rops _ _ _ _ (_ :: _) _ _; first | refine ra (next := ?_) | refine rk (next := ?_) | refine rku (next := ?_)) | refine st_end ?_ | refine thn_normal ?_ | refine r_seq ?_ | refine r_region rfl ?_ | refine thn_exit ?_ | refine thn_ret ?_ | refine inBlk_normal ?_ | refine inBlk_ret ?_ | refine inBlk_hit ?_ | refine inBlk_miss (by decide) ?_ | refine forQ_exit ?_ | refine forQ_ret ?_ | refine loopQ_exit ?_ | refine loopQ_ret ?_ | refine r_block ?_ | refine r_skip ?_ | refine r_exit ?_ | refine r_ret ?_ | (show rwp _ _ (.cond _ _ _) _ _ _; first | refine c_t (h := ?_) | refine c_f (h := ?_)))
        refine st_store_val (h := hO4) (by ((try simp only [ev_tmp, ev_const, ev_func, get_put, get_args, get_putL, get_putL_nil, Nat.reduceEqDiff, reduceIte, List.getD_cons_zero, List.getD_cons_succ, List.getD_nil]); first | done | with_reducible rfl)) (by ((try simp only [ev_tmp, ev_const, ev_func, get_put, get_args, get_putL, get_putL_nil, Nat.reduceEqDiff, reduceIte, List.getD_cons_zero, List.getD_cons_succ, List.getD_nil]); first | done | with_reducible rfl)) ?_ ?_ (by first | exact True.intro | exact ⟨_, rfl, by ((try simp only [ev_tmp, ev_const, ev_func, get_put, get_args, get_putL, get_putL_nil, Nat.reduceEqDiff, reduceIte, List.getD_cons_zero, List.getD_cons_succ, List.getD_nil, Bool.not_true, Bool.not_false]); first | done | with_reducible rfl)⟩) fun w5 hc5 hs5 ho5 => ?_
        · exact hxi.sl.one
        · omega
        repeat (first | (show rops _ _ _ _ (_ :: _) _ _; first | refine ra (next := ?_) | refine rk (next := ?_) | refine rku (next := ?_)) | refine st_end ?_ | refine thn_normal ?_ | refine r_seq ?_ | refine r_region rfl ?_ | refine thn_exit ?_ | refine thn_ret ?_ | refine inBlk_normal ?_ | refine inBlk_ret ?_ | refine inBlk_hit ?_ | refine inBlk_miss (by decide) ?_ | refine forQ_exit ?_ | refine forQ_ret ?_ | refine loopQ_exit ?_ | refine loopQ_ret ?_ | refine r_block ?_ | refine r_skip ?_ | refine r_exit ?_ | refine r_ret ?_ | (show rwp _ _ (.cond _ _ _) _ _ _; first | refine c_t (h := ?_) | refine c_f (h := ?_)))
        have hD5 := hD4.set hvb hx4 hc5 ho5 (by omega)
        refine forQ_normal (by omega) ⟨usd.set (p.n - 1 - q) vx, ?_, hc5.ext (he3.trans he4) (Nat.le_refl _), ?_, ?_⟩
        · ((try simp only [Has, ev_tmp, ev_const, ev_func, get_put, get_args, get_putL, get_putL_nil, Nat.reduceEqDiff, reduceIte, List.getD_cons_zero, List.getD_cons_succ, List.getD_nil]); repeat' (first | exact True.intro | apply And.intro | with_reducible rfl | exact int_congr (by first | omega | rfl)))
        · rw [hd2, fr_some (canT_eq hH hcan), tabL_set]
          rw [hd] at hD5 ⊢
          exact hD5
        · intro e h1 h2
          by_cases ee : e = d
          · subst ee; rw [canT_eq hH hcan]; simp
          · exact hcn e (by omega) h2
  · obtain rfl : k = p.n := by omega
    rw [Nat.sub_self, fr_zero] at hD
    rw [Nat.sub_self] at hcn
    have hz3 := he3.size
    repeat (first | (show rops _ _ _ _ (_ :: _) _ _; first | refine ra (next := ?_) | refine rk (next := ?_) | refine rku (next := ?_)) | refine st_end ?_ | refine thn_normal ?_ | refine r_seq ?_ | refine r_region rfl ?_ | refine thn_exit ?_ | refine thn_ret ?_ | refine inBlk_normal ?_ | refine inBlk_ret ?_ | refine inBlk_hit ?_ | refine inBlk_miss (by decide) ?_ | refine forQ_exit ?_ | refine forQ_ret ?_ | refine loopQ_exit ?_ | refine loopQ_ret ?_ | refine r_block ?_ | refine r_skip ?_ | refine r_exit ?_ | refine r_ret ?_ | (show rwp _ _ (.cond _ _ _) _ _ _; first | refine c_t (h := ?_) | refine c_f (h := ?_)))
    refine st_slice0 (by first | exact True.intro | exact ⟨_, rfl, by ((try simp only [ev_tmp, ev_const, ev_func, get_put, get_args, get_putL, get_putL_nil, Nat.reduceEqDiff, reduceIte, List.getD_cons_zero, List.getD_cons_succ, List.getD_nil, Bool.not_true, Bool.not_false]); first | done | with_reducible rfl)⟩) fun w4 v4 he4 hs4 ho4 => ?_
    have hDr := hD.toRows
    have hDa : RowsAp (fun g => av g ∨ w3.heap.size ≤ g) w3 usd (tabL (canT (Gen (Ents t)))) := hD.rows.weak fun g hg => hg.imp .inl id
    have hL0 : Lst 22 w3.heap.size av w4 v4 [] (canTo (Gen (Ents t)) 0) := Lst.start ho4 (Nat.le_refl _) (fun h => by have := hbd _ h; omega) (fun g hg => by have := hbd g hg; omega)
    have hcl := tabL_len (canT (Gen (Ents t)))
    have hul := hD.len
    repeat (first | (show rops _ _ _ _ (_ :: _) _ _; first | refine ra (next := ?_) | refine rk (next := ?_) | refine rku (next := ?_)) | refine st_end ?_ | refine thn_normal ?_ | refine r_seq ?_ | refine r_region rfl ?_ | refine thn_exit ?_ | refine thn_ret ?_ | refine inBlk_normal ?_ | refine inBlk_ret ?_ | refine inBlk_hit ?_ | refine inBlk_miss (by decide) ?_ | refine forQ_exit ?_ | refine forQ_ret ?_ | refine loopQ_exit ?_ | refine loopQ_ret ?_ | refine r_block ?_ | refine r_skip ?_ | refine r_exit ?_ | refine r_ret ?_ | (show rwp _ _ (.cond _ _ _) _ _ _; first | refine c_t (h := ?_) | refine c_f (h := ?_)))
    refine r_for p.n (fun d ρ w' => ∃ vo' uso, Has ρ [(1, vt), (2, .pointer (some ⟨b, 0, none⟩)), (5, v2), (9, vo'), (10, .int .i64 d)] ∧ Ext w3 w' ∧ Lst 22 w3.heap.size av w' vo' uso (canTo (Gen (Ents t)) d)) ?_ ?_
    · refine ⟨_, _, ?_, he4, hL0⟩
      ((try simp only [Has, ev_tmp, ev_const, ev_func, get_put, get_args, get_putL, get_putL_nil, Nat.reduceEqDiff, reduceIte, List.getD_cons_zero, List.getD_cons_succ, List.getD_nil]); repeat' (first | exact True.intro | apply And.intro | with_reducible rfl | exact int_congr (by first | omega | rfl)))
    rintro d ρ w5 hd ⟨vo', uso, hH5, he5, hL⟩
    refine rwp_has hH5 fun ρ1 => ?_
    repeat (first | (show rops _ _ _ _ (_ :: _) _ _; first | refine ra (next := ?_) | refine rk (next := ?_) | refine rku (next := ?_)) | refine st_end ?_ | refine thn_normal ?_ | refine r_seq ?_ | refine r_region rfl ?_ | refine thn_exit ?_ | refine thn_ret ?_ | refine inBlk_normal ?_ | refine inBlk_ret ?_ | refine inBlk_hit ?_ | refine inBlk_miss (by decide) ?_ | refine forQ_exit ?_ | refine forQ_ret ?_ | refine loopQ_exit ?_ | refine loopQ_ret ?_ | refine r_block ?_ | refine r_skip ?_ | refine r_exit ?_ | refine r_ret ?_ | (show rwp _ _ (.cond _ _ _) _ _ _; first | refine c_t (h := ?_) | refine c_f (h := ?_)))
    refine c_if (fun h6 => ?_) (fun h6 => ?_)
    · have hdn : d < p.n := by omega
      repeat (first | (show rops _ _ _ _ (_ :: _) _ _; first | refine ra (next := ?_) | refine rk (next := ?_) | refine rku (next := ?_)) | refine st_end ?_ | refine thn_normal ?_ | refine r_seq ?_ | refine r_region rfl ?_ | refine thn_exit ?_ | refine thn_ret ?_ | refine inBlk_normal ?_ | refine inBlk_ret ?_ | refine inBlk_hit ?_ | refine inBlk_miss (by decide) ?_ | refine forQ_exit ?_ | refine forQ_ret ?_ | refine loopQ_exit ?_ | refine loopQ_ret ?_ | refine r_block ?_ | refine r_skip ?_ | refine r_exit ?_ | refine r_ret ?_ | (show rwp _ _ (.cond _ _ _) _ _ _; first | refine c_t (h := ?_) | refine c_f (h := ?_)))
      refine c_if (fun h7 => ?_) (fun h7 => ?_)
      · rw [tabL_at _ hdn] at h7
        obtain ⟨z, hz⟩ : ∃ z, canT (Gen (Ents t)) d = some z := by
          cases ez : canT (Gen (Ents t)) d with
          | none => exact absurd ((rowOf_len hdn).2 ez) (by omega)
          | some z => exact ⟨z, rfl⟩
        have hrow := hDa.at_ d
        rw [tabL_at _ hdn, rowOf_some hz] at hrow
        have hri := (hrow.ext he5).ints
        repeat (first | (show rops _ _ _ _ (_ :: _) _ _; first | refine ra (next := ?_) | refine rk (next := ?_) | refine rku (next := ?_)) | refine st_end ?_ | refine thn_normal ?_ | refine r_seq ?_ | refine r_region rfl ?_ | refine thn_exit ?_ | refine thn_ret ?_ | refine inBlk_normal ?_ | refine inBlk_ret ?_ | refine inBlk_hit ?_ | refine inBlk_miss (by decide) ?_ | refine forQ_exit ?_ | refine forQ_ret ?_ | refine loopQ_exit ?_ | refine loopQ_ret ?_ | refine r_block ?_ | refine r_skip ?_ | refine r_exit ?_ | refine r_ret ?_ | (show rwp _ _ (.cond _ _ _) _ _ _; first | refine c_t (h := ?_) | refine c_f (h := ?_)))
        refine st_slice1 (u := Pc.rowAt v2 usd d) (by ((try simp only [ev_tmp, ev_const, ev_func, get_put, get_args, get_putL, get_putL_nil, Nat.reduceEqDiff, reduceIte, List.getD_cons_zero, List.getD_cons_succ, List.getD_nil]); first | done | with_reducible rfl)) ?_ ?_ (by first | exact True.intro | exact ⟨_, rfl, by ((try simp only [ev_tmp, ev_const, ev_func, get_put, get_args, get_putL, get_putL_nil, Nat.reduceEqDiff, reduceIte, List.getD_cons_zero, List.getD_cons_succ, List.getD_nil, Bool.not_true, Bool.not_false]); first | done | with_reducible rfl)⟩) fun w6 v6 he6 hs6 ho6 => ?_
        · exact hri.sl.cells
        · rfl
        repeat (first | (show rops _ _ _ _ (_ :: _) _ _; first | refine ra (next := ?_) | refine rk (next := ?_) | refine rku (next := ?_)) | refine st_end ?_ | refine thn_normal ?_ | refine r_seq ?_ | refine r_region rfl ?_ | refine thn_exit ?_ | refine thn_ret ?_ | refine inBlk_normal ?_ | refine inBlk_ret ?_ | refine inBlk_hit ?_ | refine inBlk_miss (by decide) ?_ | refine forQ_exit ?_ | refine forQ_ret ?_ | refine loopQ_exit ?_ | refine loopQ_ret ?_ | refine r_block ?_ | refine r_skip ?_ | refine r_exit ?_ | refine r_ret ?_ | (show rwp _ _ (.cond _ _ _) _ _ _; first | refine c_t (h := ?_) | refine c_f (h := ?_)))
        have hL6 := hL.ext he6
        have hO6 := hL6.own
        have hl6 : uso.length ≤ 6 := by rw [hL.len]; have := canTo_len (Gen (Ents t)) d; omega
        have hz5 := he5.size
        have hz6 := he6.size
        refine st_append (hv := hO6) (hy := ho6) (by ((try simp only [ev_tmp, ev_const, ev_func, get_put, get_args, get_putL, get_putL_nil, Nat.reduceEqDiff, reduceIte, List.getD_cons_zero, List.getD_cons_succ, List.getD_nil]); first | done | with_reducible rfl)) (by ((try simp only [ev_tmp, ev_const, ev_func, get_put, get_args, get_putL, get_putL_nil, Nat.reduceEqDiff, reduceIte, List.getD_cons_zero, List.getD_cons_succ, List.getD_nil]); first | done | with_reducible rfl)) rfl ?_ ?_ ?_ ?_ (by first | exact True.intro | exact ⟨_, rfl, by ((try simp only [ev_tmp, ev_const, ev_func, get_put, get_args, get_putL, get_putL_nil, Nat.reduceEqDiff, reduceIte, List.getD_cons_zero, List.getD_cons_succ, List.getD_nil, Bool.not_true, Bool.not_false]); first | done | with_reducible rfl)⟩) fun v7 w7 ho7 hg7 ha7 => ?_
        · intro u hu
          rw [List.mem_singleton.1 hu]
          exact hri.sl.one
        · simp; omega
        · simp [maxLen]; omega
        · omega
        repeat (first | (show rops _ _ _ _ (_ :: _) _ _; first | refine ra (next := ?_) | refine rk (next := ?_) | refine rku (next := ?_)) | refine st_end ?_ | refine thn_normal ?_ | refine r_seq ?_ | refine r_region rfl ?_ | refine thn_exit ?_ | refine thn_ret ?_ | refine inBlk_normal ?_ | refine inBlk_ret ?_ | refine inBlk_hit ?_ | refine inBlk_miss (by decide) ?_ | refine forQ_exit ?_ | refine forQ_ret ?_ | refine loopQ_exit ?_ | refine loopQ_ret ?_ | refine r_block ?_ | refine r_skip ?_ | refine r_exit ?_ | refine r_ret ?_ | (show rwp _ _ (.cond _ _ _) _ _ _; first | refine c_t (h := ?_) | refine c_f (h := ?_)))
        refine forQ_normal (by omega) ⟨v7, uso ++ [usd.getD d nilv], ?_, (he5.trans he6).app hg7 (fun k hk => (hL.lt hk).1), ?_⟩
        · ((try simp only [Has, ev_tmp, ev_const, ev_func, get_put, get_args, get_putL, get_putL_nil, Nat.reduceEqDiff, reduceIte, List.getD_cons_zero, List.getD_cons_succ, List.getD_nil]); repeat' (first | exact True.intro | apply And.intro | with_reducible rfl | exact int_congr (by first | omega | rfl)))
        · rw [canTo_some hz]
          refine hL6.push ?_ ho7 hg7 ha7
          refine ((hrow.ext (he5.trans he6)).weak fun g hg => .inl ?_)
          exact hg.imp id fun hg => (hL.lt hg).1
      · rw [tabL_at _ hdn] at h7
        have hcd : canT (Gen (Ents t)) d = none := (rowOf_len hdn).1 (by omega)
        repeat (first | (show rops _ _ _ _ (_ :: _) _ _; first | refine ra (next := ?_) | refine rk (next := ?_) | refine rku (next := ?_)) | refine st_end ?_ | refine thn_normal ?_ | refine r_seq ?_ | refine r_region rfl ?_ | refine thn_exit ?_ | refine thn_ret ?_ | refine inBlk_normal ?_ | refine inBlk_ret ?_ | refine inBlk_hit ?_ | refine inBlk_miss (by decide) ?_ | refine forQ_exit ?_ | refine forQ_ret ?_ | refine loopQ_exit ?_ | refine loopQ_ret ?_ | refine r_block ?_ | refine r_skip ?_ | refine r_exit ?_ | refine r_ret ?_ | (show rwp _ _ (.cond _ _ _) _ _ _; first | refine c_t (h := ?_) | refine c_f (h := ?_)))
        refine forQ_normal (by omega) ⟨vo', uso, ?_, he5, ?_⟩
        · ((try simp only [Has, ev_tmp, ev_const, ev_func, get_put, get_args, get_putL, get_putL_nil, Nat.reduceEqDiff, reduceIte, List.getD_cons_zero, List.getD_cons_succ, List.getD_nil]); repeat' (first | exact True.intro | apply And.intro | with_reducible rfl | exact int_congr (by first | omega | rfl)))
        · rw [canTo_none hcd]; exact hL
    · obtain rfl : d = p.n := by omega
      repeat (first | (show rops _ _ _ _ (_ :: _) _ _; first | refine ra (next := ?_) | refine rk (next := ?_) | refine rku (next := ?_)) | refine st_end ?_ | refine thn_normal ?_ | refine r_seq ?_ | refine r_region rfl ?_ | refine thn_exit ?_ | refine thn_ret ?_ | refine inBlk_normal ?_ | refine inBlk_ret ?_ | refine inBlk_hit ?_ | refine inBlk_miss (by decide) ?_ | refine forQ_exit ?_ | refine forQ_ret ?_ | refine loopQ_exit ?_ | refine loopQ_ret ?_ | refine r_block ?_ | refine r_skip ?_ | refine r_exit ?_ | refine r_ret ?_ | (show rwp _ _ (.cond _ _ _) _ _ _; first | refine c_t (h := ?_) | refine c_f (h := ?_)))
      refine ret1 ⟨(he1.trans he3).trans he5, uso, ?_⟩
      rw [canTo_end] at hL
      exact hL.mono (by omega)
end Go.Proofs.Ytjcmdmjlhngjcaa

/-
  Walk: the reference's subgroup generated by a list (l12Close).
  Conditions: the tails at all levels are groups, the list's members are elements.
-/
namespace Go.Proofs.Ytjcmdmjlhngjcaa
open Go Go.Pc
theorem own_some (v : Value) (s k : Nat) (hk : s ≤ k) (h : ∀ g, v.ownBlock = some g → s ≤ g) : ∃ b, s ≤ b ∧ ∀ g, v.ownBlock = some g → g = b := by
  cases e : v.ownBlock with
  | none => exact ⟨k, hk, fun g h => by cases h⟩
  | some b => exact ⟨b, h b e, fun g h => (Option.some.inj h).symm⟩
/-- The table and the waiting elements, side by side; one element more waits. -/
theorem tw_push {p : Pr} {e s1 s2 : Nat} {w w' : World} {vt vw vw' u : Value} {usT usW : List Value} {t : Tab p} {zs : List (El p)} {x : El p}
    (hT : Lst e s1 (fun g => g < s1 ∨ vw.ownBlock = some g) w vt usT (tabL t)) (hW : Lst e s2 (fun g => g < s2) w vw usW (zs.map (T.v (p := p) (i := 0))))
    (hu : IntsAp (fun g => g < s2 ∨ vw.ownBlock = some g) w u x.v) (ho : OwnN e s2 w' vw' (usW ++ [u])) (hg : w.grownBy w' vw.ownBlock) (hv : vw'.ownBlock = vw.ownBlock ∨ vw'.ownBlock = some w.heap.size) :
    Lst e s1 (fun g => g < s1 ∨ vw'.ownBlock = some g) w' vt usT (tabL t) ∧ Lst e s2 (fun g => g < s2) w' vw' (usW ++ [u]) ((zs ++ [x]).map (T.v (p := p) (i := 0))) := by
  have hW' := hW.push hu ho hg hv
  refine ⟨hT.beside hg (fun g e => .inr e) fun g hg' => ?_, by rw [List.map_append]; exact hW'⟩
  rcases hg' with hg' | hg'
  · exact .inl (.inl hg')
  · rcases hv with e | e
    · rw [e] at hg'; exact .inl (.inr hg')
    · have := (hW'.lt hg').2
      rw [e] at hg'; injection hg' with hg'
      exact .inr ⟨hg'.symm, by omega⟩
/-- The commutators with the entries ahead of a depth. -/
noncomputable def comms {p : Pr} [ConAll p] (t : Tab p) (d : Nat) (y : El p) (e : Nat) : List (El p) := (List.range e).filterMap fun k => if k = d then none else (t k).map (Grp.cm y)
section
variable {p : Pr} [hc : ConAll p] {t : Tab p} {d e : Nat} {y z : El p}
theorem comms_skip (h : e = d ∨ t e = none) : comms t d y (e + 1) = comms t d y e := by
  unfold comms; rw [List.range_succ, List.filterMap_append]
  rcases h with h | h <;> simp [h]
theorem comms_some (hne : e ≠ d) (h : t e = some z) : comms t d y (e + 1) = comms t d y e ++ [Grp.cm y z] := by
  unfold comms; rw [List.range_succ, List.filterMap_append]; simp [h, hne]
theorem comms_len : (comms t d y e).length ≤ e := by unfold comms; exact Nat.le_trans (List.length_filterMap_le _ _) (by simp)
theorem comms_mem {a : El p} : a ∈ comms t d y e ↔ ∃ k z, k < e ∧ k ≠ d ∧ t k = some z ∧ a = Grp.cm y z := by
  unfold comms
  rw [List.mem_filterMap]
  constructor
  · rintro ⟨k, hk, h⟩
    split at h
    · cases h
    · rename_i hne
      cases htk : t k with
      | none => rw [htk] at h; cases h
      | some z => rw [htk] at h; exact ⟨k, z, List.mem_range.1 hk, hne, htk, (Option.some.inj h).symm⟩
  · rintro ⟨k, z, hk, hne, htk, rfl⟩
    exact ⟨k, List.mem_range.2 hk, by simp [hne, htk]⟩
end
set_option maxHeartbeats 4000000 in
theorem l12Close_ok {p : Pr} [hc : ConAll p] {w : World} {vp vl : Value} {us : List Value} {ys : List (El p)} {xss : List (List Int)} {lo hi lo1 hi1 : Nat} [hp : Pres lo hi w vp p] [hl : Pc.Rows lo1 hi1 w vl us xss]
    (hx : xss = ys.map (T.v (p := p) (i := 0))) (hn : ys.length ≤ 100000) :
    Calls Try.prog 25 #[vp, vl] w (Ret fun v w' => Ext w w' ∧ ∃ us', Lst 22 w.heap.size (· < w.heap.size) w' v us' (canon (Gen (fun a : El p => a ∈ ys)))) := by
  have hv := hc.valid
  have hn6 := hv.n6
  have hol : p.ord.length = p.n := rfl
  replace hp := hp.wide
  replace hl := hl.wide
  obtain ⟨vo, vpw, vc, ps, cs, css, rfl, h1, h2, h3⟩ := hp.ex
  refine enter (args := [.agg #[vo, vpw, vc], vl]) (l := [.tmp 4]) Try.func25 rfl rfl Try.ntmps25 (by simp) ?_
  repeat (first | (show rops _ _ _ _ (_ :: _) _ _; first | refine ra (next := ?_) | refine rk (next := ?_) | refine rku (next := ?_)) | refine st_end ?_ | refine thn_normal ?_ | refine r_seq ?_ | refine r_region rfl ?_ | refine thn_exit ?_ | refine thn_ret ?_ | refine inBlk_normal ?_ | refine inBlk_ret ?_ | refine inBlk_hit ?_ | refine inBlk_miss (by decide) ?_ | refine forQ_exit ?_ | refine forQ_ret ?_ | refine loopQ_exit ?_ | refine loopQ_ret ?_ | refine r_block ?_ | refine r_skip ?_ | refine r_exit ?_ | refine r_ret ?_ | (show rwp _ _ (.cond _ _ _) _ _ _; first | refine c_t (h := ?_) | refine c_f (h := ?_)))
  refine st_box3 (by ((try simp only [ev_tmp, ev_const, ev_func, get_put, get_args, get_putL, get_putL_nil, Nat.reduceEqDiff, reduceIte, List.getD_cons_zero, List.getD_cons_succ, List.getD_nil]); first | done | with_reducible rfl)) (by first | exact True.intro | exact ⟨_, rfl, by ((try simp only [ev_tmp, ev_const, ev_func, get_put, get_args, get_putL, get_putL_nil, Nat.reduceEqDiff, reduceIte, List.getD_cons_zero, List.getD_cons_succ, List.getD_nil, Bool.not_true, Bool.not_false]); first | done | with_reducible rfl)⟩) fun w1 b he1 hb1 hs1 hc0 hc1 hc2 => ?_
  repeat (first | (show rops _ _ _ _ (_ :: _) _ _; first | refine ra (next := ?_) | refine rk (next := ?_) | refine rku (next := ?_)) | refine st_end ?_ | refine thn_normal ?_ | refine r_seq ?_ | refine r_region rfl ?_ | refine thn_exit ?_ | refine thn_ret ?_ | refine inBlk_normal ?_ | refine inBlk_ret ?_ | refine inBlk_hit ?_ | refine inBlk_miss (by decide) ?_ | refine forQ_exit ?_ | refine forQ_ret ?_ | refine loopQ_exit ?_ | refine loopQ_ret ?_ | refine r_block ?_ | refine r_skip ?_ | refine r_exit ?_ | refine r_ret ?_ | (show rwp _ _ (.cond _ _ _) _ _ _; first | refine c_t (h := ?_) | refine c_f (h := ?_)))
  refine st_make_nil (by ((try simp only [ev_tmp, ev_const, ev_func, get_put, get_args, get_putL, get_putL_nil, Nat.reduceEqDiff, reduceIte, List.getD_cons_zero, List.getD_cons_succ, List.getD_nil]); first | done | with_reducible rfl)) (by ((try simp only [ev_tmp, ev_const, ev_func, get_put, get_args, get_putL, get_putL_nil, Nat.reduceEqDiff, reduceIte, List.getD_cons_zero, List.getD_cons_succ, List.getD_nil]); first | done | with_reducible rfl)) (by omega) (by omega) (by first | exact True.intro | exact ⟨_, rfl, by ((try simp only [ev_tmp, ev_const, ev_func, get_put, get_args, get_putL, get_putL_nil, Nat.reduceEqDiff, reduceIte, List.getD_cons_zero, List.getD_cons_succ, List.getD_nil, Bool.not_true, Bool.not_false]); first | done | with_reducible rfl)⟩) fun w2 v2 he2 hs2 ho2 => ?_
  rw [hol] at ho2
  have hz1 := he1.size
  have hvb := ho2.toN_block
  have hxl : xss.length = ys.length := by rw [hx]; simp
  have hxr : ∀ i, (xss.getD i []).length ≤ 2000000 := by
    intro i
    subst hx
    by_cases hi : i < ys.length
    · simp [hi, ys[i].inr.len]; omega
    · simp [hi]
  repeat (first | (show rops _ _ _ _ (_ :: _) _ _; first | refine ra (next := ?_) | refine rk (next := ?_) | refine rku (next := ?_)) | refine st_end ?_ | refine thn_normal ?_ | refine r_seq ?_ | refine r_region rfl ?_ | refine thn_exit ?_ | refine thn_ret ?_ | refine inBlk_normal ?_ | refine inBlk_ret ?_ | refine inBlk_hit ?_ | refine inBlk_miss (by decide) ?_ | refine forQ_exit ?_ | refine forQ_ret ?_ | refine loopQ_exit ?_ | refine loopQ_ret ?_ | refine r_block ?_ | refine r_skip ?_ | refine r_exit ?_ | refine r_ret ?_ | (show rwp _ _ (.cond _ _ _) _ _ _; first | refine c_t (h := ?_) | refine c_f (h := ?_)))
  refine rc (l01Own2_ok (xss := xss) hxr ?_) (next := fun v3 w3 h4 => ?_)
  · omega
  obtain ⟨he3, us3, hW3⟩ := h4
  repeat (first | (show rops _ _ _ _ (_ :: _) _ _; first | refine ra (next := ?_) | refine rk (next := ?_) | refine rku (next := ?_)) | refine st_end ?_ | refine thn_normal ?_ | refine r_seq ?_ | refine r_region rfl ?_ | refine thn_exit ?_ | refine thn_ret ?_ | refine inBlk_normal ?_ | refine inBlk_ret ?_ | refine inBlk_hit ?_ | refine inBlk_miss (by decide) ?_ | refine forQ_exit ?_ | refine forQ_ret ?_ | refine loopQ_exit ?_ | refine loopQ_ret ?_ | refine r_block ?_ | refine r_skip ?_ | refine r_exit ?_ | refine r_ret ?_ | (show rwp _ _ (.cond _ _ _) _ _ _; first | refine c_t (h := ?_) | refine c_f (h := ?_)))
  have hT3 : Lst 22 w1.heap.size (fun g => g < w1.heap.size ∨ v3.ownBlock = some g) w3 v2 (List.replicate p.n nilv) (tabL (fun _ => none : Tab p)) := by
    have hT2 : Lst 22 w1.heap.size (fun g => g < w1.heap.size) w2 v2 (List.replicate p.n nilv) (tabL (fun _ => none : Tab p)) := by
      rw [tabL_none]
      exact Lst.ofNils ho2 (Nat.le_refl _) (by omega) (fun g hg => by omega)
    refine ⟨(hT2.ext he3).own, ((hT2.rows.weak (av' := fun g => (g < w1.heap.size ∨ v3.ownBlock = some g) ∨ v2.ownBlock = some g) fun g hg => ?_).ext he3), fun g hg h' => ?_, fun g hg => ?_⟩
    · rcases hg with (hg | hg) | hg
      · exact .inl (.inl hg)
      · exact .inr (hW3.lt hg).1
      · exact .inl (.inr hg)
    · rcases h' with h' | h'
      · exact hT2.free g hg h'
      · have := (hW3.lt h').1; have := (hT2.lt hg).2; omega
    · rcases hg with hg | hg
      · have := he2.size; have := he3.size; omega
      · exact (hW3.lt hg).2
  have hW3' : Lst 22 w2.heap.size (fun g => g < w2.heap.size) w3 v3 us3 (ys.map (T.v (p := p) (i := 0))) := hx ▸ hW3
  refine r_loop (fun m ρ w' => ∃ (vw : Value) (usT usW : List Value) (t : Tab p) (zs : List (El p)), Has ρ [(2, .pointer (some ⟨b, 0, none⟩)), (5, .int .i64 p.n), (6, v2), (7, vw)] ∧ Ext w1 w' ∧ Lst 22 w1.heap.size (fun g => g < w1.heap.size ∨ vw.ownBlock = some g) w' v2 usT (tabL t) ∧
    Lst 22 w2.heap.size (fun g => g < w2.heap.size) w' vw usW (zs.map (T.v (p := p) (i := 0))) ∧ Wk (fun a : El p => a ∈ ys) t (fun a => a ∈ zs) ∧ m = 8 * empt t + zs.length ∧ m ≤ ys.length + 48) (8 * empt (fun _ => none : Tab p) + ys.length) ?_ ?_
  · refine ⟨v3, _, us3, fun _ => none, ys, ?_, he2.trans he3, hT3, hW3', Wk.start, rfl, ?_⟩
    · ((try simp only [Has, ev_tmp, ev_const, ev_func, get_put, get_args, get_putL, get_putL_nil, Nat.reduceEqDiff, reduceIte, List.getD_cons_zero, List.getD_cons_succ, List.getD_nil]); repeat' (first | exact True.intro | apply And.intro | with_reducible rfl | exact int_congr (by first | omega | rfl)))
    · have := empt_le (fun _ => none : Tab p); omega
  rintro m ρ w4 ⟨vw, usT, usW, t, zs, hH4, he4, hT, hW, hWk, rfl, hm⟩
  refine rwp_has hH4 fun ρ0 => ?_
  have hTr := hT.toRows
  have hWr := hW.toRows
  have htl := tabL_len t
  repeat (first | (show rops _ _ _ _ (_ :: _) _ _; first | refine ra (next := ?_) | refine rk (next := ?_) | refine rku (next := ?_)) | refine st_end ?_ | refine thn_normal ?_ | refine r_seq ?_ | refine r_region rfl ?_ | refine thn_exit ?_ | refine thn_ret ?_ | refine inBlk_normal ?_ | refine inBlk_ret ?_ | refine inBlk_hit ?_ | refine inBlk_miss (by decide) ?_ | refine forQ_exit ?_ | refine forQ_ret ?_ | refine loopQ_exit ?_ | refine loopQ_ret ?_ | refine r_block ?_ | refine r_skip ?_ | refine r_exit ?_ | refine r_ret ?_ | (show rwp _ _ (.cond _ _ _) _ _ _; first | refine c_t (h := ?_) | refine c_f (h := ?_)))
  refine c_if (fun h4 => ?_) (fun h4 => ?_)
  · obtain ⟨zs, x, rfl⟩ : ∃ zs' x, zs = zs' ++ [x] := by
      have hne : zs ≠ [] := by rintro rfl; simp at h4
      exact ⟨zs.dropLast, zs.getLast hne, (List.dropLast_concat_getLast hne).symm⟩
    have hxe : ((zs ++ [x]).map (T.v (p := p) (i := 0))).getD (((zs ++ [x]).map (T.v (p := p) (i := 0))).length - 1) [] = x.v := by simp
    have hul : usW.length = zs.length + 1 := by rw [hW.len]; simp
    have hzl : ((zs ++ [x]).map (T.v (p := p) (i := 0))).length = zs.length + 1 := by simp
    have hzl2 : (zs ++ [x]).length = zs.length + 1 := by simp
    have hcut := hW.cutTo zs.length (by omega)
    have hcx : ((zs ++ [x]).map (T.v (p := p) (i := 0))).take zs.length = zs.map (T.v (p := p) (i := 0)) := by simp
    rw [hcx] at hcut
    repeat (first | (show rops _ _ _ _ (_ :: _) _ _; first | refine ra (next := ?_) | refine rk (next := ?_) | refine rku (next := ?_)) | refine st_end ?_ | refine thn_normal ?_ | refine r_seq ?_ | refine r_region rfl ?_ | refine thn_exit ?_ | refine thn_ret ?_ | refine inBlk_normal ?_ | refine inBlk_ret ?_ | refine inBlk_hit ?_ | refine inBlk_miss (by decide) ?_ | refine forQ_exit ?_ | refine forQ_ret ?_ | refine loopQ_exit ?_ | refine loopQ_ret ?_ | refine r_block ?_ | refine r_skip ?_ | refine r_exit ?_ | refine r_ret ?_ | (show rwp _ _ (.cond _ _ _) _ _ _; first | refine c_t (h := ?_) | refine c_f (h := ?_)))
    refine rc (l12Strip_ok hWk.ok (x := x) hxe) (next := fun v5 w5 h5 => ?_)
    obtain ⟨d, vr, r, rfl, he5, hf5, hL⟩ := h5
    rw [hzl, Nat.add_sub_cancel]
    have hz4 := he4.size
    have hz5 := he5.size
    have hT5 : Lst 22 w1.heap.size (fun g => g < w1.heap.size ∨ (cutTo vw zs.length).ownBlock = some g) w5 v2 usT (tabL t) := by rw [cutTo_block]; exact hT.ext he5
    have hW5 := hcut.ext he5
    repeat (first | (show rops _ _ _ _ (_ :: _) _ _; first | refine ra (next := ?_) | refine rk (next := ?_) | refine rku (next := ?_)) | refine st_end ?_ | refine thn_normal ?_ | refine r_seq ?_ | refine r_region rfl ?_ | refine thn_exit ?_ | refine thn_ret ?_ | refine inBlk_normal ?_ | refine inBlk_ret ?_ | refine inBlk_hit ?_ | refine inBlk_miss (by decide) ?_ | refine forQ_exit ?_ | refine forQ_ret ?_ | refine loopQ_exit ?_ | refine loopQ_ret ?_ | refine r_block ?_ | refine r_skip ?_ | refine r_exit ?_ | refine r_ret ?_ | (show rwp _ _ (.cond _ _ _) _ _ _; first | refine c_t (h := ?_) | refine c_f (h := ?_)))
    refine c_if (fun h5 => ?_) (fun h5 => ?_)
    · have hr1 : r = 1 := by
        have := hL.tl
        rw [show d = p.n by omega] at this
        exact this.end_
      subst hr1
      repeat (first | (show rops _ _ _ _ (_ :: _) _ _; first | refine ra (next := ?_) | refine rk (next := ?_) | refine rku (next := ?_)) | refine st_end ?_ | refine thn_normal ?_ | refine r_seq ?_ | refine r_region rfl ?_ | refine thn_exit ?_ | refine thn_ret ?_ | refine inBlk_normal ?_ | refine inBlk_ret ?_ | refine inBlk_hit ?_ | refine inBlk_miss (by decide) ?_ | refine forQ_exit ?_ | refine forQ_ret ?_ | refine loopQ_exit ?_ | refine loopQ_ret ?_ | refine r_block ?_ | refine r_skip ?_ | refine r_exit ?_ | refine r_ret ?_ | (show rwp _ _ (.cond _ _ _) _ _ _; first | refine c_t (h := ?_) | refine c_f (h := ?_)))
      refine loopQ_normal ?_ ⟨cutTo vw zs.length, usT, _, t, zs, ?_, he4.trans he5, ?_, hW5, hWk.drop hL.stp ?_ ?_, rfl, ?_⟩
      · omega
      · ((try simp only [Has, ev_tmp, ev_const, ev_func, get_put, get_args, get_putL, get_putL_nil, Nat.reduceEqDiff, reduceIte, List.getD_cons_zero, List.getD_cons_succ, List.getD_nil]); repeat' (first | exact True.intro | apply And.intro | with_reducible rfl | exact int_congr (by first | omega | rfl)))
      · exact hT5
      · intro a ha
        rcases List.mem_append.1 ha with ha | ha
        · exact .inr ha
        · exact .inl (List.mem_singleton.1 ha)
      · exact fun a ha => List.mem_append_left _ ha
      · omega
    · have hdn : d < p.n := by have := hL.le; omega
      obtain ⟨htd, hrd⟩ := hL.some hdn
      have hrr := r.inr.rng d hdn
      have hrl := r.inr.len
      have hod := hv.opos hdn
      have hpr := hv.prime d hdn
      have hfi := hf5.ints
      have hr0 : r.v.getD d 0 ≠ 0 := hrd
      repeat (first | (show rops _ _ _ _ (_ :: _) _ _; first | refine ra (next := ?_) | refine rk (next := ?_) | refine rku (next := ?_)) | refine st_end ?_ | refine thn_normal ?_ | refine r_seq ?_ | refine r_region rfl ?_ | refine thn_exit ?_ | refine thn_ret ?_ | refine inBlk_normal ?_ | refine inBlk_ret ?_ | refine inBlk_hit ?_ | refine inBlk_miss (by decide) ?_ | refine forQ_exit ?_ | refine forQ_ret ?_ | refine loopQ_exit ?_ | refine loopQ_ret ?_ | refine r_block ?_ | refine r_skip ?_ | refine r_exit ?_ | refine r_ret ?_ | (show rwp _ _ (.cond _ _ _) _ _ _; first | refine c_t (h := ?_) | refine c_f (h := ?_)))
      refine d_order [0, 1, 2, 3, 4, 5, 6, 7, 8, 9, 10, 11, 12, 13] (h := fun w6 he6 _ => ?_)
      repeat (first | refine da (next := ?_) | refine dsk (next := ?_) | refine dsku (next := ?_))
      refine dce (l01Inv_ok hpr ?_) (next := fun v7 w7 h7 => ?_)
      · exact ⟨by omega, hrr.2⟩
      obtain ⟨k, rfl, hk1, hk2, hk3, he7⟩ := h7
      refine dce (l10Pow_ok (p := p) (x := r) (k := k) rfl ?_) (next := fun v8 w8 h8 => ?_)
      · omega
      obtain ⟨he8, hf8⟩ := h8
      repeat (first | refine da (next := ?_) | refine dsk (next := ?_) | refine dsku (next := ?_))
      refine d_end (h := ?_)
      obtain ⟨y, hy⟩ : ∃ y, Grp.pwz r k = y := ⟨_, rfl⟩
      rw [hy] at hf8
      have hE5 := (he6.trans he7).trans he8
      have hz7 := (he6.trans he7).size
      have hz8 := he8.size
      have hT8 := hT5.ext hE5
      have hW8 := hW5.ext hE5
      have hO8 := hT8.toOwn hvb
      have hz24 : w2.heap.size ≤ w4.heap.size := by have := (hT.lt hvb).2; omega
      have hy8 : IntsAp (fun g => g < w5.heap.size) w8 v8 y.v := IntsAp.ofFr hf8 (fun g h => by omega)
      have hr8 : IntsAp (fun g => g < w4.heap.size) w8 vr r.v := (IntsAp.ofFr hf5 (fun g h => h)).ext hE5
      repeat (first | (show rops _ _ _ _ (_ :: _) _ _; first | refine ra (next := ?_) | refine rk (next := ?_) | refine rku (next := ?_)) | refine st_end ?_ | refine thn_normal ?_ | refine r_seq ?_ | refine r_region rfl ?_ | refine thn_exit ?_ | refine thn_ret ?_ | refine inBlk_normal ?_ | refine inBlk_ret ?_ | refine inBlk_hit ?_ | refine inBlk_miss (by decide) ?_ | refine forQ_exit ?_ | refine forQ_ret ?_ | refine loopQ_exit ?_ | refine loopQ_ret ?_ | refine r_block ?_ | refine r_skip ?_ | refine r_exit ?_ | refine r_ret ?_ | (show rwp _ _ (.cond _ _ _) _ _ _; first | refine c_t (h := ?_) | refine c_f (h := ?_)))
      refine st_store_val (h := hO8) (by ((try simp only [ev_tmp, ev_const, ev_func, get_put, get_args, get_putL, get_putL_nil, Nat.reduceEqDiff, reduceIte, List.getD_cons_zero, List.getD_cons_succ, List.getD_nil]); first | done | with_reducible rfl)) (by ((try simp only [ev_tmp, ev_const, ev_func, get_put, get_args, get_putL, get_putL_nil, Nat.reduceEqDiff, reduceIte, List.getD_cons_zero, List.getD_cons_succ, List.getD_nil]); first | done | with_reducible rfl)) ?_ ?_ (by first | exact True.intro | exact ⟨_, rfl, by ((try simp only [ev_tmp, ev_const, ev_func, get_put, get_args, get_putL, get_putL_nil, Nat.reduceEqDiff, reduceIte, List.getD_cons_zero, List.getD_cons_succ, List.getD_nil, Bool.not_true, Bool.not_false]); first | done | with_reducible rfl)⟩) fun w9 hc9 hs9 ho9 => ?_
      · exact hy8.ints.sl.one
      · rw [hT8.len, htl]; exact hdn
      have hT9 : Lst 22 w1.heap.size (fun g => g < w1.heap.size ∨ (cutTo vw zs.length).ownBlock = some g) w9 v2 (usT.set d v8) (tabL (Tab.set t d y)) := by
        rw [tabL_set]
        refine hT8.set hvb (hy8.weak fun g hg => .inl ?_) hc9 ho9 (by rw [hT8.len, htl]; exact hdn)
        rcases hg with (hg | hg) | hg
        · omega
        · exact (hW5.lt hg).2
        · exact (hT5.lt hg).2
      have hW9 := hW8.chg hc9 (by omega)
      have hr9 : IntsAp (fun g => g < w2.heap.size ∨ (cutTo vw zs.length).ownBlock = some g) w9 vr r.v := by
        refine (hr8.chg hc9 (by omega)).weak fun g hg => .inl ?_
        rcases hg with hg | hg
        · omega
        · rw [cutTo_block] at hg; exact (hW.lt hg).2
      have hy9 : IntsAp (fun g => g < w2.heap.size ∨ (cutTo vw zs.length).ownBlock = some g) w9 v8 y.v := by
        refine (hy8.chg hc9 (by omega)).weak fun g hg => .inl ?_
        rcases hg with hg | hg
        · omega
        · exact (hW5.lt hg).2
      have hE9 : Ext w1 w9 := hc9.ext ((he4.trans he5).trans hE5) (Nat.le_refl _)
      repeat (first | (show rops _ _ _ _ (_ :: _) _ _; first | refine ra (next := ?_) | refine rk (next := ?_) | refine rku (next := ?_)) | refine st_end ?_ | refine thn_normal ?_ | refine r_seq ?_ | refine r_region rfl ?_ | refine thn_exit ?_ | refine thn_ret ?_ | refine inBlk_normal ?_ | refine inBlk_ret ?_ | refine inBlk_hit ?_ | refine inBlk_miss (by decide) ?_ | refine forQ_exit ?_ | refine forQ_ret ?_ | refine loopQ_exit ?_ | refine loopQ_ret ?_ | refine r_block ?_ | refine r_skip ?_ | refine r_exit ?_ | refine r_ret ?_ | (show rwp _ _ (.cond _ _ _) _ _ _; first | refine c_t (h := ?_) | refine c_f (h := ?_)))
      refine st_slice1 (u := vr) (by ((try simp only [ev_tmp, ev_const, ev_func, get_put, get_args, get_putL, get_putL_nil, Nat.reduceEqDiff, reduceIte, List.getD_cons_zero, List.getD_cons_succ, List.getD_nil]); first | done | with_reducible rfl)) ?_ ?_ (by first | exact True.intro | exact ⟨_, rfl, by ((try simp only [ev_tmp, ev_const, ev_func, get_put, get_args, get_putL, get_putL_nil, Nat.reduceEqDiff, reduceIte, List.getD_cons_zero, List.getD_cons_succ, List.getD_nil, Bool.not_true, Bool.not_false]); first | done | with_reducible rfl)⟩) fun w10 v10 he10 hs10 ho10 => ?_
      · exact hr9.ints.sl.cells
      · rfl
      repeat (first | (show rops _ _ _ _ (_ :: _) _ _; first | refine ra (next := ?_) | refine rk (next := ?_) | refine rku (next := ?_)) | refine st_end ?_ | refine thn_normal ?_ | refine r_seq ?_ | refine r_region rfl ?_ | refine thn_exit ?_ | refine thn_ret ?_ | refine inBlk_normal ?_ | refine inBlk_ret ?_ | refine inBlk_hit ?_ | refine inBlk_miss (by decide) ?_ | refine forQ_exit ?_ | refine forQ_ret ?_ | refine loopQ_exit ?_ | refine loopQ_ret ?_ | refine r_block ?_ | refine r_skip ?_ | refine r_exit ?_ | refine r_ret ?_ | (show rwp _ _ (.cond _ _ _) _ _ _; first | refine c_t (h := ?_) | refine c_f (h := ?_)))
      have hT10 := hT9.ext he10
      have hW10 := hW9.ext he10
      have hO10 := hW10.own
      have hl10 : (usW.take zs.length).length = zs.length := by rw [List.length_take]; omega
      have hz9 := hE9.size
      have hz10 := he10.size
      refine st_append (hv := hO10) (hy := ho10) (by ((try simp only [ev_tmp, ev_const, ev_func, get_put, get_args, get_putL, get_putL_nil, Nat.reduceEqDiff, reduceIte, List.getD_cons_zero, List.getD_cons_succ, List.getD_nil]); first | done | with_reducible rfl)) (by ((try simp only [ev_tmp, ev_const, ev_func, get_put, get_args, get_putL, get_putL_nil, Nat.reduceEqDiff, reduceIte, List.getD_cons_zero, List.getD_cons_succ, List.getD_nil]); first | done | with_reducible rfl)) rfl ?_ ?_ ?_ ?_ (by first | exact True.intro | exact ⟨_, rfl, by ((try simp only [ev_tmp, ev_const, ev_func, get_put, get_args, get_putL, get_putL_nil, Nat.reduceEqDiff, reduceIte, List.getD_cons_zero, List.getD_cons_succ, List.getD_nil, Bool.not_true, Bool.not_false]); first | done | with_reducible rfl)⟩) fun v11 w11 ho11 hg11 ha11 => ?_
      · intro u hu
        rw [List.mem_singleton.1 hu]
        exact hr9.ints.sl.one
      · simp only [hl10, List.length_singleton]; omega
      · simp only [hl10, List.length_singleton, maxLen]; omega
      · omega
      obtain ⟨hT11, hW11⟩ := tw_push hT10 hW10 (hr9.ext he10) ho11 hg11 ha11
      have hy11 := (hy9.ext he10).push_ hg11 ha11
      have hE11 : Ext w1 w11 := (hE9.trans he10).app hg11 (fun k hk => by have := (hW10.lt hk).1; omega)
      obtain ⟨b', hb', hvb'⟩ := own_some v11 w2.heap.size w11.heap.size (by have := hg11.size; omega) (fun g h => (hW11.lt h).1)
      have ap1 : Apart 0 w.heap.size b' := ⟨.inr (by omega)⟩
      have ap2 : Apart b (b + 1) b' := ⟨.inr (by omega)⟩
      have hyi := hy11.ints
      repeat (first | (show rops _ _ _ _ (_ :: _) _ _; first | refine ra (next := ?_) | refine rk (next := ?_) | refine rku (next := ?_)) | refine st_end ?_ | refine thn_normal ?_ | refine r_seq ?_ | refine r_region rfl ?_ | refine thn_exit ?_ | refine thn_ret ?_ | refine inBlk_normal ?_ | refine inBlk_ret ?_ | refine inBlk_hit ?_ | refine inBlk_miss (by decide) ?_ | refine forQ_exit ?_ | refine forQ_ret ?_ | refine loopQ_exit ?_ | refine loopQ_ret ?_ | refine r_block ?_ | refine r_skip ?_ | refine r_exit ?_ | refine r_ret ?_ | (show rwp _ _ (.cond _ _ _) _ _ _; first | refine c_t (h := ?_) | refine c_f (h := ?_)))
      refine z_order b' (List.range 12) (h := fun w12 he12 _ => ?_)
      repeat refine za (next := ?_)
      refine zc (l10Pow_ok (p := p) (x := y) rfl ?_) (next := fun v13 w13 h13 => ?_)
      · have hoe : p.o d = p.ord.getD d 0 := rfl
        omega
      obtain ⟨he13, hf13⟩ := h13
      have hoe : p.o d = p.ord.getD d 0 := rfl
      rw [Grp.pwz_of y (by omega), ← hoe] at hf13
      refine z_slice1 (u := v13) (h := (by ((try simp only [ev_tmp, ev_const, ev_func, get_put, get_args, get_putL, get_putL_nil, Nat.reduceEqDiff, reduceIte, List.getD_cons_zero, List.getD_cons_succ, List.getD_nil]); first | done | with_reducible rfl))) (hu := ?_) (hz := ?_) (next := fun w14 v14 he14 hs14 ho14 => ?_)
      · exact hf13.ints.sl.cells
      · rfl
      have hE14 := (he12.trans he13).trans he14
      have hT14 := hT11.ext hE14
      have hW14 := hW11.ext hE14
      have hO14 := hW14.own
      have hz11 := hE11.size
      have hs11 := hg11.size
      have hz14 := hE14.size
      have hz12 := he12.size
      have hz13 := he13.size
      refine z_append (hv := hO14) (hy := ho14) (hs := (by ((try simp only [ev_tmp, ev_const, ev_func, get_put, get_args, get_putL, get_putL_nil, Nat.reduceEqDiff, reduceIte, List.getD_cons_zero, List.getD_cons_succ, List.getD_nil]); first | done | with_reducible rfl))) (hx := (by ((try simp only [ev_tmp, ev_const, ev_func, get_put, get_args, get_putL, get_putL_nil, Nat.reduceEqDiff, reduceIte, List.getD_cons_zero, List.getD_cons_succ, List.getD_nil]); first | done | with_reducible rfl))) (hz := rfl) (h1 := ?_) (hb := ?_) (hl := ?_) (hbase := ?_) (hvb := hvb') (next := fun v15 w15 ho15 hg15 ha15 => ?_)
      · intro u hu
        rw [List.mem_singleton.1 hu]
        exact hf13.ints.sl.one
      · simp only [List.length_append, hl10, List.length_singleton]; omega
      · simp only [List.length_append, hl10, List.length_singleton, maxLen]; omega
      · omega
      have hp14 : IntsAp (fun g => g < w2.heap.size ∨ v11.ownBlock = some g) w14 v13 (Grp.pw y (p.o d).toNat).v :=
        (IntsAp.ofFr hf13 (fun g hg => by
          rcases hg with hg | hg
          · omega
          · have := (hW11.lt hg).2; omega)).ext he14
      obtain ⟨hT15, hW15⟩ := tw_push hT14 hW14 hp14 ho15 hg15 ha15
      have hy15 := (hy11.ext hE14).push_ hg15 ha15
      have hE15 : Ext w1 w15 := (hE11.trans hE14).app hg15 (fun k hk => by have := (hW14.lt hk).1; omega)
      repeat refine za (next := ?_)
      refine z_end ?_
      clear hT5 hW5 hT8 hW8 hO8 hy8 hr8 hT9 hW9 hr9 hy9 hT10 hW10 hO10 hT11 hW11 hy11 hvb' hT14 hW14 hO14 hp14 ap1 ap2 ho9 ho10 ho11 ho14 ho15 hc9 hTr hWr hyi hfi
      repeat (first | (show rops _ _ _ _ (_ :: _) _ _; first | refine ra (next := ?_) | refine rk (next := ?_) | refine rku (next := ?_)) | refine st_end ?_ | refine thn_normal ?_ | refine r_seq ?_ | refine r_region rfl ?_ | refine thn_exit ?_ | refine thn_ret ?_ | refine inBlk_normal ?_ | refine inBlk_ret ?_ | refine inBlk_hit ?_ | refine inBlk_miss (by decide) ?_ | refine forQ_exit ?_ | refine forQ_ret ?_ | refine loopQ_exit ?_ | refine loopQ_ret ?_ | refine r_block ?_ | refine r_skip ?_ | refine r_exit ?_ | refine r_ret ?_ | (show rwp _ _ (.cond _ _ _) _ _ _; first | refine c_t (h := ?_) | refine c_f (h := ?_)))
      refine r_for p.n (fun e ρ w' => ∃ (vw : Value) (usT usW : List Value), Has ρ [(2, .pointer (some ⟨b, 0, none⟩)), (5, .int .i64 p.n), (6, v2), (7, vw), (9, .int .i64 d), (11, v8), (12, .int .i64 e)] ∧ Ext w1 w' ∧
        Lst 22 w1.heap.size (fun g => g < w1.heap.size ∨ vw.ownBlock = some g) w' v2 usT (tabL (Tab.set t d y)) ∧
        Lst 22 w2.heap.size (fun g => g < w2.heap.size) w' vw usW ((zs ++ [r] ++ [Grp.pw y (p.o d).toNat] ++ comms t d y e).map (T.v (p := p) (i := 0))) ∧ IntsAp (fun g => g < w2.heap.size ∨ vw.ownBlock = some g) w' v8 y.v) ?_ ?_
      · refine ⟨v15, _, usW.take zs.length ++ [vr] ++ [v13], ?_, hE15, hT15, ?_, hy15⟩
        · ((try simp only [Has, ev_tmp, ev_const, ev_func, get_put, get_args, get_putL, get_putL_nil, Nat.reduceEqDiff, reduceIte, List.getD_cons_zero, List.getD_cons_succ, List.getD_nil]); repeat' (first | exact True.intro | apply And.intro | with_reducible rfl | exact int_congr (by first | omega | rfl)))
        · have : comms t d y 0 = [] := rfl
          rw [this, List.append_nil]
          exact hW15
      rintro e ρ w16 he ⟨vw2, usT2, usW2, hH16, he16, hT16, hW16, hy16⟩
      refine rwp_has hH16 fun ρ1 => ?_
      have hTr := hT16.toRows
      have htl2 := tabL_len (Tab.set t d y)
      have hyi := hy16.ints
      have hz16 := he16.size
      have hz216 : w2.heap.size ≤ w16.heap.size := by have := (hT16.lt hvb).2; omega
      have hl16 : usW2.length = zs.length + 2 + (comms t d y e).length := by rw [hW16.len]; simp; omega
      have hcl := comms_len (t := t) (d := d) (y := y) (e := e)
      repeat (first | (show rops _ _ _ _ (_ :: _) _ _; first | refine ra (next := ?_) | refine rk (next := ?_) | refine rku (next := ?_)) | refine st_end ?_ | refine thn_normal ?_ | refine r_seq ?_ | refine r_region rfl ?_ | refine thn_exit ?_ | refine thn_ret ?_ | refine inBlk_normal ?_ | refine inBlk_ret ?_ | refine inBlk_hit ?_ | refine inBlk_miss (by decide) ?_ | refine forQ_exit ?_ | refine forQ_ret ?_ | refine loopQ_exit ?_ | refine loopQ_ret ?_ | refine r_block ?_ | refine r_skip ?_ | refine r_exit ?_ | refine r_ret ?_ | (show rwp _ _ (.cond _ _ _) _ _ _; first | refine c_t (h := ?_) | refine c_f (h := ?_)))
      refine c_if (fun h6 => ?_) (fun h6 => ?_)
      · have hen : e < p.n := by omega
        have hrow : (tabL (Tab.set t d y)).getD e [] = rowOf (Tab.set t d y) e := tabL_at _ hen
        repeat (first | (show rops _ _ _ _ (_ :: _) _ _; first | refine ra (next := ?_) | refine rk (next := ?_) | refine rku (next := ?_)) | refine st_end ?_ | refine thn_normal ?_ | refine r_seq ?_ | refine r_region rfl ?_ | refine thn_exit ?_ | refine thn_ret ?_ | refine inBlk_normal ?_ | refine inBlk_ret ?_ | refine inBlk_hit ?_ | refine inBlk_miss (by decide) ?_ | refine forQ_exit ?_ | refine forQ_ret ?_ | refine loopQ_exit ?_ | refine loopQ_ret ?_ | refine r_block ?_ | refine r_skip ?_ | refine r_exit ?_ | refine r_ret ?_ | (show rwp _ _ (.cond _ _ _) _ _ _; first | refine c_t (h := ?_) | refine c_f (h := ?_)))
        refine spd (fun h7 => ?_) (fun h7 => ?_)
        · have hed : e ≠ d := by omega
          have hte : Tab.set t d y e = t e := by unfold Tab.set; rw [if_neg hed]
          repeat (first | (show rops _ _ _ _ (_ :: _) _ _; first | refine ra (next := ?_) | refine rk (next := ?_) | refine rku (next := ?_)) | refine st_end ?_ | refine thn_normal ?_ | refine r_seq ?_ | refine r_region rfl ?_ | refine thn_exit ?_ | refine thn_ret ?_ | refine inBlk_normal ?_ | refine inBlk_ret ?_ | refine inBlk_hit ?_ | refine inBlk_miss (by decide) ?_ | refine forQ_exit ?_ | refine forQ_ret ?_ | refine loopQ_exit ?_ | refine loopQ_ret ?_ | refine r_block ?_ | refine r_skip ?_ | refine r_exit ?_ | refine r_ret ?_ | (show rwp _ _ (.cond _ _ _) _ _ _; first | refine c_t (h := ?_) | refine c_f (h := ?_)))
          refine c_if (fun h8 => ?_) (fun h8 => ?_)
          · rw [hrow] at h8
            obtain ⟨z, hz⟩ : ∃ z, t e = some z := by
              cases ez : t e with
              | none => rw [← hte] at ez; exact absurd ((rowOf_len hen).2 ez) (by omega)
              | some z => exact ⟨z, rfl⟩
            have hze : (tabL (Tab.set t d y)).getD e [] = z.v := by rw [hrow]; exact rowOf_some (by rw [hte]; exact hz)
            obtain ⟨b2, hb2, hvb2⟩ := own_some vw2 w2.heap.size w16.heap.size (by omega) (fun g h => (hW16.lt h).1)
            have ap1 : Apart 0 w.heap.size b2 := ⟨.inr (by omega)⟩
            have ap2 : Apart b (b + 1) b2 := ⟨.inr (by omega)⟩
            have ap3 : Apart w1.heap.size (w1.heap.size + 1) b2 := ⟨.inr (by omega)⟩
            have hul2 : usT2.length = p.n := by rw [hT16.len, htl2]
            have hS16 := (hT16.toOwn hvb).toSl
            repeat (first | (show rops _ _ _ _ (_ :: _) _ _; first | refine ra (next := ?_) | refine rk (next := ?_) | refine rku (next := ?_)) | refine st_end ?_ | refine thn_normal ?_ | refine r_seq ?_ | refine r_region rfl ?_ | refine thn_exit ?_ | refine thn_ret ?_ | refine inBlk_normal ?_ | refine inBlk_ret ?_ | refine inBlk_hit ?_ | refine inBlk_miss (by decide) ?_ | refine forQ_exit ?_ | refine forQ_ret ?_ | refine loopQ_exit ?_ | refine loopQ_ret ?_ | refine r_block ?_ | refine r_skip ?_ | refine r_exit ?_ | refine r_ret ?_ | (show rwp _ _ (.cond _ _ _) _ _ _; first | refine c_t (h := ?_) | refine c_f (h := ?_)))
            refine z_order b2 (List.range 11) (h := fun w17 he17 _ => ?_)
            repeat refine za (next := ?_)
            refine za (h := rz_load_sl (hx := hS16.same (he17.same _ _)) (by ((try simp only [ev_tmp, ev_const, ev_func, get_put, get_args, get_putL, get_putL_nil, Nat.reduceEqDiff, reduceIte, List.getD_cons_zero, List.getD_cons_succ, List.getD_nil]); first | done | with_reducible rfl)) (by omega)) (next := ?_)
            refine zc (l10Comm_ok (p := p) (x := y) (y := z) rfl hze) (next := fun v18 w18 h18 => ?_)
            obtain ⟨he18, hf18⟩ := h18
            refine z_slice1 (u := v18) (h := (by ((try simp only [ev_tmp, ev_const, ev_func, get_put, get_args, get_putL, get_putL_nil, Nat.reduceEqDiff, reduceIte, List.getD_cons_zero, List.getD_cons_succ, List.getD_nil]); first | done | with_reducible rfl))) (hu := ?_) (hz := ?_) (next := fun w19 v19 he19 hs19 ho19 => ?_)
            · exact hf18.ints.sl.cells
            · rfl
            have hE19 := (he17.trans he18).trans he19
            have hT19 := hT16.ext hE19
            have hW19 := hW16.ext hE19
            have hO19 := hW19.own
            have hz19 := hE19.size
            have hz17 := he17.size
            refine z_append (hv := hO19) (hy := ho19) (hs := (by ((try simp only [ev_tmp, ev_const, ev_func, get_put, get_args, get_putL, get_putL_nil, Nat.reduceEqDiff, reduceIte, List.getD_cons_zero, List.getD_cons_succ, List.getD_nil]); first | done | with_reducible rfl))) (hx := (by ((try simp only [ev_tmp, ev_const, ev_func, get_put, get_args, get_putL, get_putL_nil, Nat.reduceEqDiff, reduceIte, List.getD_cons_zero, List.getD_cons_succ, List.getD_nil]); first | done | with_reducible rfl))) (hz := rfl) (h1 := ?_) (hb := ?_) (hl := ?_) (hbase := ?_) (hvb := hvb2) (next := fun v20 w20 ho20 hg20 ha20 => ?_)
            · intro u hu
              rw [List.mem_singleton.1 hu]
              exact hf18.ints.sl.one
            · simp only [List.length_singleton]; omega
            · simp only [List.length_singleton, maxLen]; omega
            · omega
            have hp19 : IntsAp (fun g => g < w2.heap.size ∨ vw2.ownBlock = some g) w19 v18 (Grp.cm y z).v :=
              (IntsAp.ofFr hf18 (fun g hg => by
                rcases hg with hg | hg
                · omega
                · have := (hW16.lt hg).2; omega)).ext he19
            obtain ⟨hT20, hW20⟩ := tw_push hT19 hW19 hp19 ho20 hg20 ha20
            repeat refine za (next := ?_)
            refine z_end ?_
            repeat (first | (show rops _ _ _ _ (_ :: _) _ _; first | refine ra (next := ?_) | refine rk (next := ?_) | refine rku (next := ?_)) | refine st_end ?_ | refine thn_normal ?_ | refine r_seq ?_ | refine r_region rfl ?_ | refine thn_exit ?_ | refine thn_ret ?_ | refine inBlk_normal ?_ | refine inBlk_ret ?_ | refine inBlk_hit ?_ | refine inBlk_miss (by decide) ?_ | refine forQ_exit ?_ | refine forQ_ret ?_ | refine loopQ_exit ?_ | refine loopQ_ret ?_ | refine r_block ?_ | refine r_skip ?_ | refine r_exit ?_ | refine r_ret ?_ | (show rwp _ _ (.cond _ _ _) _ _ _; first | refine c_t (h := ?_) | refine c_f (h := ?_)))
            refine forQ_normal (by omega) ⟨v20, usT2, usW2 ++ [v18], ?_, (he16.trans hE19).app hg20 (fun k hk => by have := (hW19.lt hk).1; omega), hT20, ?_, (hy16.ext hE19).push_ hg20 ha20⟩
            · ((try simp only [Has, ev_tmp, ev_const, ev_func, get_put, get_args, get_putL, get_putL_nil, Nat.reduceEqDiff, reduceIte, List.getD_cons_zero, List.getD_cons_succ, List.getD_nil]); repeat' (first | exact True.intro | apply And.intro | with_reducible rfl | exact int_congr (by first | omega | rfl)))
            · rw [comms_some hed hz, ← List.append_assoc]; exact hW20
          · rw [hrow] at h8
            have hz : t e = none := by rw [← hte]; exact (rowOf_len hen).1 (by omega)
            repeat (first | (show rops _ _ _ _ (_ :: _) _ _; first | refine ra (next := ?_) | refine rk (next := ?_) | refine rku (next := ?_)) | refine st_end ?_ | refine thn_normal ?_ | refine r_seq ?_ | refine r_region rfl ?_ | refine thn_exit ?_ | refine thn_ret ?_ | refine inBlk_normal ?_ | refine inBlk_ret ?_ | refine inBlk_hit ?_ | refine inBlk_miss (by decide) ?_ | refine forQ_exit ?_ | refine forQ_ret ?_ | refine loopQ_exit ?_ | refine loopQ_ret ?_ | refine r_block ?_ | refine r_skip ?_ | refine r_exit ?_ | refine r_ret ?_ | (show rwp _ _ (.cond _ _ _) _ _ _; first | refine c_t (h := ?_) | refine c_f (h := ?_)))
            refine forQ_normal (by omega) ⟨vw2, usT2, usW2, ?_, he16, hT16, ?_, hy16⟩
            · ((try simp only [Has, ev_tmp, ev_const, ev_func, get_put, get_args, get_putL, get_putL_nil, Nat.reduceEqDiff, reduceIte, List.getD_cons_zero, List.getD_cons_succ, List.getD_nil]); repeat' (first | exact True.intro | apply And.intro | with_reducible rfl | exact int_congr (by first | omega | rfl)))
            · rw [comms_skip (.inr hz)]; exact hW16
        · have hed : e = d := by omega
          repeat (first | (show rops _ _ _ _ (_ :: _) _ _; first | refine ra (next := ?_) | refine rk (next := ?_) | refine rku (next := ?_)) | refine st_end ?_ | refine thn_normal ?_ | refine r_seq ?_ | refine r_region rfl ?_ | refine thn_exit ?_ | refine thn_ret ?_ | refine inBlk_normal ?_ | refine inBlk_ret ?_ | refine inBlk_hit ?_ | refine inBlk_miss (by decide) ?_ | refine forQ_exit ?_ | refine forQ_ret ?_ | refine loopQ_exit ?_ | refine loopQ_ret ?_ | refine r_block ?_ | refine r_skip ?_ | refine r_exit ?_ | refine r_ret ?_ | (show rwp _ _ (.cond _ _ _) _ _ _; first | refine c_t (h := ?_) | refine c_f (h := ?_)))
          refine forQ_normal (by omega) ⟨vw2, usT2, usW2, ?_, he16, hT16, ?_, hy16⟩
          · ((try simp only [Has, ev_tmp, ev_const, ev_func, get_put, get_args, get_putL, get_putL_nil, Nat.reduceEqDiff, reduceIte, List.getD_cons_zero, List.getD_cons_succ, List.getD_nil]); repeat' (first | exact True.intro | apply And.intro | with_reducible rfl | exact int_congr (by first | omega | rfl)))
          · rw [comms_skip (.inl hed)]; exact hW16
      · obtain rfl : e = p.n := by omega
        have hes := empt_set (y := y) hdn htd
        have hyk : y = Grp.pw r k.toNat := by rw [← hy, Grp.pwz_of r (by omega)]
        have hkk : ((k.toNat : Int) * co r d) % p.o d = 1 := by
          rw [Int.toNat_of_nonneg (by omega), Int.mul_comm]; exact hk3
        repeat (first | (show rops _ _ _ _ (_ :: _) _ _; first | refine ra (next := ?_) | refine rk (next := ?_) | refine rku (next := ?_)) | refine st_end ?_ | refine thn_normal ?_ | refine r_seq ?_ | refine r_region rfl ?_ | refine thn_exit ?_ | refine thn_ret ?_ | refine inBlk_normal ?_ | refine inBlk_ret ?_ | refine inBlk_hit ?_ | refine inBlk_miss (by decide) ?_ | refine forQ_exit ?_ | refine forQ_ret ?_ | refine loopQ_exit ?_ | refine loopQ_ret ?_ | refine r_block ?_ | refine r_skip ?_ | refine r_exit ?_ | refine r_ret ?_ | (show rwp _ _ (.cond _ _ _) _ _ _; first | refine c_t (h := ?_) | refine c_f (h := ?_)))
        refine loopQ_normal ?_ ⟨vw2, usT2, usW2, Tab.set t d y, zs ++ [r] ++ [Grp.pw y (p.o d).toNat] ++ comms t d y p.n, ?_, he16, hT16, hW16, ?_, rfl, ?_⟩
        · simp only [List.length_append, List.length_singleton]; omega
        · ((try simp only [Has, ev_tmp, ev_const, ev_func, get_put, get_args, get_putL, get_putL_nil, Nat.reduceEqDiff, reduceIte, List.getD_cons_zero, List.getD_cons_succ, List.getD_nil]); repeat' (first | exact True.intro | apply And.intro | with_reducible rfl | exact int_congr (by first | omega | rfl)))
        · refine hWk.fill hdn hL.stp (List.mem_append_right _ (List.mem_singleton.2 rfl)) hL.tl hrd htd hyk hkk ?_ ?_ ?_ ?_ ?_
          · intro a ha
            rcases List.mem_append.1 ha with ha | ha
            · exact .inr (by simp [ha])
            · exact .inl (List.mem_singleton.1 ha)
          · intro a ha
            rcases List.mem_append.1 ha with ha | ha
            · rcases List.mem_append.1 ha with ha | ha
              · rcases List.mem_append.1 ha with ha | ha
                · exact .inl (List.mem_append_left _ ha)
                · exact .inr (.inl (List.mem_singleton.1 ha))
              · exact .inr (.inr (.inl (List.mem_singleton.1 ha)))
            · obtain ⟨k, z, _, _, h8, h9⟩ := comms_mem.1 ha
              exact .inr (.inr (.inr ⟨k, z, h8, .inl h9⟩))
          · simp
          · simp
          · intro e z hz
            have hed : e ≠ d := by rintro rfl; rw [htd] at hz; cases hz
            exact .inl (List.mem_append_right _ (comms_mem.2 ⟨e, z, hWk.ok.lt e z hz, hed, hz, rfl⟩))
        · simp only [List.length_append, List.length_singleton]; omega
  · have hz0 : zs = [] := by
      cases zs with
      | nil => rfl
      | cons a l => exfalso; apply h4; simp
    subst hz0
    have hnone : ∀ a : El p, ¬ a ∈ ([] : List (El p)) := fun a h => by cases h
    have hfull := hWk.full hnone
    have hsz := he4.size
    repeat (first | (show rops _ _ _ _ (_ :: _) _ _; first | refine ra (next := ?_) | refine rk (next := ?_) | refine rku (next := ?_)) | refine st_end ?_ | refine thn_normal ?_ | refine r_seq ?_ | refine r_region rfl ?_ | refine thn_exit ?_ | refine thn_ret ?_ | refine inBlk_normal ?_ | refine inBlk_ret ?_ | refine inBlk_hit ?_ | refine inBlk_miss (by decide) ?_ | refine forQ_exit ?_ | refine forQ_ret ?_ | refine loopQ_exit ?_ | refine loopQ_ret ?_ | refine r_block ?_ | refine r_skip ?_ | refine r_exit ?_ | refine r_ret ?_ | (show rwp _ _ (.cond _ _ _) _ _ _; first | refine c_t (h := ?_) | refine c_f (h := ?_)))
    refine rc (l12Full_ok hfull (av := (· < w.heap.size)) (hT.rows.weak fun g hg => .inl (.inl (.inl (by omega)))) (fun g hg => by omega)) (next := fun v5 w5 h5 => ?_)
    obtain ⟨he5, us5, hL5⟩ := h5
    repeat (first | (show rops _ _ _ _ (_ :: _) _ _; first | refine ra (next := ?_) | refine rk (next := ?_) | refine rku (next := ?_)) | refine st_end ?_ | refine thn_normal ?_ | refine r_seq ?_ | refine r_region rfl ?_ | refine thn_exit ?_ | refine thn_ret ?_ | refine inBlk_normal ?_ | refine inBlk_ret ?_ | refine inBlk_hit ?_ | refine inBlk_miss (by decide) ?_ | refine forQ_exit ?_ | refine forQ_ret ?_ | refine loopQ_exit ?_ | refine loopQ_ret ?_ | refine r_block ?_ | refine r_skip ?_ | refine r_exit ?_ | refine r_ret ?_ | (show rwp _ _ (.cond _ _ _) _ _ _; first | refine c_t (h := ?_) | refine c_f (h := ?_)))
    rw [hWk.gen hnone] at hL5
    exact ret1 ⟨(he1.trans he4).trans he5, us5, hL5.mono (by omega)⟩
end Go.Proofs.Ytjcmdmjlhngjcaa

/-
  Walks: the reference's test of subgroups (l12Is, IsSubgroup).
  Conditions: stated at each theorem.
-/
namespace Go.Proofs.Ytjcmdmjlhngjcaa
open Go Go.Pc
/-- The presentation is a group, and the list is the canonical sequence of a subgroup of it. -/
def IsSubP (p : Pr) (xss : List (List Int)) : Prop := ∃ h : IsGrp p, @IsSeq p ⟨h.con⟩ xss
set_option maxHeartbeats 1000000 in
theorem l12Is_ok {p : Pr} [hc : ConAll p] {w : World} {vp vu : Value} {us : List Value} {xss : List (List Int)} {lo hi lo1 hi1 : Nat} [hp : Pres lo hi w vp p] [hu : Pc.Rows lo1 hi1 w vu us xss] :
    Calls Try.prog 15 #[vp, vu] w (Ret fun v w' => ∃ b, v = .bool b ∧ (b = true ↔ IsSeq p xss) ∧ Ext w w') := by
  have hv := hc.valid
  have hn6 := hv.n6
  have hol : p.ord.length = p.n := rfl
  obtain ⟨vo, vpw, vc, ps, cs, css, rfl, h1, h2, h3⟩ := hp.ex
  refine enter (args := [.agg #[vo, vpw, vc], vu]) (l := [.tmp 4]) Try.func15 rfl rfl Try.ntmps15 (by simp) ?_
  repeat (first | (show rops _ _ _ _ (_ :: _) _ _; first | refine ra (next := ?_) | refine rk (next := ?_) | refine rku (next := ?_)) | refine st_end ?_ | refine thn_normal ?_ | refine r_seq ?_ | refine r_region rfl ?_ | refine thn_exit ?_ | refine thn_ret ?_ | refine inBlk_normal ?_ | refine inBlk_ret ?_ | refine inBlk_hit ?_ | refine inBlk_miss (by decide) ?_ | refine forQ_exit ?_ | refine forQ_ret ?_ | refine loopQ_exit ?_ | refine loopQ_ret ?_ | refine r_block ?_ | refine r_skip ?_ | refine r_exit ?_ | refine r_ret ?_ | (show rwp _ _ (.cond _ _ _) _ _ _; first | refine c_t (h := ?_) | refine c_f (h := ?_)))
  refine st_box3 (by ((try simp only [ev_tmp, ev_const, ev_func, get_put, get_args, get_putL, get_putL_nil, Nat.reduceEqDiff, reduceIte, List.getD_cons_zero, List.getD_cons_succ, List.getD_nil]); first | done | with_reducible rfl)) (by first | exact True.intro | exact ⟨_, rfl, by ((try simp only [ev_tmp, ev_const, ev_func, get_put, get_args, get_putL, get_putL_nil, Nat.reduceEqDiff, reduceIte, List.getD_cons_zero, List.getD_cons_succ, List.getD_nil, Bool.not_true, Bool.not_false]); first | done | with_reducible rfl)⟩) fun w1 b he1 hb1 hs1 hc0 hc1 hc2 => ?_
  repeat (first | (show rops _ _ _ _ (_ :: _) _ _; first | refine ra (next := ?_) | refine rk (next := ?_) | refine rku (next := ?_)) | refine st_end ?_ | refine thn_normal ?_ | refine r_seq ?_ | refine r_region rfl ?_ | refine thn_exit ?_ | refine thn_ret ?_ | refine inBlk_normal ?_ | refine inBlk_ret ?_ | refine inBlk_hit ?_ | refine inBlk_miss (by decide) ?_ | refine forQ_exit ?_ | refine forQ_ret ?_ | refine loopQ_exit ?_ | refine loopQ_ret ?_ | refine r_block ?_ | refine r_skip ?_ | refine r_exit ?_ | refine r_ret ?_ | (show rwp _ _ (.cond _ _ _) _ _ _; first | refine c_t (h := ?_) | refine c_f (h := ?_)))
  refine spd (fun h4 => ?_) (fun h4 => ?_)
  · repeat (first | (show rops _ _ _ _ (_ :: _) _ _; first | refine ra (next := ?_) | refine rk (next := ?_) | refine rku (next := ?_)) | refine st_end ?_ | refine thn_normal ?_ | refine r_seq ?_ | refine r_region rfl ?_ | refine thn_exit ?_ | refine thn_ret ?_ | refine inBlk_normal ?_ | refine inBlk_ret ?_ | refine inBlk_hit ?_ | refine inBlk_miss (by decide) ?_ | refine forQ_exit ?_ | refine forQ_ret ?_ | refine loopQ_exit ?_ | refine loopQ_ret ?_ | refine r_block ?_ | refine r_skip ?_ | refine r_exit ?_ | refine r_ret ?_ | (show rwp _ _ (.cond _ _ _) _ _ _; first | refine c_t (h := ?_) | refine c_f (h := ?_)))
    refine rc (l10Elements_ok hv (xss := xss) ?_) (next := fun v5 w5 h5 => ?_)
    · omega
    obtain ⟨b5, rfl, hb5, he5⟩ := h5
    repeat (first | (show rops _ _ _ _ (_ :: _) _ _; first | refine ra (next := ?_) | refine rk (next := ?_) | refine rku (next := ?_)) | refine st_end ?_ | refine thn_normal ?_ | refine r_seq ?_ | refine r_region rfl ?_ | refine thn_exit ?_ | refine thn_ret ?_ | refine inBlk_normal ?_ | refine inBlk_ret ?_ | refine inBlk_hit ?_ | refine inBlk_miss (by decide) ?_ | refine forQ_exit ?_ | refine forQ_ret ?_ | refine loopQ_exit ?_ | refine loopQ_ret ?_ | refine r_block ?_ | refine r_skip ?_ | refine r_exit ?_ | refine r_ret ?_ | (show rwp _ _ (.cond _ _ _) _ _ _; first | refine c_t (h := ?_) | refine c_f (h := ?_)))
    refine sp (fun e5 => ?_) (fun e5 => ?_)
    · obtain ⟨ys, hys⟩ := els_of (hb5.1 e5)
      have hyl : xss.length = ys.length := by rw [hys]; simp
      repeat (first | (show rops _ _ _ _ (_ :: _) _ _; first | refine ra (next := ?_) | refine rk (next := ?_) | refine rku (next := ?_)) | refine st_end ?_ | refine thn_normal ?_ | refine r_seq ?_ | refine r_region rfl ?_ | refine thn_exit ?_ | refine thn_ret ?_ | refine inBlk_normal ?_ | refine inBlk_ret ?_ | refine inBlk_hit ?_ | refine inBlk_miss (by decide) ?_ | refine forQ_exit ?_ | refine forQ_ret ?_ | refine loopQ_exit ?_ | refine loopQ_ret ?_ | refine r_block ?_ | refine r_skip ?_ | refine r_exit ?_ | refine r_ret ?_ | (show rwp _ _ (.cond _ _ _) _ _ _; first | refine c_t (h := ?_) | refine c_f (h := ?_)))
      refine rc (l12Close_ok (ys := ys) hys ?_) (next := fun v6 w6 h6 => ?_)
      · omega
      obtain ⟨he6, us6, hL6⟩ := h6
      have hr6 := hL6.toRows
      have hcl := canTo_len (Gen (fun a : El p => a ∈ ys)) p.n
      rw [canTo_end] at hcl
      repeat (first | (show rops _ _ _ _ (_ :: _) _ _; first | refine ra (next := ?_) | refine rk (next := ?_) | refine rku (next := ?_)) | refine st_end ?_ | refine thn_normal ?_ | refine r_seq ?_ | refine r_region rfl ?_ | refine thn_exit ?_ | refine thn_ret ?_ | refine inBlk_normal ?_ | refine inBlk_ret ?_ | refine inBlk_hit ?_ | refine inBlk_miss (by decide) ?_ | refine forQ_exit ?_ | refine forQ_ret ?_ | refine loopQ_exit ?_ | refine loopQ_ret ?_ | refine r_block ?_ | refine r_skip ?_ | refine r_exit ?_ | refine r_ret ?_ | (show rwp _ _ (.cond _ _ _) _ _ _; first | refine c_t (h := ?_) | refine c_f (h := ?_)))
      refine rc (l01Same2_ok (xss := canon (Gen (fun a : El p => a ∈ ys))) (yss := xss) ?_ ?_) (next := fun v7 w7 h7 => ?_)
      · intro i
        have := canon_row (Gen (fun a : El p => a ∈ ys)) i
        omega
      · omega
      obtain ⟨b7, rfl, hb7, he7⟩ := h7
      repeat (first | (show rops _ _ _ _ (_ :: _) _ _; first | refine ra (next := ?_) | refine rk (next := ?_) | refine rku (next := ?_)) | refine st_end ?_ | refine thn_normal ?_ | refine r_seq ?_ | refine r_region rfl ?_ | refine thn_exit ?_ | refine thn_ret ?_ | refine inBlk_normal ?_ | refine inBlk_ret ?_ | refine inBlk_hit ?_ | refine inBlk_miss (by decide) ?_ | refine forQ_exit ?_ | refine forQ_ret ?_ | refine loopQ_exit ?_ | refine loopQ_ret ?_ | refine r_block ?_ | refine r_skip ?_ | refine r_exit ?_ | refine r_ret ?_ | (show rwp _ _ (.cond _ _ _) _ _ _; first | refine c_t (h := ?_) | refine c_f (h := ?_)))
      refine ret1 ⟨_, rfl, hb7.trans ⟨fun h => ⟨ys, hys, h⟩, ?_⟩, ((he1.trans he5).trans he6).trans he7⟩
      rintro ⟨zs, hzs, h⟩
      obtain rfl : ys = zs := vecs_inj (hys.symm.trans hzs)
      exact h
    · repeat (first | (show rops _ _ _ _ (_ :: _) _ _; first | refine ra (next := ?_) | refine rk (next := ?_) | refine rku (next := ?_)) | refine st_end ?_ | refine thn_normal ?_ | refine r_seq ?_ | refine r_region rfl ?_ | refine thn_exit ?_ | refine thn_ret ?_ | refine inBlk_normal ?_ | refine inBlk_ret ?_ | refine inBlk_hit ?_ | refine inBlk_miss (by decide) ?_ | refine forQ_exit ?_ | refine forQ_ret ?_ | refine loopQ_exit ?_ | refine loopQ_ret ?_ | refine r_block ?_ | refine r_skip ?_ | refine r_exit ?_ | refine r_ret ?_ | (show rwp _ _ (.cond _ _ _) _ _ _; first | refine c_t (h := ?_) | refine c_f (h := ?_)))
      refine ret1 ⟨_, rfl, ?_, he1.trans he5⟩
      simp only [Bool.false_eq_true, false_iff]
      rintro ⟨ys, hys, _⟩
      have := hb5.2 (by rw [hys]; exact fun i hi => vecs_in hi)
      rw [e5] at this; cases this
  · repeat (first | (show rops _ _ _ _ (_ :: _) _ _; first | refine ra (next := ?_) | refine rk (next := ?_) | refine rku (next := ?_)) | refine st_end ?_ | refine thn_normal ?_ | refine r_seq ?_ | refine r_region rfl ?_ | refine thn_exit ?_ | refine thn_ret ?_ | refine inBlk_normal ?_ | refine inBlk_ret ?_ | refine inBlk_hit ?_ | refine inBlk_miss (by decide) ?_ | refine forQ_exit ?_ | refine forQ_ret ?_ | refine loopQ_exit ?_ | refine loopQ_ret ?_ | refine r_block ?_ | refine r_skip ?_ | refine r_exit ?_ | refine r_ret ?_ | (show rwp _ _ (.cond _ _ _) _ _ _; first | refine c_t (h := ?_) | refine c_f (h := ?_)))
    refine ret1 ⟨_, rfl, ?_, he1⟩
    simp only [Bool.false_eq_true, false_iff]
    intro h
    have := h.len
    omega
set_option maxHeartbeats 1000000 in
theorem spec_IsSubgroup_ok {p : Pr} {w : World} {vp vu : Value} {us : List Value} {xss : List (List Int)} {lo hi lo1 hi1 : Nat} [hp : Pres lo hi w vp p] [hu : Pc.Rows lo1 hi1 w vu us xss] (hl : p.ord.length ≤ 2000000) :
    Calls Try.prog 6 #[vp, vu] w (Ret fun v w' => ∃ b, v = .bool b ∧ (b = true ↔ IsSubP p xss) ∧ Ext w w') := by
  obtain ⟨vo, vpw, vc, ps, cs, css, rfl, h1, h2, h3⟩ := hp.ex
  refine enter (args := [.agg #[vo, vpw, vc], vu]) (l := [.tmp 4]) Try.func6 rfl rfl Try.ntmps6 (by simp) ?_
  repeat (first | (show rops _ _ _ _ (_ :: _) _ _; first | refine ra (next := ?_) | refine rk (next := ?_) | refine rku (next := ?_)) | refine st_end ?_ | refine thn_normal ?_ | refine r_seq ?_ | refine r_region rfl ?_ | refine thn_exit ?_ | refine thn_ret ?_ | refine inBlk_normal ?_ | refine inBlk_ret ?_ | refine inBlk_hit ?_ | refine inBlk_miss (by decide) ?_ | refine forQ_exit ?_ | refine forQ_ret ?_ | refine loopQ_exit ?_ | refine loopQ_ret ?_ | refine r_block ?_ | refine r_skip ?_ | refine r_exit ?_ | refine r_ret ?_ | (show rwp _ _ (.cond _ _ _) _ _ _; first | refine c_t (h := ?_) | refine c_f (h := ?_)))
  refine st_box3 (by ((try simp only [ev_tmp, ev_const, ev_func, get_put, get_args, get_putL, get_putL_nil, Nat.reduceEqDiff, reduceIte, List.getD_cons_zero, List.getD_cons_succ, List.getD_nil]); first | done | with_reducible rfl)) (by first | exact True.intro | exact ⟨_, rfl, by ((try simp only [ev_tmp, ev_const, ev_func, get_put, get_args, get_putL, get_putL_nil, Nat.reduceEqDiff, reduceIte, List.getD_cons_zero, List.getD_cons_succ, List.getD_nil, Bool.not_true, Bool.not_false]); first | done | with_reducible rfl)⟩) fun w1 b he1 hb1 hs1 hc0 hc1 hc2 => ?_
  repeat (first | (show rops _ _ _ _ (_ :: _) _ _; first | refine ra (next := ?_) | refine rk (next := ?_) | refine rku (next := ?_)) | refine st_end ?_ | refine thn_normal ?_ | refine r_seq ?_ | refine r_region rfl ?_ | refine thn_exit ?_ | refine thn_ret ?_ | refine inBlk_normal ?_ | refine inBlk_ret ?_ | refine inBlk_hit ?_ | refine inBlk_miss (by decide) ?_ | refine forQ_exit ?_ | refine forQ_ret ?_ | refine loopQ_exit ?_ | refine loopQ_ret ?_ | refine r_block ?_ | refine r_skip ?_ | refine r_exit ?_ | refine r_ret ?_ | (show rwp _ _ (.cond _ _ _) _ _ _; first | refine c_t (h := ?_) | refine c_f (h := ?_)))
  refine rc (l08Group_ok hl) (next := fun v5 w5 h5 => ?_)
  obtain ⟨b5, rfl, hb5, he5⟩ := h5
  repeat (first | (show rops _ _ _ _ (_ :: _) _ _; first | refine ra (next := ?_) | refine rk (next := ?_) | refine rku (next := ?_)) | refine st_end ?_ | refine thn_normal ?_ | refine r_seq ?_ | refine r_region rfl ?_ | refine thn_exit ?_ | refine thn_ret ?_ | refine inBlk_normal ?_ | refine inBlk_ret ?_ | refine inBlk_hit ?_ | refine inBlk_miss (by decide) ?_ | refine forQ_exit ?_ | refine forQ_ret ?_ | refine loopQ_exit ?_ | refine loopQ_ret ?_ | refine r_block ?_ | refine r_skip ?_ | refine r_exit ?_ | refine r_ret ?_ | (show rwp _ _ (.cond _ _ _) _ _ _; first | refine c_t (h := ?_) | refine c_f (h := ?_)))
  refine sp (fun e5 => ?_) (fun e5 => ?_)
  · have hG := hb5.1 e5
    haveI : ConAll p := ⟨hG.con⟩
    repeat (first | (show rops _ _ _ _ (_ :: _) _ _; first | refine ra (next := ?_) | refine rk (next := ?_) | refine rku (next := ?_)) | refine st_end ?_ | refine thn_normal ?_ | refine r_seq ?_ | refine r_region rfl ?_ | refine thn_exit ?_ | refine thn_ret ?_ | refine inBlk_normal ?_ | refine inBlk_ret ?_ | refine inBlk_hit ?_ | refine inBlk_miss (by decide) ?_ | refine forQ_exit ?_ | refine forQ_ret ?_ | refine loopQ_exit ?_ | refine loopQ_ret ?_ | refine r_block ?_ | refine r_skip ?_ | refine r_exit ?_ | refine r_ret ?_ | (show rwp _ _ (.cond _ _ _) _ _ _; first | refine c_t (h := ?_) | refine c_f (h := ?_)))
    refine rc (l12Is_ok (xss := xss)) (next := fun v6 w6 h6 => ?_)
    obtain ⟨b6, rfl, hb6, he6⟩ := h6
    repeat (first | (show rops _ _ _ _ (_ :: _) _ _; first | refine ra (next := ?_) | refine rk (next := ?_) | refine rku (next := ?_)) | refine st_end ?_ | refine thn_normal ?_ | refine r_seq ?_ | refine r_region rfl ?_ | refine thn_exit ?_ | refine thn_ret ?_ | refine inBlk_normal ?_ | refine inBlk_ret ?_ | refine inBlk_hit ?_ | refine inBlk_miss (by decide) ?_ | refine forQ_exit ?_ | refine forQ_ret ?_ | refine loopQ_exit ?_ | refine loopQ_ret ?_ | refine r_block ?_ | refine r_skip ?_ | refine r_exit ?_ | refine r_ret ?_ | (show rwp _ _ (.cond _ _ _) _ _ _; first | refine c_t (h := ?_) | refine c_f (h := ?_)))
    exact ret1 ⟨_, rfl, hb6.trans ⟨fun h => ⟨hG, h⟩, fun ⟨_, h⟩ => h⟩, (he1.trans he5).trans he6⟩
  · repeat (first | (show rops _ _ _ _ (_ :: _) _ _; first | refine ra (next := ?_) | refine rk (next := ?_) | refine rku (next := ?_)) | refine st_end ?_ | refine thn_normal ?_ | refine r_seq ?_ | refine r_region rfl ?_ | refine thn_exit ?_ | refine thn_ret ?_ | refine inBlk_normal ?_ | refine inBlk_ret ?_ | refine inBlk_hit ?_ | refine inBlk_miss (by decide) ?_ | refine forQ_exit ?_ | refine forQ_ret ?_ | refine loopQ_exit ?_ | refine loopQ_ret ?_ | refine r_block ?_ | refine r_skip ?_ | refine r_exit ?_ | refine r_ret ?_ | (show rwp _ _ (.cond _ _ _) _ _ _; first | refine c_t (h := ?_) | refine c_f (h := ?_)))
    refine ret1 ⟨_, rfl, ?_, he1.trans he5⟩
    simp only [Bool.false_eq_true, false_iff]
    rintro ⟨h, _⟩
    have := hb5.2 h
    rw [e5] at this; cases this
end Go.Proofs.Ytjcmdmjlhngjcaa

/-
  Walks: the program's small functions on lists, and those of package slices that it calls.
  Conditions: stated at each theorem: what the arguments read as, and that lists are short.
-/
namespace Go.Proofs.Ytjcmdmjlhngjcaa
open Go Go.Pc
theorem inside_ok {n l h : Int} {w : World} : Calls Try.prog 44 #[.int .i64 n, .int .i64 l, .int .i64 h] w (Ret fun v w' => ∃ b, v = .bool b ∧ (b = true ↔ l ≤ n ∧ n ≤ h) ∧ Ext w w') := by
  refine enter (args := [.int .i64 n, .int .i64 l, .int .i64 h]) (l := [.tmp 6]) Try.func44 rfl rfl Try.ntmps44 (by simp) ?_
  repeat (first | (show rops _ _ _ _ (_ :: _) _ _; first | refine ra (next := ?_) | refine rk (next := ?_) | refine rku (next := ?_)) | refine st_end ?_ | refine thn_normal ?_ | refine r_seq ?_ | refine r_region rfl ?_ | refine thn_exit ?_ | refine thn_ret ?_ | refine inBlk_normal ?_ | refine inBlk_ret ?_ | refine inBlk_hit ?_ | refine inBlk_miss (by decide) ?_ | refine forQ_exit ?_ | refine forQ_ret ?_ | refine loopQ_exit ?_ | refine loopQ_ret ?_ | refine r_block ?_ | refine r_skip ?_ | refine r_exit ?_ | refine r_ret ?_ | (show rwp _ _ (.cond _ _ _) _ _ _; first | refine c_t (h := ?_) | refine c_f (h := ?_)))
  refine spd (fun h1 => ?_) (fun h1 => ?_)
  · repeat (first | (show rops _ _ _ _ (_ :: _) _ _; first | refine ra (next := ?_) | refine rk (next := ?_) | refine rku (next := ?_)) | refine st_end ?_ | refine thn_normal ?_ | refine r_seq ?_ | refine r_region rfl ?_ | refine thn_exit ?_ | refine thn_ret ?_ | refine inBlk_normal ?_ | refine inBlk_ret ?_ | refine inBlk_hit ?_ | refine inBlk_miss (by decide) ?_ | refine forQ_exit ?_ | refine forQ_ret ?_ | refine loopQ_exit ?_ | refine loopQ_ret ?_ | refine r_block ?_ | refine r_skip ?_ | refine r_exit ?_ | refine r_ret ?_ | (show rwp _ _ (.cond _ _ _) _ _ _; first | refine c_t (h := ?_) | refine c_f (h := ?_)))
    refine ret1 ⟨_, rfl, ?_, Ext.refl _⟩
    simp [h1]
  · repeat (first | (show rops _ _ _ _ (_ :: _) _ _; first | refine ra (next := ?_) | refine rk (next := ?_) | refine rku (next := ?_)) | refine st_end ?_ | refine thn_normal ?_ | refine r_seq ?_ | refine r_region rfl ?_ | refine thn_exit ?_ | refine thn_ret ?_ | refine inBlk_normal ?_ | refine inBlk_ret ?_ | refine inBlk_hit ?_ | refine inBlk_miss (by decide) ?_ | refine forQ_exit ?_ | refine forQ_ret ?_ | refine loopQ_exit ?_ | refine loopQ_ret ?_ | refine r_block ?_ | refine r_skip ?_ | refine r_exit ?_ | refine r_ret ?_ | (show rwp _ _ (.cond _ _ _) _ _ _; first | refine c_t (h := ?_) | refine c_f (h := ?_)))
    refine ret1 ⟨_, rfl, ?_, Ext.refl _⟩
    simp [h1]
theorem IsGroupPrime_ok {n : Int} {w : World} : Calls Try.prog 57 #[.int .i64 n] w (Ret fun v w' => ∃ b, v = .bool b ∧ (b = true ↔ (n = 2 ∨ n = 3 ∨ n = 5 ∨ n = 7)) ∧ Ext w w') := by
  refine enter (args := [.int .i64 n]) (l := [.tmp 2]) Try.func57 rfl rfl Try.ntmps57 (by simp) ?_
  repeat (first | (show rops _ _ _ _ (_ :: _) _ _; first | refine ra (next := ?_) | refine rk (next := ?_) | refine rku (next := ?_)) | refine st_end ?_ | refine thn_normal ?_ | refine r_seq ?_ | refine r_region rfl ?_ | refine thn_exit ?_ | refine thn_ret ?_ | refine inBlk_normal ?_ | refine inBlk_ret ?_ | refine inBlk_hit ?_ | refine inBlk_miss (by decide) ?_ | refine forQ_exit ?_ | refine forQ_ret ?_ | refine loopQ_exit ?_ | refine loopQ_ret ?_ | refine r_block ?_ | refine r_skip ?_ | refine r_exit ?_ | refine r_ret ?_ | (show rwp _ _ (.cond _ _ _) _ _ _; first | refine c_t (h := ?_) | refine c_f (h := ?_)))
  refine spd (fun h1 => ?_) (fun h1 => ?_)
  · repeat (first | (show rops _ _ _ _ (_ :: _) _ _; first | refine ra (next := ?_) | refine rk (next := ?_) | refine rku (next := ?_)) | refine st_end ?_ | refine thn_normal ?_ | refine r_seq ?_ | refine r_region rfl ?_ | refine thn_exit ?_ | refine thn_ret ?_ | refine inBlk_normal ?_ | refine inBlk_ret ?_ | refine inBlk_hit ?_ | refine inBlk_miss (by decide) ?_ | refine forQ_exit ?_ | refine forQ_ret ?_ | refine loopQ_exit ?_ | refine loopQ_ret ?_ | refine r_block ?_ | refine r_skip ?_ | refine r_exit ?_ | refine r_ret ?_ | (show rwp _ _ (.cond _ _ _) _ _ _; first | refine c_t (h := ?_) | refine c_f (h := ?_)))
    refine ret1 ⟨_, rfl, ?_, Ext.refl _⟩
    simp [h1]
  · repeat (first | (show rops _ _ _ _ (_ :: _) _ _; first | refine ra (next := ?_) | refine rk (next := ?_) | refine rku (next := ?_)) | refine st_end ?_ | refine thn_normal ?_ | refine r_seq ?_ | refine r_region rfl ?_ | refine thn_exit ?_ | refine thn_ret ?_ | refine inBlk_normal ?_ | refine inBlk_ret ?_ | refine inBlk_hit ?_ | refine inBlk_miss (by decide) ?_ | refine forQ_exit ?_ | refine forQ_ret ?_ | refine loopQ_exit ?_ | refine loopQ_ret ?_ | refine r_block ?_ | refine r_skip ?_ | refine r_exit ?_ | refine r_ret ?_ | (show rwp _ _ (.cond _ _ _) _ _ _; first | refine c_t (h := ?_) | refine c_f (h := ?_)))
    refine spd (fun h2 => ?_) (fun h2 => ?_)
    · repeat (first | (show rops _ _ _ _ (_ :: _) _ _; first | refine ra (next := ?_) | refine rk (next := ?_) | refine rku (next := ?_)) | refine st_end ?_ | refine thn_normal ?_ | refine r_seq ?_ | refine r_region rfl ?_ | refine thn_exit ?_ | refine thn_ret ?_ | refine inBlk_normal ?_ | refine inBlk_ret ?_ | refine inBlk_hit ?_ | refine inBlk_miss (by decide) ?_ | refine forQ_exit ?_ | refine forQ_ret ?_ | refine loopQ_exit ?_ | refine loopQ_ret ?_ | refine r_block ?_ | refine r_skip ?_ | refine r_exit ?_ | refine r_ret ?_ | (show rwp _ _ (.cond _ _ _) _ _ _; first | refine c_t (h := ?_) | refine c_f (h := ?_)))
      refine ret1 ⟨_, rfl, ?_, Ext.refl _⟩
      simp [h2]
    · repeat (first | (show rops _ _ _ _ (_ :: _) _ _; first | refine ra (next := ?_) | refine rk (next := ?_) | refine rku (next := ?_)) | refine st_end ?_ | refine thn_normal ?_ | refine r_seq ?_ | refine r_region rfl ?_ | refine thn_exit ?_ | refine thn_ret ?_ | refine inBlk_normal ?_ | refine inBlk_ret ?_ | refine inBlk_hit ?_ | refine inBlk_miss (by decide) ?_ | refine forQ_exit ?_ | refine forQ_ret ?_ | refine loopQ_exit ?_ | refine loopQ_ret ?_ | refine r_block ?_ | refine r_skip ?_ | refine r_exit ?_ | refine r_ret ?_ | (show rwp _ _ (.cond _ _ _) _ _ _; first | refine c_t (h := ?_) | refine c_f (h := ?_)))
      refine spd (fun h3 => ?_) (fun h3 => ?_)
      · repeat (first | (show rops _ _ _ _ (_ :: _) _ _; first | refine ra (next := ?_) | refine rk (next := ?_) | refine rku (next := ?_)) | refine st_end ?_ | refine thn_normal ?_ | refine r_seq ?_ | refine r_region rfl ?_ | refine thn_exit ?_ | refine thn_ret ?_ | refine inBlk_normal ?_ | refine inBlk_ret ?_ | refine inBlk_hit ?_ | refine inBlk_miss (by decide) ?_ | refine forQ_exit ?_ | refine forQ_ret ?_ | refine loopQ_exit ?_ | refine loopQ_ret ?_ | refine r_block ?_ | refine r_skip ?_ | refine r_exit ?_ | refine r_ret ?_ | (show rwp _ _ (.cond _ _ _) _ _ _; first | refine c_t (h := ?_) | refine c_f (h := ?_)))
        refine ret1 ⟨_, rfl, ?_, Ext.refl _⟩
        simp [h3]
      · repeat (first | (show rops _ _ _ _ (_ :: _) _ _; first | refine ra (next := ?_) | refine rk (next := ?_) | refine rku (next := ?_)) | refine st_end ?_ | refine thn_normal ?_ | refine r_seq ?_ | refine r_region rfl ?_ | refine thn_exit ?_ | refine thn_ret ?_ | refine inBlk_normal ?_ | refine inBlk_ret ?_ | refine inBlk_hit ?_ | refine inBlk_miss (by decide) ?_ | refine forQ_exit ?_ | refine forQ_ret ?_ | refine loopQ_exit ?_ | refine loopQ_ret ?_ | refine r_block ?_ | refine r_skip ?_ | refine r_exit ?_ | refine r_ret ?_ | (show rwp _ _ (.cond _ _ _) _ _ _; first | refine c_t (h := ?_) | refine c_f (h := ?_)))
        refine ret1 ⟨_, rfl, ?_, Ext.refl _⟩
        simp [h1, h2, h3]
set_option maxHeartbeats 400000 in
theorem isZero_ok {w : World} {v : Value} {xs : List Int} {lo hi : Nat} [hx : Ints lo hi w v xs] (hl : xs.length ≤ 2000000) :
    Calls Try.prog 71 #[v] w (Ret fun v w' => ∃ b, v = .bool b ∧ (b = true ↔ ∀ i, i < xs.length → xs.getD i 0 = 0) ∧ Ext w w') := by
  refine enter (args := [v]) (l := [.tmp 2]) Try.func71 rfl rfl Try.ntmps71 (by simp) ?_
  repeat (first | (show rops _ _ _ _ (_ :: _) _ _; first | refine ra (next := ?_) | refine rk (next := ?_) | refine rku (next := ?_)) | refine st_end ?_ | refine thn_normal ?_ | refine r_seq ?_ | refine r_region rfl ?_ | refine thn_exit ?_ | refine thn_ret ?_ | refine inBlk_normal ?_ | refine inBlk_ret ?_ | refine inBlk_hit ?_ | refine inBlk_miss (by decide) ?_ | refine forQ_exit ?_ | refine forQ_ret ?_ | refine loopQ_exit ?_ | refine loopQ_ret ?_ | refine r_block ?_ | refine r_skip ?_ | refine r_exit ?_ | refine r_ret ?_ | (show rwp _ _ (.cond _ _ _) _ _ _; first | refine c_t (h := ?_) | refine c_f (h := ?_)))
  refine r_for xs.length (fun k ρ w' => Has ρ [(0, v), (5, v), (6, .int .i64 xs.length), (7, .int .i64 k)] ∧ Ext w w' ∧ ∀ i, i < k → xs.getD i 0 = 0) ?_ ?_
  · refine ⟨?_, Ext.refl _, fun i hi => by omega⟩
    ((try simp only [Has, ev_tmp, ev_const, ev_func, get_put, get_args, get_putL, get_putL_nil, Nat.reduceEqDiff, reduceIte, List.getD_cons_zero, List.getD_cons_succ, List.getD_nil]); repeat' (first | exact True.intro | apply And.intro | with_reducible rfl | exact int_congr (by first | omega | rfl)))
  rintro k ρ w2 hk ⟨hH, he2, hI⟩
  refine rwp_has hH fun ρ0 => ?_
  repeat (first | (show rops _ _ _ _ (_ :: _) _ _; first | refine ra (next := ?_) | refine rk (next := ?_) | refine rku (next := ?_)) | refine st_end ?_ | refine thn_normal ?_ | refine r_seq ?_ | refine r_region rfl ?_ | refine thn_exit ?_ | refine thn_ret ?_ | refine inBlk_normal ?_ | refine inBlk_ret ?_ | refine inBlk_hit ?_ | refine inBlk_miss (by decide) ?_ | refine forQ_exit ?_ | refine forQ_ret ?_ | refine loopQ_exit ?_ | refine loopQ_ret ?_ | refine r_block ?_ | refine r_skip ?_ | refine r_exit ?_ | refine r_ret ?_ | (show rwp _ _ (.cond _ _ _) _ _ _; first | refine c_t (h := ?_) | refine c_f (h := ?_)))
  refine c_if (fun h4 => ?_) (fun h4 => ?_)
  · repeat (first | (show rops _ _ _ _ (_ :: _) _ _; first | refine ra (next := ?_) | refine rk (next := ?_) | refine rku (next := ?_)) | refine st_end ?_ | refine thn_normal ?_ | refine r_seq ?_ | refine r_region rfl ?_ | refine thn_exit ?_ | refine thn_ret ?_ | refine inBlk_normal ?_ | refine inBlk_ret ?_ | refine inBlk_hit ?_ | refine inBlk_miss (by decide) ?_ | refine forQ_exit ?_ | refine forQ_ret ?_ | refine loopQ_exit ?_ | refine loopQ_ret ?_ | refine r_block ?_ | refine r_skip ?_ | refine r_exit ?_ | refine r_ret ?_ | (show rwp _ _ (.cond _ _ _) _ _ _; first | refine c_t (h := ?_) | refine c_f (h := ?_)))
    refine c_if (fun h5 => ?_) (fun h5 => ?_)
    · repeat (first | (show rops _ _ _ _ (_ :: _) _ _; first | refine ra (next := ?_) | refine rk (next := ?_) | refine rku (next := ?_)) | refine st_end ?_ | refine thn_normal ?_ | refine r_seq ?_ | refine r_region rfl ?_ | refine thn_exit ?_ | refine thn_ret ?_ | refine inBlk_normal ?_ | refine inBlk_ret ?_ | refine inBlk_hit ?_ | refine inBlk_miss (by decide) ?_ | refine forQ_exit ?_ | refine forQ_ret ?_ | refine loopQ_exit ?_ | refine loopQ_ret ?_ | refine r_block ?_ | refine r_skip ?_ | refine r_exit ?_ | refine r_ret ?_ | (show rwp _ _ (.cond _ _ _) _ _ _; first | refine c_t (h := ?_) | refine c_f (h := ?_)))
      refine ret1 ⟨_, rfl, ?_, he2⟩
      simp only [Bool.false_eq_true, false_iff]
      exact fun h => h5 (h k (by omega))
    · repeat (first | (show rops _ _ _ _ (_ :: _) _ _; first | refine ra (next := ?_) | refine rk (next := ?_) | refine rku (next := ?_)) | refine st_end ?_ | refine thn_normal ?_ | refine r_seq ?_ | refine r_region rfl ?_ | refine thn_exit ?_ | refine thn_ret ?_ | refine inBlk_normal ?_ | refine inBlk_ret ?_ | refine inBlk_hit ?_ | refine inBlk_miss (by decide) ?_ | refine forQ_exit ?_ | refine forQ_ret ?_ | refine loopQ_exit ?_ | refine loopQ_ret ?_ | refine r_block ?_ | refine r_skip ?_ | refine r_exit ?_ | refine r_ret ?_ | (show rwp _ _ (.cond _ _ _) _ _ _; first | refine c_t (h := ?_) | refine c_f (h := ?_)))
      refine forQ_normal (by omega) ⟨?_, he2, fun i hi => ?_⟩
      · ((try simp only [Has, ev_tmp, ev_const, ev_func, get_put, get_args, get_putL, get_putL_nil, Nat.reduceEqDiff, reduceIte, List.getD_cons_zero, List.getD_cons_succ, List.getD_nil]); repeat' (first | exact True.intro | apply And.intro | with_reducible rfl | exact int_congr (by first | omega | rfl)))
      · by_cases e : i = k
        · subst e; exact Decidable.not_not.1 h5
        · exact hI i (by omega)
  · repeat (first | (show rops _ _ _ _ (_ :: _) _ _; first | refine ra (next := ?_) | refine rk (next := ?_) | refine rku (next := ?_)) | refine st_end ?_ | refine thn_normal ?_ | refine r_seq ?_ | refine r_region rfl ?_ | refine thn_exit ?_ | refine thn_ret ?_ | refine inBlk_normal ?_ | refine inBlk_ret ?_ | refine inBlk_hit ?_ | refine inBlk_miss (by decide) ?_ | refine forQ_exit ?_ | refine forQ_ret ?_ | refine loopQ_exit ?_ | refine loopQ_ret ?_ | refine r_block ?_ | refine r_skip ?_ | refine r_exit ?_ | refine r_ret ?_ | (show rwp _ _ (.cond _ _ _) _ _ _; first | refine c_t (h := ?_) | refine c_f (h := ?_)))
    refine ret1 ⟨_, rfl, ?_, he2⟩
    simp only [true_iff]
    exact fun i hi => hI i (by omega)
set_option maxHeartbeats 400000 in
theorem isExponents_ok {w : World} {vp vx : Value} {p : Pr} {xs : List Int} {lo hi lo1 hi1 : Nat} [hp : PresP lo hi w vp p] [hx : Ints lo1 hi1 w vx xs] (hb : ∀ i, i < p.n → 2 ≤ p.o i ∧ p.o i ≤ 7) (hl : p.n ≤ 2000000) :
    Calls Try.prog 27 #[vp, vx] w (Ret fun v w' => ∃ b, v = .bool b ∧ (b = true ↔ InR p xs) ∧ Ext w w') := by
  have hol : p.ord.length = p.n := rfl
  obtain ⟨b, vo, vpw, vc, ps, cs, css, rfl, hb1, hb2, hc0, hc1, hc2, h1, h2, h3⟩ := hp.ex
  refine enter (args := [.pointer (some ⟨b, 0, none⟩), vx]) (l := [.tmp 4]) Try.func27 rfl rfl Try.ntmps27 (by simp) ?_
  repeat (first | (show rops _ _ _ _ (_ :: _) _ _; first | refine ra (next := ?_) | refine rk (next := ?_) | refine rku (next := ?_)) | refine st_end ?_ | refine thn_normal ?_ | refine r_seq ?_ | refine r_region rfl ?_ | refine thn_exit ?_ | refine thn_ret ?_ | refine inBlk_normal ?_ | refine inBlk_ret ?_ | refine inBlk_hit ?_ | refine inBlk_miss (by decide) ?_ | refine forQ_exit ?_ | refine forQ_ret ?_ | refine loopQ_exit ?_ | refine loopQ_ret ?_ | refine r_block ?_ | refine r_skip ?_ | refine r_exit ?_ | refine r_ret ?_ | (show rwp _ _ (.cond _ _ _) _ _ _; first | refine c_t (h := ?_) | refine c_f (h := ?_)))
  refine c_if (fun h4 => ?_) (fun h4 => ?_)
  · repeat (first | (show rops _ _ _ _ (_ :: _) _ _; first | refine ra (next := ?_) | refine rk (next := ?_) | refine rku (next := ?_)) | refine st_end ?_ | refine thn_normal ?_ | refine r_seq ?_ | refine r_region rfl ?_ | refine thn_exit ?_ | refine thn_ret ?_ | refine inBlk_normal ?_ | refine inBlk_ret ?_ | refine inBlk_hit ?_ | refine inBlk_miss (by decide) ?_ | refine forQ_exit ?_ | refine forQ_ret ?_ | refine loopQ_exit ?_ | refine loopQ_ret ?_ | refine r_block ?_ | refine r_skip ?_ | refine r_exit ?_ | refine r_ret ?_ | (show rwp _ _ (.cond _ _ _) _ _ _; first | refine c_t (h := ?_) | refine c_f (h := ?_)))
    refine ret1 ⟨_, rfl, ?_, Ext.refl _⟩
    simp only [Bool.false_eq_true, false_iff]
    intro h
    have := h.len
    omega
  have hxl : xs.length = p.n := by omega
  repeat (first | (show rops _ _ _ _ (_ :: _) _ _; first | refine ra (next := ?_) | refine rk (next := ?_) | refine rku (next := ?_)) | refine st_end ?_ | refine thn_normal ?_ | refine r_seq ?_ | refine r_region rfl ?_ | refine thn_exit ?_ | refine thn_ret ?_ | refine inBlk_normal ?_ | refine inBlk_ret ?_ | refine inBlk_hit ?_ | refine inBlk_miss (by decide) ?_ | refine forQ_exit ?_ | refine forQ_ret ?_ | refine loopQ_exit ?_ | refine loopQ_ret ?_ | refine r_block ?_ | refine r_skip ?_ | refine r_exit ?_ | refine r_ret ?_ | (show rwp _ _ (.cond _ _ _) _ _ _; first | refine c_t (h := ?_) | refine c_f (h := ?_)))
  refine r_for xs.length (fun k ρ w' => Has ρ [(0, .pointer (some ⟨b, 0, none⟩)), (1, vx), (15, vx), (16, .int .i64 xs.length), (17, .int .i64 k)] ∧ Ext w w' ∧ ∀ i, i < k → 0 ≤ xs.getD i 0 ∧ xs.getD i 0 < p.o i) ?_ ?_
  · refine ⟨?_, Ext.refl _, fun i hi => by omega⟩
    ((try simp only [Has, ev_tmp, ev_const, ev_func, get_put, get_args, get_putL, get_putL_nil, Nat.reduceEqDiff, reduceIte, List.getD_cons_zero, List.getD_cons_succ, List.getD_nil]); repeat' (first | exact True.intro | apply And.intro | with_reducible rfl | exact int_congr (by first | omega | rfl)))
  rintro k ρ w2 hk ⟨hH, he2, hI⟩
  refine rwp_has hH fun ρ0 => ?_
  repeat (first | (show rops _ _ _ _ (_ :: _) _ _; first | refine ra (next := ?_) | refine rk (next := ?_) | refine rku (next := ?_)) | refine st_end ?_ | refine thn_normal ?_ | refine r_seq ?_ | refine r_region rfl ?_ | refine thn_exit ?_ | refine thn_ret ?_ | refine inBlk_normal ?_ | refine inBlk_ret ?_ | refine inBlk_hit ?_ | refine inBlk_miss (by decide) ?_ | refine forQ_exit ?_ | refine forQ_ret ?_ | refine loopQ_exit ?_ | refine loopQ_ret ?_ | refine r_block ?_ | refine r_skip ?_ | refine r_exit ?_ | refine r_ret ?_ | (show rwp _ _ (.cond _ _ _) _ _ _; first | refine c_t (h := ?_) | refine c_f (h := ?_)))
  refine c_if (fun h5 => ?_) (fun h5 => ?_)
  · have hbk := hb k (by omega)
    have hoe : p.ord.getD k 0 = p.o k := rfl
    repeat (first | (show rops _ _ _ _ (_ :: _) _ _; first | refine ra (next := ?_) | refine rk (next := ?_) | refine rku (next := ?_)) | refine st_end ?_ | refine thn_normal ?_ | refine r_seq ?_ | refine r_region rfl ?_ | refine thn_exit ?_ | refine thn_ret ?_ | refine inBlk_normal ?_ | refine inBlk_ret ?_ | refine inBlk_hit ?_ | refine inBlk_miss (by decide) ?_ | refine forQ_exit ?_ | refine forQ_ret ?_ | refine loopQ_exit ?_ | refine loopQ_ret ?_ | refine r_block ?_ | refine r_skip ?_ | refine r_exit ?_ | refine r_ret ?_ | (show rwp _ _ (.cond _ _ _) _ _ _; first | refine c_t (h := ?_) | refine c_f (h := ?_)))
    refine rc inside_ok (next := fun v3 w3 h3 => ?_)
    obtain ⟨b3, rfl, hb3, he3⟩ := h3
    repeat (first | (show rops _ _ _ _ (_ :: _) _ _; first | refine ra (next := ?_) | refine rk (next := ?_) | refine rku (next := ?_)) | refine st_end ?_ | refine thn_normal ?_ | refine r_seq ?_ | refine r_region rfl ?_ | refine thn_exit ?_ | refine thn_ret ?_ | refine inBlk_normal ?_ | refine inBlk_ret ?_ | refine inBlk_hit ?_ | refine inBlk_miss (by decide) ?_ | refine forQ_exit ?_ | refine forQ_ret ?_ | refine loopQ_exit ?_ | refine loopQ_ret ?_ | refine r_block ?_ | refine r_skip ?_ | refine r_exit ?_ | refine r_ret ?_ | (show rwp _ _ (.cond _ _ _) _ _ _; first | refine c_t (h := ?_) | refine c_f (h := ?_)))
    refine c_b (fun h6 => ?_) (fun h6 => ?_)
    · repeat (first | (show rops _ _ _ _ (_ :: _) _ _; first | refine ra (next := ?_) | refine rk (next := ?_) | refine rku (next := ?_)) | refine st_end ?_ | refine thn_normal ?_ | refine r_seq ?_ | refine r_region rfl ?_ | refine thn_exit ?_ | refine thn_ret ?_ | refine inBlk_normal ?_ | refine inBlk_ret ?_ | refine inBlk_hit ?_ | refine inBlk_miss (by decide) ?_ | refine forQ_exit ?_ | refine forQ_ret ?_ | refine loopQ_exit ?_ | refine loopQ_ret ?_ | refine r_block ?_ | refine r_skip ?_ | refine r_exit ?_ | refine r_ret ?_ | (show rwp _ _ (.cond _ _ _) _ _ _; first | refine c_t (h := ?_) | refine c_f (h := ?_)))
      refine ret1 ⟨_, rfl, ?_, he2.trans he3⟩
      simp only [Bool.false_eq_true, false_iff]
      intro h
      have h7 := h.rng k (by omega)
      have := hb3.2 (by omega)
      rw [this] at h6; cases h6
    · have h7 := hb3.1 (by simpa using h6)
      repeat (first | (show rops _ _ _ _ (_ :: _) _ _; first | refine ra (next := ?_) | refine rk (next := ?_) | refine rku (next := ?_)) | refine st_end ?_ | refine thn_normal ?_ | refine r_seq ?_ | refine r_region rfl ?_ | refine thn_exit ?_ | refine thn_ret ?_ | refine inBlk_normal ?_ | refine inBlk_ret ?_ | refine inBlk_hit ?_ | refine inBlk_miss (by decide) ?_ | refine forQ_exit ?_ | refine forQ_ret ?_ | refine loopQ_exit ?_ | refine loopQ_ret ?_ | refine r_block ?_ | refine r_skip ?_ | refine r_exit ?_ | refine r_ret ?_ | (show rwp _ _ (.cond _ _ _) _ _ _; first | refine c_t (h := ?_) | refine c_f (h := ?_)))
      refine forQ_normal (by omega) ⟨?_, he2.trans he3, fun i hi => ?_⟩
      · ((try simp only [Has, ev_tmp, ev_const, ev_func, get_put, get_args, get_putL, get_putL_nil, Nat.reduceEqDiff, reduceIte, List.getD_cons_zero, List.getD_cons_succ, List.getD_nil]); repeat' (first | exact True.intro | apply And.intro | with_reducible rfl | exact int_congr (by first | omega | rfl)))
      · by_cases e : i = k
        · subst e; omega
        · exact hI i (by omega)
  · repeat (first | (show rops _ _ _ _ (_ :: _) _ _; first | refine ra (next := ?_) | refine rk (next := ?_) | refine rku (next := ?_)) | refine st_end ?_ | refine thn_normal ?_ | refine r_seq ?_ | refine r_region rfl ?_ | refine thn_exit ?_ | refine thn_ret ?_ | refine inBlk_normal ?_ | refine inBlk_ret ?_ | refine inBlk_hit ?_ | refine inBlk_miss (by decide) ?_ | refine forQ_exit ?_ | refine forQ_ret ?_ | refine loopQ_exit ?_ | refine loopQ_ret ?_ | refine r_block ?_ | refine r_skip ?_ | refine r_exit ?_ | refine r_ret ?_ | (show rwp _ _ (.cond _ _ _) _ _ _; first | refine c_t (h := ?_) | refine c_f (h := ?_)))
    refine ret1 ⟨_, rfl, ?_, he2⟩
    simp only [true_iff]
    exact ⟨hxl, fun i hi => hI i (by omega)⟩
set_option maxHeartbeats 400000 in
theorem tailVector_ok {w : World} {vp vx : Value} {p : Pr} {xs : List Int} {i : Nat} {ki : Int} {lo hi lo1 hi1 : Nat} [hp : PresP lo hi w vp p] [hx : Ints lo1 hi1 w vx xs] (hki : ki = i) (hi' : i < p.n) (hb : ∀ i, i < p.n → 2 ≤ p.o i ∧ p.o i ≤ 7) (hl : p.n ≤ 2000000) :
    Calls Try.prog 58 #[vp, .int .i64 ki, vx] w (Ret fun v w' => ∃ b, v = .bool b ∧ (b = true ↔ InR p xs ∧ ZU (i + 1) xs) ∧ Ext w w') := by
  subst hki
  refine enter (args := [vp, .int .i64 i, vx]) (l := [.tmp 6]) Try.func58 rfl rfl Try.ntmps58 (by simp) ?_
  repeat (first | (show rops _ _ _ _ (_ :: _) _ _; first | refine ra (next := ?_) | refine rk (next := ?_) | refine rku (next := ?_)) | refine st_end ?_ | refine thn_normal ?_ | refine r_seq ?_ | refine r_region rfl ?_ | refine thn_exit ?_ | refine thn_ret ?_ | refine inBlk_normal ?_ | refine inBlk_ret ?_ | refine inBlk_hit ?_ | refine inBlk_miss (by decide) ?_ | refine forQ_exit ?_ | refine forQ_ret ?_ | refine loopQ_exit ?_ | refine loopQ_ret ?_ | refine r_block ?_ | refine r_skip ?_ | refine r_exit ?_ | refine r_ret ?_ | (show rwp _ _ (.cond _ _ _) _ _ _; first | refine c_t (h := ?_) | refine c_f (h := ?_)))
  refine rc (isExponents_ok (xs := xs) hb hl) (next := fun v3 w3 h3 => ?_)
  obtain ⟨b3, rfl, hb3, he3⟩ := h3
  repeat (first | (show rops _ _ _ _ (_ :: _) _ _; first | refine ra (next := ?_) | refine rk (next := ?_) | refine rku (next := ?_)) | refine st_end ?_ | refine thn_normal ?_ | refine r_seq ?_ | refine r_region rfl ?_ | refine thn_exit ?_ | refine thn_ret ?_ | refine inBlk_normal ?_ | refine inBlk_ret ?_ | refine inBlk_hit ?_ | refine inBlk_miss (by decide) ?_ | refine forQ_exit ?_ | refine forQ_ret ?_ | refine loopQ_exit ?_ | refine loopQ_ret ?_ | refine r_block ?_ | refine r_skip ?_ | refine r_exit ?_ | refine r_ret ?_ | (show rwp _ _ (.cond _ _ _) _ _ _; first | refine c_t (h := ?_) | refine c_f (h := ?_)))
  refine sp (fun e3 => ?_) (fun e3 => ?_)
  · have hr := hb3.1 e3
    have hxl := hr.len
    repeat (first | (show rops _ _ _ _ (_ :: _) _ _; first | refine ra (next := ?_) | refine rk (next := ?_) | refine rku (next := ?_)) | refine st_end ?_ | refine thn_normal ?_ | refine r_seq ?_ | refine r_region rfl ?_ | refine thn_exit ?_ | refine thn_ret ?_ | refine inBlk_normal ?_ | refine inBlk_ret ?_ | refine inBlk_hit ?_ | refine inBlk_miss (by decide) ?_ | refine forQ_exit ?_ | refine forQ_ret ?_ | refine loopQ_exit ?_ | refine loopQ_ret ?_ | refine r_block ?_ | refine r_skip ?_ | refine r_exit ?_ | refine r_ret ?_ | (show rwp _ _ (.cond _ _ _) _ _ _; first | refine c_t (h := ?_) | refine c_f (h := ?_)))
    have hcut : Ints lo1 hi1 w (cutTo vx (i + 1)) (xs.take (i + 1)) := hx.cutTo (by omega)
    refine rc (isZero_ok (xs := xs.take (i + 1)) ?_) (next := fun v4 w4 h4 => ?_)
    · rw [List.length_take]; omega
    obtain ⟨b4, rfl, hb4, he4⟩ := h4
    repeat (first | (show rops _ _ _ _ (_ :: _) _ _; first | refine ra (next := ?_) | refine rk (next := ?_) | refine rku (next := ?_)) | refine st_end ?_ | refine thn_normal ?_ | refine r_seq ?_ | refine r_region rfl ?_ | refine thn_exit ?_ | refine thn_ret ?_ | refine inBlk_normal ?_ | refine inBlk_ret ?_ | refine inBlk_hit ?_ | refine inBlk_miss (by decide) ?_ | refine forQ_exit ?_ | refine forQ_ret ?_ | refine loopQ_exit ?_ | refine loopQ_ret ?_ | refine r_block ?_ | refine r_skip ?_ | refine r_exit ?_ | refine r_ret ?_ | (show rwp _ _ (.cond _ _ _) _ _ _; first | refine c_t (h := ?_) | refine c_f (h := ?_)))
    refine ret1 ⟨_, rfl, hb4.trans ?_, he3.trans he4⟩
    constructor
    · intro h
      refine ⟨hr, fun k hk => ?_⟩
      have := h k (by rw [List.length_take]; omega)
      simpa [List.getElem?_take, hk] using this
    · rintro ⟨_, h⟩ k hk
      rw [List.length_take] at hk
      have := h k (by omega)
      simpa [List.getElem?_take, show k < i + 1 by omega] using this
  · repeat (first | (show rops _ _ _ _ (_ :: _) _ _; first | refine ra (next := ?_) | refine rk (next := ?_) | refine rku (next := ?_)) | refine st_end ?_ | refine thn_normal ?_ | refine r_seq ?_ | refine r_region rfl ?_ | refine thn_exit ?_ | refine thn_ret ?_ | refine inBlk_normal ?_ | refine inBlk_ret ?_ | refine inBlk_hit ?_ | refine inBlk_miss (by decide) ?_ | refine forQ_exit ?_ | refine forQ_ret ?_ | refine loopQ_exit ?_ | refine loopQ_ret ?_ | refine r_block ?_ | refine r_skip ?_ | refine r_exit ?_ | refine r_ret ?_ | (show rwp _ _ (.cond _ _ _) _ _ _; first | refine c_t (h := ?_) | refine c_f (h := ?_)))
    refine ret1 ⟨_, rfl, ?_, he3⟩
    simp only [Bool.false_eq_true, false_iff]
    rintro ⟨h, _⟩
    have := hb3.2 h
    rw [e3] at this; cases this
end Go.Proofs.Ytjcmdmjlhngjcaa

/-
  Walks: the program's residues and inverses modulo a group prime (residue, inverseMod).
  Conditions: stated at each theorem.
-/
namespace Go.Proofs.Ytjcmdmjlhngjcaa
open Go Go.Pc
theorem tmod_bd (a m : Int) (hm : 1 ≤ m) : -m < a.tmod m ∧ a.tmod m < m := by
  have h1 := Int.tmod_lt_of_pos a (show 0 < m by omega)
  have h2 := Int.lt_tmod_of_pos a (show 0 < m by omega)
  exact ⟨h2, h1⟩
theorem tmod_emod (a m : Int) : (a.tmod m + m) % m = a % m := by
  have h := Int.tmod_add_mul_tdiv a m
  rw [Int.add_emod_right]
  conv => rhs; rw [← h]
  rw [Int.add_mul_emod_self_left]
theorem residue_ok {a m : Int} {w : World} (hm : 1 ≤ m ∧ m ≤ 1000000000000) : Calls Try.prog 76 #[.int .i64 a, .int .i64 m] w (Ret fun v w' => v = .int .i64 (a % m) ∧ Ext w w') := by
  have h1 := tmod_bd a m hm.1
  refine enter (args := [.int .i64 a, .int .i64 m]) (l := [.tmp 4]) Try.func76 rfl rfl Try.ntmps76 (by simp) ?_
  repeat (first | (show rops _ _ _ _ (_ :: _) _ _; first | refine ra (next := ?_) | refine rk (next := ?_) | refine rku (next := ?_)) | refine st_end ?_ | refine thn_normal ?_ | refine r_seq ?_ | refine r_region rfl ?_ | refine thn_exit ?_ | refine thn_ret ?_ | refine inBlk_normal ?_ | refine inBlk_ret ?_ | refine inBlk_hit ?_ | refine inBlk_miss (by decide) ?_ | refine forQ_exit ?_ | refine forQ_ret ?_ | refine loopQ_exit ?_ | refine loopQ_ret ?_ | refine r_block ?_ | refine r_skip ?_ | refine r_exit ?_ | refine r_ret ?_ | (show rwp _ _ (.cond _ _ _) _ _ _; first | refine c_t (h := ?_) | refine c_f (h := ?_)))
  refine ra (h := rd_trem (by ((try simp only [ev_tmp, ev_const, ev_func, get_put, get_args, get_putL, get_putL_nil, Nat.reduceEqDiff, reduceIte, List.getD_cons_zero, List.getD_cons_succ, List.getD_nil]); first | done | with_reducible rfl)) (by ((try simp only [ev_tmp, ev_const, ev_func, get_put, get_args, get_putL, get_putL_nil, Nat.reduceEqDiff, reduceIte, List.getD_cons_zero, List.getD_cons_succ, List.getD_nil]); first | done | with_reducible rfl)) (by omega)) (next := ?_)
  repeat (first | (show rops _ _ _ _ (_ :: _) _ _; first | refine ra (next := ?_) | refine rk (next := ?_) | refine rku (next := ?_)) | refine st_end ?_ | refine thn_normal ?_ | refine r_seq ?_ | refine r_region rfl ?_ | refine thn_exit ?_ | refine thn_ret ?_ | refine inBlk_normal ?_ | refine inBlk_ret ?_ | refine inBlk_hit ?_ | refine inBlk_miss (by decide) ?_ | refine forQ_exit ?_ | refine forQ_ret ?_ | refine loopQ_exit ?_ | refine loopQ_ret ?_ | refine r_block ?_ | refine r_skip ?_ | refine r_exit ?_ | refine r_ret ?_ | (show rwp _ _ (.cond _ _ _) _ _ _; first | refine c_t (h := ?_) | refine c_f (h := ?_)))
  exact ret1 (v := .int .i64 ((a.tmod m + m) % m)) ⟨by rw [tmod_emod], Ext.refl _⟩
/-- The state of the Euclidean algorithm. -/
def euc (m a : Int) : Nat → Int × Int × Int × Int
  | 0 => (m, a, 0, 1)
  | k + 1 => let s := euc m a k; if s.2.1 = 0 then s else (s.2.1, s.1 - s.1 / s.2.1 * s.2.1, s.2.2.2, s.2.2.1 - s.1 / s.2.1 * s.2.2.2)
def eucOk (m a : Int) (k : Nat) : Bool :=
  let s := euc m a k
  decide (0 ≤ s.1 ∧ s.1 ≤ 7 ∧ 0 ≤ s.2.1 ∧ s.2.1 ≤ 7 ∧ -7 ≤ s.2.2.1 ∧ s.2.2.1 ≤ 7 ∧ -7 ≤ s.2.2.2 ∧ s.2.2.2 ≤ 7 ∧ s.1 / s.2.1 ≤ 7 ∧ 0 ≤ s.1 / s.2.1 ∧ s.1 / s.2.1 * s.2.1 ≤ 49 ∧ 0 ≤ s.1 / s.2.1 * s.2.1 ∧ s.1 / s.2.1 * s.2.2.2 ≤ 49 ∧ -49 ≤ s.1 / s.2.1 * s.2.2.2 ∧ (k = 5 → s.2.1 = 0) ∧ (s.2.1 = 0 → s.1 = 1 ∧ 1 ≤ s.2.2.1 % m ∧ s.2.2.1 % m < m ∧ (a * (s.2.2.1 % m)) % m = 1))
theorem euc_all : ∀ m : Fin 8, ∀ a : Fin 8, ∀ k : Fin 6, (m.val = 2 ∨ m.val = 3 ∨ m.val = 5 ∨ m.val = 7) → 1 ≤ a.val → a.val < m.val → eucOk (m.val : Int) (a.val : Int) k.val = true := by decide +kernel
theorem euc_ok {m a : Int} (hm : m = 2 ∨ m = 3 ∨ m = 5 ∨ m = 7) (ha : 1 ≤ a ∧ a < m) {k : Nat} (hk : k ≤ 5) : eucOk m a k = true := by
  have h := euc_all ⟨m.toNat, by omega⟩ ⟨a.toNat, by omega⟩ ⟨k, by omega⟩ (by show m.toNat = 2 ∨ m.toNat = 3 ∨ m.toNat = 5 ∨ m.toNat = 7; omega) (by show 1 ≤ a.toNat; omega) (by show a.toNat < m.toNat; omega)
  have e1 : ((m.toNat : Nat) : Int) = m := by omega
  have e2 : ((a.toNat : Nat) : Int) = a := by omega
  simpa only [e1, e2] using h
set_option maxHeartbeats 1000000 in
theorem inverseMod_ok {w : World} {a m : Int} (hm : m = 2 ∨ m = 3 ∨ m = 5 ∨ m = 7) (ha : 1 ≤ a ∧ a < m) :
    Calls Try.prog 63 #[.int .i64 a, .int .i64 m] w (Ret fun v w' => ∃ x, v = .tuple #[.int .i64 x, .bool true] ∧ 1 ≤ x ∧ x < m ∧ (a * x) % m = 1 ∧ Ext w w') := by
  refine enter (args := [.int .i64 a, .int .i64 m]) (l := [.tmp 4, .tmp 5]) Try.func63 rfl rfl Try.ntmps63 (by simp) ?_
  repeat (first | (show rops _ _ _ _ (_ :: _) _ _; first | refine ra (next := ?_) | refine rk (next := ?_) | refine rku (next := ?_)) | refine st_end ?_ | refine thn_normal ?_ | refine r_seq ?_ | refine r_region rfl ?_ | refine thn_exit ?_ | refine thn_ret ?_ | refine inBlk_normal ?_ | refine inBlk_ret ?_ | refine inBlk_hit ?_ | refine inBlk_miss (by decide) ?_ | refine forQ_exit ?_ | refine forQ_ret ?_ | refine loopQ_exit ?_ | refine loopQ_ret ?_ | refine r_block ?_ | refine r_skip ?_ | refine r_exit ?_ | refine r_ret ?_ | (show rwp _ _ (.cond _ _ _) _ _ _; first | refine c_t (h := ?_) | refine c_f (h := ?_)))
  refine r_for 5 (fun k ρ w' => Has ρ [(0, .int .i64 a), (1, .int .i64 m), (6, .int .i64 (euc m a k).1), (7, .int .i64 (euc m a k).2.1), (8, .int .i64 (euc m a k).2.2.1), (9, .int .i64 (euc m a k).2.2.2)] ∧ Ext w w') ?_ ?_
  · refine ⟨?_, Ext.refl _⟩
    ((try simp only [Has, ev_tmp, ev_const, ev_func, get_put, get_args, get_putL, get_putL_nil, Nat.reduceEqDiff, reduceIte, List.getD_cons_zero, List.getD_cons_succ, List.getD_nil]); repeat' (first | exact True.intro | apply And.intro | with_reducible rfl | exact int_congr (by first | omega | rfl)))
  rintro k ρ w2 hk ⟨hH, he2⟩
  refine rwp_has hH fun ρ0 => ?_
  have hok := euc_ok hm ha hk
  have hs1 : (euc m a (k + 1)) = if (euc m a k).2.1 = 0 then euc m a k else ((euc m a k).2.1, (euc m a k).1 - (euc m a k).1 / (euc m a k).2.1 * (euc m a k).2.1, (euc m a k).2.2.2, (euc m a k).2.2.1 - (euc m a k).1 / (euc m a k).2.1 * (euc m a k).2.2.2) := rfl
  unfold eucOk at hok
  simp only [decide_eq_true_eq] at hok
  generalize euc m a k = s at hok hs1
  obtain ⟨r, n, x, y⟩ := s
  simp only at hok hs1
  obtain ⟨b1, b2, b3, b4, b5, b6, b7, b8, b9, b10, b11, b12, b13, b14, b15, b16⟩ := hok
  repeat (first | (show rops _ _ _ _ (_ :: _) _ _; first | refine ra (next := ?_) | refine rk (next := ?_) | refine rku (next := ?_)) | refine st_end ?_ | refine thn_normal ?_ | refine r_seq ?_ | refine r_region rfl ?_ | refine thn_exit ?_ | refine thn_ret ?_ | refine inBlk_normal ?_ | refine inBlk_ret ?_ | refine inBlk_hit ?_ | refine inBlk_miss (by decide) ?_ | refine forQ_exit ?_ | refine forQ_ret ?_ | refine loopQ_exit ?_ | refine loopQ_ret ?_ | refine r_block ?_ | refine r_skip ?_ | refine r_exit ?_ | refine r_ret ?_ | (show rwp _ _ (.cond _ _ _) _ _ _; first | refine c_t (h := ?_) | refine c_f (h := ?_)))
  refine c_if (fun h4 => ?_) (fun h4 => ?_)
  · rw [if_neg h4] at hs1
    have hn1 : 1 ≤ n := by omega
    have hk5 : k < 5 := by
      by_cases h : k < 5
      · exact h
      · exact absurd (b15 (by omega)) h4
    repeat (first | (show rops _ _ _ _ (_ :: _) _ _; first | refine ra (next := ?_) | refine rk (next := ?_) | refine rku (next := ?_)) | refine st_end ?_ | refine thn_normal ?_ | refine r_seq ?_ | refine r_region rfl ?_ | refine thn_exit ?_ | refine thn_ret ?_ | refine inBlk_normal ?_ | refine inBlk_ret ?_ | refine inBlk_hit ?_ | refine inBlk_miss (by decide) ?_ | refine forQ_exit ?_ | refine forQ_ret ?_ | refine loopQ_exit ?_ | refine loopQ_ret ?_ | refine r_block ?_ | refine r_skip ?_ | refine r_exit ?_ | refine r_ret ?_ | (show rwp _ _ (.cond _ _ _) _ _ _; first | refine c_t (h := ?_) | refine c_f (h := ?_)))
    refine ra (h := rd_mul (by ((try simp only [ev_tmp, ev_const, ev_func, get_put, get_args, get_putL, get_putL_nil, Nat.reduceEqDiff, reduceIte, List.getD_cons_zero, List.getD_cons_succ, List.getD_nil]); first | done | with_reducible rfl)) (by ((try simp only [ev_tmp, ev_const, ev_func, get_put, get_args, get_putL, get_putL_nil, Nat.reduceEqDiff, reduceIte, List.getD_cons_zero, List.getD_cons_succ, List.getD_nil]); first | done | with_reducible rfl)) (by omega)) (next := ?_)
    repeat (first | (show rops _ _ _ _ (_ :: _) _ _; first | refine ra (next := ?_) | refine rk (next := ?_) | refine rku (next := ?_)) | refine st_end ?_ | refine thn_normal ?_ | refine r_seq ?_ | refine r_region rfl ?_ | refine thn_exit ?_ | refine thn_ret ?_ | refine inBlk_normal ?_ | refine inBlk_ret ?_ | refine inBlk_hit ?_ | refine inBlk_miss (by decide) ?_ | refine forQ_exit ?_ | refine forQ_ret ?_ | refine loopQ_exit ?_ | refine loopQ_ret ?_ | refine r_block ?_ | refine r_skip ?_ | refine r_exit ?_ | refine r_ret ?_ | (show rwp _ _ (.cond _ _ _) _ _ _; first | refine c_t (h := ?_) | refine c_f (h := ?_)))
    refine ra (h := rd_mul (by ((try simp only [ev_tmp, ev_const, ev_func, get_put, get_args, get_putL, get_putL_nil, Nat.reduceEqDiff, reduceIte, List.getD_cons_zero, List.getD_cons_succ, List.getD_nil]); first | done | with_reducible rfl)) (by ((try simp only [ev_tmp, ev_const, ev_func, get_put, get_args, get_putL, get_putL_nil, Nat.reduceEqDiff, reduceIte, List.getD_cons_zero, List.getD_cons_succ, List.getD_nil]); first | done | with_reducible rfl)) (by omega)) (next := ?_)
    repeat (first | (show rops _ _ _ _ (_ :: _) _ _; first | refine ra (next := ?_) | refine rk (next := ?_) | refine rku (next := ?_)) | refine st_end ?_ | refine thn_normal ?_ | refine r_seq ?_ | refine r_region rfl ?_ | refine thn_exit ?_ | refine thn_ret ?_ | refine inBlk_normal ?_ | refine inBlk_ret ?_ | refine inBlk_hit ?_ | refine inBlk_miss (by decide) ?_ | refine forQ_exit ?_ | refine forQ_ret ?_ | refine loopQ_exit ?_ | refine loopQ_ret ?_ | refine r_block ?_ | refine r_skip ?_ | refine r_exit ?_ | refine r_ret ?_ | (show rwp _ _ (.cond _ _ _) _ _ _; first | refine c_t (h := ?_) | refine c_f (h := ?_)))
    refine forQ_normal hk5 ⟨?_, he2⟩
    rw [hs1]
    ((try simp only [Has, ev_tmp, ev_const, ev_func, get_put, get_args, get_putL, get_putL_nil, Nat.reduceEqDiff, reduceIte, List.getD_cons_zero, List.getD_cons_succ, List.getD_nil]); repeat' (first | exact True.intro | apply And.intro | with_reducible rfl | exact int_congr (by first | omega | rfl)))
  · have hn0 : n = 0 := Decidable.not_not.1 h4
    obtain ⟨h5, h6, h7, h8⟩ := b16 hn0
    subst h5
    repeat (first | (show rops _ _ _ _ (_ :: _) _ _; first | refine ra (next := ?_) | refine rk (next := ?_) | refine rku (next := ?_)) | refine st_end ?_ | refine thn_normal ?_ | refine r_seq ?_ | refine r_region rfl ?_ | refine thn_exit ?_ | refine thn_ret ?_ | refine inBlk_normal ?_ | refine inBlk_ret ?_ | refine inBlk_hit ?_ | refine inBlk_miss (by decide) ?_ | refine forQ_exit ?_ | refine forQ_ret ?_ | refine loopQ_exit ?_ | refine loopQ_ret ?_ | refine r_block ?_ | refine r_skip ?_ | refine r_exit ?_ | refine r_ret ?_ | (show rwp _ _ (.cond _ _ _) _ _ _; first | refine c_t (h := ?_) | refine c_f (h := ?_)))
    refine rc (residue_ok (a := x) (m := m) (by omega)) (next := fun v3 w3 h9 => ?_)
    obtain ⟨rfl, he3⟩ := h9
    repeat (first | (show rops _ _ _ _ (_ :: _) _ _; first | refine ra (next := ?_) | refine rk (next := ?_) | refine rku (next := ?_)) | refine st_end ?_ | refine thn_normal ?_ | refine r_seq ?_ | refine r_region rfl ?_ | refine thn_exit ?_ | refine thn_ret ?_ | refine inBlk_normal ?_ | refine inBlk_ret ?_ | refine inBlk_hit ?_ | refine inBlk_miss (by decide) ?_ | refine forQ_exit ?_ | refine forQ_ret ?_ | refine loopQ_exit ?_ | refine loopQ_ret ?_ | refine r_block ?_ | refine r_skip ?_ | refine r_exit ?_ | refine r_ret ?_ | (show rwp _ _ (.cond _ _ _) _ _ _; first | refine c_t (h := ?_) | refine c_f (h := ?_)))
    refine ret2 ⟨x % m, ?_, h6, h7, h8, he2.trans he3⟩
    simp
end Go.Proofs.Ytjcmdmjlhngjcaa

/-
  Walks: copies and comparisons of lists, depths (slices.Clone, slices.Equal, slices.EqualFunc, slices.IndexFunc, sameRows, depthOf, pivots).
  Conditions: stated at each theorem: what the arguments read as, and that lists are short.
-/
namespace Go.Proofs.Ytjcmdmjlhngjcaa
open Go Go.Pc
theorem sl_nil {lo hi : Nat} {w : World} {v : Value} {us : List Value} (h : Sl lo hi w v us) : NilB v true ∧ us = [] ∨ NilB v false := by
  obtain ⟨A, c, rfl, hc, hm, hcell⟩ := h.ex
  cases A with
  | some a => exact .inr ⟨_, _, _, rfl, rfl⟩
  | none =>
    refine .inl ⟨⟨_, _, _, rfl, rfl⟩, ?_⟩
    cases us with
    | nil => rfl
    | cons u l => obtain ⟨a, h, _⟩ := hcell 0 u rfl; cases h
set_option maxHeartbeats 400000 in
theorem cloneI_ok {w : World} {v : Value} {xs : List Int} {lo hi : Nat} [hx : Ints lo hi w v xs] (hl : xs.length ≤ 2000000) :
    Calls Try.prog 79 #[v] w (Ret fun v' w' => Ext w w' ∧ Fr w.heap.size w' v' xs) := by
  refine enter (args := [v]) (l := [.tmp 2]) Try.func79 rfl rfl Try.ntmps79 (by simp) ?_
  rcases sl_nil hx.sl with ⟨hn, h0⟩ | hn
  · have h0 : xs = [] := by simpa using h0
    subst h0
    repeat (first | (show rops _ _ _ _ (_ :: _) _ _; first | refine ra (next := ?_) | refine rk (next := ?_) | refine rku (next := ?_)) | refine st_end ?_ | refine thn_normal ?_ | refine r_seq ?_ | refine r_region rfl ?_ | refine thn_exit ?_ | refine thn_ret ?_ | refine inBlk_normal ?_ | refine inBlk_ret ?_ | refine inBlk_hit ?_ | refine inBlk_miss (by decide) ?_ | refine forQ_exit ?_ | refine forQ_ret ?_ | refine loopQ_exit ?_ | refine loopQ_ret ?_ | refine r_block ?_ | refine r_skip ?_ | refine r_exit ?_ | refine r_ret ?_ | (show rwp _ _ (.cond _ _ _) _ _ _; first | refine c_t (h := ?_) | refine c_f (h := ?_)))
    exact ret1 ⟨Ext.refl _, (Lst.nil 2 w.heap.size w (av := fun _ => False) (fun _ h => h.elim)).own.toFr (xs := [])⟩
  · repeat (first | (show rops _ _ _ _ (_ :: _) _ _; first | refine ra (next := ?_) | refine rk (next := ?_) | refine rku (next := ?_)) | refine st_end ?_ | refine thn_normal ?_ | refine r_seq ?_ | refine r_region rfl ?_ | refine thn_exit ?_ | refine thn_ret ?_ | refine inBlk_normal ?_ | refine inBlk_ret ?_ | refine inBlk_hit ?_ | refine inBlk_miss (by decide) ?_ | refine forQ_exit ?_ | refine forQ_ret ?_ | refine loopQ_exit ?_ | refine loopQ_ret ?_ | refine r_block ?_ | refine r_skip ?_ | refine r_exit ?_ | refine r_ret ?_ | (show rwp _ _ (.cond _ _ _) _ _ _; first | refine c_t (h := ?_) | refine c_f (h := ?_)))
    refine st_slice0 (by first | exact True.intro | exact ⟨_, rfl, by ((try simp only [ev_tmp, ev_const, ev_func, get_put, get_args, get_putL, get_putL_nil, Nat.reduceEqDiff, reduceIte, List.getD_cons_zero, List.getD_cons_succ, List.getD_nil, Bool.not_true, Bool.not_false]); first | done | with_reducible rfl)⟩) fun w1 v1 he1 hs1 ho1 => ?_
    repeat (first | (show rops _ _ _ _ (_ :: _) _ _; first | refine ra (next := ?_) | refine rk (next := ?_) | refine rku (next := ?_)) | refine st_end ?_ | refine thn_normal ?_ | refine r_seq ?_ | refine r_region rfl ?_ | refine thn_exit ?_ | refine thn_ret ?_ | refine inBlk_normal ?_ | refine inBlk_ret ?_ | refine inBlk_hit ?_ | refine inBlk_miss (by decide) ?_ | refine forQ_exit ?_ | refine forQ_ret ?_ | refine loopQ_exit ?_ | refine loopQ_ret ?_ | refine r_block ?_ | refine r_skip ?_ | refine r_exit ?_ | refine r_ret ?_ | (show rwp _ _ (.cond _ _ _) _ _ _; first | refine c_t (h := ?_) | refine c_f (h := ?_)))
    have hN := ho1.toN
    have hsl : Sl lo hi w1 v _ := Sl.ext (h := hx.sl)
    refine st_append (hv := hN) (hy := hsl) (by ((try simp only [ev_tmp, ev_const, ev_func, get_put, get_args, get_putL, get_putL_nil, Nat.reduceEqDiff, reduceIte, List.getD_cons_zero, List.getD_cons_succ, List.getD_nil]); first | done | with_reducible rfl)) (by ((try simp only [ev_tmp, ev_const, ev_func, get_put, get_args, get_putL, get_putL_nil, Nat.reduceEqDiff, reduceIte, List.getD_cons_zero, List.getD_cons_succ, List.getD_nil]); first | done | with_reducible rfl)) rfl (oneCells xs) (by simp; omega) (by simp [maxLen]; omega) (by omega) (by first | exact True.intro | exact ⟨_, rfl, by ((try simp only [ev_tmp, ev_const, ev_func, get_put, get_args, get_putL, get_putL_nil, Nat.reduceEqDiff, reduceIte, List.getD_cons_zero, List.getD_cons_succ, List.getD_nil, Bool.not_true, Bool.not_false]); first | done | with_reducible rfl)⟩) fun v2 w2 ho2 hg2 ha2 => ?_
    repeat (first | (show rops _ _ _ _ (_ :: _) _ _; first | refine ra (next := ?_) | refine rk (next := ?_) | refine rku (next := ?_)) | refine st_end ?_ | refine thn_normal ?_ | refine r_seq ?_ | refine r_region rfl ?_ | refine thn_exit ?_ | refine thn_ret ?_ | refine inBlk_normal ?_ | refine inBlk_ret ?_ | refine inBlk_hit ?_ | refine inBlk_miss (by decide) ?_ | refine forQ_exit ?_ | refine forQ_ret ?_ | refine loopQ_exit ?_ | refine loopQ_ret ?_ | refine r_block ?_ | refine r_skip ?_ | refine r_exit ?_ | refine r_ret ?_ | (show rwp _ _ (.cond _ _ _) _ _ _; first | refine c_t (h := ?_) | refine c_f (h := ?_)))
    have hN2 : OwnN 2 w.heap.size w2 v2 (xs.map (Value.int .i64)) := by simpa using ho2
    refine ret1 ⟨?_, hN2.toFr⟩
    obtain ⟨cap, cur, hv1, _⟩ := ho1.ex
    exact ⟨he1.below.grown hg2 (by omega) (fun k hk => by rw [hv1] at hk; simp [Value.ownBlock] at hk; omega)⟩
set_option maxHeartbeats 400000 in
theorem cloneR_ok {w : World} {v : Value} {us : List Value} {lo hi : Nat} [hx : Sl lo hi w v us] (h1 : ∀ u ∈ us, u.oneCell' = true) (hl : us.length ≤ 2000000) :
    Calls Try.prog 60 #[v] w (Ret fun v' w' => Ext w w' ∧ OwnN 22 w.heap.size w' v' us) := by
  refine enter (args := [v]) (l := [.tmp 2]) Try.func60 rfl rfl Try.ntmps60 (by simp) ?_
  rcases sl_nil hx with ⟨hn, h0⟩ | hn
  · subst h0
    repeat (first | (show rops _ _ _ _ (_ :: _) _ _; first | refine ra (next := ?_) | refine rk (next := ?_) | refine rku (next := ?_)) | refine st_end ?_ | refine thn_normal ?_ | refine r_seq ?_ | refine r_region rfl ?_ | refine thn_exit ?_ | refine thn_ret ?_ | refine inBlk_normal ?_ | refine inBlk_ret ?_ | refine inBlk_hit ?_ | refine inBlk_miss (by decide) ?_ | refine forQ_exit ?_ | refine forQ_ret ?_ | refine loopQ_exit ?_ | refine loopQ_ret ?_ | refine r_block ?_ | refine r_skip ?_ | refine r_exit ?_ | refine r_ret ?_ | (show rwp _ _ (.cond _ _ _) _ _ _; first | refine c_t (h := ?_) | refine c_f (h := ?_)))
    exact ret1 ⟨Ext.refl _, OwnN.nil _ _ _⟩
  · repeat (first | (show rops _ _ _ _ (_ :: _) _ _; first | refine ra (next := ?_) | refine rk (next := ?_) | refine rku (next := ?_)) | refine st_end ?_ | refine thn_normal ?_ | refine r_seq ?_ | refine r_region rfl ?_ | refine thn_exit ?_ | refine thn_ret ?_ | refine inBlk_normal ?_ | refine inBlk_ret ?_ | refine inBlk_hit ?_ | refine inBlk_miss (by decide) ?_ | refine forQ_exit ?_ | refine forQ_ret ?_ | refine loopQ_exit ?_ | refine loopQ_ret ?_ | refine r_block ?_ | refine r_skip ?_ | refine r_exit ?_ | refine r_ret ?_ | (show rwp _ _ (.cond _ _ _) _ _ _; first | refine c_t (h := ?_) | refine c_f (h := ?_)))
    refine st_slice0 (by first | exact True.intro | exact ⟨_, rfl, by ((try simp only [ev_tmp, ev_const, ev_func, get_put, get_args, get_putL, get_putL_nil, Nat.reduceEqDiff, reduceIte, List.getD_cons_zero, List.getD_cons_succ, List.getD_nil, Bool.not_true, Bool.not_false]); first | done | with_reducible rfl)⟩) fun w1 v1 he1 hs1 ho1 => ?_
    repeat (first | (show rops _ _ _ _ (_ :: _) _ _; first | refine ra (next := ?_) | refine rk (next := ?_) | refine rku (next := ?_)) | refine st_end ?_ | refine thn_normal ?_ | refine r_seq ?_ | refine r_region rfl ?_ | refine thn_exit ?_ | refine thn_ret ?_ | refine inBlk_normal ?_ | refine inBlk_ret ?_ | refine inBlk_hit ?_ | refine inBlk_miss (by decide) ?_ | refine forQ_exit ?_ | refine forQ_ret ?_ | refine loopQ_exit ?_ | refine loopQ_ret ?_ | refine r_block ?_ | refine r_skip ?_ | refine r_exit ?_ | refine r_ret ?_ | (show rwp _ _ (.cond _ _ _) _ _ _; first | refine c_t (h := ?_) | refine c_f (h := ?_)))
    have hN := ho1.toN
    have hsl : Sl lo hi w1 v _ := Sl.ext (h := hx)
    refine st_append (hv := hN) (hy := hsl) (by ((try simp only [ev_tmp, ev_const, ev_func, get_put, get_args, get_putL, get_putL_nil, Nat.reduceEqDiff, reduceIte, List.getD_cons_zero, List.getD_cons_succ, List.getD_nil]); first | done | with_reducible rfl)) (by ((try simp only [ev_tmp, ev_const, ev_func, get_put, get_args, get_putL, get_putL_nil, Nat.reduceEqDiff, reduceIte, List.getD_cons_zero, List.getD_cons_succ, List.getD_nil]); first | done | with_reducible rfl)) rfl h1 (by simp; omega) (by simp [maxLen]; omega) (by omega) (by first | exact True.intro | exact ⟨_, rfl, by ((try simp only [ev_tmp, ev_const, ev_func, get_put, get_args, get_putL, get_putL_nil, Nat.reduceEqDiff, reduceIte, List.getD_cons_zero, List.getD_cons_succ, List.getD_nil, Bool.not_true, Bool.not_false]); first | done | with_reducible rfl)⟩) fun v2 w2 ho2 hg2 ha2 => ?_
    repeat (first | (show rops _ _ _ _ (_ :: _) _ _; first | refine ra (next := ?_) | refine rk (next := ?_) | refine rku (next := ?_)) | refine st_end ?_ | refine thn_normal ?_ | refine r_seq ?_ | refine r_region rfl ?_ | refine thn_exit ?_ | refine thn_ret ?_ | refine inBlk_normal ?_ | refine inBlk_ret ?_ | refine inBlk_hit ?_ | refine inBlk_miss (by decide) ?_ | refine forQ_exit ?_ | refine forQ_ret ?_ | refine loopQ_exit ?_ | refine loopQ_ret ?_ | refine r_block ?_ | refine r_skip ?_ | refine r_exit ?_ | refine r_ret ?_ | (show rwp _ _ (.cond _ _ _) _ _ _; first | refine c_t (h := ?_) | refine c_f (h := ?_)))
    have hN2 : OwnN 22 w.heap.size w2 v2 us := by simpa using ho2
    refine ret1 ⟨?_, hN2⟩
    obtain ⟨cap, cur, hv1, _⟩ := ho1.ex
    exact ⟨he1.below.grown hg2 (by omega) (fun k hk => by rw [hv1] at hk; simp [Value.ownBlock] at hk; omega)⟩
set_option maxHeartbeats 400000 in
theorem equalI_ok {w : World} {va vb : Value} {xs ys : List Int} {lo hi lo' hi' : Nat} [hx : Ints lo hi w va xs] [hy : Ints lo' hi' w vb ys] (hm : xs.length ≤ 2000000) :
    Calls Try.prog 46 #[va, vb] w (Ret fun v w' => ∃ b, v = .bool b ∧ (b = true ↔ xs = ys) ∧ Ext w w') := by
  refine enter (args := [va, vb]) (l := [.tmp 4]) Try.func46 rfl rfl Try.ntmps46 (by simp) ?_
  repeat (first | (show rops _ _ _ _ (_ :: _) _ _; first | refine ra (next := ?_) | refine rk (next := ?_) | refine rku (next := ?_)) | refine st_end ?_ | refine thn_normal ?_ | refine r_seq ?_ | refine r_region rfl ?_ | refine thn_exit ?_ | refine thn_ret ?_ | refine inBlk_normal ?_ | refine inBlk_ret ?_ | refine inBlk_hit ?_ | refine inBlk_miss (by decide) ?_ | refine forQ_exit ?_ | refine forQ_ret ?_ | refine loopQ_exit ?_ | refine loopQ_ret ?_ | refine r_block ?_ | refine r_skip ?_ | refine r_exit ?_ | refine r_ret ?_ | (show rwp _ _ (.cond _ _ _) _ _ _; first | refine c_t (h := ?_) | refine c_f (h := ?_)))
  refine c_if (fun h1 => ?_) (fun h1 => ?_)
  · repeat (first | (show rops _ _ _ _ (_ :: _) _ _; first | refine ra (next := ?_) | refine rk (next := ?_) | refine rku (next := ?_)) | refine st_end ?_ | refine thn_normal ?_ | refine r_seq ?_ | refine r_region rfl ?_ | refine thn_exit ?_ | refine thn_ret ?_ | refine inBlk_normal ?_ | refine inBlk_ret ?_ | refine inBlk_hit ?_ | refine inBlk_miss (by decide) ?_ | refine forQ_exit ?_ | refine forQ_ret ?_ | refine loopQ_exit ?_ | refine loopQ_ret ?_ | refine r_block ?_ | refine r_skip ?_ | refine r_exit ?_ | refine r_ret ?_ | (show rwp _ _ (.cond _ _ _) _ _ _; first | refine c_t (h := ?_) | refine c_f (h := ?_)))
    refine ret1 ⟨_, rfl, ?_, Ext.refl _⟩
    simp only [Bool.false_eq_true, false_iff]
    rintro rfl
    simp at h1
  · repeat (first | (show rops _ _ _ _ (_ :: _) _ _; first | refine ra (next := ?_) | refine rk (next := ?_) | refine rku (next := ?_)) | refine st_end ?_ | refine thn_normal ?_ | refine r_seq ?_ | refine r_region rfl ?_ | refine thn_exit ?_ | refine thn_ret ?_ | refine inBlk_normal ?_ | refine inBlk_ret ?_ | refine inBlk_hit ?_ | refine inBlk_miss (by decide) ?_ | refine forQ_exit ?_ | refine forQ_ret ?_ | refine loopQ_exit ?_ | refine loopQ_ret ?_ | refine r_block ?_ | refine r_skip ?_ | refine r_exit ?_ | refine r_ret ?_ | (show rwp _ _ (.cond _ _ _) _ _ _; first | refine c_t (h := ?_) | refine c_f (h := ?_)))
    refine r_for xs.length (fun k ρ w' => Has ρ [(0, va), (1, vb), (12, .int .i64 xs.length), (13, .int .i64 k)] ∧ Ext w w' ∧ xs.take k = ys.take k) ?_ ?_
    · refine ⟨?_, Ext.refl _, rfl⟩
      ((try simp only [Has, ev_tmp, ev_const, ev_func, get_put, get_args, get_putL, get_putL_nil, Nat.reduceEqDiff, reduceIte, List.getD_cons_zero, List.getD_cons_succ, List.getD_nil]); repeat' (first | exact True.intro | apply And.intro | with_reducible rfl | exact int_congr (by first | omega | rfl)))
    · rintro k ρ w1 hk ⟨hH, he, ht⟩
      refine rwp_has hH fun ρ0 => ?_
      repeat (first | (show rops _ _ _ _ (_ :: _) _ _; first | refine ra (next := ?_) | refine rk (next := ?_) | refine rku (next := ?_)) | refine st_end ?_ | refine thn_normal ?_ | refine r_seq ?_ | refine r_region rfl ?_ | refine thn_exit ?_ | refine thn_ret ?_ | refine inBlk_normal ?_ | refine inBlk_ret ?_ | refine inBlk_hit ?_ | refine inBlk_miss (by decide) ?_ | refine forQ_exit ?_ | refine forQ_ret ?_ | refine loopQ_exit ?_ | refine loopQ_ret ?_ | refine r_block ?_ | refine r_skip ?_ | refine r_exit ?_ | refine r_ret ?_ | (show rwp _ _ (.cond _ _ _) _ _ _; first | refine c_t (h := ?_) | refine c_f (h := ?_)))
      refine c_if (fun h2 => ?_) (fun h2 => ?_)
      · repeat (first | (show rops _ _ _ _ (_ :: _) _ _; first | refine ra (next := ?_) | refine rk (next := ?_) | refine rku (next := ?_)) | refine st_end ?_ | refine thn_normal ?_ | refine r_seq ?_ | refine r_region rfl ?_ | refine thn_exit ?_ | refine thn_ret ?_ | refine inBlk_normal ?_ | refine inBlk_ret ?_ | refine inBlk_hit ?_ | refine inBlk_miss (by decide) ?_ | refine forQ_exit ?_ | refine forQ_ret ?_ | refine loopQ_exit ?_ | refine loopQ_ret ?_ | refine r_block ?_ | refine r_skip ?_ | refine r_exit ?_ | refine r_ret ?_ | (show rwp _ _ (.cond _ _ _) _ _ _; first | refine c_t (h := ?_) | refine c_f (h := ?_)))
        refine d_region fun w2 he2 _ => ?_
        repeat (first | refine da (next := ?_) | refine dsk (next := ?_) | refine dsku (next := ?_))
        refine d_end (h := ?_)
        repeat (first | (show rops _ _ _ _ (_ :: _) _ _; first | refine ra (next := ?_) | refine rk (next := ?_) | refine rku (next := ?_)) | refine st_end ?_ | refine thn_normal ?_ | refine r_seq ?_ | refine r_region rfl ?_ | refine thn_exit ?_ | refine thn_ret ?_ | refine inBlk_normal ?_ | refine inBlk_ret ?_ | refine inBlk_hit ?_ | refine inBlk_miss (by decide) ?_ | refine forQ_exit ?_ | refine forQ_ret ?_ | refine loopQ_exit ?_ | refine loopQ_ret ?_ | refine r_block ?_ | refine r_skip ?_ | refine r_exit ?_ | refine r_ret ?_ | (show rwp _ _ (.cond _ _ _) _ _ _; first | refine c_t (h := ?_) | refine c_f (h := ?_)))
        refine c_if (fun h3 => ?_) (fun h3 => ?_)
        · repeat (first | (show rops _ _ _ _ (_ :: _) _ _; first | refine ra (next := ?_) | refine rk (next := ?_) | refine rku (next := ?_)) | refine st_end ?_ | refine thn_normal ?_ | refine r_seq ?_ | refine r_region rfl ?_ | refine thn_exit ?_ | refine thn_ret ?_ | refine inBlk_normal ?_ | refine inBlk_ret ?_ | refine inBlk_hit ?_ | refine inBlk_miss (by decide) ?_ | refine forQ_exit ?_ | refine forQ_ret ?_ | refine loopQ_exit ?_ | refine loopQ_ret ?_ | refine r_block ?_ | refine r_skip ?_ | refine r_exit ?_ | refine r_ret ?_ | (show rwp _ _ (.cond _ _ _) _ _ _; first | refine c_t (h := ?_) | refine c_f (h := ?_)))
          refine ret1 ⟨_, rfl, ?_, he.trans he2⟩
          simp only [Bool.false_eq_true, false_iff]
          rintro rfl
          exact h3 rfl
        · repeat (first | (show rops _ _ _ _ (_ :: _) _ _; first | refine ra (next := ?_) | refine rk (next := ?_) | refine rku (next := ?_)) | refine st_end ?_ | refine thn_normal ?_ | refine r_seq ?_ | refine r_region rfl ?_ | refine thn_exit ?_ | refine thn_ret ?_ | refine inBlk_normal ?_ | refine inBlk_ret ?_ | refine inBlk_hit ?_ | refine inBlk_miss (by decide) ?_ | refine forQ_exit ?_ | refine forQ_ret ?_ | refine loopQ_exit ?_ | refine loopQ_ret ?_ | refine r_block ?_ | refine r_skip ?_ | refine r_exit ?_ | refine r_ret ?_ | (show rwp _ _ (.cond _ _ _) _ _ _; first | refine c_t (h := ?_) | refine c_f (h := ?_)))
          refine forQ_normal (by omega) ⟨?_, he.trans he2, take_succ_eq ht (by omega) (by omega) ?_⟩
          · ((try simp only [Has, ev_tmp, ev_const, ev_func, get_put, get_args, get_putL, get_putL_nil, Nat.reduceEqDiff, reduceIte, List.getD_cons_zero, List.getD_cons_succ, List.getD_nil]); repeat' (first | exact True.intro | apply And.intro | with_reducible rfl | exact int_congr (by first | omega | rfl)))
          · exact Decidable.not_not.1 h3
      · repeat (first | (show rops _ _ _ _ (_ :: _) _ _; first | refine ra (next := ?_) | refine rk (next := ?_) | refine rku (next := ?_)) | refine st_end ?_ | refine thn_normal ?_ | refine r_seq ?_ | refine r_region rfl ?_ | refine thn_exit ?_ | refine thn_ret ?_ | refine inBlk_normal ?_ | refine inBlk_ret ?_ | refine inBlk_hit ?_ | refine inBlk_miss (by decide) ?_ | refine forQ_exit ?_ | refine forQ_ret ?_ | refine loopQ_exit ?_ | refine loopQ_ret ?_ | refine r_block ?_ | refine r_skip ?_ | refine r_exit ?_ | refine r_ret ?_ | (show rwp _ _ (.cond _ _ _) _ _ _; first | refine c_t (h := ?_) | refine c_f (h := ?_)))
        refine ret1 ⟨_, rfl, ?_, he⟩
        have : k = xs.length := by omega
        subst this
        simp only [true_iff]
        rw [List.take_of_length_le (Nat.le_refl _), List.take_of_length_le (by omega)] at ht
        exact ht
set_option maxHeartbeats 400000 in
theorem equalR_ok {w : World} {va vb : Value} {us vs : List Value} {xss yss : List (List Int)} {lo hi lo1 hi1 : Nat} [hx : Pc.Rows lo hi w va us xss] [hy : Pc.Rows lo1 hi1 w vb vs yss] (hm : ∀ i, (xss.getD i []).length ≤ 2000000) (hl : xss.length ≤ 10000000) :
    Calls Try.prog 45 #[va, vb, .func (.func 46) #[] #[]] w (Ret fun v w' => ∃ b, v = .bool b ∧ (b = true ↔ xss = yss) ∧ Ext w w') := by
  have hul := hx.vals.len
  have hvl := hy.vals.len
  refine enter (args := [va, vb, .func (.func 46) #[] #[]]) (l := [.tmp 6]) Try.func45 rfl rfl Try.ntmps45 (by simp) ?_
  repeat (first | (show rops _ _ _ _ (_ :: _) _ _; first | refine ra (next := ?_) | refine rk (next := ?_) | refine rku (next := ?_)) | refine st_end ?_ | refine thn_normal ?_ | refine r_seq ?_ | refine r_region rfl ?_ | refine thn_exit ?_ | refine thn_ret ?_ | refine inBlk_normal ?_ | refine inBlk_ret ?_ | refine inBlk_hit ?_ | refine inBlk_miss (by decide) ?_ | refine forQ_exit ?_ | refine forQ_ret ?_ | refine loopQ_exit ?_ | refine loopQ_ret ?_ | refine r_block ?_ | refine r_skip ?_ | refine r_exit ?_ | refine r_ret ?_ | (show rwp _ _ (.cond _ _ _) _ _ _; first | refine c_t (h := ?_) | refine c_f (h := ?_)))
  refine c_if (fun h1 => ?_) (fun h1 => ?_)
  · repeat (first | (show rops _ _ _ _ (_ :: _) _ _; first | refine ra (next := ?_) | refine rk (next := ?_) | refine rku (next := ?_)) | refine st_end ?_ | refine thn_normal ?_ | refine r_seq ?_ | refine r_region rfl ?_ | refine thn_exit ?_ | refine thn_ret ?_ | refine inBlk_normal ?_ | refine inBlk_ret ?_ | refine inBlk_hit ?_ | refine inBlk_miss (by decide) ?_ | refine forQ_exit ?_ | refine forQ_ret ?_ | refine loopQ_exit ?_ | refine loopQ_ret ?_ | refine r_block ?_ | refine r_skip ?_ | refine r_exit ?_ | refine r_ret ?_ | (show rwp _ _ (.cond _ _ _) _ _ _; first | refine c_t (h := ?_) | refine c_f (h := ?_)))
    refine ret1 ⟨_, rfl, ?_, Ext.refl _⟩
    simp only [Bool.false_eq_true, false_iff]
    rintro rfl
    omega
  · have hxy : xss.length = yss.length := by omega
    repeat (first | (show rops _ _ _ _ (_ :: _) _ _; first | refine ra (next := ?_) | refine rk (next := ?_) | refine rku (next := ?_)) | refine st_end ?_ | refine thn_normal ?_ | refine r_seq ?_ | refine r_region rfl ?_ | refine thn_exit ?_ | refine thn_ret ?_ | refine inBlk_normal ?_ | refine inBlk_ret ?_ | refine inBlk_hit ?_ | refine inBlk_miss (by decide) ?_ | refine forQ_exit ?_ | refine forQ_ret ?_ | refine loopQ_exit ?_ | refine loopQ_ret ?_ | refine r_block ?_ | refine r_skip ?_ | refine r_exit ?_ | refine r_ret ?_ | (show rwp _ _ (.cond _ _ _) _ _ _; first | refine c_t (h := ?_) | refine c_f (h := ?_)))
    refine r_for xss.length (fun k ρ w' => Has ρ [(1, vb), (2, .func (.func 46) #[] #[]), (15, va), (16, .int .i64 xss.length), (17, .int .i64 k)] ∧ Ext w w' ∧ ∀ i, i < k → xss.getD i [] = yss.getD i []) ?_ ?_
    · refine ⟨?_, Ext.refl _, fun i hi => by omega⟩
      ((try simp only [Has, ev_tmp, ev_const, ev_func, get_put, get_args, get_putL, get_putL_nil, Nat.reduceEqDiff, reduceIte, List.getD_cons_zero, List.getD_cons_succ, List.getD_nil]); repeat' (first | exact True.intro | apply And.intro | with_reducible rfl | exact int_congr (by first | omega | rfl)))
    rintro k ρ w1 hk ⟨hH, he1, hI⟩
    refine rwp_has hH fun ρ0 => ?_
    repeat (first | (show rops _ _ _ _ (_ :: _) _ _; first | refine ra (next := ?_) | refine rk (next := ?_) | refine rku (next := ?_)) | refine st_end ?_ | refine thn_normal ?_ | refine r_seq ?_ | refine r_region rfl ?_ | refine thn_exit ?_ | refine thn_ret ?_ | refine inBlk_normal ?_ | refine inBlk_ret ?_ | refine inBlk_hit ?_ | refine inBlk_miss (by decide) ?_ | refine forQ_exit ?_ | refine forQ_ret ?_ | refine loopQ_exit ?_ | refine loopQ_ret ?_ | refine r_block ?_ | refine r_skip ?_ | refine r_exit ?_ | refine r_ret ?_ | (show rwp _ _ (.cond _ _ _) _ _ _; first | refine c_t (h := ?_) | refine c_f (h := ?_)))
    refine c_if (fun h4 => ?_) (fun h4 => ?_)
    · repeat (first | (show rops _ _ _ _ (_ :: _) _ _; first | refine ra (next := ?_) | refine rk (next := ?_) | refine rku (next := ?_)) | refine st_end ?_ | refine thn_normal ?_ | refine r_seq ?_ | refine r_region rfl ?_ | refine thn_exit ?_ | refine thn_ret ?_ | refine inBlk_normal ?_ | refine inBlk_ret ?_ | refine inBlk_hit ?_ | refine inBlk_miss (by decide) ?_ | refine forQ_exit ?_ | refine forQ_ret ?_ | refine loopQ_exit ?_ | refine loopQ_ret ?_ | refine r_block ?_ | refine r_skip ?_ | refine r_exit ?_ | refine r_ret ?_ | (show rwp _ _ (.cond _ _ _) _ _ _; first | refine c_t (h := ?_) | refine c_f (h := ?_)))
      refine rc (equalI_ok (xs := xss.getD k []) (ys := yss.getD k []) (hm k)) (next := fun v3 w3 h3 => ?_)
      obtain ⟨b3, rfl, hb3, he3⟩ := h3
      repeat (first | (show rops _ _ _ _ (_ :: _) _ _; first | refine ra (next := ?_) | refine rk (next := ?_) | refine rku (next := ?_)) | refine st_end ?_ | refine thn_normal ?_ | refine r_seq ?_ | refine r_region rfl ?_ | refine thn_exit ?_ | refine thn_ret ?_ | refine inBlk_normal ?_ | refine inBlk_ret ?_ | refine inBlk_hit ?_ | refine inBlk_miss (by decide) ?_ | refine forQ_exit ?_ | refine forQ_ret ?_ | refine loopQ_exit ?_ | refine loopQ_ret ?_ | refine r_block ?_ | refine r_skip ?_ | refine r_exit ?_ | refine r_ret ?_ | (show rwp _ _ (.cond _ _ _) _ _ _; first | refine c_t (h := ?_) | refine c_f (h := ?_)))
      refine c_b (fun h5 => ?_) (fun h5 => ?_)
      · repeat (first | (show rops _ _ _ _ (_ :: _) _ _; first | refine ra (next := ?_) | refine rk (next := ?_) | refine rku (next := ?_)) | refine st_end ?_ | refine thn_normal ?_ | refine r_seq ?_ | refine r_region rfl ?_ | refine thn_exit ?_ | refine thn_ret ?_ | refine inBlk_normal ?_ | refine inBlk_ret ?_ | refine inBlk_hit ?_ | refine inBlk_miss (by decide) ?_ | refine forQ_exit ?_ | refine forQ_ret ?_ | refine loopQ_exit ?_ | refine loopQ_ret ?_ | refine r_block ?_ | refine r_skip ?_ | refine r_exit ?_ | refine r_ret ?_ | (show rwp _ _ (.cond _ _ _) _ _ _; first | refine c_t (h := ?_) | refine c_f (h := ?_)))
        refine ret1 ⟨_, rfl, ?_, he1.trans he3⟩
        simp only [Bool.false_eq_true, false_iff]
        rintro rfl
        have := hb3.2 rfl
        rw [this] at h5; cases h5
      · have h6 := hb3.1 (by simpa using h5)
        repeat (first | (show rops _ _ _ _ (_ :: _) _ _; first | refine ra (next := ?_) | refine rk (next := ?_) | refine rku (next := ?_)) | refine st_end ?_ | refine thn_normal ?_ | refine r_seq ?_ | refine r_region rfl ?_ | refine thn_exit ?_ | refine thn_ret ?_ | refine inBlk_normal ?_ | refine inBlk_ret ?_ | refine inBlk_hit ?_ | refine inBlk_miss (by decide) ?_ | refine forQ_exit ?_ | refine forQ_ret ?_ | refine loopQ_exit ?_ | refine loopQ_ret ?_ | refine r_block ?_ | refine r_skip ?_ | refine r_exit ?_ | refine r_ret ?_ | (show rwp _ _ (.cond _ _ _) _ _ _; first | refine c_t (h := ?_) | refine c_f (h := ?_)))
        refine forQ_normal (by omega) ⟨?_, he1.trans he3, fun i hi => ?_⟩
        · ((try simp only [Has, ev_tmp, ev_const, ev_func, get_put, get_args, get_putL, get_putL_nil, Nat.reduceEqDiff, reduceIte, List.getD_cons_zero, List.getD_cons_succ, List.getD_nil]); repeat' (first | exact True.intro | apply And.intro | with_reducible rfl | exact int_congr (by first | omega | rfl)))
        · by_cases e : i = k
          · subst e; exact h6
          · exact hI i (by omega)
    · repeat (first | (show rops _ _ _ _ (_ :: _) _ _; first | refine ra (next := ?_) | refine rk (next := ?_) | refine rku (next := ?_)) | refine st_end ?_ | refine thn_normal ?_ | refine r_seq ?_ | refine r_region rfl ?_ | refine thn_exit ?_ | refine thn_ret ?_ | refine inBlk_normal ?_ | refine inBlk_ret ?_ | refine inBlk_hit ?_ | refine inBlk_miss (by decide) ?_ | refine forQ_exit ?_ | refine forQ_ret ?_ | refine loopQ_exit ?_ | refine loopQ_ret ?_ | refine r_block ?_ | refine r_skip ?_ | refine r_exit ?_ | refine r_ret ?_ | (show rwp _ _ (.cond _ _ _) _ _ _; first | refine c_t (h := ?_) | refine c_f (h := ?_)))
      refine ret1 ⟨_, rfl, ?_, he1⟩
      simp only [true_iff]
      apply List.ext_getElem hxy
      intro i h1 h2
      have := hI i (by omega)
      simpa [h1, h2] using this
theorem sameRows_ok {w : World} {va vb : Value} {us vs : List Value} {xss yss : List (List Int)} {lo hi lo1 hi1 : Nat} [hx : Pc.Rows lo hi w va us xss] [hy : Pc.Rows lo1 hi1 w vb vs yss] (hm : ∀ i, (xss.getD i []).length ≤ 2000000) (hl : xss.length ≤ 10000000) :
    Calls Try.prog 28 #[va, vb] w (Ret fun v w' => ∃ b, v = .bool b ∧ (b = true ↔ xss = yss) ∧ Ext w w') := by
  refine enter (args := [va, vb]) (l := [.tmp 4]) Try.func28 rfl rfl Try.ntmps28 (by simp) ?_
  repeat (first | (show rops _ _ _ _ (_ :: _) _ _; first | refine ra (next := ?_) | refine rk (next := ?_) | refine rku (next := ?_)) | refine st_end ?_ | refine thn_normal ?_ | refine r_seq ?_ | refine r_region rfl ?_ | refine thn_exit ?_ | refine thn_ret ?_ | refine inBlk_normal ?_ | refine inBlk_ret ?_ | refine inBlk_hit ?_ | refine inBlk_miss (by decide) ?_ | refine forQ_exit ?_ | refine forQ_ret ?_ | refine loopQ_exit ?_ | refine loopQ_ret ?_ | refine r_block ?_ | refine r_skip ?_ | refine r_exit ?_ | refine r_ret ?_ | (show rwp _ _ (.cond _ _ _) _ _ _; first | refine c_t (h := ?_) | refine c_f (h := ?_)))
  refine rc (equalR_ok (xss := xss) (yss := yss) hm hl) (next := fun v3 w3 h3 => ?_)
  obtain ⟨b3, rfl, hb3, he3⟩ := h3
  repeat (first | (show rops _ _ _ _ (_ :: _) _ _; first | refine ra (next := ?_) | refine rk (next := ?_) | refine rku (next := ?_)) | refine st_end ?_ | refine thn_normal ?_ | refine r_seq ?_ | refine r_region rfl ?_ | refine thn_exit ?_ | refine thn_ret ?_ | refine inBlk_normal ?_ | refine inBlk_ret ?_ | refine inBlk_hit ?_ | refine inBlk_miss (by decide) ?_ | refine forQ_exit ?_ | refine forQ_ret ?_ | refine loopQ_exit ?_ | refine loopQ_ret ?_ | refine r_block ?_ | refine r_skip ?_ | refine r_exit ?_ | refine r_ret ?_ | (show rwp _ _ (.cond _ _ _) _ _ _; first | refine c_t (h := ?_) | refine c_f (h := ?_)))
  exact ret1 ⟨_, rfl, hb3, he3⟩
set_option maxHeartbeats 400000 in
theorem depthOf_ok {w : World} {v : Value} {xs : List Int} {lo hi : Nat} [hx : Ints lo hi w v xs] (hl : xs.length ≤ 2000000) :
    Calls Try.prog 62 #[v] w (Ret fun v w' => v = .int .i64 (lead xs) ∧ Ext w w') := by
  refine enter (args := [v]) (l := [.tmp 2]) Try.func62 rfl rfl Try.ntmps62 (by simp) ?_
  repeat (first | (show rops _ _ _ _ (_ :: _) _ _; first | refine ra (next := ?_) | refine rk (next := ?_) | refine rku (next := ?_)) | refine st_end ?_ | refine thn_normal ?_ | refine r_seq ?_ | refine r_region rfl ?_ | refine thn_exit ?_ | refine thn_ret ?_ | refine inBlk_normal ?_ | refine inBlk_ret ?_ | refine inBlk_hit ?_ | refine inBlk_miss (by decide) ?_ | refine forQ_exit ?_ | refine forQ_ret ?_ | refine loopQ_exit ?_ | refine loopQ_ret ?_ | refine r_block ?_ | refine r_skip ?_ | refine r_exit ?_ | refine r_ret ?_ | (show rwp _ _ (.cond _ _ _) _ _ _; first | refine c_t (h := ?_) | refine c_f (h := ?_)))
  refine r_for xs.length (fun k ρ w' => Has ρ [(0, v), (5, v), (6, .int .i64 xs.length), (7, .int .i64 k)] ∧ Ext w w' ∧ ∀ i, i < k → xs.getD i 0 = 0) ?_ ?_
  · refine ⟨?_, Ext.refl _, fun i hi => by omega⟩
    ((try simp only [Has, ev_tmp, ev_const, ev_func, get_put, get_args, get_putL, get_putL_nil, Nat.reduceEqDiff, reduceIte, List.getD_cons_zero, List.getD_cons_succ, List.getD_nil]); repeat' (first | exact True.intro | apply And.intro | with_reducible rfl | exact int_congr (by first | omega | rfl)))
  rintro k ρ w2 hk ⟨hH, he2, hI⟩
  refine rwp_has hH fun ρ0 => ?_
  repeat (first | (show rops _ _ _ _ (_ :: _) _ _; first | refine ra (next := ?_) | refine rk (next := ?_) | refine rku (next := ?_)) | refine st_end ?_ | refine thn_normal ?_ | refine r_seq ?_ | refine r_region rfl ?_ | refine thn_exit ?_ | refine thn_ret ?_ | refine inBlk_normal ?_ | refine inBlk_ret ?_ | refine inBlk_hit ?_ | refine inBlk_miss (by decide) ?_ | refine forQ_exit ?_ | refine forQ_ret ?_ | refine loopQ_exit ?_ | refine loopQ_ret ?_ | refine r_block ?_ | refine r_skip ?_ | refine r_exit ?_ | refine r_ret ?_ | (show rwp _ _ (.cond _ _ _) _ _ _; first | refine c_t (h := ?_) | refine c_f (h := ?_)))
  refine c_if (fun h4 => ?_) (fun h4 => ?_)
  · repeat (first | (show rops _ _ _ _ (_ :: _) _ _; first | refine ra (next := ?_) | refine rk (next := ?_) | refine rku (next := ?_)) | refine st_end ?_ | refine thn_normal ?_ | refine r_seq ?_ | refine r_region rfl ?_ | refine thn_exit ?_ | refine thn_ret ?_ | refine inBlk_normal ?_ | refine inBlk_ret ?_ | refine inBlk_hit ?_ | refine inBlk_miss (by decide) ?_ | refine forQ_exit ?_ | refine forQ_ret ?_ | refine loopQ_exit ?_ | refine loopQ_ret ?_ | refine r_block ?_ | refine r_skip ?_ | refine r_exit ?_ | refine r_ret ?_ | (show rwp _ _ (.cond _ _ _) _ _ _; first | refine c_t (h := ?_) | refine c_f (h := ?_)))
    refine c_if (fun h5 => ?_) (fun h5 => ?_)
    · repeat (first | (show rops _ _ _ _ (_ :: _) _ _; first | refine ra (next := ?_) | refine rk (next := ?_) | refine rku (next := ?_)) | refine st_end ?_ | refine thn_normal ?_ | refine r_seq ?_ | refine r_region rfl ?_ | refine thn_exit ?_ | refine thn_ret ?_ | refine inBlk_normal ?_ | refine inBlk_ret ?_ | refine inBlk_hit ?_ | refine inBlk_miss (by decide) ?_ | refine forQ_exit ?_ | refine forQ_ret ?_ | refine loopQ_exit ?_ | refine loopQ_ret ?_ | refine r_block ?_ | refine r_skip ?_ | refine r_exit ?_ | refine r_ret ?_ | (show rwp _ _ (.cond _ _ _) _ _ _; first | refine c_t (h := ?_) | refine c_f (h := ?_)))
      exact ret1 ⟨by rw [lead_eq hI h5], he2⟩
    · repeat (first | (show rops _ _ _ _ (_ :: _) _ _; first | refine ra (next := ?_) | refine rk (next := ?_) | refine rku (next := ?_)) | refine st_end ?_ | refine thn_normal ?_ | refine r_seq ?_ | refine r_region rfl ?_ | refine thn_exit ?_ | refine thn_ret ?_ | refine inBlk_normal ?_ | refine inBlk_ret ?_ | refine inBlk_hit ?_ | refine inBlk_miss (by decide) ?_ | refine forQ_exit ?_ | refine forQ_ret ?_ | refine loopQ_exit ?_ | refine loopQ_ret ?_ | refine r_block ?_ | refine r_skip ?_ | refine r_exit ?_ | refine r_ret ?_ | (show rwp _ _ (.cond _ _ _) _ _ _; first | refine c_t (h := ?_) | refine c_f (h := ?_)))
      refine forQ_normal (by omega) ⟨?_, he2, fun i hi => ?_⟩
      · ((try simp only [Has, ev_tmp, ev_const, ev_func, get_put, get_args, get_putL, get_putL_nil, Nat.reduceEqDiff, reduceIte, List.getD_cons_zero, List.getD_cons_succ, List.getD_nil]); repeat' (first | exact True.intro | apply And.intro | with_reducible rfl | exact int_congr (by first | omega | rfl)))
      · by_cases e : i = k
        · subst e; exact Decidable.not_not.1 h5
        · exact hI i (by omega)
  · repeat (first | (show rops _ _ _ _ (_ :: _) _ _; first | refine ra (next := ?_) | refine rk (next := ?_) | refine rku (next := ?_)) | refine st_end ?_ | refine thn_normal ?_ | refine r_seq ?_ | refine r_region rfl ?_ | refine thn_exit ?_ | refine thn_ret ?_ | refine inBlk_normal ?_ | refine inBlk_ret ?_ | refine inBlk_hit ?_ | refine inBlk_miss (by decide) ?_ | refine forQ_exit ?_ | refine forQ_ret ?_ | refine loopQ_exit ?_ | refine loopQ_ret ?_ | refine r_block ?_ | refine r_skip ?_ | refine r_exit ?_ | refine r_ret ?_ | (show rwp _ _ (.cond _ _ _) _ _ _; first | refine c_t (h := ?_) | refine c_f (h := ?_)))
    exact ret1 ⟨by rw [lead_len fun i hi => hI i (by omega)], he2⟩
theorem nz_ok {k : Int} {w : World} : Calls Try.prog 83 #[.int .i64 k] w (Ret fun v w' => v = .bool (decide (k ≠ 0)) ∧ Ext w w') := by
  refine enter (args := [.int .i64 k]) (l := [.tmp 2]) Try.func83 rfl rfl Try.ntmps83 (by simp) ?_
  repeat (first | (show rops _ _ _ _ (_ :: _) _ _; first | refine ra (next := ?_) | refine rk (next := ?_) | refine rku (next := ?_)) | refine st_end ?_ | refine thn_normal ?_ | refine r_seq ?_ | refine r_region rfl ?_ | refine thn_exit ?_ | refine thn_ret ?_ | refine inBlk_normal ?_ | refine inBlk_ret ?_ | refine inBlk_hit ?_ | refine inBlk_miss (by decide) ?_ | refine forQ_exit ?_ | refine forQ_ret ?_ | refine loopQ_exit ?_ | refine loopQ_ret ?_ | refine r_block ?_ | refine r_skip ?_ | refine r_exit ?_ | refine r_ret ?_ | (show rwp _ _ (.cond _ _ _) _ _ _; first | refine c_t (h := ?_) | refine c_f (h := ?_)))
  exact ret1 ⟨rfl, Ext.refl _⟩
set_option maxHeartbeats 400000 in
theorem indexNz_ok {w : World} {v : Value} {xs : List Int} {lo hi : Nat} [hx : Ints lo hi w v xs] (hl : xs.length ≤ 2000000) (h0 : lead xs < xs.length) :
    Calls Try.prog 82 #[v, .func (.func 83) #[] #[]] w (Ret fun v w' => v = .int .i64 (lead xs) ∧ Ext w w') := by
  refine enter (args := [v, .func (.func 83) #[] #[]]) (l := [.tmp 4]) Try.func82 rfl rfl Try.ntmps82 (by simp) ?_
  repeat (first | (show rops _ _ _ _ (_ :: _) _ _; first | refine ra (next := ?_) | refine rk (next := ?_) | refine rku (next := ?_)) | refine st_end ?_ | refine thn_normal ?_ | refine r_seq ?_ | refine r_region rfl ?_ | refine thn_exit ?_ | refine thn_ret ?_ | refine inBlk_normal ?_ | refine inBlk_ret ?_ | refine inBlk_hit ?_ | refine inBlk_miss (by decide) ?_ | refine forQ_exit ?_ | refine forQ_ret ?_ | refine loopQ_exit ?_ | refine loopQ_ret ?_ | refine r_block ?_ | refine r_skip ?_ | refine r_exit ?_ | refine r_ret ?_ | (show rwp _ _ (.cond _ _ _) _ _ _; first | refine c_t (h := ?_) | refine c_f (h := ?_)))
  refine r_for xs.length (fun k ρ w' => Has ρ [(0, v), (1, .func (.func 83) #[] #[]), (7, .int .i64 xs.length), (8, .int .i64 k)] ∧ Ext w w' ∧ ∀ i, i < k → xs.getD i 0 = 0) ?_ ?_
  · refine ⟨?_, Ext.refl _, fun i hi => by omega⟩
    ((try simp only [Has, ev_tmp, ev_const, ev_func, get_put, get_args, get_putL, get_putL_nil, Nat.reduceEqDiff, reduceIte, List.getD_cons_zero, List.getD_cons_succ, List.getD_nil]); repeat' (first | exact True.intro | apply And.intro | with_reducible rfl | exact int_congr (by first | omega | rfl)))
  rintro k ρ w2 hk ⟨hH, he2, hI⟩
  refine rwp_has hH fun ρ0 => ?_
  repeat (first | (show rops _ _ _ _ (_ :: _) _ _; first | refine ra (next := ?_) | refine rk (next := ?_) | refine rku (next := ?_)) | refine st_end ?_ | refine thn_normal ?_ | refine r_seq ?_ | refine r_region rfl ?_ | refine thn_exit ?_ | refine thn_ret ?_ | refine inBlk_normal ?_ | refine inBlk_ret ?_ | refine inBlk_hit ?_ | refine inBlk_miss (by decide) ?_ | refine forQ_exit ?_ | refine forQ_ret ?_ | refine loopQ_exit ?_ | refine loopQ_ret ?_ | refine r_block ?_ | refine r_skip ?_ | refine r_exit ?_ | refine r_ret ?_ | (show rwp _ _ (.cond _ _ _) _ _ _; first | refine c_t (h := ?_) | refine c_f (h := ?_)))
  refine c_if (fun h4 => ?_) (fun h4 => ?_)
  · repeat (first | (show rops _ _ _ _ (_ :: _) _ _; first | refine ra (next := ?_) | refine rk (next := ?_) | refine rku (next := ?_)) | refine st_end ?_ | refine thn_normal ?_ | refine r_seq ?_ | refine r_region rfl ?_ | refine thn_exit ?_ | refine thn_ret ?_ | refine inBlk_normal ?_ | refine inBlk_ret ?_ | refine inBlk_hit ?_ | refine inBlk_miss (by decide) ?_ | refine forQ_exit ?_ | refine forQ_ret ?_ | refine loopQ_exit ?_ | refine loopQ_ret ?_ | refine r_block ?_ | refine r_skip ?_ | refine r_exit ?_ | refine r_ret ?_ | (show rwp _ _ (.cond _ _ _) _ _ _; first | refine c_t (h := ?_) | refine c_f (h := ?_)))
    refine rc (nz_ok (k := xs.getD k 0)) (next := fun v3 w3 h3 => ?_)
    obtain ⟨rfl, he3⟩ := h3
    repeat (first | (show rops _ _ _ _ (_ :: _) _ _; first | refine ra (next := ?_) | refine rk (next := ?_) | refine rku (next := ?_)) | refine st_end ?_ | refine thn_normal ?_ | refine r_seq ?_ | refine r_region rfl ?_ | refine thn_exit ?_ | refine thn_ret ?_ | refine inBlk_normal ?_ | refine inBlk_ret ?_ | refine inBlk_hit ?_ | refine inBlk_miss (by decide) ?_ | refine forQ_exit ?_ | refine forQ_ret ?_ | refine loopQ_exit ?_ | refine loopQ_ret ?_ | refine r_block ?_ | refine r_skip ?_ | refine r_exit ?_ | refine r_ret ?_ | (show rwp _ _ (.cond _ _ _) _ _ _; first | refine c_t (h := ?_) | refine c_f (h := ?_)))
    refine c_if (fun h5 => ?_) (fun h5 => ?_)
    · repeat (first | (show rops _ _ _ _ (_ :: _) _ _; first | refine ra (next := ?_) | refine rk (next := ?_) | refine rku (next := ?_)) | refine st_end ?_ | refine thn_normal ?_ | refine r_seq ?_ | refine r_region rfl ?_ | refine thn_exit ?_ | refine thn_ret ?_ | refine inBlk_normal ?_ | refine inBlk_ret ?_ | refine inBlk_hit ?_ | refine inBlk_miss (by decide) ?_ | refine forQ_exit ?_ | refine forQ_ret ?_ | refine loopQ_exit ?_ | refine loopQ_ret ?_ | refine r_block ?_ | refine r_skip ?_ | refine r_exit ?_ | refine r_ret ?_ | (show rwp _ _ (.cond _ _ _) _ _ _; first | refine c_t (h := ?_) | refine c_f (h := ?_)))
      exact ret1 ⟨by rw [lead_eq hI h5], he2.trans he3⟩
    · repeat (first | (show rops _ _ _ _ (_ :: _) _ _; first | refine ra (next := ?_) | refine rk (next := ?_) | refine rku (next := ?_)) | refine st_end ?_ | refine thn_normal ?_ | refine r_seq ?_ | refine r_region rfl ?_ | refine thn_exit ?_ | refine thn_ret ?_ | refine inBlk_normal ?_ | refine inBlk_ret ?_ | refine inBlk_hit ?_ | refine inBlk_miss (by decide) ?_ | refine forQ_exit ?_ | refine forQ_ret ?_ | refine loopQ_exit ?_ | refine loopQ_ret ?_ | refine r_block ?_ | refine r_skip ?_ | refine r_exit ?_ | refine r_ret ?_ | (show rwp _ _ (.cond _ _ _) _ _ _; first | refine c_t (h := ?_) | refine c_f (h := ?_)))
      refine forQ_normal (by omega) ⟨?_, he2.trans he3, fun i hi => ?_⟩
      · ((try simp only [Has, ev_tmp, ev_const, ev_func, get_put, get_args, get_putL, get_putL_nil, Nat.reduceEqDiff, reduceIte, List.getD_cons_zero, List.getD_cons_succ, List.getD_nil]); repeat' (first | exact True.intro | apply And.intro | with_reducible rfl | exact int_congr (by first | omega | rfl)))
      · by_cases e : i = k
        · subst e; exact Decidable.not_not.1 h5
        · exact hI i (by omega)
  · exfalso
    exact lead_ne xs h0 (hI _ (by omega))
set_option maxHeartbeats 400000 in
theorem pivots_ok {w : World} {v : Value} {us : List Value} {xss : List (List Int)} {lo hi : Nat} [hx : Pc.Rows lo hi w v us xss] (hl : xss.length ≤ 2000000) (h0 : ∀ i, i < xss.length → lead (xss.getD i []) < (xss.getD i []).length ∧ (xss.getD i []).length ≤ 2000000) :
    Calls Try.prog 80 #[v] w (Ret fun v w' => Ext w w' ∧ Fr w.heap.size w' v (xss.map fun x => (lead x : Int))) := by
  have hul := hx.vals.len
  refine enter (args := [v]) (l := [.tmp 2]) Try.func80 rfl rfl Try.ntmps80 (by simp) ?_
  repeat (first | (show rops _ _ _ _ (_ :: _) _ _; first | refine ra (next := ?_) | refine rk (next := ?_) | refine rku (next := ?_)) | refine st_end ?_ | refine thn_normal ?_ | refine r_seq ?_ | refine r_region rfl ?_ | refine thn_exit ?_ | refine thn_ret ?_ | refine inBlk_normal ?_ | refine inBlk_ret ?_ | refine inBlk_hit ?_ | refine inBlk_miss (by decide) ?_ | refine forQ_exit ?_ | refine forQ_ret ?_ | refine loopQ_exit ?_ | refine loopQ_ret ?_ | refine r_block ?_ | refine r_skip ?_ | refine r_exit ?_ | refine r_ret ?_ | (show rwp _ _ (.cond _ _ _) _ _ _; first | refine c_t (h := ?_) | refine c_f (h := ?_)))
  refine r_for xss.length (fun k ρ w' => ∃ vo, Has ρ [(3, vo), (6, v), (7, .int .i64 xss.length), (8, .int .i64 k)] ∧ Ext w w' ∧ OwnN 3 w.heap.size w' vo (((xss.take k).map fun x => (lead x : Int)).map (Value.int .i64))) ?_ ?_
  · refine ⟨nilv, ?_, Ext.refl _, OwnN.nil _ _ _⟩
    ((try simp only [Has, ev_tmp, ev_const, ev_func, get_put, get_args, get_putL, get_putL_nil, Nat.reduceEqDiff, reduceIte, List.getD_cons_zero, List.getD_cons_succ, List.getD_nil]); repeat' (first | exact True.intro | apply And.intro | with_reducible rfl | exact int_congr (by first | omega | rfl)))
  rintro k ρ w2 hk ⟨vo, hH, he2, hO⟩
  refine rwp_has hH fun ρ0 => ?_
  repeat (first | (show rops _ _ _ _ (_ :: _) _ _; first | refine ra (next := ?_) | refine rk (next := ?_) | refine rku (next := ?_)) | refine st_end ?_ | refine thn_normal ?_ | refine r_seq ?_ | refine r_region rfl ?_ | refine thn_exit ?_ | refine thn_ret ?_ | refine inBlk_normal ?_ | refine inBlk_ret ?_ | refine inBlk_hit ?_ | refine inBlk_miss (by decide) ?_ | refine forQ_exit ?_ | refine forQ_ret ?_ | refine loopQ_exit ?_ | refine loopQ_ret ?_ | refine r_block ?_ | refine r_skip ?_ | refine r_exit ?_ | refine r_ret ?_ | (show rwp _ _ (.cond _ _ _) _ _ _; first | refine c_t (h := ?_) | refine c_f (h := ?_)))
  refine c_if (fun h4 => ?_) (fun h4 => ?_)
  · have h0k := h0 k (by omega)
    repeat (first | (show rops _ _ _ _ (_ :: _) _ _; first | refine ra (next := ?_) | refine rk (next := ?_) | refine rku (next := ?_)) | refine st_end ?_ | refine thn_normal ?_ | refine r_seq ?_ | refine r_region rfl ?_ | refine thn_exit ?_ | refine thn_ret ?_ | refine inBlk_normal ?_ | refine inBlk_ret ?_ | refine inBlk_hit ?_ | refine inBlk_miss (by decide) ?_ | refine forQ_exit ?_ | refine forQ_ret ?_ | refine loopQ_exit ?_ | refine loopQ_ret ?_ | refine r_block ?_ | refine r_skip ?_ | refine r_exit ?_ | refine r_ret ?_ | (show rwp _ _ (.cond _ _ _) _ _ _; first | refine c_t (h := ?_) | refine c_f (h := ?_)))
    refine rc (indexNz_ok (xs := xss.getD k []) h0k.2 h0k.1) (next := fun v3 w3 h3 => ?_)
    obtain ⟨rfl, he3⟩ := h3
    repeat (first | (show rops _ _ _ _ (_ :: _) _ _; first | refine ra (next := ?_) | refine rk (next := ?_) | refine rku (next := ?_)) | refine st_end ?_ | refine thn_normal ?_ | refine r_seq ?_ | refine r_region rfl ?_ | refine thn_exit ?_ | refine thn_ret ?_ | refine inBlk_normal ?_ | refine inBlk_ret ?_ | refine inBlk_hit ?_ | refine inBlk_miss (by decide) ?_ | refine forQ_exit ?_ | refine forQ_ret ?_ | refine loopQ_exit ?_ | refine loopQ_ret ?_ | refine r_block ?_ | refine r_skip ?_ | refine r_exit ?_ | refine r_ret ?_ | (show rwp _ _ (.cond _ _ _) _ _ _; first | refine c_t (h := ?_) | refine c_f (h := ?_)))
    refine st_slice1 (u := .int .i64 (lead (xss.getD k []))) (by ((try simp only [ev_tmp, ev_const, ev_func, get_put, get_args, get_putL, get_putL_nil, Nat.reduceEqDiff, reduceIte, List.getD_cons_zero, List.getD_cons_succ, List.getD_nil]); first | done | with_reducible rfl)) ?_ ?_ (by first | exact True.intro | exact ⟨_, rfl, by ((try simp only [ev_tmp, ev_const, ev_func, get_put, get_args, get_putL, get_putL_nil, Nat.reduceEqDiff, reduceIte, List.getD_cons_zero, List.getD_cons_succ, List.getD_nil, Bool.not_true, Bool.not_false]); first | done | with_reducible rfl)⟩) fun w6 v6 he6 hs6 ho6 => ?_
    · rfl
    · rfl
    have hO6 : OwnN _ _ w6 vo _ := @OwnN.ext _ _ _ _ _ _ he6 (@OwnN.ext _ _ _ _ _ _ he3 hO)
    have hz2 := he2.size
    have hz3 := he3.size
    repeat (first | (show rops _ _ _ _ (_ :: _) _ _; first | refine ra (next := ?_) | refine rk (next := ?_) | refine rku (next := ?_)) | refine st_end ?_ | refine thn_normal ?_ | refine r_seq ?_ | refine r_region rfl ?_ | refine thn_exit ?_ | refine thn_ret ?_ | refine inBlk_normal ?_ | refine inBlk_ret ?_ | refine inBlk_hit ?_ | refine inBlk_miss (by decide) ?_ | refine forQ_exit ?_ | refine forQ_ret ?_ | refine loopQ_exit ?_ | refine loopQ_ret ?_ | refine r_block ?_ | refine r_skip ?_ | refine r_exit ?_ | refine r_ret ?_ | (show rwp _ _ (.cond _ _ _) _ _ _; first | refine c_t (h := ?_) | refine c_f (h := ?_)))
    refine st_append (hv := hO6) (hy := ho6) (by ((try simp only [ev_tmp, ev_const, ev_func, get_put, get_args, get_putL, get_putL_nil, Nat.reduceEqDiff, reduceIte, List.getD_cons_zero, List.getD_cons_succ, List.getD_nil]); first | done | with_reducible rfl)) (by ((try simp only [ev_tmp, ev_const, ev_func, get_put, get_args, get_putL, get_putL_nil, Nat.reduceEqDiff, reduceIte, List.getD_cons_zero, List.getD_cons_succ, List.getD_nil]); first | done | with_reducible rfl)) rfl ?_ ?_ ?_ ?_ (by first | exact True.intro | exact ⟨_, rfl, by ((try simp only [ev_tmp, ev_const, ev_func, get_put, get_args, get_putL, get_putL_nil, Nat.reduceEqDiff, reduceIte, List.getD_cons_zero, List.getD_cons_succ, List.getD_nil, Bool.not_true, Bool.not_false]); first | done | with_reducible rfl)⟩) fun v7 w7 ho7 hg7 ha7 => ?_
    · intro u hu
      rw [List.mem_singleton.1 hu]; rfl
    · simp; omega
    · simp [maxLen]; omega
    · omega
    repeat (first | (show rops _ _ _ _ (_ :: _) _ _; first | refine ra (next := ?_) | refine rk (next := ?_) | refine rku (next := ?_)) | refine st_end ?_ | refine thn_normal ?_ | refine r_seq ?_ | refine r_region rfl ?_ | refine thn_exit ?_ | refine thn_ret ?_ | refine inBlk_normal ?_ | refine inBlk_ret ?_ | refine inBlk_hit ?_ | refine inBlk_miss (by decide) ?_ | refine forQ_exit ?_ | refine forQ_ret ?_ | refine loopQ_exit ?_ | refine loopQ_ret ?_ | refine r_block ?_ | refine r_skip ?_ | refine r_exit ?_ | refine r_ret ?_ | (show rwp _ _ (.cond _ _ _) _ _ _; first | refine c_t (h := ?_) | refine c_f (h := ?_)))
    refine forQ_normal (by omega) ⟨v7, ?_, ((he2.trans he3).trans he6).app hg7 (fun k hk => (hO6.lt k hk).1), ?_⟩
    · ((try simp only [Has, ev_tmp, ev_const, ev_func, get_put, get_args, get_putL, get_putL_nil, Nat.reduceEqDiff, reduceIte, List.getD_cons_zero, List.getD_cons_succ, List.getD_nil]); repeat' (first | exact True.intro | apply And.intro | with_reducible rfl | exact int_congr (by first | omega | rfl)))
    · rw [List.take_succ_eq_append_getElem (by omega), List.map_append, List.map_append]
      simpa [show k < xss.length by omega] using ho7
  · repeat (first | (show rops _ _ _ _ (_ :: _) _ _; first | refine ra (next := ?_) | refine rk (next := ?_) | refine rku (next := ?_)) | refine st_end ?_ | refine thn_normal ?_ | refine r_seq ?_ | refine r_region rfl ?_ | refine thn_exit ?_ | refine thn_ret ?_ | refine inBlk_normal ?_ | refine inBlk_ret ?_ | refine inBlk_hit ?_ | refine inBlk_miss (by decide) ?_ | refine forQ_exit ?_ | refine forQ_ret ?_ | refine loopQ_exit ?_ | refine loopQ_ret ?_ | refine r_block ?_ | refine r_skip ?_ | refine r_exit ?_ | refine r_ret ?_ | (show rwp _ _ (.cond _ _ _) _ _ _; first | refine c_t (h := ?_) | refine c_f (h := ?_)))
    refine ret1 ⟨he2, ?_⟩
    rw [show k = xss.length by omega, List.take_length] at hO
    exact hO.toFr
end Go.Proofs.Ytjcmdmjlhngjcaa

/-
  Walk: the program's check of a presentation (IsPresentation).
  Conditions: stated at each theorem.
-/
namespace Go.Proofs.Ytjcmdmjlhngjcaa
open Go Go.Pc
theorem foldl_mono : ∀ (l : List Int) (a : Int), (∀ o ∈ l, 1 ≤ o) → 1 ≤ a → a ≤ l.foldl (· * ·) a :=
  fun l a h ha => (capMul_foldl l a h ha).2.1
theorem prod_take {l : List Int} {k : Nat} (h : ∀ o ∈ l, 1 ≤ o) : 1 ≤ (l.take k).foldl (· * ·) 1 ∧ (l.take k).foldl (· * ·) 1 ≤ l.foldl (· * ·) 1 := by
  have h1 := foldl_mono (l.take k) 1 (fun o ho => h o (List.mem_of_mem_take ho)) (by omega)
  have h2 := foldl_mono (l.drop k) ((l.take k).foldl (· * ·) 1) (fun o ho => h o (List.mem_of_mem_drop ho)) h1
  rw [← List.foldl_append, List.take_append_drop] at h2
  exact ⟨h1, h2⟩
set_option maxHeartbeats 2000000 in
theorem impl_IsPresentation_ok {w : World} {v : Value} {p : Pr} {lo hi : Nat} [hp : Pres lo hi w v p] (hl : p.ord.length ≤ 2000000) :
    Calls Try.prog 42 #[v] w (Ret fun v' w' => ∃ b, v' = .bool b ∧ (b = true ↔ Valid p) ∧ Ext w w') := by
  have hol : p.ord.length = p.n := rfl
  obtain ⟨vo, vpw, vc, ps, cs, css, rfl, h1, h2, h3⟩ := hp.ex
  refine enter (args := [.agg #[vo, vpw, vc]]) (l := [.tmp 2]) Try.func42 rfl rfl Try.ntmps42 (by simp) ?_
  repeat (first | (show rops _ _ _ _ (_ :: _) _ _; first | refine ra (next := ?_) | refine rk (next := ?_) | refine rku (next := ?_)) | refine st_end ?_ | refine thn_normal ?_ | refine r_seq ?_ | refine r_region rfl ?_ | refine thn_exit ?_ | refine thn_ret ?_ | refine inBlk_normal ?_ | refine inBlk_ret ?_ | refine inBlk_hit ?_ | refine inBlk_miss (by decide) ?_ | refine forQ_exit ?_ | refine forQ_ret ?_ | refine loopQ_exit ?_ | refine loopQ_ret ?_ | refine r_block ?_ | refine r_skip ?_ | refine r_exit ?_ | refine r_ret ?_ | (show rwp _ _ (.cond _ _ _) _ _ _; first | refine c_t (h := ?_) | refine c_f (h := ?_)))
  refine st_box3 (by ((try simp only [ev_tmp, ev_const, ev_func, get_put, get_args, get_putL, get_putL_nil, Nat.reduceEqDiff, reduceIte, List.getD_cons_zero, List.getD_cons_succ, List.getD_nil]); first | done | with_reducible rfl)) (by first | exact True.intro | exact ⟨_, rfl, by ((try simp only [ev_tmp, ev_const, ev_func, get_put, get_args, get_putL, get_putL_nil, Nat.reduceEqDiff, reduceIte, List.getD_cons_zero, List.getD_cons_succ, List.getD_nil, Bool.not_true, Bool.not_false]); first | done | with_reducible rfl)⟩) fun w1 b he1 hb1 hs1 hc0 hc1 hc2 => ?_
  have no : ∀ {w' : World}, ¬ Valid p → Ext w w' → ∃ b, Value.bool false = .bool b ∧ (b = true ↔ Valid p) ∧ Ext w w' := fun h he => ⟨_, rfl, by simp [h], he⟩
  have hpp := hp.boxed he1 hc0 hc1 hc2
  repeat (first | (show rops _ _ _ _ (_ :: _) _ _; first | refine ra (next := ?_) | refine rk (next := ?_) | refine rku (next := ?_)) | refine st_end ?_ | refine thn_normal ?_ | refine r_seq ?_ | refine r_region rfl ?_ | refine thn_exit ?_ | refine thn_ret ?_ | refine inBlk_normal ?_ | refine inBlk_ret ?_ | refine inBlk_hit ?_ | refine inBlk_miss (by decide) ?_ | refine forQ_exit ?_ | refine forQ_ret ?_ | refine loopQ_exit ?_ | refine loopQ_ret ?_ | refine r_block ?_ | refine r_skip ?_ | refine r_exit ?_ | refine r_ret ?_ | (show rwp _ _ (.cond _ _ _) _ _ _; first | refine c_t (h := ?_) | refine c_f (h := ?_)))
  refine spd (fun hn => ?_) (fun hn => ?_)
  · repeat (first | (show rops _ _ _ _ (_ :: _) _ _; first | refine ra (next := ?_) | refine rk (next := ?_) | refine rku (next := ?_)) | refine st_end ?_ | refine thn_normal ?_ | refine r_seq ?_ | refine r_region rfl ?_ | refine thn_exit ?_ | refine thn_ret ?_ | refine inBlk_normal ?_ | refine inBlk_ret ?_ | refine inBlk_hit ?_ | refine inBlk_miss (by decide) ?_ | refine forQ_exit ?_ | refine forQ_ret ?_ | refine loopQ_exit ?_ | refine loopQ_ret ?_ | refine r_block ?_ | refine r_skip ?_ | refine r_exit ?_ | refine r_ret ?_ | (show rwp _ _ (.cond _ _ _) _ _ _; first | refine c_t (h := ?_) | refine c_f (h := ?_)))
    exact ret1 (no (fun h => by have := h.n6; omega) he1)
  repeat (first | (show rops _ _ _ _ (_ :: _) _ _; first | refine ra (next := ?_) | refine rk (next := ?_) | refine rku (next := ?_)) | refine st_end ?_ | refine thn_normal ?_ | refine r_seq ?_ | refine r_region rfl ?_ | refine thn_exit ?_ | refine thn_ret ?_ | refine inBlk_normal ?_ | refine inBlk_ret ?_ | refine inBlk_hit ?_ | refine inBlk_miss (by decide) ?_ | refine forQ_exit ?_ | refine forQ_ret ?_ | refine loopQ_exit ?_ | refine loopQ_ret ?_ | refine r_block ?_ | refine r_skip ?_ | refine r_exit ?_ | refine r_ret ?_ | (show rwp _ _ (.cond _ _ _) _ _ _; first | refine c_t (h := ?_) | refine c_f (h := ?_)))
  refine spd (fun hn2 => ?_) (fun hn2 => ?_)
  · repeat (first | (show rops _ _ _ _ (_ :: _) _ _; first | refine ra (next := ?_) | refine rk (next := ?_) | refine rku (next := ?_)) | refine st_end ?_ | refine thn_normal ?_ | refine r_seq ?_ | refine r_region rfl ?_ | refine thn_exit ?_ | refine thn_ret ?_ | refine inBlk_normal ?_ | refine inBlk_ret ?_ | refine inBlk_hit ?_ | refine inBlk_miss (by decide) ?_ | refine forQ_exit ?_ | refine forQ_ret ?_ | refine loopQ_exit ?_ | refine loopQ_ret ?_ | refine r_block ?_ | refine r_skip ?_ | refine r_exit ?_ | refine r_ret ?_ | (show rwp _ _ (.cond _ _ _) _ _ _; first | refine c_t (h := ?_) | refine c_f (h := ?_)))
    exact ret1 (no (fun h => by have := h.lenw; omega) he1)
  repeat (first | (show rops _ _ _ _ (_ :: _) _ _; first | refine ra (next := ?_) | refine rk (next := ?_) | refine rku (next := ?_)) | refine st_end ?_ | refine thn_normal ?_ | refine r_seq ?_ | refine r_region rfl ?_ | refine thn_exit ?_ | refine thn_ret ?_ | refine inBlk_normal ?_ | refine inBlk_ret ?_ | refine inBlk_hit ?_ | refine inBlk_miss (by decide) ?_ | refine forQ_exit ?_ | refine forQ_ret ?_ | refine loopQ_exit ?_ | refine loopQ_ret ?_ | refine r_block ?_ | refine r_skip ?_ | refine r_exit ?_ | refine r_ret ?_ | (show rwp _ _ (.cond _ _ _) _ _ _; first | refine c_t (h := ?_) | refine c_f (h := ?_)))
  refine c_if (fun hn3 => ?_) (fun hn3 => ?_)
  · repeat (first | (show rops _ _ _ _ (_ :: _) _ _; first | refine ra (next := ?_) | refine rk (next := ?_) | refine rku (next := ?_)) | refine st_end ?_ | refine thn_normal ?_ | refine r_seq ?_ | refine r_region rfl ?_ | refine thn_exit ?_ | refine thn_ret ?_ | refine inBlk_normal ?_ | refine inBlk_ret ?_ | refine inBlk_hit ?_ | refine inBlk_miss (by decide) ?_ | refine forQ_exit ?_ | refine forQ_ret ?_ | refine loopQ_exit ?_ | refine loopQ_ret ?_ | refine r_block ?_ | refine r_skip ?_ | refine r_exit ?_ | refine r_ret ?_ | (show rwp _ _ (.cond _ _ _) _ _ _; first | refine c_t (h := ?_) | refine c_f (h := ?_)))
    exact ret1 (no (fun h => by have := h.lenc; omega) he1)
  repeat (first | (show rops _ _ _ _ (_ :: _) _ _; first | refine ra (next := ?_) | refine rk (next := ?_) | refine rku (next := ?_)) | refine st_end ?_ | refine thn_normal ?_ | refine r_seq ?_ | refine r_region rfl ?_ | refine thn_exit ?_ | refine thn_ret ?_ | refine inBlk_normal ?_ | refine inBlk_ret ?_ | refine inBlk_hit ?_ | refine inBlk_miss (by decide) ?_ | refine forQ_exit ?_ | refine forQ_ret ?_ | refine loopQ_exit ?_ | refine loopQ_ret ?_ | refine r_block ?_ | refine r_skip ?_ | refine r_exit ?_ | refine r_ret ?_ | (show rwp _ _ (.cond _ _ _) _ _ _; first | refine c_t (h := ?_) | refine c_f (h := ?_)))
  refine r_for p.n (fun k ρ w' => Has ρ [(1, .pointer (some ⟨b, 0, none⟩)), (3, .int .i64 p.n), (4, .int .i64 ((p.ord.take k).foldl (· * ·) 1)), (30, vo), (31, .int .i64 p.n), (32, .int .i64 k)] ∧ Ext w1 w' ∧
    (p.ord.take k).foldl (· * ·) 1 ≤ 729 ∧ ∀ i, i < k → p.ord.getD i 0 = 2 ∨ p.ord.getD i 0 = 3 ∨ p.ord.getD i 0 = 5 ∨ p.ord.getD i 0 = 7) ?_ ?_
  · refine ⟨?_, Ext.refl _, by simp, fun i hi => by omega⟩
    ((try simp only [Has, ev_tmp, ev_const, ev_func, get_put, get_args, get_putL, get_putL_nil, Nat.reduceEqDiff, reduceIte, List.getD_cons_zero, List.getD_cons_succ, List.getD_nil]); repeat' (first | exact True.intro | apply And.intro | with_reducible rfl | exact int_congr (by first | omega | rfl)))
  rintro k ρ w2 hk ⟨hH, he2, hpr, hpre⟩
  refine rwp_has hH fun ρ0 => ?_
  repeat (first | (show rops _ _ _ _ (_ :: _) _ _; first | refine ra (next := ?_) | refine rk (next := ?_) | refine rku (next := ?_)) | refine st_end ?_ | refine thn_normal ?_ | refine r_seq ?_ | refine r_region rfl ?_ | refine thn_exit ?_ | refine thn_ret ?_ | refine inBlk_normal ?_ | refine inBlk_ret ?_ | refine inBlk_hit ?_ | refine inBlk_miss (by decide) ?_ | refine forQ_exit ?_ | refine forQ_ret ?_ | refine loopQ_exit ?_ | refine loopQ_ret ?_ | refine r_block ?_ | refine r_skip ?_ | refine r_exit ?_ | refine r_ret ?_ | (show rwp _ _ (.cond _ _ _) _ _ _; first | refine c_t (h := ?_) | refine c_f (h := ?_)))
  refine c_if (fun hk1 => ?_) (fun hk1 => ?_)
  · have hkn : k < p.n := by omega
    have hps : (p.ord.take (k + 1)).foldl (· * ·) 1 = (p.ord.take k).foldl (· * ·) 1 * p.ord.getD k 0 := foldl_take_succ _ _ _ _ _ hkn
    repeat (first | (show rops _ _ _ _ (_ :: _) _ _; first | refine ra (next := ?_) | refine rk (next := ?_) | refine rku (next := ?_)) | refine st_end ?_ | refine thn_normal ?_ | refine r_seq ?_ | refine r_region rfl ?_ | refine thn_exit ?_ | refine thn_ret ?_ | refine inBlk_normal ?_ | refine inBlk_ret ?_ | refine inBlk_hit ?_ | refine inBlk_miss (by decide) ?_ | refine forQ_exit ?_ | refine forQ_ret ?_ | refine loopQ_exit ?_ | refine loopQ_ret ?_ | refine r_block ?_ | refine r_skip ?_ | refine r_exit ?_ | refine r_ret ?_ | (show rwp _ _ (.cond _ _ _) _ _ _; first | refine c_t (h := ?_) | refine c_f (h := ?_)))
    refine rc IsGroupPrime_ok (next := fun v3 w3 h3 => ?_)
    obtain ⟨b3, rfl, hb3, he3⟩ := h3
    repeat (first | (show rops _ _ _ _ (_ :: _) _ _; first | refine ra (next := ?_) | refine rk (next := ?_) | refine rku (next := ?_)) | refine st_end ?_ | refine thn_normal ?_ | refine r_seq ?_ | refine r_region rfl ?_ | refine thn_exit ?_ | refine thn_ret ?_ | refine inBlk_normal ?_ | refine inBlk_ret ?_ | refine inBlk_hit ?_ | refine inBlk_miss (by decide) ?_ | refine forQ_exit ?_ | refine forQ_ret ?_ | refine loopQ_exit ?_ | refine loopQ_ret ?_ | refine r_block ?_ | refine r_skip ?_ | refine r_exit ?_ | refine r_ret ?_ | (show rwp _ _ (.cond _ _ _) _ _ _; first | refine c_t (h := ?_) | refine c_f (h := ?_)))
    refine sp (fun h4 => ?_) (fun h4 => ?_)
    · repeat (first | (show rops _ _ _ _ (_ :: _) _ _; first | refine ra (next := ?_) | refine rk (next := ?_) | refine rku (next := ?_)) | refine st_end ?_ | refine thn_normal ?_ | refine r_seq ?_ | refine r_region rfl ?_ | refine thn_exit ?_ | refine thn_ret ?_ | refine inBlk_normal ?_ | refine inBlk_ret ?_ | refine inBlk_hit ?_ | refine inBlk_miss (by decide) ?_ | refine forQ_exit ?_ | refine forQ_ret ?_ | refine loopQ_exit ?_ | refine loopQ_ret ?_ | refine r_block ?_ | refine r_skip ?_ | refine r_exit ?_ | refine r_ret ?_ | (show rwp _ _ (.cond _ _ _) _ _ _; first | refine c_t (h := ?_) | refine c_f (h := ?_)))
      refine ret1 (no (fun h => ?_) ((he1.trans he2).trans he3))
      have := hb3.2 (h.prime k (by omega))
      rw [this] at h4; cases h4
    · have h5 := hb3.1 (by simpa using h4)
      have hone : 1 ≤ (p.ord.take k).foldl (· * ·) 1 := by
        refine foldl_mono _ 1 (fun o ho => ?_) (by omega)
        obtain ⟨i, hi, rfl⟩ := List.getElem_of_mem ho
        rw [List.length_take] at hi
        have := hpre i (by omega)
        simp only [List.getElem_take]
        have e : p.ord.getD i 0 = p.ord[i] := by simp [show i < p.ord.length by omega]
        rw [e] at this; omega
      have hm1 : 0 ≤ (p.ord.take k).foldl (· * ·) 1 * p.ord.getD k 0 := Int.mul_nonneg (by omega) (by omega)
      have hm2 : (p.ord.take k).foldl (· * ·) 1 * p.ord.getD k 0 ≤ 729 * 7 := Int.mul_le_mul hpr (by omega) (by omega) (by omega)
      have hmr : -9223372036854775808 ≤ (p.ord.take k).foldl (· * ·) 1 * p.ord.getD k 0 ∧ (p.ord.take k).foldl (· * ·) 1 * p.ord.getD k 0 ≤ 9223372036854775807 := by omega
      repeat (first | (show rops _ _ _ _ (_ :: _) _ _; first | refine ra (next := ?_) | refine rk (next := ?_) | refine rku (next := ?_)) | refine st_end ?_ | refine thn_normal ?_ | refine r_seq ?_ | refine r_region rfl ?_ | refine thn_exit ?_ | refine thn_ret ?_ | refine inBlk_normal ?_ | refine inBlk_ret ?_ | refine inBlk_hit ?_ | refine inBlk_miss (by decide) ?_ | refine forQ_exit ?_ | refine forQ_ret ?_ | refine loopQ_exit ?_ | refine loopQ_ret ?_ | refine r_block ?_ | refine r_skip ?_ | refine r_exit ?_ | refine r_ret ?_ | (show rwp _ _ (.cond _ _ _) _ _ _; first | refine c_t (h := ?_) | refine c_f (h := ?_)))
      refine ra (h := rd_mul (by ((try simp only [ev_tmp, ev_const, ev_func, get_put, get_args, get_putL, get_putL_nil, Nat.reduceEqDiff, reduceIte, List.getD_cons_zero, List.getD_cons_succ, List.getD_nil]); first | done | with_reducible rfl)) (by ((try simp only [ev_tmp, ev_const, ev_func, get_put, get_args, get_putL, get_putL_nil, Nat.reduceEqDiff, reduceIte, List.getD_cons_zero, List.getD_cons_succ, List.getD_nil]); first | done | with_reducible rfl)) hmr) (next := ?_)
      repeat (first | (show rops _ _ _ _ (_ :: _) _ _; first | refine ra (next := ?_) | refine rk (next := ?_) | refine rku (next := ?_)) | refine st_end ?_ | refine thn_normal ?_ | refine r_seq ?_ | refine r_region rfl ?_ | refine thn_exit ?_ | refine thn_ret ?_ | refine inBlk_normal ?_ | refine inBlk_ret ?_ | refine inBlk_hit ?_ | refine inBlk_miss (by decide) ?_ | refine forQ_exit ?_ | refine forQ_ret ?_ | refine loopQ_exit ?_ | refine loopQ_ret ?_ | refine r_block ?_ | refine r_skip ?_ | refine r_exit ?_ | refine r_ret ?_ | (show rwp _ _ (.cond _ _ _) _ _ _; first | refine c_t (h := ?_) | refine c_f (h := ?_)))
      refine c_if (fun h6 => ?_) (fun h6 => ?_)
      · repeat (first | (show rops _ _ _ _ (_ :: _) _ _; first | refine ra (next := ?_) | refine rk (next := ?_) | refine rku (next := ?_)) | refine st_end ?_ | refine thn_normal ?_ | refine r_seq ?_ | refine r_region rfl ?_ | refine thn_exit ?_ | refine thn_ret ?_ | refine inBlk_normal ?_ | refine inBlk_ret ?_ | refine inBlk_hit ?_ | refine inBlk_miss (by decide) ?_ | refine forQ_exit ?_ | refine forQ_ret ?_ | refine loopQ_exit ?_ | refine loopQ_ret ?_ | refine r_block ?_ | refine r_skip ?_ | refine r_exit ?_ | refine r_ret ?_ | (show rwp _ _ (.cond _ _ _) _ _ _; first | refine c_t (h := ?_) | refine c_f (h := ?_)))
        refine ret1 (no (fun h => ?_) ((he1.trans he2).trans he3))
        have := (prod_take (k := k + 1) (fun o ho => (primes_bd h.prime o ho).1)).2
        have h8 := h.prod
        rw [hps] at this
        omega
      · repeat (first | (show rops _ _ _ _ (_ :: _) _ _; first | refine ra (next := ?_) | refine rk (next := ?_) | refine rku (next := ?_)) | refine st_end ?_ | refine thn_normal ?_ | refine r_seq ?_ | refine r_region rfl ?_ | refine thn_exit ?_ | refine thn_ret ?_ | refine inBlk_normal ?_ | refine inBlk_ret ?_ | refine inBlk_hit ?_ | refine inBlk_miss (by decide) ?_ | refine forQ_exit ?_ | refine forQ_ret ?_ | refine loopQ_exit ?_ | refine loopQ_ret ?_ | refine r_block ?_ | refine r_skip ?_ | refine r_exit ?_ | refine r_ret ?_ | (show rwp _ _ (.cond _ _ _) _ _ _; first | refine c_t (h := ?_) | refine c_f (h := ?_)))
        refine ra (h := rd_mul (by ((try simp only [ev_tmp, ev_const, ev_func, get_put, get_args, get_putL, get_putL_nil, Nat.reduceEqDiff, reduceIte, List.getD_cons_zero, List.getD_cons_succ, List.getD_nil]); first | done | with_reducible rfl)) (by ((try simp only [ev_tmp, ev_const, ev_func, get_put, get_args, get_putL, get_putL_nil, Nat.reduceEqDiff, reduceIte, List.getD_cons_zero, List.getD_cons_succ, List.getD_nil]); first | done | with_reducible rfl)) hmr) (next := ?_)
        repeat (first | (show rops _ _ _ _ (_ :: _) _ _; first | refine ra (next := ?_) | refine rk (next := ?_) | refine rku (next := ?_)) | refine st_end ?_ | refine thn_normal ?_ | refine r_seq ?_ | refine r_region rfl ?_ | refine thn_exit ?_ | refine thn_ret ?_ | refine inBlk_normal ?_ | refine inBlk_ret ?_ | refine inBlk_hit ?_ | refine inBlk_miss (by decide) ?_ | refine forQ_exit ?_ | refine forQ_ret ?_ | refine loopQ_exit ?_ | refine loopQ_ret ?_ | refine r_block ?_ | refine r_skip ?_ | refine r_exit ?_ | refine r_ret ?_ | (show rwp _ _ (.cond _ _ _) _ _ _; first | refine c_t (h := ?_) | refine c_f (h := ?_)))
        refine forQ_normal (by omega) ⟨?_, he2.trans he3, by rw [hps]; omega, fun i hi => ?_⟩
        · rw [hps]; ((try simp only [Has, ev_tmp, ev_const, ev_func, get_put, get_args, get_putL, get_putL_nil, Nat.reduceEqDiff, reduceIte, List.getD_cons_zero, List.getD_cons_succ, List.getD_nil]); repeat' (first | exact True.intro | apply And.intro | with_reducible rfl | exact int_congr (by first | omega | rfl)))
        · by_cases e : i = k
          · subst e; exact h5
          · exact hpre i (by omega)
  · have hkn : k = p.n := by omega
    subst hkn
    have hprod : p.ord.foldl (· * ·) 1 ≤ 729 := by
      rw [← hol, List.take_length] at hpr; exact hpr
    have hbd : ∀ i, i < p.n → 2 ≤ p.o i ∧ p.o i ≤ 7 := fun i hi => by have := hpre i hi; unfold Pr.o; omega
    repeat (first | (show rops _ _ _ _ (_ :: _) _ _; first | refine ra (next := ?_) | refine rk (next := ?_) | refine rku (next := ?_)) | refine st_end ?_ | refine thn_normal ?_ | refine r_seq ?_ | refine r_region rfl ?_ | refine thn_exit ?_ | refine thn_ret ?_ | refine inBlk_normal ?_ | refine inBlk_ret ?_ | refine inBlk_hit ?_ | refine inBlk_miss (by decide) ?_ | refine forQ_exit ?_ | refine forQ_ret ?_ | refine loopQ_exit ?_ | refine loopQ_ret ?_ | refine r_block ?_ | refine r_skip ?_ | refine r_exit ?_ | refine r_ret ?_ | (show rwp _ _ (.cond _ _ _) _ _ _; first | refine c_t (h := ?_) | refine c_f (h := ?_)))
    refine r_for p.n (fun k ρ w' => Has ρ [(1, .pointer (some ⟨b, 0, none⟩)), (3, .int .i64 p.n), (49, .int .i64 p.n), (50, .int .i64 k)] ∧ Ext w1 w' ∧ ∀ q, q < k → RowOk p q) ?_ ?_
    · refine ⟨?_, he2, fun i hi => by omega⟩
      ((try simp only [Has, ev_tmp, ev_const, ev_func, get_put, get_args, get_putL, get_putL_nil, Nat.reduceEqDiff, reduceIte, List.getD_cons_zero, List.getD_cons_succ, List.getD_nil]); repeat' (first | exact True.intro | apply And.intro | with_reducible rfl | exact int_congr (by first | omega | rfl)))
    clear he2
    rintro k ρ w4 hk ⟨hH, he4, hrow⟩
    refine rwp_has hH fun ρ1 => ?_
    repeat (first | (show rops _ _ _ _ (_ :: _) _ _; first | refine ra (next := ?_) | refine rk (next := ?_) | refine rku (next := ?_)) | refine st_end ?_ | refine thn_normal ?_ | refine r_seq ?_ | refine r_region rfl ?_ | refine thn_exit ?_ | refine thn_ret ?_ | refine inBlk_normal ?_ | refine inBlk_ret ?_ | refine inBlk_hit ?_ | refine inBlk_miss (by decide) ?_ | refine forQ_exit ?_ | refine forQ_ret ?_ | refine loopQ_exit ?_ | refine loopQ_ret ?_ | refine r_block ?_ | refine r_skip ?_ | refine r_exit ?_ | refine r_ret ?_ | (show rwp _ _ (.cond _ _ _) _ _ _; first | refine c_t (h := ?_) | refine c_f (h := ?_)))
    refine c_if (fun hk2 => ?_) (fun hk2 => ?_)
    · have hkn : k < p.n := by omega
      repeat (first | (show rops _ _ _ _ (_ :: _) _ _; first | refine ra (next := ?_) | refine rk (next := ?_) | refine rku (next := ?_)) | refine st_end ?_ | refine thn_normal ?_ | refine r_seq ?_ | refine r_region rfl ?_ | refine thn_exit ?_ | refine thn_ret ?_ | refine inBlk_normal ?_ | refine inBlk_ret ?_ | refine inBlk_hit ?_ | refine inBlk_miss (by decide) ?_ | refine forQ_exit ?_ | refine forQ_ret ?_ | refine loopQ_exit ?_ | refine loopQ_ret ?_ | refine r_block ?_ | refine r_skip ?_ | refine r_exit ?_ | refine r_ret ?_ | (show rwp _ _ (.cond _ _ _) _ _ _; first | refine c_t (h := ?_) | refine c_f (h := ?_)))
      refine rc (tailVector_ok (p := p) (xs := p.pow.getD k []) rfl hkn hbd (by omega)) (next := fun v6 w6 h6 => ?_)
      obtain ⟨b6, rfl, hb6, he6⟩ := h6
      repeat (first | (show rops _ _ _ _ (_ :: _) _ _; first | refine ra (next := ?_) | refine rk (next := ?_) | refine rku (next := ?_)) | refine st_end ?_ | refine thn_normal ?_ | refine r_seq ?_ | refine r_region rfl ?_ | refine thn_exit ?_ | refine thn_ret ?_ | refine inBlk_normal ?_ | refine inBlk_ret ?_ | refine inBlk_hit ?_ | refine inBlk_miss (by decide) ?_ | refine forQ_exit ?_ | refine forQ_ret ?_ | refine loopQ_exit ?_ | refine loopQ_ret ?_ | refine r_block ?_ | refine r_skip ?_ | refine r_exit ?_ | refine r_ret ?_ | (show rwp _ _ (.cond _ _ _) _ _ _; first | refine c_t (h := ?_) | refine c_f (h := ?_)))
      refine sp (fun h7 => ?_) (fun h7 => ?_)
      · repeat (first | (show rops _ _ _ _ (_ :: _) _ _; first | refine ra (next := ?_) | refine rk (next := ?_) | refine rku (next := ?_)) | refine st_end ?_ | refine thn_normal ?_ | refine r_seq ?_ | refine r_region rfl ?_ | refine thn_exit ?_ | refine thn_ret ?_ | refine inBlk_normal ?_ | refine inBlk_ret ?_ | refine inBlk_hit ?_ | refine inBlk_miss (by decide) ?_ | refine forQ_exit ?_ | refine forQ_ret ?_ | refine loopQ_exit ?_ | refine loopQ_ret ?_ | refine r_block ?_ | refine r_skip ?_ | refine r_exit ?_ | refine r_ret ?_ | (show rwp _ _ (.cond _ _ _) _ _ _; first | refine c_t (h := ?_) | refine c_f (h := ?_)))
        refine ret1 (no (fun h => ?_) ((he1.trans he4).trans he6))
        have := hb6.2 ⟨h.w_in k hkn, h.w_zu k hkn⟩
        rw [this] at h7; cases h7
      · have h8 := exp_iff.2 (hb6.1 (by simpa using h7))
        repeat (first | (show rops _ _ _ _ (_ :: _) _ _; first | refine ra (next := ?_) | refine rk (next := ?_) | refine rku (next := ?_)) | refine st_end ?_ | refine thn_normal ?_ | refine r_seq ?_ | refine r_region rfl ?_ | refine thn_exit ?_ | refine thn_ret ?_ | refine inBlk_normal ?_ | refine inBlk_ret ?_ | refine inBlk_hit ?_ | refine inBlk_miss (by decide) ?_ | refine forQ_exit ?_ | refine forQ_ret ?_ | refine loopQ_exit ?_ | refine loopQ_ret ?_ | refine r_block ?_ | refine r_skip ?_ | refine r_exit ?_ | refine r_ret ?_ | (show rwp _ _ (.cond _ _ _) _ _ _; first | refine c_t (h := ?_) | refine c_f (h := ?_)))
        refine c_if (fun h9 => ?_) (fun h9 => ?_)
        · repeat (first | (show rops _ _ _ _ (_ :: _) _ _; first | refine ra (next := ?_) | refine rk (next := ?_) | refine rku (next := ?_)) | refine st_end ?_ | refine thn_normal ?_ | refine r_seq ?_ | refine r_region rfl ?_ | refine thn_exit ?_ | refine thn_ret ?_ | refine inBlk_normal ?_ | refine inBlk_ret ?_ | refine inBlk_hit ?_ | refine inBlk_miss (by decide) ?_ | refine forQ_exit ?_ | refine forQ_ret ?_ | refine loopQ_exit ?_ | refine loopQ_ret ?_ | refine r_block ?_ | refine r_skip ?_ | refine r_exit ?_ | refine r_ret ?_ | (show rwp _ _ (.cond _ _ _) _ _ _; first | refine c_t (h := ?_) | refine c_f (h := ?_)))
          refine ret1 (no (fun h => ?_) ((he1.trans he4).trans he6))
          have := ((valid_iff.1 h).2.2.2.2.2 k (by omega)).2.1
          omega
        · repeat (first | (show rops _ _ _ _ (_ :: _) _ _; first | refine ra (next := ?_) | refine rk (next := ?_) | refine rku (next := ?_)) | refine st_end ?_ | refine thn_normal ?_ | refine r_seq ?_ | refine r_region rfl ?_ | refine thn_exit ?_ | refine thn_ret ?_ | refine inBlk_normal ?_ | refine inBlk_ret ?_ | refine inBlk_hit ?_ | refine inBlk_miss (by decide) ?_ | refine forQ_exit ?_ | refine forQ_ret ?_ | refine loopQ_exit ?_ | refine loopQ_ret ?_ | refine r_block ?_ | refine r_skip ?_ | refine r_exit ?_ | refine r_ret ?_ | (show rwp _ _ (.cond _ _ _) _ _ _; first | refine c_t (h := ?_) | refine c_f (h := ?_)))
          refine r_for (p.cnj.getD k []).length (fun m ρ w' => Has ρ [(1, .pointer (some ⟨b, 0, none⟩)), (3, .int .i64 p.n), (49, .int .i64 p.n), (50, .int .i64 k), (7, .int .i64 k), (78, Pc.rowAt vc cs k), (79, .int .i64 (p.cnj.getD k []).length), (80, .int .i64 m)] ∧ Ext w1 w' ∧ ∀ j, j < m → ExpP p.ord ((p.cnj.getD k []).getD j []) k) ?_ ?_
          · refine ⟨?_, he4.trans he6, fun i hi => by omega⟩
            ((try simp only [Has, ev_tmp, ev_const, ev_func, get_put, get_args, get_putL, get_putL_nil, Nat.reduceEqDiff, reduceIte, List.getD_cons_zero, List.getD_cons_succ, List.getD_nil]); repeat' (first | exact True.intro | apply And.intro | with_reducible rfl | exact int_congr (by first | omega | rfl)))
          clear he4 he6
          rintro m ρ w7 hm ⟨hH, he7, hin⟩
          refine rwp_has hH fun ρ2 => ?_
          repeat (first | (show rops _ _ _ _ (_ :: _) _ _; first | refine ra (next := ?_) | refine rk (next := ?_) | refine rku (next := ?_)) | refine st_end ?_ | refine thn_normal ?_ | refine r_seq ?_ | refine r_region rfl ?_ | refine thn_exit ?_ | refine thn_ret ?_ | refine inBlk_normal ?_ | refine inBlk_ret ?_ | refine inBlk_hit ?_ | refine inBlk_miss (by decide) ?_ | refine forQ_exit ?_ | refine forQ_ret ?_ | refine loopQ_exit ?_ | refine loopQ_ret ?_ | refine r_block ?_ | refine r_skip ?_ | refine r_exit ?_ | refine r_ret ?_ | (show rwp _ _ (.cond _ _ _) _ _ _; first | refine c_t (h := ?_) | refine c_f (h := ?_)))
          refine c_if (fun hm2 => ?_) (fun hm2 => ?_)
          · repeat (first | (show rops _ _ _ _ (_ :: _) _ _; first | refine ra (next := ?_) | refine rk (next := ?_) | refine rku (next := ?_)) | refine st_end ?_ | refine thn_normal ?_ | refine r_seq ?_ | refine r_region rfl ?_ | refine thn_exit ?_ | refine thn_ret ?_ | refine inBlk_normal ?_ | refine inBlk_ret ?_ | refine inBlk_hit ?_ | refine inBlk_miss (by decide) ?_ | refine forQ_exit ?_ | refine forQ_ret ?_ | refine loopQ_exit ?_ | refine loopQ_ret ?_ | refine r_block ?_ | refine r_skip ?_ | refine r_exit ?_ | refine r_ret ?_ | (show rwp _ _ (.cond _ _ _) _ _ _; first | refine c_t (h := ?_) | refine c_f (h := ?_)))
            refine rc (tailVector_ok (p := p) (xs := (p.cnj.getD k []).getD m []) rfl hkn hbd (by omega)) (next := fun v9 w9 h9 => ?_)
            obtain ⟨b9, rfl, hb9, he9⟩ := h9
            repeat (first | (show rops _ _ _ _ (_ :: _) _ _; first | refine ra (next := ?_) | refine rk (next := ?_) | refine rku (next := ?_)) | refine st_end ?_ | refine thn_normal ?_ | refine r_seq ?_ | refine r_region rfl ?_ | refine thn_exit ?_ | refine thn_ret ?_ | refine inBlk_normal ?_ | refine inBlk_ret ?_ | refine inBlk_hit ?_ | refine inBlk_miss (by decide) ?_ | refine forQ_exit ?_ | refine forQ_ret ?_ | refine loopQ_exit ?_ | refine loopQ_ret ?_ | refine r_block ?_ | refine r_skip ?_ | refine r_exit ?_ | refine r_ret ?_ | (show rwp _ _ (.cond _ _ _) _ _ _; first | refine c_t (h := ?_) | refine c_f (h := ?_)))
            refine c_b (fun h10 => ?_) (fun h10 => ?_)
            · repeat (first | (show rops _ _ _ _ (_ :: _) _ _; first | refine ra (next := ?_) | refine rk (next := ?_) | refine rku (next := ?_)) | refine st_end ?_ | refine thn_normal ?_ | refine r_seq ?_ | refine r_region rfl ?_ | refine thn_exit ?_ | refine thn_ret ?_ | refine inBlk_normal ?_ | refine inBlk_ret ?_ | refine inBlk_hit ?_ | refine inBlk_miss (by decide) ?_ | refine forQ_exit ?_ | refine forQ_ret ?_ | refine loopQ_exit ?_ | refine loopQ_ret ?_ | refine r_block ?_ | refine r_skip ?_ | refine r_exit ?_ | refine r_ret ?_ | (show rwp _ _ (.cond _ _ _) _ _ _; first | refine c_t (h := ?_) | refine c_f (h := ?_)))
              refine ret1 (no (fun h => ?_) ((he1.trans he7).trans he9))
              have := hb9.2 (exp_iff.1 (((valid_iff.1 h).2.2.2.2.2 k (by omega)).2.2 m (by omega)))
              rw [this] at h10; cases h10
            · have h11 := exp_iff.2 (hb9.1 (by simpa using h10))
              repeat (first | (show rops _ _ _ _ (_ :: _) _ _; first | refine ra (next := ?_) | refine rk (next := ?_) | refine rku (next := ?_)) | refine st_end ?_ | refine thn_normal ?_ | refine r_seq ?_ | refine r_region rfl ?_ | refine thn_exit ?_ | refine thn_ret ?_ | refine inBlk_normal ?_ | refine inBlk_ret ?_ | refine inBlk_hit ?_ | refine inBlk_miss (by decide) ?_ | refine forQ_exit ?_ | refine forQ_ret ?_ | refine loopQ_exit ?_ | refine loopQ_ret ?_ | refine r_block ?_ | refine r_skip ?_ | refine r_exit ?_ | refine r_ret ?_ | (show rwp _ _ (.cond _ _ _) _ _ _; first | refine c_t (h := ?_) | refine c_f (h := ?_)))
              refine forQ_normal (by omega) ⟨?_, he7.trans he9, fun j hj => ?_⟩
              · ((try simp only [Has, ev_tmp, ev_const, ev_func, get_put, get_args, get_putL, get_putL_nil, Nat.reduceEqDiff, reduceIte, List.getD_cons_zero, List.getD_cons_succ, List.getD_nil]); repeat' (first | exact True.intro | apply And.intro | with_reducible rfl | exact int_congr (by first | omega | rfl)))
              · by_cases e : j = m
                · subst e; exact h11
                · exact hin j (by omega)
          · repeat (first | (show rops _ _ _ _ (_ :: _) _ _; first | refine ra (next := ?_) | refine rk (next := ?_) | refine rku (next := ?_)) | refine st_end ?_ | refine thn_normal ?_ | refine r_seq ?_ | refine r_region rfl ?_ | refine thn_exit ?_ | refine thn_ret ?_ | refine inBlk_normal ?_ | refine inBlk_ret ?_ | refine inBlk_hit ?_ | refine inBlk_miss (by decide) ?_ | refine forQ_exit ?_ | refine forQ_ret ?_ | refine loopQ_exit ?_ | refine loopQ_ret ?_ | refine r_block ?_ | refine r_skip ?_ | refine r_exit ?_ | refine r_ret ?_ | (show rwp _ _ (.cond _ _ _) _ _ _; first | refine c_t (h := ?_) | refine c_f (h := ?_)))
            refine forQ_normal (by omega) ⟨?_, he7, fun q hq => ?_⟩
            · ((try simp only [Has, ev_tmp, ev_const, ev_func, get_put, get_args, get_putL, get_putL_nil, Nat.reduceEqDiff, reduceIte, List.getD_cons_zero, List.getD_cons_succ, List.getD_nil]); repeat' (first | exact True.intro | apply And.intro | with_reducible rfl | exact int_congr (by first | omega | rfl)))
            · by_cases e : q = k
              · subst e
                exact ⟨h8, by omega, fun j hj => hin j (by omega)⟩
              · exact hrow q (by omega)
    · repeat (first | (show rops _ _ _ _ (_ :: _) _ _; first | refine ra (next := ?_) | refine rk (next := ?_) | refine rku (next := ?_)) | refine st_end ?_ | refine thn_normal ?_ | refine r_seq ?_ | refine r_region rfl ?_ | refine thn_exit ?_ | refine thn_ret ?_ | refine inBlk_normal ?_ | refine inBlk_ret ?_ | refine inBlk_hit ?_ | refine inBlk_miss (by decide) ?_ | refine forQ_exit ?_ | refine forQ_ret ?_ | refine loopQ_exit ?_ | refine loopQ_ret ?_ | refine r_block ?_ | refine r_skip ?_ | refine r_exit ?_ | refine r_ret ?_ | (show rwp _ _ (.cond _ _ _) _ _ _; first | refine c_t (h := ?_) | refine c_f (h := ?_)))
      refine ret1 ⟨_, rfl, ?_, he1.trans he4⟩
      simp only [true_iff]
      exact valid_iff.2 ⟨by omega, by omega, by omega, hpre, hprod, fun q hq => hrow q (by omega)⟩
end Go.Proofs.Ytjcmdmjlhngjcaa
