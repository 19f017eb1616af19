/-
  Texts of one proof, put together by program: W12b, W12c, I12b, I12c, I12d, Seq2, W12d, Ans, Ans2, Clo, W13, Mem6, Grow, W01d, W13b, W13c, W16, Ans3, Ans4, Dig, Prj, Spq, SpqS, Grow2, HomV, Tri, Bld, W14, W15, Grow3, W16b, W17, W18, W38, W33, W39, W40.
  Conditions: those told at each part.
-/
import Derived.Test.YtnphljflkpekmaaB3
import Derived.Deep.MidRow
set_option linter.unusedVariables false
set_option linter.unusedSimpArgs false
set_option linter.unusedSectionVars false
set_option linter.constructorNameAsVariable false
set_option linter.unnecessarySimpa false
set_option linter.deprecated false
/-
  Walk: the reference's canonical sequence out of a full table (l12Full).
  Conditions: the tails at all levels are groups, the table is full.
-/
namespace Go.Proofs.Ytnphljflkpekmaa
open Go Go.Pc
set_option maxHeartbeats 2000000 in
theorem l12Full_ok {p : Pr} [hc : ConAll p] {t : Tab p} (hf : Full t) {av : Nat → Prop} {w : World} {vp vt : Value} {us : List Value} {lo hi lo1 hi1 : Nat} [hp : Pres lo hi w vp p] [ht : Pc.Rows lo1 hi1 w vt us (tabL t)]
    (hr : RowsAp av w us (tabL t)) (hbd : ∀ g, av g → g < w.heap.size) :
    Calls Try.prog 112 #[vp, vt] w (Ret fun v w' => Ext w w' ∧ ∃ us', Lst 22 w.heap.size av w' v us' (canon (Gen (Ents t)))) := by
  have hv := hc.valid
  have hn6 := hv.n6
  have htl := tabL_len t
  have hH := Gen.sub (Ents t)
  obtain ⟨vo, vpw, vc, ps, cs, css, rfl, h1, h2, h3⟩ := hp.ex
  refine enter (args := [.agg #[vo, vpw, vc], vt]) (l := [.tmp 4]) Try.func112 rfl rfl Try.ntmps112 (by simp) ?_
  refine go ?_
  refine st_box3 (by ((try simp only [ev_tmp, ev_const, ev_func, get_put, get_args, get_putL, get_putL_nil, Nat.reduceEqDiff, reduceIte, List.getD_cons_zero, List.getD_cons_succ, List.getD_nil]); first | done | with_reducible rfl)) (by first | exact True.intro | exact ⟨_, rfl, by ((try simp only [ev_tmp, ev_const, ev_func, get_put, get_args, get_putL, get_putL_nil, Nat.reduceEqDiff, reduceIte, List.getD_cons_zero, List.getD_cons_succ, List.getD_nil, Bool.not_true, Bool.not_false]); first | done | with_reducible rfl)⟩) fun w1 b he1 hb1 hs1 hc0 hc1 hc2 => ?_
  refine go ?_
  refine st_make_nil (by ((try simp only [ev_tmp, ev_const, ev_func, get_put, get_args, get_putL, get_putL_nil, Nat.reduceEqDiff, reduceIte, List.getD_cons_zero, List.getD_cons_succ, List.getD_nil]); first | done | with_reducible rfl)) (by ((try simp only [ev_tmp, ev_const, ev_func, get_put, get_args, get_putL, get_putL_nil, Nat.reduceEqDiff, reduceIte, List.getD_cons_zero, List.getD_cons_succ, List.getD_nil]); first | done | with_reducible rfl)) (by omega) (by omega) (by first | exact True.intro | exact ⟨_, rfl, by ((try simp only [ev_tmp, ev_const, ev_func, get_put, get_args, get_putL, get_putL_nil, Nat.reduceEqDiff, reduceIte, List.getD_cons_zero, List.getD_cons_succ, List.getD_nil, Bool.not_true, Bool.not_false]); first | done | with_reducible rfl)⟩) fun w2 v2 he2 hs2 ho2 => ?_
  have hz1 := he1.size
  have hvb := ho2.toN_block
  have hD0 : Lst 22 w1.heap.size av w2 v2 (List.replicate p.n nilv) (tabL (Tab.fr (canT (Gen (Ents t))) p.n)) := by
    rw [fr_end]
    rw [htl] at ho2
    exact Lst.ofNils ho2 (Nat.le_refl _) (fun h => by have := hbd _ h; omega) (fun g hg => by have := hbd g hg; have := he2.size; omega)
  refine go ?_
  refine r_for p.n (fun k ρ w' => ∃ usd, Has ρ [(1, vt), (2, .pointer (some ⟨b, 0, none⟩)), (5, v2), (6, .int .i64 (p.n - 1 - k))] ∧ Ext w1 w' ∧ Lst 22 w1.heap.size av w' v2 usd (tabL (Tab.fr (canT (Gen (Ents t))) (p.n - k))) ∧ ∀ e, p.n - k ≤ e → t e ≠ none → canT (Gen (Ents t)) e ≠ none) ?_ ?_
  · refine ⟨_, ?_, he2, hD0, fun e h1 h2 => ?_⟩
    · exact hasP
    · have := hf.dep.2 h2
      have := this.lt
      omega
  rintro k ρ w3 hk ⟨usd, hH3, he3, hD, hcn⟩
  refine rwp_has hH3 fun ρ0 => ?_
  refine go ?_
  refine c_if (fun h4 => ?_) (fun h4 => ?_)
  · have hkn : k < p.n := by omega
    obtain ⟨d, hd⟩ : ∃ d, p.n - 1 - k = d := ⟨_, rfl⟩
    have hdn : d < p.n := by omega
    have hd1 : p.n - k = d + 1 := by omega
    have hd2 : p.n - (k + 1) = d := by omega
    rw [hd1] at hD hcn
    refine go ?_
    refine c_if (fun h5 => ?_) (fun h5 => ?_)
    · refine go ?_
      rw [hd, tabL_at t hdn] at h5
      have htn := (rowOf_len (t := t) hdn).1 (by omega)
      refine forQ_normal (by omega) ⟨usd, ?_, he3, ?_, ?_⟩
      · exact hasP
      · rw [hd2, fr_none (hf.canT_none htn)]; exact hD
      · intro e h1 h2
        by_cases ee : e = d
        · subst ee; exact absurd htn h2
        · exact hcn e (by omega) h2
    · rw [hd, tabL_at t hdn] at h5
      obtain ⟨y, hy⟩ : ∃ y, t d = some y := by
        cases e : t d with
        | none => exact absurd ((rowOf_len hdn).2 e) (by omega)
        | some y => exact ⟨y, rfl⟩
      have hye : (tabL t).getD d [] = y.v := by rw [tabL_at t hdn, rowOf_some hy]
      refine go ?_
      have hDr := hD.toRows
      refine r_for k (fun q ρ w' => ∃ vx x, Has ρ [(1, vt), (2, .pointer (some ⟨b, 0, none⟩)), (5, v2), (6, .int .i64 (p.n - 1 - k)), (7, vx), (8, .int .i64 (d + 1 + q : Nat))] ∧ Ext w3 w' ∧ IntsAp (fun g => av g ∨ v2.ownBlock = some g) w' vx (T.v (p := p) (i := 0) x) ∧ CanTo (Gen (Ents t)) d (d + 1 + q) x) ?_ ?_
      · refine ⟨Pc.rowAt vt us (p.n - 1 - k), y, ?_, Ext.refl _, ?_, hf.canTo hy⟩
        · exact hasP
        · have := ((hr.at_ d).ext (he1.trans he3))
          rw [hye] at this
          rw [hd]
          have hz3 := he3.size
          exact ((hr.at_ d).weak (av' := fun g => av g ∨ v2.ownBlock = some g) (fun g hg => hg.imp id fun hg => by rw [hvb] at hg; injection hg with hg; omega)).ext (he1.trans he3) |> fun h => by rw [hye] at h; exact h
      rintro q ρ w4 hq ⟨vx, x, hH4, he4, hx4, hct⟩
      refine rwp_has hH4 fun ρ1 => ?_
      have hxi := hx4.ints
      have hxl := x.inr.len
      refine go ?_
      refine c_if (fun h6 => ?_) (fun h6 => ?_)
      · have hen : d + 1 + q < p.n := by omega
        obtain ⟨e, he⟩ : ∃ e, d + 1 + q = e := ⟨_, rfl⟩
        have hle := tabL_len (Tab.fr (canT (Gen (Ents t))) (d + 1))
        have hrow : (tabL (Tab.fr (canT (Gen (Ents t))) (d + 1))).getD e [] = rowOf (canT (Gen (Ents t))) e := by
          rw [tabL_at _ (by omega)]; unfold rowOf; rw [fr_at _ (by omega)]
        refine go ?_
        refine spd (fun h7 => ?_) (fun h7 => ?_)
        · rw [he, hrow] at h7
          obtain ⟨z, hz⟩ : ∃ z, canT (Gen (Ents t)) e = some z := by
            cases ez : canT (Gen (Ents t)) e with
            | none => exact absurd ((rowOf_len (by omega)).2 ez) (by omega)
            | some z => exact ⟨z, rfl⟩
          have hza := canT_some hz
          have hze : (tabL (Tab.fr (canT (Gen (Ents t))) (d + 1))).getD (d + 1 + q) [] = z.v := by rw [he, hrow, rowOf_some hz]
          refine go ?_
          refine c_if (fun h8 => ?_) (fun h8 => ?_)
          · have hxe := x.inr.rng (d + 1 + q) (by omega)
            have hoe := hv.opos (i := d + 1 + q) (by omega)
            refine go ?_
            refine d_region fun w5 he5 _ => ?_
            refine dgo ?_
            refine dce (l10Pow_ok (p := p) (x := z) hze ?_) (next := fun v6 w6 h6 => ?_)
            · omega
            obtain ⟨he6, hf6⟩ := h6
            refine dce (l08Mul_ok (p := p) (x := x) (y := Grp.pwz z (-(x.v.getD (d + 1 + q) 0))) rfl rfl) (next := fun v7 w7 h7 => ?_)
            obtain ⟨he7, hf7⟩ := h7
            refine dgo ?_
            refine d_end (h := ?_)
            refine go ?_
            have hE := ((he4.trans he5).trans he6).trans he7
            have hz3 := he3.size
            have hz6 := ((he4.trans he5).trans he6).size
            refine forQ_normal (by omega) ⟨v7, x * Grp.pwz z (-(x.v.getD (d + 1 + q) 0)), ?_, hE, IntsAp.ofFr hf7 ?_, ?_⟩
            · exact hasP
            · rintro g (hg | hg)
              · have := hbd g hg; omega
              · have := (hD.lt hg).2; omega
            · rw [show d + 1 + (q + 1) = e + 1 by omega]
              rw [he] at hct ⊢
              exact hct.step hH (by omega) (by omega) hza.mem hza.tl hza.lead
          · refine go ?_
            refine forQ_normal (by omega) ⟨vx, x, ?_, he4, hx4, ?_⟩
            · exact hasP
            · rw [he] at h8 hct
              rw [show d + 1 + (q + 1) = e + 1 by omega]
              exact hct.skip (.inl (Decidable.not_not.1 h8))
        · rw [he, hrow] at h7
          have hce : canT (Gen (Ents t)) e = none := (rowOf_len (by omega)).1 (by omega)
          refine go ?_
          refine forQ_normal (by omega) ⟨vx, x, ?_, he4, hx4, ?_⟩
          · exact hasP
          · rw [he] at hct
            rw [show d + 1 + (q + 1) = e + 1 by omega]
            refine hct.skip (.inr fun hde => ?_)
            exact hcn e (by omega) (hf.dep.1 hde) hce
      · obtain rfl : q = k := by omega
        have hcan := (show CanTo (Gen (Ents t)) d p.n x by rw [show p.n = d + 1 + q by omega]; exact hct).can
        have hD4 := hD.ext he4
        have hO4 := hD4.toOwn hvb
        have hul := hD.len
        rw [tabL_len] at hul
        have hle := tabL_len (Tab.fr (canT (Gen (Ents t))) (d + 1))
        refine go ?_
        refine st_store_val (h := hO4) (by ((try simp only [ev_tmp, ev_const, ev_func, get_put, get_args, get_putL, get_putL_nil, Nat.reduceEqDiff, reduceIte, List.getD_cons_zero, List.getD_cons_succ, List.getD_nil]); first | done | with_reducible rfl)) (by ((try simp only [ev_tmp, ev_const, ev_func, get_put, get_args, get_putL, get_putL_nil, Nat.reduceEqDiff, reduceIte, List.getD_cons_zero, List.getD_cons_succ, List.getD_nil]); first | done | with_reducible rfl)) ?_ ?_ (by first | exact True.intro | exact ⟨_, rfl, by ((try simp only [ev_tmp, ev_const, ev_func, get_put, get_args, get_putL, get_putL_nil, Nat.reduceEqDiff, reduceIte, List.getD_cons_zero, List.getD_cons_succ, List.getD_nil, Bool.not_true, Bool.not_false]); first | done | with_reducible rfl)⟩) fun w5 hc5 hs5 ho5 => ?_
        · exact hxi.sl.one
        · omega
        refine go ?_
        have hD5 := hD4.set hvb hx4 hc5 ho5 (by omega)
        refine forQ_normal (by omega) ⟨usd.set (p.n - 1 - q) vx, ?_, hc5.ext (he3.trans he4) (Nat.le_refl _), ?_, ?_⟩
        · exact hasP
        · rw [hd2, fr_some (canT_eq hH hcan), tabL_set]
          rw [hd] at hD5 ⊢
          exact hD5
        · intro e h1 h2
          by_cases ee : e = d
          · subst ee; rw [canT_eq hH hcan]; simp
          · exact hcn e (by omega) h2
  · obtain rfl : k = p.n := by omega
    rw [Nat.sub_self, fr_zero] at hD
    rw [Nat.sub_self] at hcn
    have hz3 := he3.size
    refine go ?_
    refine st_slice0 (by first | exact True.intro | exact ⟨_, rfl, by ((try simp only [ev_tmp, ev_const, ev_func, get_put, get_args, get_putL, get_putL_nil, Nat.reduceEqDiff, reduceIte, List.getD_cons_zero, List.getD_cons_succ, List.getD_nil, Bool.not_true, Bool.not_false]); first | done | with_reducible rfl)⟩) fun w4 v4 he4 hs4 ho4 => ?_
    have hDr := hD.toRows
    have hDa : RowsAp (fun g => av g ∨ w3.heap.size ≤ g) w3 usd (tabL (canT (Gen (Ents t)))) := hD.rows.weak fun g hg => hg.imp .inl id
    have hL0 : Lst 22 w3.heap.size av w4 v4 [] (canTo (Gen (Ents t)) 0) := Lst.start ho4 (Nat.le_refl _) (fun h => by have := hbd _ h; omega) (fun g hg => by have := hbd g hg; omega)
    have hcl := tabL_len (canT (Gen (Ents t)))
    have hul := hD.len
    refine go ?_
    refine r_for p.n (fun d ρ w' => ∃ vo' uso, Has ρ [(1, vt), (2, .pointer (some ⟨b, 0, none⟩)), (5, v2), (9, vo'), (10, .int .i64 d)] ∧ Ext w3 w' ∧ Lst 22 w3.heap.size av w' vo' uso (canTo (Gen (Ents t)) d)) ?_ ?_
    · refine ⟨_, _, ?_, he4, hL0⟩
      exact hasP
    rintro d ρ w5 hd ⟨vo', uso, hH5, he5, hL⟩
    refine rwp_has hH5 fun ρ1 => ?_
    refine go ?_
    refine c_if (fun h6 => ?_) (fun h6 => ?_)
    · have hdn : d < p.n := by omega
      refine go ?_
      refine c_if (fun h7 => ?_) (fun h7 => ?_)
      · rw [tabL_at _ hdn] at h7
        obtain ⟨z, hz⟩ : ∃ z, canT (Gen (Ents t)) d = some z := by
          cases ez : canT (Gen (Ents t)) d with
          | none => exact absurd ((rowOf_len hdn).2 ez) (by omega)
          | some z => exact ⟨z, rfl⟩
        have hrow := hDa.at_ d
        rw [tabL_at _ hdn, rowOf_some hz] at hrow
        have hri := (hrow.ext he5).ints
        refine go ?_
        refine st_slice1 (u := Pc.rowAt v2 usd d) (by ((try simp only [ev_tmp, ev_const, ev_func, get_put, get_args, get_putL, get_putL_nil, Nat.reduceEqDiff, reduceIte, List.getD_cons_zero, List.getD_cons_succ, List.getD_nil]); first | done | with_reducible rfl)) ?_ ?_ (by first | exact True.intro | exact ⟨_, rfl, by ((try simp only [ev_tmp, ev_const, ev_func, get_put, get_args, get_putL, get_putL_nil, Nat.reduceEqDiff, reduceIte, List.getD_cons_zero, List.getD_cons_succ, List.getD_nil, Bool.not_true, Bool.not_false]); first | done | with_reducible rfl)⟩) fun w6 v6 he6 hs6 ho6 => ?_
        · exact hri.sl.cells
        · rfl
        refine go ?_
        have hL6 := hL.ext he6
        have hO6 := hL6.own
        have hl6 : uso.length ≤ 6 := by rw [hL.len]; have := canTo_len (Gen (Ents t)) d; omega
        have hz5 := he5.size
        have hz6 := he6.size
        refine st_append (hv := hO6) (hy := ho6) (by ((try simp only [ev_tmp, ev_const, ev_func, get_put, get_args, get_putL, get_putL_nil, Nat.reduceEqDiff, reduceIte, List.getD_cons_zero, List.getD_cons_succ, List.getD_nil]); first | done | with_reducible rfl)) (by ((try simp only [ev_tmp, ev_const, ev_func, get_put, get_args, get_putL, get_putL_nil, Nat.reduceEqDiff, reduceIte, List.getD_cons_zero, List.getD_cons_succ, List.getD_nil]); first | done | with_reducible rfl)) rfl ?_ ?_ ?_ ?_ (by first | exact True.intro | exact ⟨_, rfl, by ((try simp only [ev_tmp, ev_const, ev_func, get_put, get_args, get_putL, get_putL_nil, Nat.reduceEqDiff, reduceIte, List.getD_cons_zero, List.getD_cons_succ, List.getD_nil, Bool.not_true, Bool.not_false]); first | done | with_reducible rfl)⟩) fun v7 w7 ho7 hg7 ha7 => ?_
        · intro u hu
          rw [List.mem_singleton.1 hu]
          exact hri.sl.one
        · simp; omega
        · simp [maxLen]; omega
        · omega
        refine go ?_
        refine forQ_normal (by omega) ⟨v7, uso ++ [usd.getD d nilv], ?_, (he5.trans he6).app hg7 (fun k hk => (hL.lt hk).1), ?_⟩
        · exact hasP
        · rw [canTo_some hz]
          refine hL6.push ?_ ho7 hg7 ha7
          refine ((hrow.ext (he5.trans he6)).weak fun g hg => .inl ?_)
          exact hg.imp id fun hg => (hL.lt hg).1
      · rw [tabL_at _ hdn] at h7
        have hcd : canT (Gen (Ents t)) d = none := (rowOf_len hdn).1 (by omega)
        refine go ?_
        refine forQ_normal (by omega) ⟨vo', uso, ?_, he5, ?_⟩
        · exact hasP
        · rw [canTo_none hcd]; exact hL
    · obtain rfl : d = p.n := by omega
      refine go ?_
      refine ret1 ⟨(he1.trans he3).trans he5, uso, ?_⟩
      rw [canTo_end] at hL
      exact hL.mono (by omega)
end Go.Proofs.Ytnphljflkpekmaa

/-
  Walk: the reference's subgroup generated by a list (l12Close).
  Conditions: the tails at all levels are groups, the list's members are elements.
-/
namespace Go.Proofs.Ytnphljflkpekmaa
open Go Go.Pc
theorem own_some (v : Value) (s k : Nat) (hk : s ≤ k) (h : ∀ g, v.ownBlock = some g → s ≤ g) : ∃ b, s ≤ b ∧ ∀ g, v.ownBlock = some g → g = b := by
  cases e : v.ownBlock with
  | none => exact ⟨k, hk, fun g h => by cases h⟩
  | some b => exact ⟨b, h b e, fun g h => (Option.some.inj h).symm⟩
/-- The table and the waiting elements, side by side; one element more waits. -/
theorem tw_push {p : Pr} {e s1 s2 : Nat} {w w' : World} {vt vw vw' u : Value} {usT usW : List Value} {t : Tab p} {zs : List (El p)} {x : El p}
    (hT : Lst e s1 (fun g => g < s1 ∨ vw.ownBlock = some g) w vt usT (tabL t)) (hW : Lst e s2 (fun g => g < s2) w vw usW (zs.map (T.v (p := p) (i := 0))))
    (hu : IntsAp (fun g => g < s2 ∨ vw.ownBlock = some g) w u x.v) (ho : OwnN e s2 w' vw' (usW ++ [u])) (hg : w.grownBy w' vw.ownBlock) (hv : vw'.ownBlock = vw.ownBlock ∨ vw'.ownBlock = some w.heap.size) :
    Lst e s1 (fun g => g < s1 ∨ vw'.ownBlock = some g) w' vt usT (tabL t) ∧ Lst e s2 (fun g => g < s2) w' vw' (usW ++ [u]) ((zs ++ [x]).map (T.v (p := p) (i := 0))) := by
  have hW' := hW.push hu ho hg hv
  refine ⟨hT.beside hg (fun g e => .inr e) fun g hg' => ?_, by rw [List.map_append]; exact hW'⟩
  rcases hg' with hg' | hg'
  · exact .inl (.inl hg')
  · rcases hv with e | e
    · rw [e] at hg'; exact .inl (.inr hg')
    · have := (hW'.lt hg').2
      rw [e] at hg'; injection hg' with hg'
      exact .inr ⟨hg'.symm, by omega⟩
/-- The commutators with the entries ahead of a depth. -/
noncomputable def comms {p : Pr} [ConAll p] (t : Tab p) (d : Nat) (y : El p) (e : Nat) : List (El p) := (List.range e).filterMap fun k => if k = d then none else (t k).map (Grp.cm y)
section
variable {p : Pr} [hc : ConAll p] {t : Tab p} {d e : Nat} {y z : El p}
theorem comms_skip (h : e = d ∨ t e = none) : comms t d y (e + 1) = comms t d y e := by
  unfold comms; rw [List.range_succ, List.filterMap_append]
  rcases h with h | h <;> simp [h]
theorem comms_some (hne : e ≠ d) (h : t e = some z) : comms t d y (e + 1) = comms t d y e ++ [Grp.cm y z] := by
  unfold comms; rw [List.range_succ, List.filterMap_append]; simp [h, hne]
theorem comms_len : (comms t d y e).length ≤ e := by unfold comms; exact Nat.le_trans (List.length_filterMap_le _ _) (by simp)
theorem comms_mem {a : El p} : a ∈ comms t d y e ↔ ∃ k z, k < e ∧ k ≠ d ∧ t k = some z ∧ a = Grp.cm y z := by
  unfold comms
  rw [List.mem_filterMap]
  constructor
  · rintro ⟨k, hk, h⟩
    split at h
    · cases h
    · rename_i hne
      cases htk : t k with
      | none => rw [htk] at h; cases h
      | some z => rw [htk] at h; exact ⟨k, z, List.mem_range.1 hk, hne, htk, (Option.some.inj h).symm⟩
  · rintro ⟨k, z, hk, hne, htk, rfl⟩
    exact ⟨k, List.mem_range.2 hk, by simp [hne, htk]⟩
end
set_option maxHeartbeats 4000000 in
theorem l12Close_ok {p : Pr} [hc : ConAll p] {w : World} {vp vl : Value} {us : List Value} {ys : List (El p)} {xss : List (List Int)} {lo hi lo1 hi1 : Nat} [hp : Pres lo hi w vp p] [hl : Pc.Rows lo1 hi1 w vl us xss]
    (hx : xss = ys.map (T.v (p := p) (i := 0))) (hn : ys.length ≤ 200000) :
    Calls Try.prog 76 #[vp, vl] w (Ret fun v w' => Ext w w' ∧ ∃ us', Lst 22 w.heap.size (· < w.heap.size) w' v us' (canon (Gen (fun a : El p => a ∈ ys)))) := by
  have hv := hc.valid
  have hn6 := hv.n6
  have hol : p.ord.length = p.n := rfl
  replace hp := hp.wide
  replace hl := hl.wide
  obtain ⟨vo, vpw, vc, ps, cs, css, rfl, h1, h2, h3⟩ := hp.ex
  refine enter (args := [.agg #[vo, vpw, vc], vl]) (l := [.tmp 4]) Try.func76 rfl rfl Try.ntmps76 (by simp) ?_
  refine go ?_
  refine st_box3 (by ((try simp only [ev_tmp, ev_const, ev_func, get_put, get_args, get_putL, get_putL_nil, Nat.reduceEqDiff, reduceIte, List.getD_cons_zero, List.getD_cons_succ, List.getD_nil]); first | done | with_reducible rfl)) (by first | exact True.intro | exact ⟨_, rfl, by ((try simp only [ev_tmp, ev_const, ev_func, get_put, get_args, get_putL, get_putL_nil, Nat.reduceEqDiff, reduceIte, List.getD_cons_zero, List.getD_cons_succ, List.getD_nil, Bool.not_true, Bool.not_false]); first | done | with_reducible rfl)⟩) fun w1 b he1 hb1 hs1 hc0 hc1 hc2 => ?_
  refine go ?_
  refine st_make_nil (by ((try simp only [ev_tmp, ev_const, ev_func, get_put, get_args, get_putL, get_putL_nil, Nat.reduceEqDiff, reduceIte, List.getD_cons_zero, List.getD_cons_succ, List.getD_nil]); first | done | with_reducible rfl)) (by ((try simp only [ev_tmp, ev_const, ev_func, get_put, get_args, get_putL, get_putL_nil, Nat.reduceEqDiff, reduceIte, List.getD_cons_zero, List.getD_cons_succ, List.getD_nil]); first | done | with_reducible rfl)) (by omega) (by omega) (by first | exact True.intro | exact ⟨_, rfl, by ((try simp only [ev_tmp, ev_const, ev_func, get_put, get_args, get_putL, get_putL_nil, Nat.reduceEqDiff, reduceIte, List.getD_cons_zero, List.getD_cons_succ, List.getD_nil, Bool.not_true, Bool.not_false]); first | done | with_reducible rfl)⟩) fun w2 v2 he2 hs2 ho2 => ?_
  rw [hol] at ho2
  have hz1 := he1.size
  have hvb := ho2.toN_block
  have hxl : xss.length = ys.length := by rw [hx]; simp
  have hxr : ∀ i, (xss.getD i []).length ≤ 2000000 := by
    intro i
    subst hx
    by_cases hi : i < ys.length
    · simp [hi, ys[i].inr.len]; omega
    · simp [hi]
  refine go ?_
  refine rc (l01Own2_ok (xss := xss) hxr ?_) (next := fun v3 w3 h4 => ?_)
  · omega
  obtain ⟨he3, us3, hW3⟩ := h4
  refine go ?_
  have hT3 : Lst 22 w1.heap.size (fun g => g < w1.heap.size ∨ v3.ownBlock = some g) w3 v2 (List.replicate p.n nilv) (tabL (fun _ => none : Tab p)) := by
    have hT2 : Lst 22 w1.heap.size (fun g => g < w1.heap.size) w2 v2 (List.replicate p.n nilv) (tabL (fun _ => none : Tab p)) := by
      rw [tabL_none]
      exact Lst.ofNils ho2 (Nat.le_refl _) (by omega) (fun g hg => by omega)
    refine ⟨(hT2.ext he3).own, ((hT2.rows.weak (av' := fun g => (g < w1.heap.size ∨ v3.ownBlock = some g) ∨ v2.ownBlock = some g) fun g hg => ?_).ext he3), fun g hg h' => ?_, fun g hg => ?_⟩
    · rcases hg with (hg | hg) | hg
      · exact .inl (.inl hg)
      · exact .inr (hW3.lt hg).1
      · exact .inl (.inr hg)
    · rcases h' with h' | h'
      · exact hT2.free g hg h'
      · have := (hW3.lt h').1; have := (hT2.lt hg).2; omega
    · rcases hg with hg | hg
      · have := he2.size; have := he3.size; omega
      · exact (hW3.lt hg).2
  have hW3' : Lst 22 w2.heap.size (fun g => g < w2.heap.size) w3 v3 us3 (ys.map (T.v (p := p) (i := 0))) := hx ▸ hW3
  refine r_loop (fun m ρ w' => ∃ (vw : Value) (usT usW : List Value) (t : Tab p) (zs : List (El p)), Has ρ [(2, .pointer (some ⟨b, 0, none⟩)), (5, .int .i64 p.n), (6, v2), (7, vw)] ∧ Ext w1 w' ∧ Lst 22 w1.heap.size (fun g => g < w1.heap.size ∨ vw.ownBlock = some g) w' v2 usT (tabL t) ∧
    Lst 22 w2.heap.size (fun g => g < w2.heap.size) w' vw usW (zs.map (T.v (p := p) (i := 0))) ∧ Wk (fun a : El p => a ∈ ys) t (fun a => a ∈ zs) ∧ m = 8 * empt t + zs.length ∧ m ≤ ys.length + 48) (8 * empt (fun _ => none : Tab p) + ys.length) ?_ ?_
  · refine ⟨v3, _, us3, fun _ => none, ys, ?_, he2.trans he3, hT3, hW3', Wk.start, rfl, ?_⟩
    · exact hasP
    · have := empt_le (fun _ => none : Tab p); omega
  rintro m ρ w4 ⟨vw, usT, usW, t, zs, hH4, he4, hT, hW, hWk, rfl, hm⟩
  refine rwp_has hH4 fun ρ0 => ?_
  have hTr := hT.toRows
  have hWr := hW.toRows
  have htl := tabL_len t
  refine go ?_
  refine c_if (fun h4 => ?_) (fun h4 => ?_)
  · obtain ⟨zs, x, rfl⟩ : ∃ zs' x, zs = zs' ++ [x] := by
      have hne : zs ≠ [] := by rintro rfl; simp at h4
      exact ⟨zs.dropLast, zs.getLast hne, (List.dropLast_concat_getLast hne).symm⟩
    have hxe : ((zs ++ [x]).map (T.v (p := p) (i := 0))).getD (((zs ++ [x]).map (T.v (p := p) (i := 0))).length - 1) [] = x.v := by simp
    have hul : usW.length = zs.length + 1 := by rw [hW.len]; simp
    have hzl : ((zs ++ [x]).map (T.v (p := p) (i := 0))).length = zs.length + 1 := by simp
    have hzl2 : (zs ++ [x]).length = zs.length + 1 := by simp
    have hcut := hW.cutTo zs.length (by omega)
    have hcx : ((zs ++ [x]).map (T.v (p := p) (i := 0))).take zs.length = zs.map (T.v (p := p) (i := 0)) := by simp
    rw [hcx] at hcut
    refine go ?_
    refine rc (l12Strip_ok hWk.ok (x := x) hxe) (next := fun v5 w5 h5 => ?_)
    obtain ⟨d, vr, r, rfl, he5, hf5, hL⟩ := h5
    rw [hzl, Nat.add_sub_cancel]
    have hz4 := he4.size
    have hz5 := he5.size
    have hT5 : Lst 22 w1.heap.size (fun g => g < w1.heap.size ∨ (cutTo vw zs.length).ownBlock = some g) w5 v2 usT (tabL t) := by rw [cutTo_block]; exact hT.ext he5
    have hW5 := hcut.ext he5
    refine go ?_
    refine c_if (fun h5 => ?_) (fun h5 => ?_)
    · have hr1 : r = 1 := by
        have := hL.tl
        rw [show d = p.n by omega] at this
        exact this.end_
      subst hr1
      refine go ?_
      refine loopQ_normal ?_ ⟨cutTo vw zs.length, usT, _, t, zs, ?_, he4.trans he5, ?_, hW5, hWk.drop hL.stp ?_ ?_, rfl, ?_⟩
      · omega
      · exact hasP
      · exact hT5
      · intro a ha
        rcases List.mem_append.1 ha with ha | ha
        · exact .inr ha
        · exact .inl (List.mem_singleton.1 ha)
      · exact fun a ha => List.mem_append_left _ ha
      · omega
    · have hdn : d < p.n := by have := hL.le; omega
      obtain ⟨htd, hrd⟩ := hL.some hdn
      have hrr := r.inr.rng d hdn
      have hrl := r.inr.len
      have hod := hv.opos hdn
      have hpr := hv.prime d hdn
      have hfi := hf5.ints
      have hr0 : r.v.getD d 0 ≠ 0 := hrd
      refine go ?_
      refine d_order [0, 1, 2, 3, 4, 5, 6, 7, 8, 9, 10, 11, 12, 13] (h := fun w6 he6 _ => ?_)
      refine dgo ?_
      refine dce (l01Inv_ok hpr ?_) (next := fun v7 w7 h7 => ?_)
      · exact ⟨by omega, hrr.2⟩
      obtain ⟨k, rfl, hk1, hk2, hk3, he7⟩ := h7
      refine dce (l10Pow_ok (p := p) (x := r) (k := k) rfl ?_) (next := fun v8 w8 h8 => ?_)
      · omega
      obtain ⟨he8, hf8⟩ := h8
      refine dgo ?_
      refine d_end (h := ?_)
      obtain ⟨y, hy⟩ : ∃ y, Grp.pwz r k = y := ⟨_, rfl⟩
      rw [hy] at hf8
      have hE5 := (he6.trans he7).trans he8
      have hz7 := (he6.trans he7).size
      have hz8 := he8.size
      have hT8 := hT5.ext hE5
      have hW8 := hW5.ext hE5
      have hO8 := hT8.toOwn hvb
      have hz24 : w2.heap.size ≤ w4.heap.size := by have := (hT.lt hvb).2; omega
      have hy8 : IntsAp (fun g => g < w5.heap.size) w8 v8 y.v := IntsAp.ofFr hf8 (fun g h => by omega)
      have hr8 : IntsAp (fun g => g < w4.heap.size) w8 vr r.v := (IntsAp.ofFr hf5 (fun g h => h)).ext hE5
      refine go ?_
      refine st_store_val (h := hO8) (by ((try simp only [ev_tmp, ev_const, ev_func, get_put, get_args, get_putL, get_putL_nil, Nat.reduceEqDiff, reduceIte, List.getD_cons_zero, List.getD_cons_succ, List.getD_nil]); first | done | with_reducible rfl)) (by ((try simp only [ev_tmp, ev_const, ev_func, get_put, get_args, get_putL, get_putL_nil, Nat.reduceEqDiff, reduceIte, List.getD_cons_zero, List.getD_cons_succ, List.getD_nil]); first | done | with_reducible rfl)) ?_ ?_ (by first | exact True.intro | exact ⟨_, rfl, by ((try simp only [ev_tmp, ev_const, ev_func, get_put, get_args, get_putL, get_putL_nil, Nat.reduceEqDiff, reduceIte, List.getD_cons_zero, List.getD_cons_succ, List.getD_nil, Bool.not_true, Bool.not_false]); first | done | with_reducible rfl)⟩) fun w9 hc9 hs9 ho9 => ?_
      · exact hy8.ints.sl.one
      · rw [hT8.len, htl]; exact hdn
      have hT9 : Lst 22 w1.heap.size (fun g => g < w1.heap.size ∨ (cutTo vw zs.length).ownBlock = some g) w9 v2 (usT.set d v8) (tabL (Tab.set t d y)) := by
        rw [tabL_set]
        refine hT8.set hvb (hy8.weak fun g hg => .inl ?_) hc9 ho9 (by rw [hT8.len, htl]; exact hdn)
        rcases hg with (hg | hg) | hg
        · omega
        · exact (hW5.lt hg).2
        · exact (hT5.lt hg).2
      have hW9 := hW8.chg hc9 (by omega)
      have hr9 : IntsAp (fun g => g < w2.heap.size ∨ (cutTo vw zs.length).ownBlock = some g) w9 vr r.v := by
        refine (hr8.chg hc9 (by omega)).weak fun g hg => .inl ?_
        rcases hg with hg | hg
        · omega
        · rw [cutTo_block] at hg; exact (hW.lt hg).2
      have hy9 : IntsAp (fun g => g < w2.heap.size ∨ (cutTo vw zs.length).ownBlock = some g) w9 v8 y.v := by
        refine (hy8.chg hc9 (by omega)).weak fun g hg => .inl ?_
        rcases hg with hg | hg
        · omega
        · exact (hW5.lt hg).2
      have hE9 : Ext w1 w9 := hc9.ext ((he4.trans he5).trans hE5) (Nat.le_refl _)
      refine go ?_
      refine st_slice1 (u := vr) (by ((try simp only [ev_tmp, ev_const, ev_func, get_put, get_args, get_putL, get_putL_nil, Nat.reduceEqDiff, reduceIte, List.getD_cons_zero, List.getD_cons_succ, List.getD_nil]); first | done | with_reducible rfl)) ?_ ?_ (by first | exact True.intro | exact ⟨_, rfl, by ((try simp only [ev_tmp, ev_const, ev_func, get_put, get_args, get_putL, get_putL_nil, Nat.reduceEqDiff, reduceIte, List.getD_cons_zero, List.getD_cons_succ, List.getD_nil, Bool.not_true, Bool.not_false]); first | done | with_reducible rfl)⟩) fun w10 v10 he10 hs10 ho10 => ?_
      · exact hr9.ints.sl.cells
      · rfl
      refine go ?_
      have hT10 := hT9.ext he10
      have hW10 := hW9.ext he10
      have hO10 := hW10.own
      have hl10 : (usW.take zs.length).length = zs.length := by rw [List.length_take]; omega
      have hz9 := hE9.size
      have hz10 := he10.size
      refine st_append (hv := hO10) (hy := ho10) (by ((try simp only [ev_tmp, ev_const, ev_func, get_put, get_args, get_putL, get_putL_nil, Nat.reduceEqDiff, reduceIte, List.getD_cons_zero, List.getD_cons_succ, List.getD_nil]); first | done | with_reducible rfl)) (by ((try simp only [ev_tmp, ev_const, ev_func, get_put, get_args, get_putL, get_putL_nil, Nat.reduceEqDiff, reduceIte, List.getD_cons_zero, List.getD_cons_succ, List.getD_nil]); first | done | with_reducible rfl)) rfl ?_ ?_ ?_ ?_ (by first | exact True.intro | exact ⟨_, rfl, by ((try simp only [ev_tmp, ev_const, ev_func, get_put, get_args, get_putL, get_putL_nil, Nat.reduceEqDiff, reduceIte, List.getD_cons_zero, List.getD_cons_succ, List.getD_nil, Bool.not_true, Bool.not_false]); first | done | with_reducible rfl)⟩) fun v11 w11 ho11 hg11 ha11 => ?_
      · intro u hu
        rw [List.mem_singleton.1 hu]
        exact hr9.ints.sl.one
      · simp only [hl10, List.length_singleton]; omega
      · simp only [hl10, List.length_singleton, maxLen]; omega
      · omega
      obtain ⟨hT11, hW11⟩ := tw_push hT10 hW10 (hr9.ext he10) ho11 hg11 ha11
      have hy11 := (hy9.ext he10).push_ hg11 ha11
      have hE11 : Ext w1 w11 := (hE9.trans he10).app hg11 (fun k hk => by have := (hW10.lt hk).1; omega)
      obtain ⟨b', hb', hvb'⟩ := own_some v11 w2.heap.size w11.heap.size (by have := hg11.size; omega) (fun g h => (hW11.lt h).1)
      have ap1 : Apart 0 w.heap.size b' := ⟨.inr (by omega)⟩
      have ap2 : Apart b (b + 1) b' := ⟨.inr (by omega)⟩
      have hyi := hy11.ints
      refine go ?_
      refine z_order b' (List.range 12) (h := fun w12 he12 _ => ?_)
      refine zgo ?_
      refine zc (l10Pow_ok (p := p) (x := y) rfl ?_) (next := fun v13 w13 h13 => ?_)
      · have hoe : p.o d = p.ord.getD d 0 := rfl
        omega
      obtain ⟨he13, hf13⟩ := h13
      have hoe : p.o d = p.ord.getD d 0 := rfl
      rw [Grp.pwz_of y (by omega), ← hoe] at hf13
      refine z_slice1 (u := v13) (h := (by ((try simp only [ev_tmp, ev_const, ev_func, get_put, get_args, get_putL, get_putL_nil, Nat.reduceEqDiff, reduceIte, List.getD_cons_zero, List.getD_cons_succ, List.getD_nil]); first | done | with_reducible rfl))) (hu := ?_) (hz := ?_) (next := fun w14 v14 he14 hs14 ho14 => ?_)
      · exact hf13.ints.sl.cells
      · rfl
      have hE14 := (he12.trans he13).trans he14
      have hT14 := hT11.ext hE14
      have hW14 := hW11.ext hE14
      have hO14 := hW14.own
      have hz11 := hE11.size
      have hs11 := hg11.size
      have hz14 := hE14.size
      have hz12 := he12.size
      have hz13 := he13.size
      refine z_append (hv := hO14) (hy := ho14) (hs := (by ((try simp only [ev_tmp, ev_const, ev_func, get_put, get_args, get_putL, get_putL_nil, Nat.reduceEqDiff, reduceIte, List.getD_cons_zero, List.getD_cons_succ, List.getD_nil]); first | done | with_reducible rfl))) (hx := (by ((try simp only [ev_tmp, ev_const, ev_func, get_put, get_args, get_putL, get_putL_nil, Nat.reduceEqDiff, reduceIte, List.getD_cons_zero, List.getD_cons_succ, List.getD_nil]); first | done | with_reducible rfl))) (hz := rfl) (h1 := ?_) (hb := ?_) (hl := ?_) (hbase := ?_) (hvb := hvb') (next := fun v15 w15 ho15 hg15 ha15 => ?_)
      · intro u hu
        rw [List.mem_singleton.1 hu]
        exact hf13.ints.sl.one
      · simp only [List.length_append, hl10, List.length_singleton]; omega
      · simp only [List.length_append, hl10, List.length_singleton, maxLen]; omega
      · omega
      have hp14 : IntsAp (fun g => g < w2.heap.size ∨ v11.ownBlock = some g) w14 v13 (Grp.pw y (p.o d).toNat).v :=
        (IntsAp.ofFr hf13 (fun g hg => by
          rcases hg with hg | hg
          · omega
          · have := (hW11.lt hg).2; omega)).ext he14
      obtain ⟨hT15, hW15⟩ := tw_push hT14 hW14 hp14 ho15 hg15 ha15
      have hy15 := (hy11.ext hE14).push_ hg15 ha15
      have hE15 : Ext w1 w15 := (hE11.trans hE14).app hg15 (fun k hk => by have := (hW14.lt hk).1; omega)
      refine zgo ?_
      refine z_end ?_
      clear hT5 hW5 hT8 hW8 hO8 hy8 hr8 hT9 hW9 hr9 hy9 hT10 hW10 hO10 hT11 hW11 hy11 hvb' hT14 hW14 hO14 hp14 ap1 ap2 ho9 ho10 ho11 ho14 ho15 hc9 hTr hWr hyi hfi
      refine go ?_
      refine r_for p.n (fun e ρ w' => ∃ (vw : Value) (usT usW : List Value), Has ρ [(2, .pointer (some ⟨b, 0, none⟩)), (5, .int .i64 p.n), (6, v2), (7, vw), (9, .int .i64 d), (11, v8), (12, .int .i64 e)] ∧ Ext w1 w' ∧
        Lst 22 w1.heap.size (fun g => g < w1.heap.size ∨ vw.ownBlock = some g) w' v2 usT (tabL (Tab.set t d y)) ∧
        Lst 22 w2.heap.size (fun g => g < w2.heap.size) w' vw usW ((zs ++ [r] ++ [Grp.pw y (p.o d).toNat] ++ comms t d y e).map (T.v (p := p) (i := 0))) ∧ IntsAp (fun g => g < w2.heap.size ∨ vw.ownBlock = some g) w' v8 y.v) ?_ ?_
      · refine ⟨v15, _, usW.take zs.length ++ [vr] ++ [v13], ?_, hE15, hT15, ?_, hy15⟩
        · exact hasP
        · have : comms t d y 0 = [] := rfl
          rw [this, List.append_nil]
          exact hW15
      rintro e ρ w16 he ⟨vw2, usT2, usW2, hH16, he16, hT16, hW16, hy16⟩
      refine rwp_has hH16 fun ρ1 => ?_
      have hTr := hT16.toRows
      have htl2 := tabL_len (Tab.set t d y)
      have hyi := hy16.ints
      have hz16 := he16.size
      have hz216 : w2.heap.size ≤ w16.heap.size := by have := (hT16.lt hvb).2; omega
      have hl16 : usW2.length = zs.length + 2 + (comms t d y e).length := by rw [hW16.len]; simp; omega
      have hcl := comms_len (t := t) (d := d) (y := y) (e := e)
      refine go ?_
      refine c_if (fun h6 => ?_) (fun h6 => ?_)
      · have hen : e < p.n := by omega
        have hrow : (tabL (Tab.set t d y)).getD e [] = rowOf (Tab.set t d y) e := tabL_at _ hen
        refine go ?_
        refine spd (fun h7 => ?_) (fun h7 => ?_)
        · have hed : e ≠ d := by omega
          have hte : Tab.set t d y e = t e := by unfold Tab.set; rw [if_neg hed]
          refine go ?_
          refine c_if (fun h8 => ?_) (fun h8 => ?_)
          · rw [hrow] at h8
            obtain ⟨z, hz⟩ : ∃ z, t e = some z := by
              cases ez : t e with
              | none => rw [← hte] at ez; exact absurd ((rowOf_len hen).2 ez) (by omega)
              | some z => exact ⟨z, rfl⟩
            have hze : (tabL (Tab.set t d y)).getD e [] = z.v := by rw [hrow]; exact rowOf_some (by rw [hte]; exact hz)
            obtain ⟨b2, hb2, hvb2⟩ := own_some vw2 w2.heap.size w16.heap.size (by omega) (fun g h => (hW16.lt h).1)
            have ap1 : Apart 0 w.heap.size b2 := ⟨.inr (by omega)⟩
            have ap2 : Apart b (b + 1) b2 := ⟨.inr (by omega)⟩
            have ap3 : Apart w1.heap.size (w1.heap.size + 1) b2 := ⟨.inr (by omega)⟩
            have hul2 : usT2.length = p.n := by rw [hT16.len, htl2]
            have hS16 := (hT16.toOwn hvb).toSl
            refine go ?_
            refine z_order b2 (List.range 11) (h := fun w17 he17 _ => ?_)
            refine zgo ?_
            refine za (h := rz_load_sl (hx := hS16.same (he17.same _ _)) (by ((try simp only [ev_tmp, ev_const, ev_func, get_put, get_args, get_putL, get_putL_nil, Nat.reduceEqDiff, reduceIte, List.getD_cons_zero, List.getD_cons_succ, List.getD_nil]); first | done | with_reducible rfl)) (by omega)) (next := ?_)
            refine zc (l10Comm_ok (p := p) (x := y) (y := z) rfl hze) (next := fun v18 w18 h18 => ?_)
            obtain ⟨he18, hf18⟩ := h18
            refine z_slice1 (u := v18) (h := (by ((try simp only [ev_tmp, ev_const, ev_func, get_put, get_args, get_putL, get_putL_nil, Nat.reduceEqDiff, reduceIte, List.getD_cons_zero, List.getD_cons_succ, List.getD_nil]); first | done | with_reducible rfl))) (hu := ?_) (hz := ?_) (next := fun w19 v19 he19 hs19 ho19 => ?_)
            · exact hf18.ints.sl.cells
            · rfl
            have hE19 := (he17.trans he18).trans he19
            have hT19 := hT16.ext hE19
            have hW19 := hW16.ext hE19
            have hO19 := hW19.own
            have hz19 := hE19.size
            have hz17 := he17.size
            refine z_append (hv := hO19) (hy := ho19) (hs := (by ((try simp only [ev_tmp, ev_const, ev_func, get_put, get_args, get_putL, get_putL_nil, Nat.reduceEqDiff, reduceIte, List.getD_cons_zero, List.getD_cons_succ, List.getD_nil]); first | done | with_reducible rfl))) (hx := (by ((try simp only [ev_tmp, ev_const, ev_func, get_put, get_args, get_putL, get_putL_nil, Nat.reduceEqDiff, reduceIte, List.getD_cons_zero, List.getD_cons_succ, List.getD_nil]); first | done | with_reducible rfl))) (hz := rfl) (h1 := ?_) (hb := ?_) (hl := ?_) (hbase := ?_) (hvb := hvb2) (next := fun v20 w20 ho20 hg20 ha20 => ?_)
            · intro u hu
              rw [List.mem_singleton.1 hu]
              exact hf18.ints.sl.one
            · simp only [List.length_singleton]; omega
            · simp only [List.length_singleton, maxLen]; omega
            · omega
            have hp19 : IntsAp (fun g => g < w2.heap.size ∨ vw2.ownBlock = some g) w19 v18 (Grp.cm y z).v :=
              (IntsAp.ofFr hf18 (fun g hg => by
                rcases hg with hg | hg
                · omega
                · have := (hW16.lt hg).2; omega)).ext he19
            obtain ⟨hT20, hW20⟩ := tw_push hT19 hW19 hp19 ho20 hg20 ha20
            refine zgo ?_
            refine z_end ?_
            refine go ?_
            refine forQ_normal (by omega) ⟨v20, usT2, usW2 ++ [v18], ?_, (he16.trans hE19).app hg20 (fun k hk => by have := (hW19.lt hk).1; omega), hT20, ?_, (hy16.ext hE19).push_ hg20 ha20⟩
            · exact hasP
            · rw [comms_some hed hz, ← List.append_assoc]; exact hW20
          · rw [hrow] at h8
            have hz : t e = none := by rw [← hte]; exact (rowOf_len hen).1 (by omega)
            refine go ?_
            refine forQ_normal (by omega) ⟨vw2, usT2, usW2, ?_, he16, hT16, ?_, hy16⟩
            · exact hasP
            · rw [comms_skip (.inr hz)]; exact hW16
        · have hed : e = d := by omega
          refine go ?_
          refine forQ_normal (by omega) ⟨vw2, usT2, usW2, ?_, he16, hT16, ?_, hy16⟩
          · exact hasP
          · rw [comms_skip (.inl hed)]; exact hW16
      · obtain rfl : e = p.n := by omega
        have hes := empt_set (y := y) hdn htd
        have hyk : y = Grp.pw r k.toNat := by rw [← hy, Grp.pwz_of r (by omega)]
        have hkk : ((k.toNat : Int) * co r d) % p.o d = 1 := by
          rw [Int.toNat_of_nonneg (by omega), Int.mul_comm]; exact hk3
        refine go ?_
        refine loopQ_normal ?_ ⟨vw2, usT2, usW2, Tab.set t d y, zs ++ [r] ++ [Grp.pw y (p.o d).toNat] ++ comms t d y p.n, ?_, he16, hT16, hW16, ?_, rfl, ?_⟩
        · simp only [List.length_append, List.length_singleton]; omega
        · exact hasP
        · refine hWk.fill hdn hL.stp (List.mem_append_right _ (List.mem_singleton.2 rfl)) hL.tl hrd htd hyk hkk ?_ ?_ ?_ ?_ ?_
          · intro a ha
            rcases List.mem_append.1 ha with ha | ha
            · exact .inr (by simp [ha])
            · exact .inl (List.mem_singleton.1 ha)
          · intro a ha
            rcases List.mem_append.1 ha with ha | ha
            · rcases List.mem_append.1 ha with ha | ha
              · rcases List.mem_append.1 ha with ha | ha
                · exact .inl (List.mem_append_left _ ha)
                · exact .inr (.inl (List.mem_singleton.1 ha))
              · exact .inr (.inr (.inl (List.mem_singleton.1 ha)))
            · obtain ⟨k, z, _, _, h8, h9⟩ := comms_mem.1 ha
              exact .inr (.inr (.inr ⟨k, z, h8, .inl h9⟩))
          · simp
          · simp
          · intro e z hz
            have hed : e ≠ d := by rintro rfl; rw [htd] at hz; cases hz
            exact .inl (List.mem_append_right _ (comms_mem.2 ⟨e, z, hWk.ok.lt e z hz, hed, hz, rfl⟩))
        · simp only [List.length_append, List.length_singleton]; omega
  · have hz0 : zs = [] := by
      cases zs with
      | nil => rfl
      | cons a l => exfalso; apply h4; simp
    subst hz0
    have hnone : ∀ a : El p, ¬ a ∈ ([] : List (El p)) := fun a h => by cases h
    have hfull := hWk.full hnone
    have hsz := he4.size
    refine go ?_
    refine rc (l12Full_ok hfull (av := (· < w.heap.size)) (hT.rows.weak fun g hg => .inl (.inl (.inl (by omega)))) (fun g hg => by omega)) (next := fun v5 w5 h5 => ?_)
    obtain ⟨he5, us5, hL5⟩ := h5
    refine go ?_
    rw [hWk.gen hnone] at hL5
    exact ret1 ⟨(he1.trans he4).trans he5, us5, hL5.mono (by omega)⟩
end Go.Proofs.Ytnphljflkpekmaa

/-
  Walk: the program's addition of elements to a sequence (sequence.add).
  Conditions: the tails at all levels are groups; the sequence's table has no element waiting.
-/
namespace Go.Proofs.Ytnphljflkpekmaa
open Go Go.Pc
/-- The table and the queue, side by side; one element more waits. -/
theorem tq_push {p : Pr} {e base s b0 : Nat} {av : Nat → Prop} {w w' : World} {vt vw vw' u : Value} {usT usW : List Value} {t : Tab p} {zs : List (El p)} {x : El p}
    (hT : Lst e base (fun g => av g ∨ vw.ownBlock = some g) w vt usT (tabL t)) (hW : QLst e s (fun g => g = b0) w vw usW (vecs zs))
    (hu : IntsAp (fun g => g = b0 ∨ vw.ownBlock = some g) w u x.v) (ho : OwnQ e s w' vw' (usW ++ [u])) (hg : w.grownBy w' vw.ownBlock) (hv : vw'.ownBlock = vw.ownBlock ∨ vw'.ownBlock = some w.heap.size) :
    Lst e base (fun g => av g ∨ vw'.ownBlock = some g) w' vt usT (tabL t) ∧ QLst e s (fun g => g = b0) w' vw' (usW ++ [u]) (vecs (zs ++ [x])) := by
  have hW' := hW.push hu ho hg hv
  refine ⟨hT.beside hg (fun g e => .inr e) fun g hg' => ?_, by unfold vecs; rw [List.map_append]; exact hW'⟩
  rcases hg' with hg' | hg'
  · exact .inl (.inl hg')
  · rcases hv with e | e
    · rw [e] at hg'; exact .inl (.inr hg')
    · have := (hW'.lt hg').2
      rw [e] at hg'; injection hg' with hg'
      exact .inr ⟨hg'.symm, by omega⟩
theorem b_push {A : Nat → Prop} {w w' : World} {v v' u : Value} {xs : List Int} (h : IntsAp (fun g => A g ∨ v.ownBlock = some g) w u xs) (hg : w.grownBy w' v.ownBlock) (hv : v'.ownBlock = v.ownBlock ∨ v'.ownBlock = some w.heap.size) : IntsAp (fun g => A g ∨ v'.ownBlock = some g) w' u xs :=
  h.beside hg (fun g e => .inr e) fun g hg' => by
    rcases hg' with hg' | hg'
    · exact .inl (.inl hg')
    · rcases hv with e | e
      · rw [e] at hg'; exact .inl (.inr hg')
      · rw [e] at hg'; injection hg' with hg'; exact .inr hg'.symm
/-- A sequence in memory: its struct and its table, of which the block b0 is written. -/
structure SeqAt {p : Pr} (bs b0 base : Nat) (av : Nat → Prop) (w : World) (vp vb : Value) (t : Tab p) : Prop where
  c0 : Cell w bs 0 vp
  c1 : Cell w bs 1 vb
  ne : bs ≠ b0
  own : vb.ownBlock = some b0
  lst : ∃ us, Lst 22 base av w vb us (tabL t) ∧ ∀ d, d < p.n → t d = none → us.getD d nilv = nilv
set_option maxHeartbeats 8000000 in
theorem add_ok {p : Pr} [hcon : ConAll p] {S : El p → Prop} {t0 : Tab p} {av : Nat → Prop} {base bs b0 : Nat} {w : World} {vp vb vl : Value} {us : List Value} {ys : List (El p)} {lo hi lo1 hi1 : Nat} [hp : PresP lo hi w vp p] (hhi : hi ≤ w.heap.size) [hap : Apart lo hi b0]
    (hq : SeqAt bs b0 base av w vp vb t0) (hw0 : Wk S t0 (fun _ => False)) [hsl : Sl lo1 hi1 w vl us] (hr : RowsAp (fun g => g = b0) w us (vecs ys)) (hn : ys.length ≤ 100000) :
    Calls Try.prog 87 #[.pointer (some ⟨bs, 0, none⟩), vl] w (Ret fun v w' => ∃ (bg : Bool) (t : Tab p), v = .bool bg ∧ Chg b0 w w' ∧ SeqAt bs b0 base av w' vp vb t ∧ Wk (fun a => S a ∨ a ∈ ys) t (fun _ => False) ∧ (bg = true ↔ ∃ a, a ∈ ys ∧ ¬ Gen S a)) := by
  have hv := hcon.valid
  have hn6 := hv.n6
  have hol : p.ord.length = p.n := rfl
  obtain ⟨c0, c1, hbsn, hvb, usT0, hT0, hnil0⟩ := hq
  have hb0l := (hT0.lt hvb).2
  have hbsl := c0.lt
  have hapb : Apart bs (bs + 1) b0 := ⟨by omega⟩
  obtain ⟨g, og, vo, vpw, vc, ps, cs, css, rfl, hg1, hg2, hc0, hc1, hc2, h1, h2, h3⟩ := hp.ex
  have hag : Apart g (g + 1) b0 := ⟨by have := hap.out; omega⟩
  have hul : us.length = ys.length := by rw [hr.len]; simp
  refine enter (args := [.pointer (some ⟨bs, 0, none⟩), vl]) (l := [.tmp 4]) Try.func87 rfl rfl Try.ntmps87 (by simp) ?_
  refine go ?_
  refine rc (cloneR_ok (us := us) ?_ ?_) (next := fun v1 w1 h4 => ?_)
  · intro u hu
    obtain ⟨i, hi, rfl⟩ := List.getElem_of_mem hu
    have := (hr.at_ i).ints.sl.one
    rwa [show us.getD i nilv = us[i] by simp [hi]] at this
  · omega
  obtain ⟨he1, hO1⟩ := h4
  have hz1 := he1.size
  have hQ1 : QLst 22 w.heap.size (fun g => g = b0) w1 v1 us (vecs ys) := by
    refine ⟨hO1.toQ, (hr.weak fun g hg => ?_).ext he1, fun g hg e => ?_, fun g e => by omega⟩
    · rcases hg with hg | hg
      · exact .inl hg
      · exact .inr (hO1.lt g hg).1
    · have := (hO1.lt g hg).1; omega
  have hT1 : Lst 22 base (fun g => av g ∨ v1.ownBlock = some g) w1 vb usT0 (tabL t0) := by
    refine ⟨(hT0.ext he1).own, ((hT0.rows.weak (av' := fun g => (av g ∨ v1.ownBlock = some g) ∨ vb.ownBlock = some g) fun g hg => ?_).ext he1), fun g hg h' => ?_, fun g hg => ?_⟩
    · rcases hg with (hg | hg) | hg
      · exact .inl (.inl hg)
      · exact .inr (hO1.lt g hg).1
      · exact .inl (.inr hg)
    · rcases h' with h' | h'
      · exact hT0.free g hg h'
      · have := (hO1.lt g h').1; have := (hT0.lt hg).2; omega
    · rcases hg with hg | hg
      · have := hT0.bd g hg; omega
      · exact (hO1.lt g hg).2
  refine go ?_
  refine r_loop (fun m ρ w' => ∃ (vq : Value) (usT usQ : List Value) (t : Tab p) (zs : List (El p)) (bg : Bool), Has ρ [(0, .pointer (some ⟨bs, 0, none⟩)), (5, .bool bg), (6, vq)] ∧ Chg b0 w w' ∧ Lst 22 base (fun g => av g ∨ vq.ownBlock = some g) w' vb usT (tabL t) ∧
    QLst 22 w.heap.size (fun g => g = b0) w' vq usQ (vecs zs) ∧ (∀ d, d < p.n → t d = none → usT.getD d nilv = nilv) ∧ Wk (fun a => S a ∨ a ∈ ys) t (fun a => a ∈ zs) ∧ (bg = true → ∃ d, t0 d = none ∧ t d ≠ none) ∧ (bg = false → t = t0) ∧ (∀ d, t d = none → t0 d = none) ∧
    m = 8 * empt t + zs.length ∧ m ≤ ys.length + 48) (8 * empt t0 + ys.length) ?_ ?_
  · refine ⟨v1, usT0, us, t0, ys, false, ?_, Chg.ofExt he1, hT1, hQ1, hnil0, hw0.more, fun h => (by cases h), fun _ => rfl, fun _ h => h, rfl, ?_⟩
    · exact hasP
    · have := empt_le t0; omega
  clear hQ1 hT1 hO1 he1
  rintro m ρ w4 ⟨vq, usT, usQ, t, zs, bg, hH4, hch4, hT, hQ, hnil, hWk, hbt, hbf, hab, rfl, hm⟩
  refine rwp_has hH4 fun ρ0 => ?_
  have hTr := hT.toRows
  have hQr := hQ.toRows
  have htl := tabL_len t
  have hz4 := hch4.size
  have hcs0 : Cell w4 bs 0 (.pointer (some ⟨g, og, none⟩)) := inferInstance
  have hcs1 : Cell w4 bs 1 vb := inferInstance
  refine go ?_
  refine c_if (fun h4 => ?_) (fun h4 => ?_)
  · cases zs with
    | nil => simp at h4
    | cons x zs =>
    have hQl := hQ.len
    cases usQ with
    | nil => simp at hQl
    | cons u usQ =>
    have hql : usQ.length = zs.length := by simpa using hQl
    have hzl : (vecs (x :: zs)).length = usQ.length + 1 := by simp [hql]
    have hzl2 : (x :: zs).length = zs.length + 1 := rfl
    have hx4 : IntsAp (fun g => g = b0 ∨ vq.ownBlock = some g) w4 (Pc.rowAt vq (u :: usQ) 0) x.v := hQ.rows.at_ 0
    refine go ?_
    refine rc (sift_ok hWk.ok (x := x) hnil hx4 ?_) (next := fun v5 w5 h5 => ?_)
    · rintro g (rfl | hg)
      · omega
      · exact (hQ.lt hg).2
    obtain ⟨he5, r, hr5, hL⟩ := h5
    have hri := hr5.ints
    have hrl := r.inr.len
    refine go ?_
    rw [hzl]
    have hQ5 : QLst 22 w.heap.size (fun g => g = b0) w5 (cut vq 1 (usQ.length + 1)) usQ (vecs zs) := (hQ.ext he5).tail
    have hT5 : Lst 22 base (fun g => av g ∨ (cut vq 1 (usQ.length + 1)).ownBlock = some g) w5 vb usT (tabL t) := by rw [cut_block]; exact hT.ext he5
    rw [← cut_block vq 1 (usQ.length + 1)] at hr5
    have hqb := cut_block vq 1 (usQ.length + 1)
    generalize cut vq 1 (usQ.length + 1) = vq5 at hQ5 hT5 hr5 hqb
    refine rc (depthOf_ok (xs := r.v) ?_) (next := fun v6 w6 h6 => ?_)
    · omega
    obtain ⟨rfl, he6⟩ := h6
    obtain ⟨d, hd⟩ : ∃ d, lead r.v = d := ⟨_, rfl⟩
    rw [hd] at hL ⊢
    refine go ?_
    have hch6 : Chg b0 w w6 := (hch4.grow he5).grow he6
    refine c_if (fun h5 => ?_) (fun h5 => ?_)
    · have hr1 : r = 1 := by
        have := hL.tl
        rw [show d = p.n by omega] at this
        exact this.end_
      subst hr1
      refine go ?_
      refine loopQ_normal ?_ ⟨vq5, usT, usQ, t, zs, bg, ?_, hch6, hT5.ext he6, hQ5.ext he6, hnil, hWk.drop hL.stp ?_ ?_, hbt, hbf, hab, rfl, ?_⟩
      · omega
      · exact hasP
      · intro a ha
        rcases List.mem_cons.1 ha with ha | ha
        · exact .inl ha
        · exact .inr ha
      · exact fun a ha => List.mem_cons_of_mem _ ha
      · omega
    · have hdn : d < p.n := by have := hL.le; omega
      obtain ⟨htd, hrd⟩ := hL.some hdn
      have hrr := r.inr.rng d hdn
      have hod := hv.opos hdn
      have hpr := hv.prime d hdn
      have hr0 : r.v.getD d 0 ≠ 0 := hrd
      refine go ?_
      refine d_region fun w7 he7 _ => ?_
      refine dgo ?_
      refine dce (inverseMod_ok hpr ?_) (next := fun v8 w8 h8 => ?_)
      · exact ⟨by omega, hrr.2⟩
      obtain ⟨k, rfl, hk1, hk2, hk3, he8⟩ := h8
      refine dgo ?_
      refine d_end (h := ?_)
      have hE58 : Ext w5 w8 := he6.trans (he7.trans he8)
      have hT8 := hT5.ext hE58
      have hQ8 := hQ5.ext hE58
      have hr8 := hr5.ext hE58
      have hri8 := hr8.ints
      have hch8 := hch6.grow (he7.trans he8)
      refine go ?_
      refine st_slice1 (u := v5) (by ((try simp only [ev_tmp, ev_const, ev_func, get_put, get_args, get_putL, get_putL_nil, Nat.reduceEqDiff, reduceIte, List.getD_cons_zero, List.getD_cons_succ, List.getD_nil]); first | done | with_reducible rfl)) ?_ ?_ (by first | exact True.intro | exact ⟨_, rfl, by ((try simp only [ev_tmp, ev_const, ev_func, get_put, get_args, get_putL, get_putL_nil, Nat.reduceEqDiff, reduceIte, List.getD_cons_zero, List.getD_cons_succ, List.getD_nil, Bool.not_true, Bool.not_false]); first | done | with_reducible rfl)⟩) fun w9 v9 he9 hs9 ho9 => ?_
      · exact hri8.sl.cells
      · rfl
      refine go ?_
      have hT9 := hT8.ext he9
      have hQ9 := hQ8.ext he9
      have hr9 := hr8.ext he9
      have hO9 := hQ9.own
      have hz8 := hch8.size
      have hz9 := he9.size
      refine st_appendQ (hv := hO9) (hy := ho9) (by ((try simp only [ev_tmp, ev_const, ev_func, get_put, get_args, get_putL, get_putL_nil, Nat.reduceEqDiff, reduceIte, List.getD_cons_zero, List.getD_cons_succ, List.getD_nil]); first | done | with_reducible rfl)) (by ((try simp only [ev_tmp, ev_const, ev_func, get_put, get_args, get_putL, get_putL_nil, Nat.reduceEqDiff, reduceIte, List.getD_cons_zero, List.getD_cons_succ, List.getD_nil]); first | done | with_reducible rfl)) rfl ?_ ?_ ?_ ?_ (by first | exact True.intro | exact ⟨_, rfl, by ((try simp only [ev_tmp, ev_const, ev_func, get_put, get_args, get_putL, get_putL_nil, Nat.reduceEqDiff, reduceIte, List.getD_cons_zero, List.getD_cons_succ, List.getD_nil, Bool.not_true, Bool.not_false]); first | done | with_reducible rfl)⟩) fun v10 w10 ho10 hg10 ha10 => ?_
      · exact hri8.sl.one
      · omega
      · simp only [maxLen]; omega
      · omega
      obtain ⟨hT10, hQ10⟩ := tq_push hT9 hQ9 hr9 ho10 hg10 ha10
      have hr10 := b_push hr9 hg10 ha10
      have hch10 : Chg b0 w w10 := (hch8.grow he9).app hg10 (fun k hk => (hQ9.lt hk).1)
      have hri10 := hr10.ints
      have hz10 := hch10.size
      clear hT5 hQ5 hr5 hri hT8 hQ8 hr8 hri8 hch8 hT9 hQ9 hr9 hO9 hch6 ho9 hQr hTr hx4 hcs0 hcs1
      refine go ?_
      refine rc (power_ok (p := p) (x := r) (Nat.zero_le _) rfl ?_) (next := fun v11 w11 h11 => ?_)
      · omega
      obtain ⟨he11, hf11⟩ := h11
      obtain ⟨y, hy⟩ : ∃ y, Grp.pw r k.toNat = y := ⟨_, rfl⟩
      rw [hy] at hf11
      have hT11 := hT10.ext he11
      have hQ11 := hQ10.ext he11
      have hch11 := hch10.grow he11
      have hy11 : IntsAp (fun g => g < w.heap.size ∨ v10.ownBlock = some g) w11 v11 y.v := IntsAp.ofFr hf11 (fun g hg => by
        rcases hg with hg | hg
        · omega
        · exact (hQ10.lt hg).2)
      have hyi := hy11.ints
      have hz11 := he11.size
      clear hT10 hQ10 hch10 hf11 hr10 hri10
      obtain ⟨b', hb', hvb'⟩ := own_some v10 w.heap.size w11.heap.size (by omega) (fun g h => (hQ11.lt h).1)
      have ap1 : Apart lo hi b' := ⟨.inr (by omega)⟩
      have ap2 : Apart bs (bs + 1) b' := ⟨.inr (by omega)⟩
      have ap3 : Apart g (g + 1) b' := ⟨.inr (by omega)⟩
      have hl11 := hQ11.len
      refine go ?_
      refine z_order b' (List.range 20) (h := fun w12 he12 _ => ?_)
      refine zgo ?_
      refine zc (power_ok (p := p) (x := y) (Nat.zero_le _) rfl ?_) (next := fun v13 w13 h13 => ?_)
      · have hoe : p.o d = p.ord.getD d 0 := rfl
        omega
      obtain ⟨he13, hf13⟩ := h13
      have hoe : p.o d = p.ord.getD d 0 := rfl
      rw [← hoe] at hf13
      refine z_slice1 (u := v13) (h := (by ((try simp only [ev_tmp, ev_const, ev_func, get_put, get_args, get_putL, get_putL_nil, Nat.reduceEqDiff, reduceIte, List.getD_cons_zero, List.getD_cons_succ, List.getD_nil]); first | done | with_reducible rfl))) (hu := ?_) (hz := ?_) (next := fun w14 v14 he14 hs14 ho14 => ?_)
      · exact hf13.ints.sl.cells
      · rfl
      have hE14 := (he12.trans he13).trans he14
      have hT14 := hT11.ext hE14
      have hQ14 := hQ11.ext hE14
      have hO14 := hQ14.own
      have hz14 := hE14.size
      have hz12 := he12.size
      have hz13 := he13.size
      have hl14 : (usQ ++ [v5]).length = zs.length + 1 := by simp [hql]
      refine z_appendQ (hv := hO14) (hy := ho14) (hs := (by ((try simp only [ev_tmp, ev_const, ev_func, get_put, get_args, get_putL, get_putL_nil, Nat.reduceEqDiff, reduceIte, List.getD_cons_zero, List.getD_cons_succ, List.getD_nil]); first | done | with_reducible rfl))) (hx := (by ((try simp only [ev_tmp, ev_const, ev_func, get_put, get_args, get_putL, get_putL_nil, Nat.reduceEqDiff, reduceIte, List.getD_cons_zero, List.getD_cons_succ, List.getD_nil]); first | done | with_reducible rfl))) (hz := rfl) (h1 := ?_) (hb := ?_) (hl := ?_) (hbase := ?_) (hvb := hvb') (next := fun v15 w15 ho15 hg15 ha15 => ?_)
      · exact hf13.ints.sl.one
      · omega
      · simp only [maxLen]; omega
      · omega
      have hp14 : IntsAp (fun g => g = b0 ∨ v10.ownBlock = some g) w14 v13 (Grp.pw y (p.o d).toNat).v :=
        (IntsAp.ofFr hf13 (fun g hg => by
          rcases hg with hg | hg
          · omega
          · have := (hQ11.lt hg).2; omega)).ext he14
      obtain ⟨hT15, hQ15⟩ := tq_push hT14 hQ14 hp14 ho15 hg15 ha15
      have hy15 := b_push (hy11.ext hE14) hg15 ha15
      have hch15 : Chg b0 w w15 := (hch11.grow hE14).app hg15 (fun k hk => (hQ14.lt hk).1)
      refine zgo ?_
      refine z_end ?_
      clear hT11 hQ11 hch11 hy11 hyi hT14 hQ14 hO14 hp14 ap1 ap2 ap3 ho14 hvb'
      have hTr := hT15.toRows
      refine go ?_
      refine r_for p.n (fun e ρ w' => ∃ (vq : Value) (usQ : List Value), Has ρ [(0, .pointer (some ⟨bs, 0, none⟩)), (5, .bool true), (6, vq), (7, v11), (8, .int .i64 d), (82, vb), (83, .int .i64 (tabL t).length), (84, .int .i64 e)] ∧ Chg b0 w w' ∧
        Lst 22 base (fun g => av g ∨ vq.ownBlock = some g) w' vb usT (tabL t) ∧
        QLst 22 w.heap.size (fun g => g = b0) w' vq usQ (vecs (zs ++ [r] ++ [Grp.pw y (p.o d).toNat] ++ commsL t y e)) ∧ IntsAp (fun g => g < w.heap.size ∨ vq.ownBlock = some g) w' v11 y.v) ?_ ?_
      · refine ⟨v15, usQ ++ [v5] ++ [v13], ?_, hch15, hT15, ?_, hy15⟩
        · exact hasP
        · have : commsL t y 0 = [] := rfl
          rw [this, List.append_nil]
          exact hQ15
      clear hT15 hQ15 hch15 hy15 hTr
      rintro e ρ w16 he ⟨vq2, usQ2, hH16, hch16, hT16, hQ16, hy16⟩
      refine rwp_has hH16 fun ρ1 => ?_
      have hTr := hT16.toRows
      have hyi := hy16.ints
      have hz16 := hch16.size
      have hl16 : usQ2.length = zs.length + 2 + (commsL t y e).length := by rw [hQ16.len]; simp; omega
      have hcl := commsL_len (t := t) (y := y) (e := e)
      refine go ?_
      refine c_if (fun h6 => ?_) (fun h6 => ?_)
      · have hen : e < p.n := by omega
        cases hte : t e with
        | none =>
          have hn2 : Pc.rowAt vb usT e = nilv := hnil e hen hte
          have hnb : NilB (Pc.rowAt vb usT e) true := by rw [hn2]; infer_instance
          refine go ?_
          refine forQ_normal (by omega) ⟨vq2, usQ2, ?_, hch16, hT16, ?_, hy16⟩
          · exact hasP
          · rw [commsL_skip hte]; exact hQ16
        | some z =>
          have hze : (tabL t).getD e [] = z.v := by rw [tabL_at t hen, rowOf_some hte]
          have hnb : NilB (Pc.rowAt vb usT e) false := by
            have hrow : Ints 0 w16.heap.size w16 (Pc.rowAt vb usT e) ((tabL t).getD e []) := by infer_instance
            exact hrow.nn (by rw [hze, z.inr.len]; omega)
          refine go ?_
          refine rc (commutator_ok (p := p) (x := z) (y := y) (Nat.zero_le _) hze rfl) (next := fun v18 w18 h18 => ?_)
          obtain ⟨he18, hf18⟩ := h18
          refine go ?_
          refine st_slice1 (u := v18) (by ((try simp only [ev_tmp, ev_const, ev_func, get_put, get_args, get_putL, get_putL_nil, Nat.reduceEqDiff, reduceIte, List.getD_cons_zero, List.getD_cons_succ, List.getD_nil]); first | done | with_reducible rfl)) ?_ ?_ (by first | exact True.intro | exact ⟨_, rfl, by ((try simp only [ev_tmp, ev_const, ev_func, get_put, get_args, get_putL, get_putL_nil, Nat.reduceEqDiff, reduceIte, List.getD_cons_zero, List.getD_cons_succ, List.getD_nil, Bool.not_true, Bool.not_false]); first | done | with_reducible rfl)⟩) fun w19 v19 he19 hs19 ho19 => ?_
          · exact hf18.ints.sl.cells
          · rfl
          have hE19 := he18.trans he19
          have hT19 := hT16.ext hE19
          have hQ19 := hQ16.ext hE19
          have hO19 := hQ19.own
          have hz19 := hE19.size
          refine go ?_
          refine st_appendQ (hv := hO19) (hy := ho19) (by ((try simp only [ev_tmp, ev_const, ev_func, get_put, get_args, get_putL, get_putL_nil, Nat.reduceEqDiff, reduceIte, List.getD_cons_zero, List.getD_cons_succ, List.getD_nil]); first | done | with_reducible rfl)) (by ((try simp only [ev_tmp, ev_const, ev_func, get_put, get_args, get_putL, get_putL_nil, Nat.reduceEqDiff, reduceIte, List.getD_cons_zero, List.getD_cons_succ, List.getD_nil]); first | done | with_reducible rfl)) rfl ?_ ?_ ?_ ?_ (by first | exact True.intro | exact ⟨_, rfl, by ((try simp only [ev_tmp, ev_const, ev_func, get_put, get_args, get_putL, get_putL_nil, Nat.reduceEqDiff, reduceIte, List.getD_cons_zero, List.getD_cons_succ, List.getD_nil, Bool.not_true, Bool.not_false]); first | done | with_reducible rfl)⟩) fun v20 w20 ho20 hg20 ha20 => ?_
          · exact hf18.ints.sl.one
          · omega
          · simp only [maxLen]; omega
          · omega
          have hp19 : IntsAp (fun g => g = b0 ∨ vq2.ownBlock = some g) w19 v18 (Grp.cm z y).v :=
            (IntsAp.ofFr hf18 (fun g hg => by
              rcases hg with hg | hg
              · omega
              · exact (hQ16.lt hg).2)).ext he19
          obtain ⟨hT20, hQ20⟩ := tq_push hT19 hQ19 hp19 ho20 hg20 ha20
          refine go ?_
          refine forQ_normal (by omega) ⟨v20, usQ2 ++ [v18], ?_, (hch16.grow hE19).app hg20 (fun k hk => (hQ19.lt hk).1), hT20, ?_, b_push (hy16.ext hE19) hg20 ha20⟩
          · exact hasP
          · rw [commsL_some hte, ← List.append_assoc]; exact hQ20
      · obtain rfl : e = p.n := by omega
        have hes := empt_set (y := y) hdn htd
        have hyk : y = Grp.pw r k.toNat := hy.symm
        have hkk : ((k.toNat : Int) * co r d) % p.o d = 1 := by
          rw [Int.toNat_of_nonneg (by omega), Int.mul_comm]; exact hk3
        have hO16 := hT16.toOwn hvb
        have hulT : usT.length = p.n := by rw [hT16.len, htl]
        refine go ?_
        refine st_store_val (h := hO16) (by ((try simp only [ev_tmp, ev_const, ev_func, get_put, get_args, get_putL, get_putL_nil, Nat.reduceEqDiff, reduceIte, List.getD_cons_zero, List.getD_cons_succ, List.getD_nil]); first | done | with_reducible rfl)) (by ((try simp only [ev_tmp, ev_const, ev_func, get_put, get_args, get_putL, get_putL_nil, Nat.reduceEqDiff, reduceIte, List.getD_cons_zero, List.getD_cons_succ, List.getD_nil]); first | done | with_reducible rfl)) ?_ ?_ (by first | exact True.intro | exact ⟨_, rfl, by ((try simp only [ev_tmp, ev_const, ev_func, get_put, get_args, get_putL, get_putL_nil, Nat.reduceEqDiff, reduceIte, List.getD_cons_zero, List.getD_cons_succ, List.getD_nil, Bool.not_true, Bool.not_false]); first | done | with_reducible rfl)⟩) fun w21 hc21 hs21 ho21 => ?_
        · exact hyi.sl.one
        · omega
        have hT21 : Lst 22 base (fun g => av g ∨ vq2.ownBlock = some g) w21 vb (usT.set d v11) (tabL (Tab.set t d y)) := by
          rw [tabL_set]
          refine hT16.set hvb (hy16.weak fun g hg => .inl ?_) hc21 ho21 (by omega)
          rcases hg with (hg | hg) | hg
          · exact .inl (hT0.bd g hg)
          · exact .inr hg
          · rw [hvb] at hg; injection hg with hg; exact .inl (by omega)
        have hQ21 := hQ16.chg hc21 rfl
        refine go ?_
        refine loopQ_normal ?_ ⟨vq2, usT.set d v11, usQ2, Tab.set t d y, zs ++ [r] ++ [Grp.pw y (p.o d).toNat] ++ commsL t y p.n, true, ?_, hch16.trans hc21, hT21, hQ21, ?_, ?_, fun _ => ⟨d, ?_, ?_⟩, fun h => (by cases h), fun f hf => ?_, rfl, ?_⟩
        · simp only [List.length_append, List.length_singleton, List.length_cons, List.length_nil]; omega
        · exact hasP
        · intro f hf hfn
          by_cases ef : d = f
          · subst ef; unfold Tab.set at hfn; rw [if_pos rfl] at hfn; cases hfn
          · have : t f = none := by unfold Tab.set at hfn; rw [if_neg (fun e => ef e.symm)] at hfn; exact hfn
            have h8 := hnil f hf this
            rw [List.getD_eq_getElem?_getD, List.getElem?_set_ne ef, ← List.getD_eq_getElem?_getD]
            exact h8
        · refine hWk.fill hdn hL.stp (List.mem_cons_self) hL.tl hrd htd hyk hkk ?_ ?_ ?_ ?_ ?_
          · intro a ha
            rcases List.mem_cons.1 ha with ha | ha
            · exact .inl ha
            · exact .inr (by simp [ha])
          · intro a ha
            rcases List.mem_append.1 ha with ha | ha
            · rcases List.mem_append.1 ha with ha | ha
              · rcases List.mem_append.1 ha with ha | ha
                · exact .inl (List.mem_cons_of_mem _ ha)
                · exact .inr (.inl (List.mem_singleton.1 ha))
              · exact .inr (.inr (.inl (List.mem_singleton.1 ha)))
            · obtain ⟨k, z, _, h8, h9⟩ := commsL_mem.1 ha
              exact .inr (.inr (.inr ⟨k, z, h8, .inr h9⟩))
          · simp
          · simp
          · intro e z hz
            exact .inr (List.mem_append_right _ (commsL_mem.2 ⟨e, z, hWk.ok.lt e z hz, hz, rfl⟩))
        · exact hab d htd
        · unfold Tab.set; rw [if_pos rfl]; simp
        · refine hab f ?_
          unfold Tab.set at hf
          split at hf
          · cases hf
          · exact hf
        · simp only [List.length_append, List.length_singleton, List.length_cons, List.length_nil]; omega
  · have hz0 : zs = [] := by
      cases zs with
      | nil => rfl
      | cons a l => exfalso; apply h4; simp
    subst hz0
    refine go ?_
    have hWk' : Wk (fun a => S a ∨ a ∈ ys) t (fun _ => False) := hWk.congr (fun a => by simp)
    refine ret1 ⟨bg, t, rfl, hch4, ⟨hcs0, hcs1, hbsn, hvb, usT, hT.weak (fun g hg => .inl (.inl hg)) (fun g hg h => hT.free g hg (.inl h)) (fun g hg => hT.bd g (.inl hg)), hnil⟩, hWk', ?_⟩
    cases bg with
    | true =>
      obtain ⟨d, h5, h6⟩ := hbt rfl
      exact ⟨fun _ => hw0.grown hWk' h5 h6, fun _ => rfl⟩
    | false =>
      have := hbf rfl
      subst this
      have hs := hw0.same hWk'
      refine ⟨fun h => (by cases h), ?_⟩
      rintro ⟨a, ha, hna⟩
      exact absurd (hs a ha) hna
end Go.Proofs.Ytnphljflkpekmaa

/-
  Walk: the program's representative of a coset (representative).
  Conditions: the tails at all levels are groups; the list has leading exponents 1 at ascending depths.
-/
namespace Go.Proofs.Ytnphljflkpekmaa
open Go Go.Pc
/-- Elements with the leading exponent 1, their depths ascending. -/
structure SeqOk {p : Pr} (ys : List (El p)) : Prop where
  lead1 : ∀ y, y ∈ ys → lead y.v < p.n ∧ co y (lead y.v) = 1
  asc : ys.Pairwise fun a b => lead a.v < lead b.v
/-- What a representative is: it differs by a product of the list's elements, and is zero at their depths. -/
structure RepOf {p : Pr} [ConAll p] (ys : List (El p)) (x r : El p) : Prop where
  mem : ∀ H : El p → Prop, Pc.Sub H → (∀ y, y ∈ ys → H y) → H (x⁻¹ * r)
  zero : ∀ y, y ∈ ys → co r (lead y.v) = 0
  low : ∀ t, (∀ y, y ∈ ys → t < lead y.v) → co r t = co x t
theorem vecs_getD {p : Pr} (ys : List (El p)) {i : Nat} (h : i < ys.length) : (vecs ys).getD i [] = (ys[i]).v := by simp [vecs, h]
set_option maxHeartbeats 2000000 in
theorem representative_ok {p : Pr} [hcon : ConAll p] {ys : List (El p)} (hs : SeqOk ys) {w : World} {vp vu vx : Value} {us : List Value} {x : El p} {xs : List Int} {xss : List (List Int)} {lo hi lo1 hi1 lo2 hi2 : Nat} [hp : PresP lo hi w vp p] [hu : Pc.Rows lo1 hi1 w vu us xss] [hx : Ints lo2 hi2 w vx xs] (hus : xss = vecs ys) (hxs : xs = x.v) (hl : ys.length ≤ 100000) :
    Calls Try.prog 124 #[vp, vu, vx] w (Ret fun v w' => Ext w w' ∧ ∃ r : El p, Fr w.heap.size w' v r.v ∧ RepOf ys x r) := by
  subst hus hxs
  have hv := hcon.valid
  have hn6 := hv.n6
  have hxl := x.inr.len
  replace hp := hp.wide
  replace hu := hu.wide
  have hvl : (vecs ys).length = ys.length := by simp
  refine enter (args := [vp, vu, vx]) (l := [.tmp 6]) Try.func124 rfl rfl Try.ntmps124 (by simp) ?_
  refine go ?_
  refine rc (cloneI_ok (xs := x.v) ?_) (next := fun v1 w1 h4 => ?_)
  · omega
  obtain ⟨he1, hf1⟩ := h4
  refine go ?_
  refine rc (pivots_ok (xss := vecs ys) ?_ ?_) (next := fun v2 w2 h5 => ?_)
  · omega
  · intro i hi
    rw [vecs_getD ys (by omega), (ys[i]'(by omega)).inr.len]
    exact ⟨(hs.lead1 _ (List.getElem_mem _)).1, by omega⟩
  obtain ⟨he2, hf2⟩ := h5
  have hpi := hf2.ints
  have hpl : ((vecs ys).map fun x => (lead x : Int)).length = ys.length := by simp
  have hpg : ∀ i (h : i < ys.length), ((vecs ys).map fun x => (lead x : Int)).getD i 0 = (lead (ys[i]).v : Int) := fun i h => by simp [vecs, h]
  by_cases hn : p.n = 0
  · have hy0 : ys = [] := by
      cases ys with
      | nil => rfl
      | cons y l => have := (hs.lead1 y (List.mem_cons_self)).1; omega
    subst hy0
    refine go ?_
    refine r_for 0 (fun k ρ w' => Has ρ [(7, v1), (14, .int .i64 ((vecs ([] : List (El p))).map fun x => (lead x : Int)).length), (15, .int .i64 k)] ∧ Ext w2 w') ?_ ?_
    · refine ⟨?_, Ext.refl _⟩
      exact hasP
    rintro k ρ w3 hk ⟨hH, he3⟩
    refine rwp_has hH fun ρ0 => ?_
    refine go ?_
    refine c_if (fun h4 => ?_) (fun h4 => ?_)
    · simp at h4; omega
    refine go ?_
    refine ret1 ⟨(he1.trans he2).trans he3, x, hf1.ext' (he2.trans he3), fun H hH _ => by rw [Grp.inv_mul]; exact hH.one, fun y hy => (by cases hy), fun t _ => rfl⟩
  obtain ⟨te, b1, hb1, ho1⟩ := hf1.own (by intro e; rw [e] at hxl; simp at hxl; omega)
  have hbl := ho1.lt
  have ho2 : OwnI te b1 w2 v1 x.v := inferInstance
  have ap1 : Apart 0 w.heap.size b1 := ⟨.inr hb1⟩
  have ap2 : Apart w1.heap.size w2.heap.size b1 := ⟨.inl hbl⟩
  have hE2 := he1.trans he2
  clear hf1 ho1 hf2
  refine go ?_
  refine r_for ys.length (fun k ρ w' => ∃ (r : El p) (xs : List Int), Has ρ [(0, vp), (1, vu), (7, v1), (13, v2), (14, .int .i64 ((vecs ys).map fun x => (lead x : Int)).length), (15, .int .i64 k)] ∧ Chg b1 w2 w' ∧ OwnI te b1 w' v1 xs ∧ xs = r.v ∧
    (∀ H : El p → Prop, Pc.Sub H → (∀ y, y ∈ ys → H y) → H (x⁻¹ * r)) ∧ (∀ i (h : i < ys.length), i < k → co r (lead (ys[i]).v) = 0) ∧ (∀ t, (∀ y, y ∈ ys → t < lead y.v) → co r t = co x t)) ?_ ?_
  · refine ⟨x, _, ?_, Chg.refl _ _, ho2, rfl, fun H hH _ => by rw [Grp.inv_mul]; exact hH.one, fun i h hi => by omega, fun t _ => rfl⟩
    exact hasP
  clear ho2
  rintro k ρ w3 hk ⟨r, xs3, hH, hch3, ho3, hxs3, hm, hz, hlow⟩
  refine rwp_has hH fun ρ0 => ?_
  refine go ?_
  refine c_if (fun h4 => ?_) (fun h4 => ?_)
  · have hkn : k < ys.length := by omega
    have hpk := hpg k hkn
    obtain ⟨d, hd⟩ : ∃ d, lead (ys[k]).v = d := ⟨_, rfl⟩
    obtain ⟨hdn, hy1⟩ := hs.lead1 _ (List.getElem_mem hkn)
    rw [hd] at hpk hdn hy1
    have hyt : Tl d (ys[k]) := by rw [← hd]; exact lead_tl _
    have hod := hv.opos hdn
    have hasc : ∀ i (h : i < ys.length), i < k → lead (ys[i]).v < d := fun i h hi => by
      rw [← hd]; exact List.pairwise_iff_getElem.1 hs.asc i k h hkn hi
    refine go ?_
    rw [hpk]
    refine r_loop (fun m ρ w' => ∃ (r : El p) (xs : List Int), Has ρ [(0, vp), (1, vu), (7, v1), (8, .int .i64 k), (9, .int .i64 d), (13, v2), (14, .int .i64 ((vecs ys).map fun x => (lead x : Int)).length), (15, .int .i64 k)] ∧ Chg b1 w2 w' ∧ OwnI te b1 w' v1 xs ∧ xs = r.v ∧
      (∀ H : El p → Prop, Pc.Sub H → (∀ y, y ∈ ys → H y) → H (x⁻¹ * r)) ∧ (∀ i (h : i < ys.length), i < k → co r (lead (ys[i]).v) = 0) ∧ (∀ t, (∀ y, y ∈ ys → t < lead y.v) → co r t = co x t) ∧ m = if co r d = 0 then 0 else (p.o d - co r d).toNat) (if co r d = 0 then 0 else (p.o d - co r d).toNat) ?_ ?_
    · refine ⟨r, xs3, ?_, hch3, ho3, hxs3, hm, hz, hlow, rfl⟩
      exact hasP
    clear ho3 hm hz hlow hch3
    rintro m ρ w4 ⟨r, xs4, hH4, hch4, ho4, hxs4, hm, hz, hlow, hme⟩
    refine rwp_has hH4 fun ρ1 => ?_
    have hrl : xs4.length = p.n := by rw [hxs4]; exact r.inr.len
    have hrr := co_rng r hdn
    have hco : xs4.getD d 0 = co r d := by rw [hxs4]; rfl
    refine go ?_
    refine c_if (fun h5 => ?_) (fun h5 => ?_)
    · have h5' : co r d ≠ 0 := by rw [← hco]; exact h5
      rw [if_neg h5'] at hme
      refine go ?_
      refine rc (timesVector_ok (p := p) 0 (x := r) (y := ys[k]) (Nat.zero_le _) hxs4 (vecs_getD ys hkn) (fun k hk => absurd hk (Nat.not_lt_zero _))) (next := fun v5 w5 h6 => ?_)
      obtain ⟨hch5, ho5⟩ := h6
      have hlo : ∀ t, t < d → co (r * ys[k]) t = co r t := fun t ht => co_low r hdn hyt ht
      have hat : co (r * ys[k]) d = (co r d + 1) % p.o d := by rw [co_at r hdn hyt, hy1]
      refine go ?_
      refine loopQ_normal ?_ ⟨r * ys[k], _, ?_, hch4.trans hch5, ho5, rfl, fun H hH hy => ?_, fun i h hi => ?_, fun t ht => ?_, rfl⟩
      · rw [hat, hme]
        by_cases h8 : co r d + 1 = p.o d
        · rw [if_pos (by rw [h8, Int.emod_self])]; omega
        · rw [Int.emod_eq_of_lt (by omega) (by omega), if_neg (by omega)]; omega
      · exact hasP
      · rw [← Grp.mul_assoc]
        exact hH.mul _ _ (hm H hH hy) (hy _ (List.getElem_mem hkn))
      · rw [hlo _ (hasc i h hi)]; exact hz i h hi
      · have h9 := ht _ (List.getElem_mem hkn)
        rw [hd] at h9
        rw [hlo t h9]; exact hlow t ht
    · have h5' : co r d = 0 := by rw [← hco]; exact Decidable.not_not.1 h5
      refine go ?_
      refine forQ_normal (by omega) ⟨r, xs4, ?_, hch4, ho4, hxs4, hm, fun i h hi => ?_, hlow⟩
      · exact hasP
      · by_cases e : i = k
        · subst e; rw [hd]; exact h5'
        · exact hz i h (by omega)
  · refine go ?_
    refine ret1 ⟨hch3.ext hE2 hb1, r, ?_, hm, fun y hy => ?_, hlow⟩
    · rw [← hxs3]; exact ho3.toFr hb1
    · obtain ⟨i, hi, rfl⟩ := List.getElem_of_mem hy
      exact hz i hi (by omega)
end Go.Proofs.Ytnphljflkpekmaa

/-
  Walks: the program's canonical sequence, and its subgroup generated by a list (canonical, generated).
  Conditions: the tails at all levels are groups.
-/
namespace Go.Proofs.Ytnphljflkpekmaa
open Go Go.Pc
theorem canElsF_ok {p : Pr} [hcon : ConAll p] (H : El p → Prop) (d : Nat) : SeqOk (canElsF H d) := by
  refine ⟨fun y hy => ?_, ?_⟩
  · obtain ⟨e, h1, h2, h3⟩ := canElsF_mem.1 hy
    have hc := canT_some h3
    have hl := lead_of hc.tl (by rw [hc.lead]; omega)
    rw [hl]
    exact ⟨h2, hc.lead⟩
  · unfold canElsF
    rw [List.pairwise_filterMap]
    refine List.Pairwise.imp ?_ (List.pairwise_lt_range' (s := d) (n := p.n - d))
    intro a b hab x hx y hy
    have ha := canT_some hx
    have hb := canT_some hy
    rw [lead_of ha.tl (by rw [ha.lead]; omega), lead_of hb.tl (by rw [hb.lead]; omega)]
    exact hab
theorem canElsF_lead {p : Pr} [hcon : ConAll p] {H : El p → Prop} {d : Nat} {y : El p} (hy : y ∈ canElsF H d) : d ≤ lead y.v := by
  obtain ⟨e, h1, h2, h3⟩ := canElsF_mem.1 hy
  have hc := canT_some h3
  rw [lead_of hc.tl (by rw [hc.lead]; omega)]
  exact h1
/-- The representative of an entry by the canonical elements behind it is canonical. -/
theorem rep_can {p : Pr} [hcon : ConAll p] {t : Tab p} (hf : Full t) {d : Nat} {y r : El p} (hy : t d = some y) (hcn : ∀ e, d + 1 ≤ e → t e ≠ none → canT (Gen (Ents t)) e ≠ none) (hr : RepOf (canElsF (Gen (Ents t)) (d + 1)) y r) : CanAt (Gen (Ents t)) d r := by
  have hH := Gen.sub (Ents t)
  have hyt := hf.ok.tl d y hy
  have hyl := hf.ok.lead d y hy
  have hym : Gen (Ents t) y := .of y ⟨d, hy⟩
  have hlow : ∀ k, k < d + 1 → co r k = co y k := fun k hk => hr.low k fun z hz => by have := canElsF_lead hz; omega
  refine ⟨?_, fun k hk => ?_, by rw [hlow d (by omega)]; exact hyl, fun e he hne => ?_⟩
  · have h1 := hr.mem (Gen (Ents t)) hH fun z hz => by
      obtain ⟨e, _, _, h3⟩ := canElsF_mem.1 hz
      exact (canT_some h3).mem
    have := hH.mul _ _ hym h1
    rwa [Grp.mul_inv_cancel_left] at this
  · show co r k = 0
    rw [hlow k (by omega)]; exact hyt k hk
  · by_cases h1 : e < d
    · rw [hlow e (by omega)]; exact hyt e h1
    · have hte := hf.dep.1 he
      cases hc : canT (Gen (Ents t)) e with
      | none => exact absurd hc (hcn e (by omega) hte)
      | some z =>
        have hza := canT_some hc
        have h2 := hr.zero z (canElsF_mem.2 ⟨e, by omega, hza.lt, hc⟩)
        rwa [lead_of hza.tl (by rw [hza.lead]; omega)] at h2
set_option maxHeartbeats 2000000 in
theorem canonicalO_ok {p : Pr} [hcon : ConAll p] {t : Tab p} (hf : Full t) {av : Nat → Prop} {base bs b0 : Nat} {w : World} {vp vb : Value} {lo hi : Nat} [hp : PresP lo hi w vp p] (hq : SeqAt bs b0 base av w vp vb t) :
    Calls Try.prog 88 #[.pointer (some ⟨bs, 0, none⟩)] w (Ret fun v w' => Ext w w' ∧ ∃ rs, Lst 22 w.heap.size (· < w.heap.size) w' v (rs.map (·.1)) (rs.map (·.2)) ∧ canon (Gen (Ents t)) = rs.map (·.2) ∧ RowsO w.heap.size w' rs) := by
  have hv := hcon.valid
  have hn6 := hv.n6
  have hH := Gen.sub (Ents t)
  have htl := tabL_len t
  obtain ⟨c0, c1, hbsn, hvb, usT, hT, hnil⟩ := hq
  have hTr := hT.toRows
  obtain ⟨g, og, vo, vpw, vc, ps, cs, css, rfl, hg1, hg2, hc0, hc1, hc2, h1, h2, h3⟩ := hp.ex
  refine enter (args := [.pointer (some ⟨bs, 0, none⟩)]) (l := [.tmp 2]) Try.func88 rfl rfl Try.ntmps88 (by simp) ?_
  refine go ?_
  refine r_for p.n (fun k ρ w' => ∃ vo rs, Has ρ [(0, .pointer (some ⟨bs, 0, none⟩)), (3, vo), (4, .int .i64 (p.n - 1 - k))] ∧ Ext w w' ∧ (Lst 22 w.heap.size (· < w.heap.size) w' vo (rs.map (·.1)) (vecs (canElsF (Gen (Ents t)) (p.n - k))) ∧ vecs (canElsF (Gen (Ents t)) (p.n - k)) = rs.map (·.2) ∧ RowsO w.heap.size w' rs) ∧ ∀ e, p.n - k ≤ e → t e ≠ none → canT (Gen (Ents t)) e ≠ none) ?_ ?_
  · refine ⟨nilv, [], ?_, Ext.refl _, ?_, fun e h1 h2 => ?_⟩
    · exact hasP
    · rw [Nat.sub_zero, canElsF_end]; exact ⟨Lst.nil _ _ _ (fun g hg => hg), rfl, RowsO.nil _ _⟩
    · have := (hf.dep.2 h2).lt; omega
  rintro k ρ w2 hk ⟨vo', rs, hH2, he2, ⟨hL, hrs, hO⟩, hcn⟩
  obtain ⟨us, hus⟩ : ∃ us, rs.map (·.1) = us := ⟨_, rfl⟩
  rw [hus] at hL
  refine rwp_has hH2 fun ρ0 => ?_
  refine go ?_
  refine c_if (fun h4 => ?_) (fun h4 => ?_)
  · have hkn : k < p.n := by omega
    obtain ⟨d, hd⟩ : ∃ d, p.n - 1 - k = d := ⟨_, rfl⟩
    have hdn : d < p.n := by omega
    have hd1 : p.n - k = d + 1 := by omega
    have hd2 : p.n - (k + 1) = d := by omega
    rw [hd1] at hL hcn hrs
    cases htd : t d with
    | none =>
      have hn2 : Pc.rowAt vb usT (p.n - 1 - k) = nilv := by rw [hd]; exact hnil d hdn htd
      have hnb : NilB (Pc.rowAt vb usT (p.n - 1 - k)) true := by rw [hn2]; infer_instance
      refine go ?_
      refine forQ_normal (by omega) ⟨vo', rs, ?_, he2, ?_, fun e h1 h2 => ?_⟩
      · exact hasP
      · rw [hd2, canElsF_none hdn (hf.canT_none htd), hus]; exact ⟨hL, hrs, hO⟩
      · by_cases ee : e = d
        · subst ee; exact absurd htd h2
        · exact hcn e (by omega) h2
    | some y =>
      have hye : (tabL t).getD (p.n - 1 - k) [] = y.v := by rw [hd, tabL_at t hdn, rowOf_some htd]
      have hnb : NilB (Pc.rowAt vb usT (p.n - 1 - k)) false := by
        have hrow : Ints 0 w.heap.size w (Pc.rowAt vb usT (p.n - 1 - k)) ((tabL t).getD (p.n - 1 - k) []) := by infer_instance
        exact hrow.nn (by rw [hye, y.inr.len]; omega)
      have hLr := hL.toRows
      have hll := canElsF_len (Gen (Ents t)) (d + 1)
      have hul := hL.len
      have hul2 : us.length = (canElsF (Gen (Ents t)) (d + 1)).length := by rw [hul]; simp
      refine go ?_
      refine d_region fun w3 he3 _ => ?_
      refine dgo ?_
      refine dce (representative_ok (p := p) (ys := canElsF (Gen (Ents t)) (d + 1)) (x := y) (canElsF_ok _ _) rfl hye ?_) (next := fun v4 w4 h5 => ?_)
      · omega
      obtain ⟨he4, r, hf4, hrep⟩ := h5
      refine dgo ?_
      refine d_end (h := ?_)
      have hcan := rep_can hf htd hcn hrep
      have hE3 := he2.trans he3
      have hE4 := hE3.trans he4
      have hz3 := hE3.size
      have hz4 := hE4.size
      refine go ?_
      refine st_slice1o (u := v4) (by ((try simp only [ev_tmp, ev_const, ev_func, get_put, get_args, get_putL, get_putL_nil, Nat.reduceEqDiff, reduceIte, List.getD_cons_zero, List.getD_cons_succ, List.getD_nil]); first | done | with_reducible rfl)) ?_ ?_ (by first | exact True.intro | exact ⟨_, rfl, by ((try simp only [ev_tmp, ev_const, ev_func, get_put, get_args, get_putL, get_putL_nil, Nat.reduceEqDiff, reduceIte, List.getD_cons_zero, List.getD_cons_succ, List.getD_nil, Bool.not_true, Bool.not_false]); first | done | with_reducible rfl)⟩) fun w5 v5 he5 hs5 ho5 => ?_
      · exact hf4.ints.sl.cells
      · rfl
      have hL4 := hL.ext (he3.trans he4)
      have hL5 := hL4.ext he5
      have hsl5 := hL5.own.toSl
      have hz5 := he5.size
      refine go ?_
      refine st_append (hv := ho5.toN) (hy := hsl5) (by ((try simp only [ev_tmp, ev_const, ev_func, get_put, get_args, get_putL, get_putL_nil, Nat.reduceEqDiff, reduceIte, List.getD_cons_zero, List.getD_cons_succ, List.getD_nil]); first | done | with_reducible rfl)) (by ((try simp only [ev_tmp, ev_const, ev_func, get_put, get_args, get_putL, get_putL_nil, Nat.reduceEqDiff, reduceIte, List.getD_cons_zero, List.getD_cons_succ, List.getD_nil]); first | done | with_reducible rfl)) rfl ?_ ?_ ?_ ?_ (by first | exact True.intro | exact ⟨_, rfl, by ((try simp only [ev_tmp, ev_const, ev_func, get_put, get_args, get_putL, get_putL_nil, Nat.reduceEqDiff, reduceIte, List.getD_cons_zero, List.getD_cons_succ, List.getD_nil, Bool.not_true, Bool.not_false]); first | done | with_reducible rfl)⟩) fun v6 w6 ho6 hg6 ha6 => ?_
      · intro a ha
        obtain ⟨i, hi, rfl⟩ := List.getElem_of_mem ha
        have := (hL5.rows.at_ i).ints.sl.one
        rwa [show us.getD i nilv = us[i] by simp [hi]] at this
      · simp; omega
      · simp [maxLen]; omega
      · omega
      have hob : v5.ownBlock = some w4.heap.size := ho5.toN_block
      rw [hob] at hg6 ha6
      have hru : IntsAp (· < w.heap.size) w4 v4 r.v := IntsAp.ofFr hf4 (fun g hg => by omega)
      have hrL : RowsAp (· < w.heap.size) w4 us (vecs (canElsF (Gen (Ents t)) (d + 1))) := hL4.rows.weak fun g hg => .inl (.inl hg)
      have hL6 := Lst.front (e := 22) (base := w.heap.size) hrL hru (fun g hg => by omega) he5 (Nat.le_refl _) hg6 (ho6.mono (by omega)) (fun g hg => by
        rcases ha6 with e | e
        · rw [e] at hg; injection hg with hg; omega
        · rw [e] at hg; injection hg with hg; omega)
      refine go ?_
      have hO4 := (hO.ext he3).cons he4 (by omega) hf4
      have hO6 := (hO4.ext he5).wr (.one (B := fun g => g = w4.heap.size) rfl ⟨hg6⟩) (fun g hg e => by have := (hO4.blk hg).2; omega)
      refine forQ_normal (by omega) ⟨v6, (v4, r.v) :: rs, ?_, (hE4.trans he5).app hg6 (fun k hk => by injection hk with hk; omega), ?_, fun e h1 h2 => ?_⟩
      · exact hasP
      · rw [hd2, canElsF_some hdn (canT_eq hH hcan)]
        refine ⟨by rw [List.map_cons, hus]; exact hL6, by simp only [vecs, List.map_cons] at hrs ⊢; rw [hrs], hO6⟩
      · by_cases ee : e = d
        · subst ee; rw [canT_eq hH hcan]; simp
        · exact hcn e (by omega) h2
  · obtain rfl : k = p.n := by omega
    refine go ?_
    rw [Nat.sub_self, canElsF_zero, ← canon_vecs] at hL hrs
    refine ret1 ⟨he2, rs, ?_, hrs, hO⟩
    rw [← hrs, hus]; exact hL
set_option maxHeartbeats 1000000 in
theorem generatedO_ok {p : Pr} [hcon : ConAll p] {w : World} {vp vl : Value} {us : List Value} {ys : List (El p)} {xss : List (List Int)} {lo hi lo1 hi1 : Nat} [hp : PresP lo hi w vp p] [hl : Pc.Rows lo1 hi1 w vl us xss] (hx : xss = vecs ys) (hn : ys.length ≤ 100000) :
    Calls Try.prog 53 #[vp, vl] w (Ret fun v w' => Ext w w' ∧ ∃ rs, Lst 22 w.heap.size (· < w.heap.size) w' v (rs.map (·.1)) (rs.map (·.2)) ∧ canon (Gen (fun a : El p => a ∈ ys)) = rs.map (·.2) ∧ RowsO w.heap.size w' rs) := by
  subst hx
  have hn6 := hcon.valid.n6
  replace hp := hp.wide
  replace hl := hl.wide
  refine enter (args := [vp, vl]) (l := [.tmp 4]) Try.func53 rfl rfl Try.ntmps53 (by simp) ?_
  refine go ?_
  refine rc (newSequence_ok (p := p) hn6) (next := fun v1 w1 h1 => ?_)
  obtain ⟨bs, vb, rfl, he1, hc0, hc1, hbs, hvb, ho⟩ := h1
  have hz1 := he1.size
  have hq : SeqAt bs w.heap.size w.heap.size (fun _ => False) w1 vp vb (fun _ => none : Tab p) := by
    refine ⟨hc0, hc1, by omega, hvb, List.replicate p.n nilv, ?_, fun d hd _ => ?_⟩
    · rw [tabL_none]
      exact Lst.ofNils ho (Nat.le_refl _) (fun h => h) (fun g h => h.elim)
    · rw [List.getD_eq_getElem?_getD, List.getElem?_replicate]; split <;> rfl
  have hap : Apart 0 w.heap.size w.heap.size := ⟨.inr (Nat.le_refl _)⟩
  have hr : RowsAp (fun g => g = w.heap.size) w1 us (vecs ys) := (hl.ap (Nat.le_refl _) (fun g hg => .inr (by omega))).ext he1
  have hsl : Sl 0 w.heap.size w1 vl us := inferInstance
  refine go ?_
  refine rc (add_ok (p := p) (S := fun _ => False) hz1 hq Wk.none hr hn) (next := fun v2 w2 h2 => ?_)
  obtain ⟨bg, t, rfl, hch2, hq2, hWk, _⟩ := h2
  have he2 : Ext w w2 := hch2.ext he1 (Nat.le_refl _)
  have hz2 := he2.size
  clear hch2 hsl
  refine go ?_
  refine rc (canonicalO_ok (p := p) (hWk.full (fun _ h => h)) hq2) (next := fun v3 w3 h3 => ?_)
  obtain ⟨he3, us3, hL3, hus3, hO3⟩ := h3
  refine go ?_
  rw [hWk.gen (fun _ h => h)] at hus3
  have e : (fun a : El p => False ∨ a ∈ ys) = fun a => a ∈ ys := by funext a; simp
  rw [e] at hus3
  exact ret1 ⟨he2.trans he3, us3, (hL3.mono hz2).weak (fun g hg => .inl (by omega)) (fun g hg h => by have := (hL3.lt hg).1; omega) (fun g hg => by have := he3.size; omega), hus3, hO3.mono hz2⟩
theorem generated_ok {p : Pr} [hcon : ConAll p] {w : World} {vp vl : Value} {us : List Value} {ys : List (El p)} {xss : List (List Int)} {lo hi lo1 hi1 : Nat} [hp : PresP lo hi w vp p] [hl : Pc.Rows lo1 hi1 w vl us xss] (hx : xss = vecs ys) (hn : ys.length ≤ 100000) :
    Calls Try.prog 53 #[vp, vl] w (Ret fun v w' => Ext w w' ∧ ∃ us', Lst 22 w.heap.size (· < w.heap.size) w' v us' (canon (Gen (fun a : El p => a ∈ ys)))) :=
  Pc.Calls.ret_mono (generatedO_ok hx hn) fun _ _ ⟨h1, rs, h2, h3, _⟩ => ⟨h1, rs.map (·.1), by rw [h3]; exact h2⟩
end Go.Proofs.Ytnphljflkpekmaa

/-
  Canonical sequences: every depth of a subgroup has its element; representatives are unique; the order.
  Conditions: the tails at all levels are groups; nothing of the program stands here.
-/
namespace Go.Proofs.Ytnphljflkpekmaa
open Go Go.Pc
section
variable {p : Pr} [hc : ConAll p] {H : El p → Prop} {d : Nat}
theorem dep_one (hH : Pc.Sub H) (h : Dep H d) : ∃ z, H z ∧ Tl d z ∧ co z d = 1 := by
  have hd := h.lt
  obtain ⟨x, h1, h2, h3⟩ := h
  have hr := co_rng x hd
  obtain ⟨k, _, _, hk⟩ := inv_ex (hc.valid.prime d hd) ⟨by omega, hr.2⟩
  exact ⟨Grp.pwz x k, hH.pwz h1 k, h2.pwz (by omega) k, by rw [co_pwz hd h2, Int.mul_comm]; exact hk⟩
theorem can_ex (hH : Pc.Sub H) (h : Dep H d) : ∃ x, CanAt H d x := by
  have key : ∀ m e, e ≤ p.n → p.n - e = m → d < e → (∃ x, CanTo H d e x) → ∃ x, CanTo H d p.n x := by
    intro m
    induction m with
    | zero =>
      intro e h1 h2 _ h4
      obtain rfl : e = p.n := by omega
      exact h4
    | succ m ih =>
      intro e h1 h2 h3 ⟨x, h4⟩
      refine ih (e + 1) (by omega) (by omega) (by omega) ?_
      by_cases hD : Dep H e
      · obtain ⟨z, hz, hzt, hz1⟩ := dep_one hH hD
        exact ⟨_, h4.step hH h3 hD.lt hz hzt hz1⟩
      · exact ⟨x, h4.skip (.inr hD)⟩
  have hd := h.lt
  obtain ⟨z, hz, hzt, hz1⟩ := dep_one hH h
  obtain ⟨x, hx⟩ := key (p.n - (d + 1)) (d + 1) (by omega) rfl (by omega) ⟨z, hz, hzt, hz1, fun k h1 h2 _ => by omega⟩
  exact ⟨x, hx.can⟩
theorem canT_ex (hH : Pc.Sub H) (h : Dep H d) : ∃ x, canT H d = some x := by
  obtain ⟨x, hx⟩ := can_ex hH h
  exact ⟨x, canT_eq hH hx⟩
/-- The elements of a canonical sequence. -/
structure SeqEl (ys : List (El p)) : Prop where
  can : canon (Gen (fun a : El p => a ∈ ys)) = vecs ys
theorem SeqEl.eq {ys : List (El p)} (h : SeqEl ys) : ys = canElsF (Gen (fun a : El p => a ∈ ys)) 0 := by
  have := vecs_inj (h.can.symm.trans (canon_vecs _))
  rw [canElsF_zero]; exact this
theorem SeqEl.ok {ys : List (El p)} (h : SeqEl ys) : SeqOk ys := by
  have := canElsF_ok (Gen (fun a : El p => a ∈ ys)) 0
  rwa [← h.eq] at this
theorem SeqEl.len {ys : List (El p)} (h : SeqEl ys) : ys.length ≤ p.n := by
  have := canElsF_len (Gen (fun a : El p => a ∈ ys)) 0
  rwa [← h.eq] at this
theorem SeqEl.dep {ys : List (El p)} (h : SeqEl ys) {d : Nat} (hd : Dep (Gen (fun a : El p => a ∈ ys)) d) : ∃ y, y ∈ ys ∧ lead y.v = d := by
  obtain ⟨x, hx⟩ := canT_ex (Gen.sub _) hd
  have hm := canElsF_mem.2 ⟨d, Nat.zero_le _, hd.lt, hx⟩
  rw [← h.eq] at hm
  have hca := canT_some hx
  exact ⟨x, hm, lead_of hca.tl (by rw [hca.lead]; omega)⟩
theorem isSeq_iff {xss : List (List Int)} : IsSeq p xss ↔ ∃ ys : List (El p), xss = vecs ys ∧ SeqEl ys :=
  ⟨fun ⟨ys, h1, h2⟩ => ⟨ys, h1, ⟨h2.trans h1⟩⟩, fun ⟨ys, h1, h2⟩ => ⟨ys, h1, h2.can.trans h1.symm⟩⟩
variable {ys : List (El p)} {x r s : El p}
theorem RepOf.gen (h : RepOf ys x r) : Gen (fun a : El p => a ∈ ys) (x⁻¹ * r) := h.mem _ (Gen.sub _) fun y hy => .of y hy
theorem RepOf.unique (hs : SeqEl ys) (h : RepOf ys x r) (k : RepOf ys x s) : r = s := by
  refine rep_unique (Gen.sub (fun a : El p => a ∈ ys)) ?_ fun d hd => ?_
  · have h1 := (Gen.sub (fun a : El p => a ∈ ys)).mul _ _ ((Gen.sub _).inv _ h.gen) k.gen
    rwa [Grp.mul_inv_rev, Grp.inv_inv, Grp.mul_assoc, Grp.mul_inv_cancel_left] at h1
  · obtain ⟨y, hy, rfl⟩ := hs.dep hd
    rw [h.zero y hy, k.zero y hy]
end
end Go.Proofs.Ytnphljflkpekmaa

/-
  Walks: the reference's test of subgroups (l12Is, IsSubgroup).
  Conditions: stated at each theorem.
-/
namespace Go.Proofs.Ytnphljflkpekmaa
open Go Go.Pc
/-- The presentation is a group, and the list is the canonical sequence of a subgroup of it. -/
def IsSubP (p : Pr) (xss : List (List Int)) : Prop := ∃ h : IsGrp p, @IsSeq p ⟨h.con⟩ xss
set_option maxHeartbeats 1000000 in
theorem l12Is_ok {p : Pr} [hc : ConAll p] {w : World} {vp vu : Value} {us : List Value} {xss : List (List Int)} {lo hi lo1 hi1 : Nat} [hp : Pres lo hi w vp p] [hu : Pc.Rows lo1 hi1 w vu us xss] :
    Calls Try.prog 45 #[vp, vu] w (Ret fun v w' => ∃ b, v = .bool b ∧ (b = true ↔ IsSeq p xss) ∧ Ext w w') := by
  have hv := hc.valid
  have hn6 := hv.n6
  have hol : p.ord.length = p.n := rfl
  obtain ⟨vo, vpw, vc, ps, cs, css, rfl, h1, h2, h3⟩ := hp.ex
  refine enter (args := [.agg #[vo, vpw, vc], vu]) (l := [.tmp 4]) Try.func45 rfl rfl Try.ntmps45 (by simp) ?_
  refine go ?_
  refine st_box3 (by ((try simp only [ev_tmp, ev_const, ev_func, get_put, get_args, get_putL, get_putL_nil, Nat.reduceEqDiff, reduceIte, List.getD_cons_zero, List.getD_cons_succ, List.getD_nil]); first | done | with_reducible rfl)) (by first | exact True.intro | exact ⟨_, rfl, by ((try simp only [ev_tmp, ev_const, ev_func, get_put, get_args, get_putL, get_putL_nil, Nat.reduceEqDiff, reduceIte, List.getD_cons_zero, List.getD_cons_succ, List.getD_nil, Bool.not_true, Bool.not_false]); first | done | with_reducible rfl)⟩) fun w1 b he1 hb1 hs1 hc0 hc1 hc2 => ?_
  refine go ?_
  refine spd (fun h4 => ?_) (fun h4 => ?_)
  · refine go ?_
    refine rc (l10Elements_ok hv (xss := xss) ?_) (next := fun v5 w5 h5 => ?_)
    · omega
    obtain ⟨b5, rfl, hb5, he5⟩ := h5
    refine go ?_
    refine sp (fun e5 => ?_) (fun e5 => ?_)
    · obtain ⟨ys, hys⟩ := els_of (hb5.1 e5)
      have hyl : xss.length = ys.length := by rw [hys]; simp
      refine go ?_
      refine rc (l12Close_ok (ys := ys) hys ?_) (next := fun v6 w6 h6 => ?_)
      · omega
      obtain ⟨he6, us6, hL6⟩ := h6
      have hr6 := hL6.toRows
      have hcl := canTo_len (Gen (fun a : El p => a ∈ ys)) p.n
      rw [canTo_end] at hcl
      refine go ?_
      refine rc (l01Same2_ok (xss := canon (Gen (fun a : El p => a ∈ ys))) (yss := xss) ?_ ?_) (next := fun v7 w7 h7 => ?_)
      · intro i
        have := canon_row (Gen (fun a : El p => a ∈ ys)) i
        omega
      · omega
      obtain ⟨b7, rfl, hb7, he7⟩ := h7
      refine go ?_
      refine ret1 ⟨_, rfl, hb7.trans ⟨fun h => ⟨ys, hys, h⟩, ?_⟩, ((he1.trans he5).trans he6).trans he7⟩
      rintro ⟨zs, hzs, h⟩
      obtain rfl : ys = zs := vecs_inj (hys.symm.trans hzs)
      exact h
    · refine go ?_
      refine ret1 ⟨_, rfl, ?_, he1.trans he5⟩
      simp only [Bool.false_eq_true, false_iff]
      rintro ⟨ys, hys, _⟩
      have := hb5.2 (by rw [hys]; exact fun i hi => vecs_in hi)
      rw [e5] at this; cases this
  · refine go ?_
    refine ret1 ⟨_, rfl, ?_, he1⟩
    simp only [Bool.false_eq_true, false_iff]
    intro h
    have := h.len
    omega
set_option maxHeartbeats 1000000 in
theorem spec_IsSubgroup_ok {p : Pr} {w : World} {vp vu : Value} {us : List Value} {xss : List (List Int)} {lo hi lo1 hi1 : Nat} [hp : Pres lo hi w vp p] [hu : Pc.Rows lo1 hi1 w vu us xss] (hl : p.ord.length ≤ 2000000) :
    Calls Try.prog 23 #[vp, vu] w (Ret fun v w' => ∃ b, v = .bool b ∧ (b = true ↔ IsSubP p xss) ∧ Ext w w') := by
  obtain ⟨vo, vpw, vc, ps, cs, css, rfl, h1, h2, h3⟩ := hp.ex
  refine enter (args := [.agg #[vo, vpw, vc], vu]) (l := [.tmp 4]) Try.func23 rfl rfl Try.ntmps23 (by simp) ?_
  refine go ?_
  refine st_box3 (by ((try simp only [ev_tmp, ev_const, ev_func, get_put, get_args, get_putL, get_putL_nil, Nat.reduceEqDiff, reduceIte, List.getD_cons_zero, List.getD_cons_succ, List.getD_nil]); first | done | with_reducible rfl)) (by first | exact True.intro | exact ⟨_, rfl, by ((try simp only [ev_tmp, ev_const, ev_func, get_put, get_args, get_putL, get_putL_nil, Nat.reduceEqDiff, reduceIte, List.getD_cons_zero, List.getD_cons_succ, List.getD_nil, Bool.not_true, Bool.not_false]); first | done | with_reducible rfl)⟩) fun w1 b he1 hb1 hs1 hc0 hc1 hc2 => ?_
  refine go ?_
  refine rc (l08Group_ok hl) (next := fun v5 w5 h5 => ?_)
  obtain ⟨b5, rfl, hb5, he5⟩ := h5
  refine go ?_
  refine sp (fun e5 => ?_) (fun e5 => ?_)
  · have hG := hb5.1 e5
    haveI : ConAll p := ⟨hG.con⟩
    refine go ?_
    refine rc (l12Is_ok (xss := xss)) (next := fun v6 w6 h6 => ?_)
    obtain ⟨b6, rfl, hb6, he6⟩ := h6
    refine go ?_
    exact ret1 ⟨_, rfl, hb6.trans ⟨fun h => ⟨hG, h⟩, fun ⟨_, h⟩ => h⟩, (he1.trans he5).trans he6⟩
  · refine go ?_
    refine ret1 ⟨_, rfl, ?_, he1.trans he5⟩
    simp only [Bool.false_eq_true, false_iff]
    rintro ⟨h, _⟩
    have := hb5.2 h
    rw [e5] at this; cases this
end Go.Proofs.Ytnphljflkpekmaa

/-
  Answers that the program and the reference give: what they have to be, and that they are the same.
  Conditions: none.
-/
namespace Go.Proofs.Ytnphljflkpekmaa
open Go Go.Pc
/-- An answer with a code: under A the pair meets V, else it is z with the code 1. -/
def Ans {α : Type} (A : Prop) (V : α → Int → Prop) (z k : α) (e : Int) : Prop := (A ∧ V k e) ∨ (¬ A ∧ k = z ∧ e = 1)
theorem Ans.same {α : Type} {A : Prop} {V : α → Int → Prop} {z k k' : α} {e e' : Int} (h : Ans A V z k e) (h' : Ans A V z k' e') (hu : A → ∀ a b c d, V a c → V b d → a = b ∧ c = d) : k = k' ∧ e = e' := by
  rcases h with ⟨h1, h2⟩ | ⟨h1, h2, h3⟩ <;> rcases h' with ⟨k1, k2⟩ | ⟨k1, k2, k3⟩
  · exact hu h1 _ _ _ _ h2 k2
  · exact absurd h1 k1
  · exact absurd k1 h1
  · exact ⟨by rw [h2, k2], by rw [h3, k3]⟩
theorem bool_eq {b c : Bool} {P : Prop} (h : b = true ↔ P) (k : c = true ↔ P) : b = c := by
  have e : b = true ↔ c = true := h.trans k.symm
  cases b <;> cases c <;> simp_all
theorem el_one_iff {p : Pr} [hc : ConAll p] (r : El p) : r = 1 ↔ ∀ i, i < r.v.length → r.v.getD i 0 = 0 := by
  have hl := r.inr.len
  constructor
  · rintro rfl i _; exact co_one i
  · intro h; exact el_ext fun d hd => by rw [co_one]; exact h d (by omega)
/-- The list is an element of the subgroup that the sequence tells. -/
def MemP (p : Pr) (xss : List (List Int)) (xs : List Int) : Prop := ∃ (_ : ConAll p) (ys : List (El p)) (x : El p), xss = vecs ys ∧ xs = x.v ∧ Gen (fun a : El p => a ∈ ys) x
def MemV (p : Pr) (xss : List (List Int)) (xs : List Int) (b : Bool) (e : Int) : Prop := (b = true ↔ MemP p xss xs) ∧ e = 0
theorem MemV.uniq {p : Pr} {xss : List (List Int)} {xs : List Int} (a b : Bool) (c d : Int) (h : MemV p xss xs a c) (k : MemV p xss xs b d) : a = b ∧ c = d := ⟨bool_eq h.1 k.1, by rw [h.2, k.2]⟩
def SubV (p : Pr) (xss yss : List (List Int)) (b : Bool) (e : Int) : Prop := (b = true ↔ ∀ x, x ∈ xss → MemP p yss x) ∧ e = 0
theorem SubV.uniq {p : Pr} {xss yss : List (List Int)} (a b : Bool) (c d : Int) (h : SubV p xss yss a c) (k : SubV p xss yss b d) : a = b ∧ c = d := ⟨bool_eq h.1 k.1, by rw [h.2, k.2]⟩
end Go.Proofs.Ytnphljflkpekmaa

/-
  Answers that are lists: representatives, subgroups.
  Conditions: none.
-/
namespace Go.Proofs.Ytnphljflkpekmaa
open Go Go.Pc
def RepV (p : Pr) (xss : List (List Int)) (xs r : List Int) (e : Int) : Prop := (∃ (_ : ConAll p) (ys : List (El p)) (x y : El p), xss = vecs ys ∧ xs = x.v ∧ r = y.v ∧ RepOf ys x y) ∧ e = 0
theorem RepV.uniq {p : Pr} {xss : List (List Int)} {xs : List Int} (hS : IsSubP p xss) (a b : List Int) (c d : Int) (h : RepV p xss xs a c) (k : RepV p xss xs b d) : a = b ∧ c = d := by
  obtain ⟨⟨hc, ys, x, y, h1, h2, h3, h4⟩, h5⟩ := h
  obtain ⟨⟨hc', ys', x', y', k1, k2, k3, k4⟩, k5⟩ := k
  obtain ⟨hG, hq⟩ := hS
  haveI : ConAll p := ⟨hG.con⟩
  obtain ⟨zs, hzs, hse⟩ := isSeq_iff.1 hq
  obtain rfl : ys = zs := vecs_inj (h1.symm.trans hzs)
  obtain rfl : ys' = ys := vecs_inj (k1.symm.trans hzs)
  obtain rfl : x = x' := T.ext (h2.symm.trans k2)
  exact ⟨by rw [h3, k3, RepOf.unique hse h4 k4], by rw [h5, k5]⟩
end Go.Proofs.Ytnphljflkpekmaa

/-
  Canonical sequences of subgroups: they generate the subgroup, their lengths tell the subgroups apart; closures under conjugation.
  Conditions: the tails at all levels are groups.
-/
namespace Go.Proofs.Ytnphljflkpekmaa
open Go Go.Pc Grp
section
variable {p : Pr} [hc : ConAll p] {H K : El p → Prop} {d : Nat}
theorem sub_le_of_dep (hH : Pc.Sub H) (hK : Pc.Sub K) (hle : ∀ a, H a → K a) (hd : ∀ d, Dep K d → Dep H d) : ∀ a, K a → H a := by
  have key : ∀ m d, d ≤ p.n → p.n - d = m → ∀ x, K x → Tl d x → H x := by
    intro m
    induction m with
    | zero =>
      intro d h1 h2 x hx ht
      obtain rfl : d = p.n := by omega
      rw [ht.end_]; exact hH.one
    | succ m ih =>
      intro d h1 h2 x hx ht
      by_cases h0 : co x d = 0
      · exact ih (d + 1) (by omega) (by omega) x hx (ht.succ h0)
      · have hdn : d < p.n := by omega
        obtain ⟨z, hz, hzt, hz1⟩ := dep_one hH (hd d ⟨x, hx, ht, h0⟩)
        have h3 := ih (d + 1) (by omega) (by omega) (x * Grp.pwz z (-(co x d))) (hK.mul _ _ hx (hK.pwz (hle z hz) _)) (strip_step hdn ht hzt hz1)
        exact (hH.right (hH.pwz hz _)).1 h3
  exact fun a ha => key p.n 0 (Nat.zero_le _) (by omega) a ha (Tl.zero a)
theorem SeqEl.els {ys : List (El p)} (h : SeqEl ys) : canEls (Gen (fun a : El p => a ∈ ys)) = ys := by
  have := h.eq
  rw [canElsF_zero] at this
  exact this.symm
theorem canT_isSome (hH : Pc.Sub H) : (canT H d).isSome = true ↔ Dep H d := by
  constructor
  · intro h
    cases e : canT H d with
    | none => rw [e] at h; cases h
    | some x => exact (canT_some e).dep
  · intro h
    obtain ⟨x, hx⟩ := canT_ex hH h
    rw [hx]; rfl
theorem canEls_len : (canEls H).length = (List.range p.n).countP fun d => (canT H d).isSome := by
  unfold canEls
  rw [List.length_filterMap_eq_countP]
theorem countP_le_of {α : Type} {f g : α → Bool} : ∀ l : List α, (∀ x, x ∈ l → f x = true → g x = true) → l.countP f ≤ l.countP g
  | [], _ => Nat.le_refl _
  | x :: l, h => by
    have ih := countP_le_of l fun y hy => h y (List.mem_cons_of_mem _ hy)
    have h0 := h x List.mem_cons_self
    simp only [List.countP_cons]
    by_cases hf : f x = true
    · rw [if_pos hf, if_pos (h0 hf)]; omega
    · rw [if_neg hf]; omega
theorem countP_lt_of {α : Type} {f g : α → Bool} : ∀ l : List α, (∀ x, x ∈ l → f x = true → g x = true) → (∃ x, x ∈ l ∧ g x = true ∧ f x = false) → l.countP f < l.countP g
  | [], _, ⟨x, hx, _⟩ => by cases hx
  | x :: l, h, ⟨y, hy, hg, hf⟩ => by
    have hr : ∀ y, y ∈ l → f y = true → g y = true := fun y hy => h y (List.mem_cons_of_mem _ hy)
    have h0 := h x List.mem_cons_self
    simp only [List.countP_cons]
    rcases List.mem_cons.1 hy with rfl | hy
    · have := countP_le_of l hr
      rw [hg, hf]; simp; omega
    · have ih := countP_lt_of l hr ⟨y, hy, hg, hf⟩
      by_cases hfx : f x = true
      · rw [if_pos hfx, if_pos (h0 hfx)]; omega
      · rw [if_neg hfx]; omega
theorem can_len_le (hH : Pc.Sub H) (hK : Pc.Sub K) (hle : ∀ a, H a → K a) : (canEls H).length ≤ (canEls K).length := by
  rw [canEls_len, canEls_len]
  refine countP_le_of _ fun d _ h => ?_
  obtain ⟨x, h1, h2, h3⟩ := (canT_isSome hH).1 h
  exact (canT_isSome hK).2 ⟨x, hle x h1, h2, h3⟩
theorem same_of_len (hH : Pc.Sub H) (hK : Pc.Sub K) (hle : ∀ a, H a → K a) (hl : (canEls K).length ≤ (canEls H).length) : ∀ a, K a → H a := by
  refine sub_le_of_dep hH hK hle fun d hd => ?_
  by_cases hn : Dep H d
  · exact hn
  exfalso
  rw [canEls_len, canEls_len] at hl
  have := countP_lt_of (f := fun d => (canT H d).isSome) (g := fun d => (canT K d).isSome) (List.range p.n) (fun e _ h => by
    obtain ⟨x, h1, h2, h3⟩ := (canT_isSome hH).1 h
    exact (canT_isSome hK).2 ⟨x, hle x h1, h2, h3⟩) ⟨d, List.mem_range.2 hd.lt, (canT_isSome hK).2 hd, by
      cases e : (canT H d).isSome with
      | false => rfl
      | true => exact absurd ((canT_isSome hH).1 e) hn⟩
  omega
/-- The smallest subgroup that contains S and is closed under conjugation by the elements of B. -/
inductive Clo {G : Type} [Grp G] (S B : G → Prop) : G → Prop
  | of (a : G) : S a → Clo S B a
  | one : Clo S B 1
  | mul (a b : G) : Clo S B a → Clo S B b → Clo S B (a * b)
  | inv (a : G) : Clo S B a → Clo S B a⁻¹
  | cj (a b : G) : Clo S B a → B b → Clo S B (Grp.cj a b)
theorem Clo.sub {G : Type} [Grp G] (S B : G → Prop) : Pc.Sub (Clo S B) := ⟨.one, fun _ _ => .mul _ _, fun _ => .inv _⟩
theorem Clo.le {G : Type} [Grp G] {S B K : G → Prop} (hK : Pc.Sub K) (h : ∀ a, S a → K a) (hcj : ∀ a b, K a → B b → K (Grp.cj a b)) : ∀ a, Clo S B a → K a := by
  intro a ha
  induction ha with
  | of a ha => exact h a ha
  | one => exact hK.one
  | mul a b _ _ i1 i2 => exact hK.mul _ _ i1 i2
  | inv a _ i1 => exact hK.inv _ i1
  | cj a b _ hb i1 => exact hcj _ _ i1 hb
/-- The commutators of two lists. -/
noncomputable def commsL2 (ys zs : List (El p)) : List (El p) := ys.flatMap fun y => zs.map (Grp.cm y)
noncomputable def CommC (ys zs : List (El p)) : El p → Prop := Clo (fun a : El p => a ∈ commsL2 ys zs) (fun a : El p => a ∈ ys ++ zs)
end
end Go.Proofs.Ytnphljflkpekmaa

/-
  Walks: the reference's depth, order, table, reduction, representative and membership (l02Lead, l12Depth, l12Order).
  Conditions: stated at each theorem.
-/
namespace Go.Proofs.Ytnphljflkpekmaa
open Go Go.Pc
set_option maxHeartbeats 400000 in
theorem l02Lead_ok {w : World} {v : Value} {xs : List Int} {lo hi : Nat} [hx : Ints lo hi w v xs] (hl : xs.length ≤ 2000000) :
    Calls Try.prog 113 #[v] w (Ret fun v w' => v = .int .i64 (lead xs) ∧ Ext w w') := by
  refine enter (args := [v]) (l := [.tmp 2]) Try.func113 rfl rfl Try.ntmps113 (by simp) ?_
  refine go ?_
  refine r_for xs.length (fun k ρ w' => Has ρ [(0, v), (3, .int .i64 k)] ∧ Ext w w' ∧ ∀ i, i < k → xs.getD i 0 = 0) ?_ ?_
  · refine ⟨?_, Ext.refl _, fun i hi => by omega⟩
    exact hasP
  rintro k ρ w2 hk ⟨hH, he2, hI⟩
  refine rwp_has hH fun ρ0 => ?_
  refine go ?_
  refine c_if (fun h4 => ?_) (fun h4 => ?_)
  · refine go ?_
    refine c_if (fun h5 => ?_) (fun h5 => ?_)
    · refine go ?_
      exact ret1 ⟨by rw [lead_eq hI h5], he2⟩
    · refine go ?_
      refine forQ_normal (by omega) ⟨?_, he2, fun i hi => ?_⟩
      · exact hasP
      · by_cases e : i = k
        · subst e; exact Decidable.not_not.1 h5
        · exact hI i (by omega)
  · refine go ?_
    exact ret1 ⟨by rw [lead_len fun i hi => hI i (by omega)], he2⟩
theorem l12Depth_ok {w : World} {v : Value} {xs : List Int} {lo hi : Nat} [hx : Ints lo hi w v xs] (hl : xs.length ≤ 2000000) :
    Calls Try.prog 77 #[v] w (Ret fun v w' => v = .int .i64 (lead xs) ∧ Ext w w') := by
  refine enter (args := [v]) (l := [.tmp 2]) Try.func77 rfl rfl Try.ntmps77 (by simp) ?_
  refine go ?_
  refine rc (l02Lead_ok (xs := xs) hl) (next := fun v1 w1 h1 => ?_)
  obtain ⟨rfl, he1⟩ := h1
  refine go ?_
  exact ret1 ⟨rfl, he1⟩
/-- The order of a list that is a sequence. -/
def ordOfL (p : Pr) (xss : List (List Int)) : Int := xss.foldl (fun a x => a * p.o (lead x)) 1
/-- The answer of SubgroupOrder. -/
def OrdAns (p : Pr) (xss : List (List Int)) (k e : Int) : Prop := (IsSubP p xss ∧ k = ordOfL p xss ∧ e = 0) ∨ (¬ IsSubP p xss ∧ k = 0 ∧ e = 1)
theorem OrdAns.same {p : Pr} {xss : List (List Int)} {k e k' e' : Int} (h : OrdAns p xss k e) (h' : OrdAns p xss k' e') : k' = k ∧ e' = e := by
  rcases h with ⟨h1, h2, h3⟩ | ⟨h1, h2, h3⟩ <;> rcases h' with ⟨k1, k2, k3⟩ | ⟨k1, k2, k3⟩
  · exact ⟨by rw [h2, k2], by rw [h3, k3]⟩
  · exact absurd h1 k1
  · exact absurd k1 h1
  · exact ⟨by rw [h2, k2], by rw [h3, k3]⟩
end Go.Proofs.Ytnphljflkpekmaa

/-
  More rules: a slice value stored in a drawn region; a slice of two values.
  Conditions: none; nothing of the program stands here.
-/
namespace Go.Pc
open Go Go.RowKit
section
variable {P : Program} {N : Nat} {ops : Array Oper} {π : List Nat} {K : Env → World → Prop} {ρ : Env} {w w0 : World} {l : List Oper}
variable {i : Nat} {ty : TypeId} {pos : String} {after : Array Edge} {g : Option (Nat × Bool)} {d : Nat}
end
end Go.Pc

/-
  Lists that grow by one row, or by one number, at a time: 'out = append(out, x)'.
  Conditions: none; nothing of the program stands here.
-/
namespace Go.Pc
open Go Go.RowKit
/-- What one append has done. -/
structure GStep (w w' : World) (v v' : Value) : Prop where
  ex : ∃ w2, Ext w w2 ∧ w2.grownBy w' v.ownBlock ∧ (v'.ownBlock = v.ownBlock ∨ v'.ownBlock = some w2.heap.size)
theorem IntsAp.gstep {w w' : World} {v v' u : Value} {xs : List Int} (h : IntsAp (fun g => v.ownBlock = some g) w u xs) (k : GStep w w' v v') : IntsAp (fun g => v'.ownBlock = some g) w' u xs := by
  obtain ⟨w2, x, hg, hv⟩ := k.ex
  exact (h.ext x).beside hg (fun g e => e) fun g hg' => by
    rcases hv with e | e
    · rw [e] at hg'; exact .inl hg'
    · rw [e] at hg'; injection hg' with hg'; exact .inr hg'.symm
structure GrowL (e s : Nat) (w : World) (v : Value) (rs : List (Value × List Int)) : Prop where
  lst : Lst e s (· < s) w v (rs.map (·.1)) (rs.map (·.2))
  own : RowsO s w rs
class GrowI (e s : outParam Nat) (w : World) (v : Value) (xs : outParam (List Int)) : Prop where
  own : OwnN e s w v (xs.map (Value.int .i64))
section
variable {av : Nat → Prop} {e s : Nat} {w w' w0 w1 w2 w3 : World} {v v' u : Value} {xs : List Int} {rs : List (Value × List Int)}
theorem Lst.off (h : Lst e s av w v (rs.map (·.1)) (rs.map (·.2))) (hO : RowsO s w rs) {b : Nat} (hb : BlkOf rs b) : v.ownBlock ≠ some b := by
  intro hv
  obtain ⟨r, hr1, hn, eb⟩ := hb
  obtain ⟨i, hi, rfl⟩ := List.getElem_of_mem hr1
  obtain ⟨te, g, _, ho⟩ := (hO.fr _ hr1).own hn
  have hg := ho.block
  rw [eb] at hg; injection hg with hg; subst hg
  obtain ⟨lo, hi', h1, h2, h3⟩ := h.rows.at_ i
  have e1 : (rs.map (·.1)).getD i nilv = rs[i].1 := by simp [hi]
  have e2 : (rs.map (·.2)).getD i [] = rs[i].2 := by simp [hi]
  rw [e1, e2] at h1
  have h4 := ho.sl_in hn h1
  have h5 := h3 b (.inr hv)
  omega
theorem Wrt.grown {ob : Option Nat} (h : w.grownBy w' ob) : Wrt (fun b => ob = some b) w w' := by
  cases ob with
  | none =>
    exact .ofExt ⟨(Below.refl _ _).grown h (Nat.le_refl _) (fun k hk => by cases hk)⟩
  | some b => exact .one rfl ⟨h⟩
theorem GrowL.nil (e s : Nat) (w : World) (hs : s ≤ w.heap.size) : GrowL e s w nilv [] := ⟨Lst.nil _ _ _ (fun g hg => by omega), RowsO.nil _ _⟩
theorem GrowL.start {b : Nat} (h : Own e b w v []) (hb : s ≤ b) : GrowL e s w v [] := ⟨Lst.start h hb (by omega) (fun g hg => by have := h.lt; omega), RowsO.nil _ _⟩
theorem GrowL.ext (h : GrowL e s w v rs) (x : Ext w w') : GrowL e s w' v rs := ⟨h.lst.ext x, h.own.ext x⟩
theorem GrowL.rows (h : GrowL e s w v rs) : Rows s w.heap.size w v (rs.map (·.1)) (rs.map (·.2)) := h.lst.newRows
theorem GrowL.push (h : GrowL e s w0 v rs) (x01 : Ext w0 w1) (hu : Fr w0.heap.size w1 u xs) (hs : s ≤ w0.heap.size) (x12 : Ext w1 w2)
    (ho : OwnN e s w3 v' (rs.map (·.1) ++ [u])) (hg : w2.grownBy w3 v.ownBlock) (hv : v'.ownBlock = v.ownBlock ∨ v'.ownBlock = some w2.heap.size) : GrowL e s w3 v' (rs ++ [(u, xs)]) := by
  have h1 := (h.lst.ext (x01.trans x12)).push (IntsAp.ofFr (hu.ext' x12) (fun g hg => by
    rcases hg with hg | hg
    · omega
    · exact (h.lst.lt hg).2)) ho hg hv
  have h2 := (h.own.push x01 hs hu).ext x12
  refine ⟨by simpa using h1, h2.wr (Wrt.grown hg) fun b hb hB => ?_⟩
  rcases blkOf_append'.1 hb with hb | ⟨r, hr, hn, eb⟩
  · exact h.lst.off h.own hb hB
  · obtain rfl := List.mem_singleton.1 hr
    obtain ⟨g, e1, e2, _⟩ := hu.block hn
    rw [eb] at e1; injection e1 with e1
    have := (h.lst.lt hB).2
    omega
theorem GrowI.nil (e s : Nat) (w : World) : GrowI e s w nilv [] := ⟨OwnN.nil _ _ _⟩
theorem GrowI.start {b : Nat} (h : Own e b w v []) (hb : s ≤ b) : GrowI e s w v [] := ⟨h.toN.mono hb⟩
instance (priority := low) GrowI.ext [x : Ext w w'] [h : GrowI e s w v xs] : GrowI e s w' v xs := ⟨@OwnN.ext _ _ _ _ _ _ x h.own⟩
theorem GrowI.fr (h : GrowI e s w v xs) : Fr s w v xs := h.own.toFr
end
section
variable {P : Program} {N : Nat} {ops : Array Oper} {π : List Nat} {K : Env → World → Prop} {ρ : Env} {w w0 w1 w00 : World} {l : List Oper}
variable {i : Nat} {ty ty2 : TypeId} {pos pos2 : String} {after after2 : Array Edge} {g g2 : Option (Nat × Bool)} {d d2 : Nat}
theorem st_grow {s x : Operand} {t e bytes sb : Nat} {z v u : Value} {xs : List Int} {rs : List (Value × List Int)} [ht : SlT P t e] [he : ElT P e 1 bytes z] (hG : GrowL e sb w0 v rs) (x01 : Ext w0 w1) (hu : Fr w0.heap.size w1 u xs) (hs0 : sb ≤ w0.heap.size)
    (hn : rs.length ≤ 1000000) (next : ∀ v1 v' w', GrowL e sb w' v' (rs ++ [(u, xs)]) → (∀ wb, Ext wb w1 → wb.heap.size ≤ sb → Ext wb w') → w1.heap.size ≤ w'.heap.size → GStep w1 w' v v' → rops P N ops K l (put (put ρ d v1) d2 v') w')
    (hx : ev ρ x = u := by ((try simp only [ev_tmp, ev_const, ev_func, get_put, get_args, get_putL, get_putL_nil, Nat.reduceEqDiff, reduceIte, List.getD_cons_zero, List.getD_cons_succ, List.getD_nil]); first | done | with_reducible rfl)) (hs : ∀ v1, ev (put ρ d v1) s = v := by intro v1; ((try simp only [ev_tmp, ev_const, ev_func, get_put, get_args, get_putL, get_putL_nil, Nat.reduceEqDiff, reduceIte, List.getD_cons_zero, List.getD_cons_succ, List.getD_nil]); first | done | with_reducible rfl)) (hd : ∀ v1, ev (put ρ d v1) (.tmp d) = v1 := by intro v1; ((try simp only [ev_tmp, ev_const, ev_func, get_put, get_args, get_putL, get_putL_nil, Nat.reduceEqDiff, reduceIte, List.getD_cons_zero, List.getD_cons_succ, List.getD_nil]); first | done | with_reducible rfl)) (hz : z.cells = #[z] := by rfl) (hby : bytes ≤ 100 := by decide) (hg1 : Wants ops ρ g := by first | exact True.intro | exact ⟨_, rfl, by ((try simp only [ev_tmp, ev_const, ev_func, get_put, get_args, get_putL, get_putL_nil, Nat.reduceEqDiff, reduceIte, List.getD_cons_zero, List.getD_cons_succ, List.getD_nil, Bool.not_true, Bool.not_false]); first | done | with_reducible rfl)⟩) (hg2 : ∀ v1, Wants ops (put ρ d v1) g2 := by intro v1; first | exact True.intro | exact ⟨_, rfl, by ((try simp only [ev_tmp, ev_const, ev_func, get_put, get_args, get_putL, get_putL_nil, Nat.reduceEqDiff, reduceIte, List.getD_cons_zero, List.getD_cons_succ, List.getD_nil, Bool.not_true, Bool.not_false]); first | done | with_reducible rfl)⟩) :
    rops P N ops K (⟨some d, .buildSlice t 1 #[(0, x)], ty, pos, after, g⟩ :: ⟨some d2, .call { callee := .builtin .append, args := #[s, .tmp d], argTypes := #[t, t] }, ty2, pos2, after2, g2⟩ :: l) ρ w1 := by
  refine st_slice1 (u := u) hx hu.ints.sl.cells hz hg1 fun w2 v2 he2 hs2 ho2 => ?_
  have hO := (hG.lst.ext (x01.trans he2)).own
  have hz1 := x01.size
  have hz2 := he2.size
  have hb : (rs.length + 1) * bytes ≤ 1000001 * 100 := Nat.mul_le_mul (by omega) hby
  refine st_append (hv := hO) (hy := ho2) (hs v2) (hd v2) (by rw [hz]; rfl) ?_ ?_ ?_ ?_ (hg2 v2) fun v3 w3 ho3 hg3 ha3 => ?_
  · intro a ha
    rw [List.mem_singleton.1 ha]; exact hu.ints.sl.one
  · simp only [List.length_map, List.length_singleton]; omega
  · simp only [List.length_map, List.length_singleton, maxLen]; omega
  · omega
  · exact next v2 v3 w3 (hG.push x01 hu hs0 he2 ho3 hg3 ha3) (fun wb hb1 hb2 => (hb1.trans he2).app hg3 (fun k hk => by have := (hG.lst.lt hk).1; omega)) (Nat.le_trans hz2 hg3.size) ⟨w2, he2, hg3, ha3⟩
theorem z_grow {s x : Operand} {b t e bytes sb : Nat} {z v u : Value} {xs : List Int} {rs : List (Value × List Int)} [ht : SlT P t e] [he : ElT P e 1 bytes z] (hG : GrowL e sb w0 v rs) (x01 : Ext w0 w1) (hu : Fr w0.heap.size w1 u xs) (hs0 : sb ≤ w0.heap.size)
    (hn : rs.length ≤ 1000000) (hvb : ∀ g, v.ownBlock = some g → g = b) (hi1 : opAt ops π i = some ⟨some d, .buildSlice t 1 #[(0, x)], ty, pos, after, g⟩ := by exact rfl) (hi2 : opAt ops π (i + 1) = some ⟨some d2, .call { callee := .builtin .append, args := #[s, .tmp d], argTypes := #[t, t] }, ty2, pos2, after2, g2⟩ := by exact rfl)
    (next : ∀ v1 v' w', GrowL e sb w' v' (rs ++ [(u, xs)]) → (∀ wb, Ext wb w1 → wb.heap.size ≤ sb → Ext wb w') → w1.heap.size ≤ w'.heap.size → GStep w1 w' v v' → dops P N ops π (Chg b w00) K (i + 1 + 1) (put (put ρ d v1) d2 v') w')
    (hx : ev ρ x = u := by ((try simp only [ev_tmp, ev_const, ev_func, get_put, get_args, get_putL, get_putL_nil, Nat.reduceEqDiff, reduceIte, List.getD_cons_zero, List.getD_cons_succ, List.getD_nil]); first | done | with_reducible rfl)) (hs : ∀ v1, ev (put ρ d v1) s = v := by intro v1; ((try simp only [ev_tmp, ev_const, ev_func, get_put, get_args, get_putL, get_putL_nil, Nat.reduceEqDiff, reduceIte, List.getD_cons_zero, List.getD_cons_succ, List.getD_nil]); first | done | with_reducible rfl)) (hd : ∀ v1, ev (put ρ d v1) (.tmp d) = v1 := by intro v1; ((try simp only [ev_tmp, ev_const, ev_func, get_put, get_args, get_putL, get_putL_nil, Nat.reduceEqDiff, reduceIte, List.getD_cons_zero, List.getD_cons_succ, List.getD_nil]); first | done | with_reducible rfl)) (hz : z.cells = #[z] := by rfl) (hby : bytes ≤ 100 := by decide) (hg1 : Wants ops ρ g := by first | exact True.intro | exact ⟨_, rfl, by ((try simp only [ev_tmp, ev_const, ev_func, get_put, get_args, get_putL, get_putL_nil, Nat.reduceEqDiff, reduceIte, List.getD_cons_zero, List.getD_cons_succ, List.getD_nil, Bool.not_true, Bool.not_false]); first | done | with_reducible rfl)⟩) (hg2 : ∀ v1, Wants ops (put ρ d v1) g2 := by intro v1; first | exact True.intro | exact ⟨_, rfl, by ((try simp only [ev_tmp, ev_const, ev_func, get_put, get_args, get_putL, get_putL_nil, Nat.reduceEqDiff, reduceIte, List.getD_cons_zero, List.getD_cons_succ, List.getD_nil, Bool.not_true, Bool.not_false]); first | done | with_reducible rfl)⟩)
    (hn1 : nextOk ops π i = true := by decide +kernel) (hn2 : nextOk ops π (i + 1) = true := by decide +kernel) (hd1 : d < N := by decide) (hd2 : d2 < N := by decide) :
    dops P N ops π (Chg b w00) K i ρ w1 := by
  refine z_slice1 (u := u) hi1 hx hu.ints.sl.cells hz (fun w2 v2 he2 hs2 ho2 => ?_) hn1 hd1 hg1
  have hO := (hG.lst.ext (x01.trans he2)).own
  have hz1 := x01.size
  have hz2 := he2.size
  have hb : (rs.length + 1) * bytes ≤ 1000001 * 100 := Nat.mul_le_mul (by omega) hby
  refine z_append (hv := hO) (hy := ho2) hi2 (hs v2) (hd v2) (by rw [hz]; rfl) ?_ ?_ ?_ ?_ hvb (fun v3 w3 ho3 hg3 ha3 => ?_) hn2 hd2 (hg2 v2)
  · intro a ha
    rw [List.mem_singleton.1 ha]; exact hu.ints.sl.one
  · simp only [List.length_map, List.length_singleton]; omega
  · simp only [List.length_map, List.length_singleton, maxLen]; omega
  · omega
  · exact next v2 v3 w3 (hG.push x01 hu hs0 he2 ho3 hg3 ha3) (fun wb hb1 hb2 => (hb1.trans he2).app hg3 (fun k hk => by have := (hG.lst.lt hk).1; omega)) (Nat.le_trans hz2 hg3.size) ⟨w2, he2, hg3, ha3⟩
theorem st_growi {s x : Operand} {t e bytes sb : Nat} {z v : Value} {k : Int} {xs : List Int} [ht : SlT P t e] [he : ElT P e 1 bytes z] (hG : GrowI e sb w1 v xs) (hs0 : sb ≤ w1.heap.size)
    (hn : xs.length ≤ 1000000) (next : ∀ v1 v' w', GrowI e sb w' v' (xs ++ [k]) → (∀ wb, Ext wb w1 → wb.heap.size ≤ sb → Ext wb w') → w1.heap.size ≤ w'.heap.size → GStep w1 w' v v' → rops P N ops K l (put (put ρ d v1) d2 v') w')
    (hx : ev ρ x = .int .i64 k := by ((try simp only [ev_tmp, ev_const, ev_func, get_put, get_args, get_putL, get_putL_nil, Nat.reduceEqDiff, reduceIte, List.getD_cons_zero, List.getD_cons_succ, List.getD_nil]); first | done | with_reducible rfl)) (hs : ∀ v1, ev (put ρ d v1) s = v := by intro v1; ((try simp only [ev_tmp, ev_const, ev_func, get_put, get_args, get_putL, get_putL_nil, Nat.reduceEqDiff, reduceIte, List.getD_cons_zero, List.getD_cons_succ, List.getD_nil]); first | done | with_reducible rfl)) (hd : ∀ v1, ev (put ρ d v1) (.tmp d) = v1 := by intro v1; ((try simp only [ev_tmp, ev_const, ev_func, get_put, get_args, get_putL, get_putL_nil, Nat.reduceEqDiff, reduceIte, List.getD_cons_zero, List.getD_cons_succ, List.getD_nil]); first | done | with_reducible rfl)) (hz : z.cells = #[z] := by rfl) (hby : bytes ≤ 100 := by decide) (hg1 : Wants ops ρ g := by first | exact True.intro | exact ⟨_, rfl, by ((try simp only [ev_tmp, ev_const, ev_func, get_put, get_args, get_putL, get_putL_nil, Nat.reduceEqDiff, reduceIte, List.getD_cons_zero, List.getD_cons_succ, List.getD_nil, Bool.not_true, Bool.not_false]); first | done | with_reducible rfl)⟩) (hg2 : ∀ v1, Wants ops (put ρ d v1) g2 := by intro v1; first | exact True.intro | exact ⟨_, rfl, by ((try simp only [ev_tmp, ev_const, ev_func, get_put, get_args, get_putL, get_putL_nil, Nat.reduceEqDiff, reduceIte, List.getD_cons_zero, List.getD_cons_succ, List.getD_nil, Bool.not_true, Bool.not_false]); first | done | with_reducible rfl)⟩) :
    rops P N ops K (⟨some d, .buildSlice t 1 #[(0, x)], ty, pos, after, g⟩ :: ⟨some d2, .call { callee := .builtin .append, args := #[s, .tmp d], argTypes := #[t, t] }, ty2, pos2, after2, g2⟩ :: l) ρ w1 := by
  refine st_slice1 (u := .int .i64 k) hx rfl hz hg1 fun w2 v2 he2 hs2 ho2 => ?_
  have hO : OwnN e sb w2 v (xs.map (Value.int .i64)) := @OwnN.ext _ _ _ _ _ _ he2 hG.own
  have hz2 := he2.size
  have hb : (xs.length + 1) * bytes ≤ 1000001 * 100 := Nat.mul_le_mul (by omega) hby
  refine st_append (hv := hO) (hy := ho2) (hs v2) (hd v2) (by rw [hz]; rfl) ?_ ?_ ?_ ?_ (hg2 v2) fun v3 w3 ho3 hg3 ha3 => ?_
  · intro a ha
    rw [List.mem_singleton.1 ha]; rfl
  · simp only [List.length_map, List.length_singleton]; omega
  · simp only [List.length_map, List.length_singleton, maxLen]; omega
  · omega
  · exact next v2 v3 w3 ⟨by simpa using ho3⟩ (fun wb hb1 hb2 => (hb1.trans he2).app hg3 (fun k hk => by have := (hO.lt k hk).1; omega)) (Nat.le_trans hz2 hg3.size) ⟨w2, he2, hg3, ha3⟩
theorem z_growi {s x : Operand} {b t e bytes sb : Nat} {z v : Value} {k : Int} {xs : List Int} [ht : SlT P t e] [he : ElT P e 1 bytes z] (hG : GrowI e sb w1 v xs) (hs0 : sb ≤ w1.heap.size)
    (hn : xs.length ≤ 1000000) (hvb : ∀ g, v.ownBlock = some g → g = b) (hi1 : opAt ops π i = some ⟨some d, .buildSlice t 1 #[(0, x)], ty, pos, after, g⟩ := by exact rfl) (hi2 : opAt ops π (i + 1) = some ⟨some d2, .call { callee := .builtin .append, args := #[s, .tmp d], argTypes := #[t, t] }, ty2, pos2, after2, g2⟩ := by exact rfl)
    (next : ∀ v1 v' w', GrowI e sb w' v' (xs ++ [k]) → (∀ wb, Ext wb w1 → wb.heap.size ≤ sb → Ext wb w') → w1.heap.size ≤ w'.heap.size → GStep w1 w' v v' → dops P N ops π (Chg b w00) K (i + 1 + 1) (put (put ρ d v1) d2 v') w')
    (hx : ev ρ x = .int .i64 k := by ((try simp only [ev_tmp, ev_const, ev_func, get_put, get_args, get_putL, get_putL_nil, Nat.reduceEqDiff, reduceIte, List.getD_cons_zero, List.getD_cons_succ, List.getD_nil]); first | done | with_reducible rfl)) (hs : ∀ v1, ev (put ρ d v1) s = v := by intro v1; ((try simp only [ev_tmp, ev_const, ev_func, get_put, get_args, get_putL, get_putL_nil, Nat.reduceEqDiff, reduceIte, List.getD_cons_zero, List.getD_cons_succ, List.getD_nil]); first | done | with_reducible rfl)) (hd : ∀ v1, ev (put ρ d v1) (.tmp d) = v1 := by intro v1; ((try simp only [ev_tmp, ev_const, ev_func, get_put, get_args, get_putL, get_putL_nil, Nat.reduceEqDiff, reduceIte, List.getD_cons_zero, List.getD_cons_succ, List.getD_nil]); first | done | with_reducible rfl)) (hz : z.cells = #[z] := by rfl) (hby : bytes ≤ 100 := by decide) (hg1 : Wants ops ρ g := by first | exact True.intro | exact ⟨_, rfl, by ((try simp only [ev_tmp, ev_const, ev_func, get_put, get_args, get_putL, get_putL_nil, Nat.reduceEqDiff, reduceIte, List.getD_cons_zero, List.getD_cons_succ, List.getD_nil, Bool.not_true, Bool.not_false]); first | done | with_reducible rfl)⟩) (hg2 : ∀ v1, Wants ops (put ρ d v1) g2 := by intro v1; first | exact True.intro | exact ⟨_, rfl, by ((try simp only [ev_tmp, ev_const, ev_func, get_put, get_args, get_putL, get_putL_nil, Nat.reduceEqDiff, reduceIte, List.getD_cons_zero, List.getD_cons_succ, List.getD_nil, Bool.not_true, Bool.not_false]); first | done | with_reducible rfl)⟩)
    (hn1 : nextOk ops π i = true := by decide +kernel) (hn2 : nextOk ops π (i + 1) = true := by decide +kernel) (hd1 : d < N := by decide) (hd2 : d2 < N := by decide) :
    dops P N ops π (Chg b w00) K i ρ w1 := by
  refine z_slice1 (u := .int .i64 k) hi1 hx rfl hz (fun w2 v2 he2 hs2 ho2 => ?_) hn1 hd1 hg1
  have hO : OwnN e sb w2 v (xs.map (Value.int .i64)) := @OwnN.ext _ _ _ _ _ _ he2 hG.own
  have hz2 := he2.size
  have hb : (xs.length + 1) * bytes ≤ 1000001 * 100 := Nat.mul_le_mul (by omega) hby
  refine z_append (hv := hO) (hy := ho2) hi2 (hs v2) (hd v2) (by rw [hz]; rfl) ?_ ?_ ?_ ?_ hvb (fun v3 w3 ho3 hg3 ha3 => ?_) hn2 hd2 (hg2 v2)
  · intro a ha
    rw [List.mem_singleton.1 ha]; rfl
  · simp only [List.length_map, List.length_singleton]; omega
  · simp only [List.length_map, List.length_singleton, maxLen]; omega
  · omega
  · exact next v2 v3 w3 ⟨by simpa using ho3⟩ (fun wb hb1 hb2 => (hb1.trans he2).app hg3 (fun k hk => by have := (hO.lt k hk).1; omega)) (Nat.le_trans hz2 hg3.size) ⟨w2, he2, hg3, ha3⟩
end
theorem own_some' (v : Value) (s k : Nat) (hk : s ≤ k) (h : ∀ g, v.ownBlock = some g → s ≤ g) : ∃ b, s ≤ b ∧ ∀ g, v.ownBlock = some g → g = b := by
  cases e : v.ownBlock with
  | none => exact ⟨k, hk, fun g h => by cases h⟩
  | some b => exact ⟨b, h b e, fun g h => (Option.some.inj h).symm⟩
end Go.Pc

/-
  Walk: the reference's copy of a list of lists, as the call's own (l01Own2).
  Conditions: stated at the theorem.
-/
namespace Go.Proofs.Ytnphljflkpekmaa
open Go Go.Pc
end Go.Proofs.Ytnphljflkpekmaa

/-
  Walks: the reference's table, reduction, representative and membership (l12Table, l12Reduce, l12Sift, l12Has).
  Conditions: the tails at all levels are groups; the list is a sequence.
-/
namespace Go.Proofs.Ytnphljflkpekmaa
open Go Go.Pc
end Go.Proofs.Ytnphljflkpekmaa

/-
  Walks: the reference's table, representative and membership (l12Table, l12Sift, l12Has, l12Within).
  Conditions: the tails at all levels are groups; the list is a sequence.
-/
namespace Go.Proofs.Ytnphljflkpekmaa
open Go Go.Pc
end Go.Proofs.Ytnphljflkpekmaa

/-
  Walks: the reference's conjugates, conjugate subgroups, closures under conjugation, normality (l10Conj, l13Conj, l12Whole, l13Stable, l13Normal).
  Conditions: the tails at all levels are groups; the lists are those told.
-/
namespace Go.Proofs.Ytnphljflkpekmaa
open Go Go.Pc
set_option maxHeartbeats 1000000 in
theorem l10Conj_ok {p : Pr} [hc : ConAll p] {w : World} {vp vx vy : Value} {x y : El p} {xs ys : List Int} {lo hi lo1 hi1 lo2 hi2 : Nat} [hp : Pres lo hi w vp p] [hx : Ints lo1 hi1 w vx xs] [hy : Ints lo2 hi2 w vy ys] (hxe : xs = x.v) (hye : ys = y.v) :
    Calls Try.prog 49 #[vp, vx, vy] w (Ret fun v w' => Ext w w' ∧ Fr w.heap.size w' v (Grp.cj x y).v) := by
  obtain ⟨vo, vpw, vc, ps, cs, css, rfl, h1, h2, h3⟩ := hp.ex
  refine enter (args := [.agg #[vo, vpw, vc], vx, vy]) (l := [.tmp 6]) Try.func49 rfl rfl Try.ntmps49 (by simp) ?_
  refine go ?_
  refine st_box3 (by ((try simp only [ev_tmp, ev_const, ev_func, get_put, get_args, get_putL, get_putL_nil, Nat.reduceEqDiff, reduceIte, List.getD_cons_zero, List.getD_cons_succ, List.getD_nil]); first | done | with_reducible rfl)) (by first | exact True.intro | exact ⟨_, rfl, by ((try simp only [ev_tmp, ev_const, ev_func, get_put, get_args, get_putL, get_putL_nil, Nat.reduceEqDiff, reduceIte, List.getD_cons_zero, List.getD_cons_succ, List.getD_nil, Bool.not_true, Bool.not_false]); first | done | with_reducible rfl)⟩) fun w1 b he1 hb1 hs1 hc0 hc1 hc2 => ?_
  refine go ?_
  refine d_order [0, 1, 2, 4, 5, 6, 3, 7, 8, 9] (h := fun w2 he2 _ => ?_)
  refine dgo ?_
  refine dce (l10Inv_ok (p := p) hye) (next := fun v4 w4 h4 => ?_)
  obtain ⟨he4, hf4⟩ := h4
  refine dce (l08Mul_ok (p := p) hxe hye) (next := fun v5 w5 h5 => ?_)
  obtain ⟨he5, hf5⟩ := h5
  refine dce (l08Mul_ok (p := p) (x := y⁻¹) (y := x * y) (xs := (y⁻¹).v) (ys := (x * y).v) rfl rfl) (next := fun v6 w6 h6 => ?_)
  obtain ⟨he6, hf6⟩ := h6
  refine dgo ?_
  refine d_end (h := ?_)
  refine go ?_
  have hE := ((he1.trans he2).trans he4).trans he5
  exact ret1 ⟨hE.trans he6, hf6.mono hE.size⟩
/-- The generators. -/
noncomputable def gensL (p : Pr) [ConAll p] : List (El p) := (List.range p.n).map (gOf p 0)
end Go.Proofs.Ytnphljflkpekmaa

/-
  Answers: generated subgroups, conjugate subgroups, normality, indices, depths.
  Conditions: none.
-/
namespace Go.Proofs.Ytnphljflkpekmaa
open Go Go.Pc
def GenV (p : Pr) (xss r : List (List Int)) (e : Int) : Prop := (24 < xss.length ∧ r = [] ∧ e = 3) ∨ (xss.length ≤ 24 ∧ (∃ (_ : ConAll p) (ys : List (El p)), xss = vecs ys ∧ r = canon (Gen (fun a : El p => a ∈ ys))) ∧ e = 0)
theorem GenV.uniq {p : Pr} {xss : List (List Int)} (a b : List (List Int)) (c d : Int) (h : GenV p xss a c) (k : GenV p xss b d) : a = b ∧ c = d := by
  rcases h with ⟨h1, h2, h3⟩ | ⟨h1, ⟨hc, ys, h2, h3⟩, h4⟩ <;> rcases k with ⟨k1, k2, k3⟩ | ⟨k1, ⟨hc', ys', k2, k3⟩, k4⟩
  · exact ⟨by rw [h2, k2], by rw [h3, k3]⟩
  · omega
  · omega
  · obtain rfl := vecs_inj (h2.symm.trans k2)
    exact ⟨by rw [h3, k3], by rw [h4, k4]⟩
def ConjV (p : Pr) (xss : List (List Int)) (xs : List Int) (r : List (List Int)) (e : Int) : Prop := (∃ (_ : ConAll p) (ys : List (El p)) (x : El p), xss = vecs ys ∧ xs = x.v ∧ r = canon (Gen (fun a : El p => a ∈ ys.map (Grp.cj · x)))) ∧ e = 0
theorem ConjV.uniq {p : Pr} {xss : List (List Int)} {xs : List Int} (a b : List (List Int)) (c d : Int) (h : ConjV p xss xs a c) (k : ConjV p xss xs b d) : a = b ∧ c = d := by
  obtain ⟨⟨hc, ys, x, h2, h3, h4⟩, h5⟩ := h
  obtain ⟨⟨hc', ys', x', k2, k3, k4⟩, k5⟩ := k
  obtain rfl := vecs_inj (h2.symm.trans k2)
  obtain rfl : x = x' := T.ext (h3.symm.trans k3)
  exact ⟨by rw [h4, k4], by rw [h5, k5]⟩
/-- The subgroup is normal. -/
def NormP (p : Pr) (xss : List (List Int)) : Prop := ∃ (_ : ConAll p) (ys : List (El p)), xss = vecs ys ∧ ∀ y, y ∈ ys → ∀ g, g ∈ gensL p → Gen (fun a : El p => a ∈ ys) (Grp.cj y g)
def NormV (p : Pr) (xss : List (List Int)) (b : Bool) (e : Int) : Prop := (b = true ↔ NormP p xss) ∧ e = 0
theorem NormV.uniq {p : Pr} {xss : List (List Int)} (a b : Bool) (c d : Int) (h : NormV p xss a c) (k : NormV p xss b d) : a = b ∧ c = d := ⟨bool_eq h.1 k.1, by rw [h.2, k.2]⟩
/-- The index of a subgroup. -/
def IdxV (p : Pr) (xss yss : List (List Int)) (k e : Int) : Prop := ((∀ x, x ∈ yss → MemP p xss x) ∧ k = ordOfL p xss / ordOfL p yss ∧ e = 0) ∨ (¬ (∀ x, x ∈ yss → MemP p xss x) ∧ k = 0 ∧ e = 5)
theorem IdxV.uniq {p : Pr} {xss yss : List (List Int)} (a b c d : Int) (h : IdxV p xss yss a c) (k : IdxV p xss yss b d) : a = b ∧ c = d := by
  rcases h with ⟨h1, h2, h3⟩ | ⟨h1, h2, h3⟩ <;> rcases k with ⟨k1, k2, k3⟩ | ⟨k1, k2, k3⟩
  · exact ⟨by rw [h2, k2], by rw [h3, k3]⟩
  · exact absurd h1 k1
  · exact absurd k1 h1
  · exact ⟨by rw [h2, k2], by rw [h3, k3]⟩
def DepV (xss : List (List Int)) (r : List Int) (e : Int) : Prop := r = xss.map (fun x => (lead x : Int)) ∧ e = 0
theorem DepV.uniq {xss : List (List Int)} (a b : List Int) (c d : Int) (h : DepV xss a c) (k : DepV xss b d) : a = b ∧ c = d := ⟨by rw [h.1, k.1], by rw [h.2, k.2]⟩
end Go.Proofs.Ytnphljflkpekmaa

/-
  Answers: coset numbers, elements and exponents of subgroups.
  Conditions: none.
-/
namespace Go.Proofs.Ytnphljflkpekmaa
open Go Go.Pc
section
variable {p : Pr}
/-- The places that are no depths of the elements. -/
def freeL (p : Pr) (ys : List (El p)) (k : Nat) : List Nat := (List.range k).filter fun d => ys.all fun y => decide (lead y.v ≠ d)
abbrev ints (l : List Nat) : List Int := l.map fun d : Nat => (d : Int)
/-- The number that the free places of an element tell. -/
def numF (p : Pr) (l : List Nat) (r : El p) : Int := l.foldl (fun a d => a * p.o d + co r d) 0
def NumV (p : Pr) (xss : List (List Int)) (xs : List Int) (k e : Int) : Prop := (∃ (_ : ConAll p) (ys : List (El p)) (x r : El p), xss = vecs ys ∧ xs = x.v ∧ RepOf ys x r ∧ k = numF p (freeL p ys p.n) r) ∧ e = 0
theorem NumV.uniq {xss : List (List Int)} {xs : List Int} (hS : IsSubP p xss) (a b c d : Int) (h : NumV p xss xs a c) (k : NumV p xss xs b d) : a = b ∧ c = d := by
  obtain ⟨⟨hc, ys, x, y, h1, h2, h3, h4⟩, h5⟩ := h
  obtain ⟨⟨hc', ys', x', y', k1, k2, k3, k4⟩, k5⟩ := k
  obtain ⟨hG, hq⟩ := hS
  haveI : ConAll p := ⟨hG.con⟩
  obtain ⟨zs, hzs, hse⟩ := isSeq_iff.1 hq
  obtain rfl : ys = zs := vecs_inj (h1.symm.trans hzs)
  obtain rfl : ys' = ys := vecs_inj (k1.symm.trans hzs)
  obtain rfl : x = x' := T.ext (h2.symm.trans k2)
  exact ⟨by rw [h4, k4, RepOf.unique hse h3 k3], by rw [h5, k5]⟩
end
section
variable {p : Pr} [hc : ConAll p]
/-- The product of powers of elements. -/
noncomputable def prodTo (ys : List (El p)) (as_ : List Int) : Nat → El p
  | 0 => 1
  | k + 1 => prodTo ys as_ k * Grp.pwz (ys.getD k 1) (as_.getD k 0)
/-- What is left of an element behind its first exponents. -/
noncomputable def stE (ys : List (El p)) (x : El p) : Nat → El p
  | 0 => x
  | k + 1 => Grp.pwz (ys.getD k 1) (-(co (stE ys x k) (lead (ys.getD k 1).v))) * stE ys x k
noncomputable def expsL (ys : List (El p)) (x : El p) (k : Nat) : List Int := (List.range k).map fun i => co (stE ys x i) (lead (ys.getD i 1).v)
theorem expsL_succ (ys : List (El p)) (x : El p) (k : Nat) : expsL ys x (k + 1) = expsL ys x k ++ [co (stE ys x k) (lead (ys.getD k 1).v)] := by
  unfold expsL; rw [List.range_succ, List.map_append]; rfl
theorem expsL_len (ys : List (El p)) (x : El p) (k : Nat) : (expsL ys x k).length = k := by simp [expsL]
theorem getD_one {ys : List (El p)} {k : Nat} (hk : k < ys.length) : ys.getD k 1 = ys[k] := by simp [hk]
theorem stE_gen (ys : List (El p)) (x : El p) : ∀ k, k ≤ ys.length → (Gen (fun a : El p => a ∈ ys) (stE ys x k) ↔ Gen (fun a : El p => a ∈ ys) x)
  | 0, _ => Iff.rfl
  | k + 1, h => by
    have hk : k < ys.length := by omega
    rw [← stE_gen ys x k (by omega)]
    show Gen _ (Grp.pwz (ys.getD k 1) _ * stE ys x k) ↔ _
    rw [getD_one hk]
    exact (Gen.sub _).left ((Gen.sub _).pwz (.of _ (List.getElem_mem hk)) _)
theorem tl_up {ys : List (El p)} (hs : SeqEl ys) {h : El p} (hh : Gen (fun a : El p => a ∈ ys) h) : ∀ m d d', d' - d = m → d ≤ d' → d' ≤ p.n → (∀ y, y ∈ ys → lead y.v < d ∨ d' ≤ lead y.v) → Tl d h → Tl d' h := by
  intro m
  induction m with
  | zero => intro d d' h1 h2 _ _ h5; rwa [show d' = d by omega]
  | succ m ih =>
    intro d d' h1 h2 h3 h4 h5
    refine ih (d + 1) d' (by omega) (by omega) h3 (fun y hy => ?_) (h5.succ ?_)
    · rcases h4 y hy with h | h
      · exact .inl (by omega)
      · exact .inr h
    · by_cases h0 : co h d = 0
      · exact h0
      · obtain ⟨y, hy, e⟩ := hs.dep ⟨h, hh, h5, h0⟩
        rcases h4 y hy with h | h <;> omega
theorem stE_one {ys : List (El p)} (hs : SeqEl ys) (x : El p) : stE ys x ys.length = 1 ↔ Gen (fun a : El p => a ∈ ys) x := by
  constructor
  · intro h
    rw [← stE_gen ys x ys.length (Nat.le_refl _), h]; exact .one
  · intro hx
    have hok := hs.ok
    have hasc : ∀ i j (hi : i < ys.length) (hj : j < ys.length), i < j → lead (ys[i]).v < lead (ys[j]).v := fun i j hi hj hij => List.pairwise_iff_getElem.1 hok.asc i j hi hj hij
    have key : ∀ k, k ≤ ys.length → ∀ d', (∀ i (h : i < ys.length), k ≤ i → d' ≤ lead (ys[i]).v) → d' ≤ p.n → Tl d' (stE ys x k) := by
      intro k
      induction k with
      | zero =>
        intro _ d' h1 h2
        refine tl_up hs hx _ 0 d' rfl (Nat.zero_le _) h2 (fun y hy => ?_) (Tl.zero x)
        obtain ⟨i, hi, rfl⟩ := List.getElem_of_mem hy
        exact .inr (h1 i hi (Nat.zero_le _))
      | succ k ih =>
        intro hk d' h1 h2
        have hkn : k < ys.length := by omega
        obtain ⟨hdn, hy1⟩ := hok.lead1 _ (List.getElem_mem hkn)
        have ht := ih (by omega) (lead (ys[k]).v) (fun i hi hki => by
          by_cases e : i = k
          · subst e; exact Nat.le_refl _
          · exact Nat.le_of_lt (hasc k i hkn hi (by omega))) (by omega)
        have hyt : Tl (lead (ys[k]).v) (ys[k]) := lead_tl _
        have hmem := (stE_gen ys x (k + 1) hk).2 hx
        have hstep : Tl (lead (ys[k]).v + 1) (stE ys x (k + 1)) := by
          show Tl _ (Grp.pwz (ys.getD k 1) (-(co (stE ys x k) (lead (ys.getD k 1).v))) * stE ys x k)
          rw [getD_one hkn]
          refine (Tl.mul (by omega) (hyt.pwz (by omega) _) ht).succ ?_
          rw [co_at _ hdn ht, co_pwz hdn hyt, hy1, Int.mul_one, Int.emod_add_emod, Int.add_left_neg, Int.zero_emod]
        by_cases hd : lead (ys[k]).v + 1 ≤ d'
        · refine tl_up hs hmem _ _ d' rfl hd h2 (fun y hy => ?_) hstep
          obtain ⟨i, hi, rfl⟩ := List.getElem_of_mem hy
          by_cases hik : k + 1 ≤ i
          · exact .inr (h1 i hi hik)
          · left
            by_cases e : i = k
            · subst e; omega
            · have := hasc i k hi hkn (by omega); omega
        · exact hstep.mono (by omega)
    exact (key ys.length (Nat.le_refl _) p.n (fun i hi h => by omega) (Nat.le_refl _)).end_
end
/-- The exponents lie in their ranges. -/
def RangeP (p : Pr) (xss : List (List Int)) (as_ : List Int) : Prop := as_.length = xss.length ∧ ∀ i, i < xss.length → 0 ≤ as_.getD i 0 ∧ as_.getD i 0 ≤ p.o (lead (xss.getD i [])) - 1
def MeV (p : Pr) (xss : List (List Int)) (as_ r : List Int) (e : Int) : Prop := (RangeP p xss as_ ∧ (∃ (_ : ConAll p) (ys : List (El p)), xss = vecs ys ∧ r = (prodTo ys as_ ys.length).v) ∧ e = 0) ∨ (¬ RangeP p xss as_ ∧ r = [] ∧ e = 2)
theorem MeV.uniq {p : Pr} {xss : List (List Int)} {as_ : List Int} (a b : List Int) (c d : Int) (h : MeV p xss as_ a c) (k : MeV p xss as_ b d) : a = b ∧ c = d := by
  rcases h with ⟨h1, ⟨_, ys, h2, h3⟩, h4⟩ | ⟨h1, h2, h3⟩ <;> rcases k with ⟨k1, ⟨_, ys', k2, k3⟩, k4⟩ | ⟨k1, k2, k3⟩
  · obtain rfl := vecs_inj (h2.symm.trans k2)
    exact ⟨by rw [h3, k3], by rw [h4, k4]⟩
  · exact absurd h1 k1
  · exact absurd k1 h1
  · exact ⟨by rw [h2, k2], by rw [h3, k3]⟩
def MxV (p : Pr) (xss : List (List Int)) (xs r : List Int) (e : Int) : Prop := (MemP p xss xs ∧ (∃ (_ : ConAll p) (ys : List (El p)) (x : El p), xss = vecs ys ∧ xs = x.v ∧ r = expsL ys x ys.length) ∧ e = 0) ∨ (¬ MemP p xss xs ∧ r = [] ∧ e = 4)
theorem MxV.uniq {p : Pr} {xss : List (List Int)} {xs : List Int} (a b : List Int) (c d : Int) (h : MxV p xss xs a c) (k : MxV p xss xs b d) : a = b ∧ c = d := by
  rcases h with ⟨h1, ⟨_, ys, x, h2, hx, h3⟩, h4⟩ | ⟨h1, h2, h3⟩ <;> rcases k with ⟨k1, ⟨_, ys', x', k2, kx, k3⟩, k4⟩ | ⟨k1, k2, k3⟩
  · obtain rfl := vecs_inj (h2.symm.trans k2)
    obtain rfl : x = x' := T.ext (hx.symm.trans kx)
    exact ⟨by rw [h3, k3], by rw [h4, k4]⟩
  · exact absurd h1 k1
  · exact absurd k1 h1
  · exact ⟨by rw [h2, k2], by rw [h3, k3]⟩
end Go.Proofs.Ytnphljflkpekmaa

/-
  Digits: the element with a number along a list of places; the products of the orders; lists of all such elements.
  Conditions: none.
-/
namespace Go.Proofs.Ytnphljflkpekmaa
open Go Go.Pc
section
variable {p : Pr} {l : List Nat}
/-- The product of the orders at places. -/
def ordL (p : Pr) (l : List Nat) : Int := l.foldl (fun a d => a * p.o d) 1
/-- All elements with digits at the first places. -/
def trTo (p : Pr) (l : List Nat) : Nat → List (List Int)
  | 0 => [zeros p.n]
  | k + 1 => (trTo p l k).flatMap fun x => (List.range (p.o (l.getD k 0)).toNat).map fun e : Nat => x.set (l.getD k 0) (e : Int)
end
section
variable {p : Pr}
/-- The index of a subgroup in the group. -/
def idxOf (p : Pr) (ys : List (El p)) : Int := ordL p (freeL p ys p.n)
/-- The representatives of the cosets, in ascending order. -/
def transL (p : Pr) (ys : List (El p)) : List (List Int) := trTo p (freeL p ys p.n) (freeL p ys p.n).length
end
def TrV (p : Pr) (xss r : List (List Int)) (e : Int) : Prop := ∃ (_ : ConAll p) (ys : List (El p)), xss = vecs ys ∧ ((128 < idxOf p ys ∧ r = [] ∧ e = 3) ∨ (idxOf p ys ≤ 128 ∧ r = transL p ys ∧ e = 0))
theorem TrV.uniq {p : Pr} {xss : List (List Int)} (a b : List (List Int)) (c d : Int) (h : TrV p xss a c) (k : TrV p xss b d) : a = b ∧ c = d := by
  obtain ⟨_, ys, h1, h2⟩ := h
  obtain ⟨_, ys', k1, k2⟩ := k
  obtain rfl := vecs_inj (h1.symm.trans k1)
  rcases h2 with ⟨h3, h4, h5⟩ | ⟨h3, h4, h5⟩ <;> rcases k2 with ⟨k3, k4, k5⟩ | ⟨k3, k4, k5⟩
  · exact ⟨by rw [h4, k4], by rw [h5, k5]⟩
  · omega
  · omega
  · exact ⟨by rw [h4, k4], by rw [h5, k5]⟩
end Go.Proofs.Ytnphljflkpekmaa

/-
  Exponents of cosets: what ProjectElement answers.
  Conditions: none.
-/
namespace Go.Proofs.Ytnphljflkpekmaa
open Go Go.Pc
/-- The exponents of a coset, told by its representative. -/
def prjL (p : Pr) (ys : List (El p)) (y : El p) : List Int := (freeL p ys p.n).map fun d => co y d
def PjV (p : Pr) (xss : List (List Int)) (xs r : List Int) (e : Int) : Prop := (¬ NormP p xss ∧ r = [] ∧ e = 5) ∨ (NormP p xss ∧ (∃ (_ : ConAll p) (ys : List (El p)) (x y : El p), xss = vecs ys ∧ xs = x.v ∧ RepOf ys x y ∧ r = prjL p ys y) ∧ e = 0)
theorem PjV.uniq {p : Pr} {xss : List (List Int)} {xs : List Int} (hS : IsSubP p xss) (a b : List Int) (c d : Int) (h : PjV p xss xs a c) (k : PjV p xss xs b d) : a = b ∧ c = d := by
  rcases h with ⟨h1, rfl, rfl⟩ | ⟨h1, ⟨hc, ys, x, y, h2, h3, h4, rfl⟩, rfl⟩ <;> rcases k with ⟨k1, rfl, rfl⟩ | ⟨k1, ⟨kc, zs, x', y', k2, k3, k4, rfl⟩, rfl⟩
  · exact ⟨rfl, rfl⟩
  · exact absurd k1 h1
  · exact absurd h1 k1
  · obtain ⟨hG, hq⟩ := hS
    haveI : ConAll p := ⟨hG.con⟩
    obtain ⟨us, hus, hse⟩ := isSeq_iff.1 hq
    obtain rfl : ys = us := vecs_inj (h2.symm.trans hus)
    obtain rfl : zs = ys := vecs_inj (k2.symm.trans hus)
    obtain rfl : x = x' := T.ext (h3.symm.trans k3)
    rw [RepOf.unique hse h4 k4]
    exact ⟨rfl, rfl⟩
end Go.Proofs.Ytnphljflkpekmaa

/-
  The presentations of subgroups and quotients, as lists; what SubgroupPresentation, QuotientPresentation and LiftElement answer.
  Conditions: none.
-/
namespace Go.Proofs.Ytnphljflkpekmaa
open Go Go.Pc
theorem pr_ext3 {p q : Pr} (h1 : p.ord = q.ord) (h2 : p.pow = q.pow) (h3 : p.cnj = q.cnj) : p = q := by cases p; cases q; simp_all
/-- A presentation out of its entries. -/
def tabP (m : Nat) (o : Nat → Int) (f : Nat → List Int) (g : Nat → Nat → List Int) : Pr :=
  ⟨(List.range m).map o, (List.range m).map f, (List.range m).map fun i => (List.range (m - (i + 1))).map fun k => g i (i + 1 + k)⟩
section
variable {m : Nat} {o : Nat → Int} {f : Nat → List Int} {g : Nat → Nat → List Int}
theorem tabP_n : (tabP m o f g).n = m := by simp [Pr.n, tabP]
end
section
variable {p : Pr} [hc : ConAll p]
noncomputable def subPow (ys : List (El p)) (i : Nat) : List Int := expsL ys (Grp.pwz (ys.getD i 1) (p.o (lead (ys.getD i 1).v))) ys.length
noncomputable def subCnj (ys : List (El p)) (i j : Nat) : List Int := expsL ys (Grp.cj (ys.getD j 1) (ys.getD i 1)) ys.length
/-- The presentation of a subgroup. -/
noncomputable def subPr (ys : List (El p)) : Pr := tabP ys.length (fun i => p.o (lead (ys.getD i 1).v)) (subPow ys) (subCnj ys)
/-- The representative of a coset. -/
noncomputable def repE (ys : List (El p)) (x : El p) : El p := open Classical in if h : ∃ r, RepOf ys x r then Classical.choose h else 1
noncomputable def prjE (ys : List (El p)) (x : El p) : List Int := prjL p ys (repE ys x)
/-- The place of a coset's generator. -/
def frA (p : Pr) (ys : List (El p)) (i : Nat) : Nat := (freeL p ys p.n).getD i 0
def frN (p : Pr) (ys : List (El p)) : Nat := (freeL p ys p.n).length
noncomputable def quoPow (ys : List (El p)) (i : Nat) : List Int := prjE ys (Grp.pwz (gOf p 0 (frA p ys i)) (p.o (frA p ys i)))
noncomputable def quoCnj (ys : List (El p)) (i j : Nat) : List Int := prjE ys (Grp.cj (gOf p 0 (frA p ys j)) (gOf p 0 (frA p ys i)))
/-- The presentation of a quotient. -/
noncomputable def quoPr (ys : List (El p)) : Pr := tabP (frN p ys) (fun i => p.o (frA p ys i)) (quoPow ys) (quoCnj ys)
end
def noP : Pr := ⟨[], [], []⟩
def SpV (p : Pr) (xss : List (List Int)) (r : Pr) (e : Int) : Prop := (∃ (_ : ConAll p) (ys : List (El p)), xss = vecs ys ∧ r = subPr ys) ∧ e = 0
theorem SpV.uniq {p : Pr} {xss : List (List Int)} (a b : Pr) (c d : Int) (h : SpV p xss a c) (k : SpV p xss b d) : a = b ∧ c = d := by
  obtain ⟨⟨hc, ys, h2, h3⟩, h5⟩ := h
  obtain ⟨⟨hc', ys', k2, k3⟩, k5⟩ := k
  obtain rfl := vecs_inj (h2.symm.trans k2)
  exact ⟨by rw [h3, k3], by rw [h5, k5]⟩
def QpV (p : Pr) (xss : List (List Int)) (r : Pr) (e : Int) : Prop := (¬ NormP p xss ∧ r = noP ∧ e = 5) ∨ (NormP p xss ∧ (∃ (_ : ConAll p) (ys : List (El p)), xss = vecs ys ∧ r = quoPr ys) ∧ e = 0)
theorem QpV.uniq {p : Pr} {xss : List (List Int)} (a b : Pr) (c d : Int) (h : QpV p xss a c) (k : QpV p xss b d) : a = b ∧ c = d := by
  rcases h with ⟨h1, rfl, rfl⟩ | ⟨h1, ⟨hc, ys, h2, rfl⟩, rfl⟩ <;> rcases k with ⟨k1, rfl, rfl⟩ | ⟨k1, ⟨kc, zs, k2, rfl⟩, rfl⟩
  · exact ⟨rfl, rfl⟩
  · exact absurd k1 h1
  · exact absurd h1 k1
  · obtain rfl := vecs_inj (h2.symm.trans k2)
    exact ⟨rfl, rfl⟩
end Go.Proofs.Ytnphljflkpekmaa

/-
  The sizes of the presentations of subgroups and quotients.
  Conditions: none.
-/
namespace Go.Proofs.Ytnphljflkpekmaa
open Go Go.Pc
theorem tabP_sz {m : Nat} {o : Nat → Int} {f : Nat → List Int} {g : Nat → Nat → List Int} (hm : m ≤ 6) (hf : ∀ i, (f i).length ≤ 6) (hg : ∀ i j, (g i j).length ≤ 6) : SizeP (tabP m o f g) 2000000 ∧ totP (tabP m o f g) ≤ 1000 := by
  have h2 : (tabP m o f g).pow.length = m := by simp [tabP]
  have h3 : (tabP m o f g).cnj.length = m := by simp [tabP]
  refine ⟨⟨?_, ?_, fun i => ?_, ?_, fun i => ?_, fun i j => ?_⟩, ?_⟩
  · have : (tabP m o f g).ord.length = m := tabP_n
    omega
  · omega
  · by_cases h : i < m
    · have e : (tabP m o f g).pow.getD i [] = f i := by simp [tabP, h]
      rw [e]; have := hf i; omega
    · simp [tabP, h]
  · omega
  · by_cases h : i < m
    · have e : (tabP m o f g).cnj.getD i [] = (List.range (m - (i + 1))).map fun k => g i (i + 1 + k) := by simp [tabP, h]
      rw [e, List.length_map, List.length_range]; omega
    · simp [tabP, h]
  · by_cases h : i < m
    · have e : (tabP m o f g).cnj.getD i [] = (List.range (m - (i + 1))).map fun k => g i (i + 1 + k) := by simp [tabP, h]
      rw [e]
      by_cases h' : j < m - (i + 1)
      · have e2 : ((List.range (m - (i + 1))).map fun k => g i (i + 1 + k)).getD j [] = g i (i + 1 + j) := by simp [h']
        rw [e2]; have := hg i (i + 1 + j); omega
      · simp [h']
    · simp [tabP, h]
  · have e1 : (tabP m o f g).ord.length = m := tabP_n
    have e2 : tot (tabP m o f g).pow ≤ (tabP m o f g).pow.length * 6 := tot_le _ fun x hx => by
      simp only [tabP, List.mem_map] at hx
      obtain ⟨i, _, rfl⟩ := hx
      exact hf i
    have e3 : tot (tabP m o f g).cnj.flatten ≤ (tabP m o f g).cnj.length * (6 * 6) := tot_flatten _ fun x hx => by
      simp only [tabP, List.mem_map] at hx
      obtain ⟨i, _, rfl⟩ := hx
      refine ⟨by rw [List.length_map, List.length_range]; omega, fun y hy => ?_⟩
      simp only [List.mem_map] at hy
      obtain ⟨k, _, rfl⟩ := hy
      exact hg _ _
    unfold totP
    omega
theorem noP_sz : SizeP noP 2000000 ∧ totP noP ≤ 1000 := ⟨⟨by simp [noP], by simp [noP], fun i => by simp [noP], by simp [noP], fun i => by simp [noP], fun i j => by simp [noP]⟩, by simp [noP, totP, tot]⟩
theorem subPr_sz {p : Pr} [hc : ConAll p] {ys : List (El p)} (hs : SeqEl ys) : SizeP (subPr ys) 2000000 ∧ totP (subPr ys) ≤ 1000 := by
  have h6 := hc.valid.n6
  have hl := hs.len
  exact tabP_sz (by omega) (fun i => by rw [subPow, expsL_len]; omega) (fun i j => by rw [subCnj, expsL_len]; omega)
theorem SubgroupPresentation_sz0 {p : Pr} {xss : List (List Int)} {r : Pr} {e : Int} (_ : p.ord.length ≤ 2000000) (h : Ans (IsSubP p xss) (SpV p xss) noP r e) : SizeP r 2000000 ∧ totP r ≤ 1000 := by
  rcases h with ⟨⟨hG, hq⟩, ⟨hc, ys, hys, rfl⟩, _⟩ | ⟨_, rfl, _⟩
  · obtain ⟨zs, hzs, hse⟩ := (@isSeq_iff p hc xss).1 hq
    obtain rfl := vecs_inj (hys.symm.trans hzs)
    exact subPr_sz hse
  · exact noP_sz
end Go.Proofs.Ytnphljflkpekmaa

/-
  Lists of lists of rows that grow by one list at a time: 'out = append(out, list)'.
  Conditions: none; nothing of the program stands here.
-/
namespace Go.Pc
open Go Go.RowKit
/-- Rows that lie apart from some blocks. -/
def RsA (s : Nat) (av : Nat → Prop) (w : World) (v : Value) (us : List Value) (xss : List (List Int)) : Prop := ∃ lo hi, Rows lo hi w v us xss ∧ s ≤ lo ∧ hi ≤ w.heap.size ∧ ∀ g, av g → g < lo ∨ hi ≤ g
structure GrowV (e sb s : Nat) (w : World) (v : Value) (us : List Value) (uss : List (List Value)) (xsss : List (List (List Int))) : Prop where
  own : OwnN e sb w v us
  len : us.length = xsss.length
  len' : uss.length = xsss.length
  at_ : ∀ i, i < us.length → RsA s (fun g => v.ownBlock = some g) w (us.getD i nilv) (uss.getD i []) (xsss.getD i [])
/-- The rows of the lists are the call's own. -/
structure OwnC (s : Nat) (w : World) (v : Value) (gs : List (Value × List (Value × List Int))) : Prop where
  own : RowsO s w (flat gs)
  off : ∀ b, v.ownBlock = some b → ¬ BlkOf (flat gs) b
  sp : ∀ q, q ∈ gs → SpA (fun b => BlkOf (flat gs) b ∨ b < s ∨ v.ownBlock = some b) w q.1 (q.2.map (·.1))
section
variable {av av' : Nat → Prop} {e sb s lo hi : Nat} {w w' w0 w1 w2 w3 : World} {v v' u : Value} {us ut : List Value} {uss : List (List Value)} {xss : List (List Int)} {xsss : List (List (List Int))} {rs : List (Value × List Int)} {gs : List (Value × List (Value × List Int))}
theorem RsA.ext (h : RsA s av w v us xss) (x : Ext w w') : RsA s av w' v us xss := by
  obtain ⟨lo, hi, h1, h2, h3, h4⟩ := h
  exact ⟨lo, hi, h1.same (x.same _ _), h2, Nat.le_trans h3 x.size, h4⟩
theorem RsA.beside {ob : Option Nat} (h : RsA s av w v us xss) (hg : w.grownBy w' ob) (hob : ∀ g, ob = some g → av g) (ha : ∀ g, av' g → av g ∨ g = w.heap.size) : RsA s av' w' v us xss := by
  obtain ⟨lo, hi, h1, h2, h3, h4⟩ := h
  refine ⟨lo, hi, h1.same ((Wrt.grown hg).same fun b hb => h4 b (hob b hb)), h2, Nat.le_trans h3 hg.size, fun g hg' => ?_⟩
  rcases ha g hg' with h | h
  · exact h4 g h
  · omega
theorem rows_nilv (lo : Nat) (w : World) : Rows lo lo w nilv [] [] :=
  ⟨⟨⟨none, 0, rfl, Nat.le_refl _, by omega, fun k u hu => by simp at hu⟩⟩, rfl, fun i => ⟨⟨none, 0, by simp, by simp, by omega, fun k u hu => by simp at hu⟩⟩⟩
theorem GrowV.ext (h : GrowV e sb s w v us uss xsss) (x : Ext w w') : GrowV e sb s w' v us uss xsss := ⟨@OwnN.ext _ _ _ _ _ _ x h.own, h.len, h.len', fun i hi => (h.at_ i hi).ext x⟩
theorem GrowV.rowss (h : GrowV e sb s w v us uss xsss) (hsb : s ≤ sb) (hs : s ≤ w.heap.size) : Rowss s w.heap.size w v us uss xsss := by
  refine ⟨h.own.toSl.mono hsb (Nat.le_refl _), h.len, h.len', fun i => ?_⟩
  by_cases hi : i < us.length
  · obtain ⟨lo, hi', h1, h2, h3, _⟩ := h.at_ i hi
    exact h1.mono h2 h3
  · have h1 := h.len
    have h2 := h.len'
    have e1 : us.getD i nilv = nilv := by rw [List.getD_eq_getElem?_getD, List.getElem?_eq_none (by omega)]; rfl
    have e2 : uss.getD i [] = [] := by rw [List.getD_eq_getElem?_getD, List.getElem?_eq_none (by omega)]; rfl
    have e3 : xsss.getD i [] = [] := by rw [List.getD_eq_getElem?_getD, List.getElem?_eq_none (by omega)]; rfl
    rw [e1, e2, e3]
    exact (rows_nilv s w).mono (Nat.le_refl _) hs
theorem GrowV.one {b : Nat} (ho : Own e b w2 v [u]) (hb : b = w1.heap.size) (hsb : sb ≤ b) (hu : Rows s w1.heap.size w1 u ut xss) (hs : s ≤ w1.heap.size) (x : Ext w1 w2) : GrowV e sb s w2 v [u] [ut] [xss] := by
  have h1 := x.size
  refine ⟨ho.toN.mono (by omega), rfl, rfl, fun i hi => ?_⟩
  obtain rfl : i = 0 := by simpa using hi
  refine ⟨s, w1.heap.size, hu.same (x.same _ _), Nat.le_refl _, h1, fun g hg => ?_⟩
  rw [ho.toN_block] at hg; injection hg with hg; omega
theorem GrowV.push (h : GrowV e sb s w0 v us uss xsss) (x01 : Ext w0 w1) (hu : Rows w0.heap.size w1.heap.size w1 u ut xss) (hs : s ≤ w0.heap.size) (x12 : Ext w1 w2)
    (ho : OwnN e sb w3 v' (us ++ [u])) (hg : w2.grownBy w3 v.ownBlock) (hv : v'.ownBlock = v.ownBlock ∨ v'.ownBlock = some w2.heap.size) : GrowV e sb s w3 v' (us ++ [u]) (uss ++ [ut]) (xsss ++ [xss]) := by
  have h1 := h.len
  have h2 := h.len'
  have hav : ∀ g, v'.ownBlock = some g → v.ownBlock = some g ∨ g = w2.heap.size := fun g hg' => by
    rcases hv with e | e
    · rw [e] at hg'; exact .inl hg'
    · rw [e] at hg'; injection hg' with hg'; exact .inr hg'.symm
  refine ⟨ho, by simp [h1], by simp [h2], fun i hi => ?_⟩
  by_cases hi2 : i < us.length
  · have e1 : (us ++ [u]).getD i nilv = us.getD i nilv := by simp [List.getElem?_append_left hi2]
    have e2 : (uss ++ [ut]).getD i [] = uss.getD i [] := by simp [List.getElem?_append_left (show i < uss.length by omega)]
    have e3 : (xsss ++ [xss]).getD i [] = xsss.getD i [] := by simp [List.getElem?_append_left (show i < xsss.length by omega)]
    rw [e1, e2, e3]
    exact ((h.at_ i hi2).ext (x01.trans x12)).beside hg (fun g e => e) hav
  · have hi3 : i = us.length := by simp at hi; omega
    have e1 : (us ++ [u]).getD i nilv = u := by rw [hi3]; simp
    have e2 : (uss ++ [ut]).getD i [] = ut := by rw [show i = uss.length by omega]; simp
    have e3 : (xsss ++ [xss]).getD i [] = xss := by rw [show i = xsss.length by omega]; simp
    rw [e1, e2, e3]
    have hr : RsA s (fun g => v.ownBlock = some g) w2 u ut xss := ⟨w0.heap.size, w1.heap.size, hu.same (x12.same _ _), hs, x12.size, fun g hg' => .inl (h.own.lt g hg').2⟩
    exact hr.beside hg (fun g e => e) hav
theorem OwnC.ext (h : OwnC s w v gs) (x : Ext w w') (hb : ∀ b, v.ownBlock = some b → b < w.heap.size) : OwnC s w' v gs :=
  ⟨h.own.ext x, h.off, fun q hq => (h.sp q hq).grow x fun b hb => .inl hb⟩
theorem OwnC.one {b : Nat} (ho : Own e b w2 v [u]) (hb : b = w1.heap.size) (hM : MatO s w1.heap.size w1 u rs) (hs : s ≤ w1.heap.size) (x : Ext w1 w2) : OwnC s w2 v [(u, rs)] := by
  have hvb := ho.toN_block
  have hf : flat [(u, rs)] = rs := flat_one _
  refine ⟨by rw [hf]; exact hM.own.ext x, fun b' hb' hB => ?_, fun q hq => ?_⟩
  · rw [hf] at hB
    rw [hvb] at hb'; injection hb' with hb'
    have := hM.lt _ hB
    omega
  · obtain rfl := List.mem_singleton.1 hq
    rw [hf]
    refine SpA.grow hM.sp x fun g hg => ?_
    rcases hg with hg | hg | hg
    · exact .inl (.inl hg)
    · exact .inl (.inr hg)
    · rw [hvb] at hg; injection hg with hg; exact .inr (by omega)
theorem OwnC.push (h : OwnC s w0 v gs) (hvl : ∀ b, v.ownBlock = some b → b < w0.heap.size) (x01 : Ext w0 w1) (hM : MatO w0.heap.size w1.heap.size w1 u rs) (hs : s ≤ w0.heap.size) (x12 : Ext w1 w2)
    (hg : w2.grownBy w3 v.ownBlock) (hv : v'.ownBlock = v.ownBlock ∨ v'.ownBlock = some w2.heap.size) : OwnC s w3 v' (gs ++ [(u, rs)]) := by
  have hz1 := x01.size
  have hz2 := x12.size
  have hf : flat (gs ++ [(u, rs)]) = flat gs ++ rs := by rw [flat_append, flat_one]
  have hav : ∀ g, v'.ownBlock = some g → v.ownBlock = some g ∨ g = w2.heap.size := fun g hg' => by
    rcases hv with e | e
    · rw [e] at hg'; exact .inl hg'
    · rw [e] at hg'; injection hg' with hg'; exact .inr hg'.symm
  have hoff : ∀ b, v.ownBlock = some b → ¬ BlkOf (flat gs ++ rs) b := fun b hb hB => by
    rcases blkOf_append'.1 hB with hB | hB
    · exact h.off b hb hB
    · have h1 := (hM.own.blk hB).1
      have h2 := hvl b hb
      omega
  have hO := (h.own.append x01 hs hM.own).ext x12
  refine ⟨?_, fun b hb hB => ?_, fun q hq => ?_⟩
  · rw [hf]
    exact hO.wr (Wrt.grown hg) fun b hb hB => hoff b hB hb
  · rw [hf] at hB
    rcases hav b hb with hb | hb
    · exact hoff b hb hB
    · rcases blkOf_append'.1 hB with hB | hB
      · have := (h.own.blk hB).2; omega
      · have := hM.lt b hB; omega
  · rw [hf]
    have key : SpA (fun b => BlkOf (flat gs ++ rs) b ∨ b < s ∨ v.ownBlock = some b ∨ b = w2.heap.size) w2 q.1 (q.2.map (·.1)) := by
      rcases List.mem_append.1 hq with hq | hq
      · refine SpA.grow (h.sp q hq) (x01.trans x12) fun b hb => ?_
        rcases hb with hb | hb | hb | hb
        · rcases blkOf_append'.1 hb with hb | hb
          · exact .inl (.inl hb)
          · exact .inr (hM.own.blk hb).1
        · exact .inl (.inr (.inl hb))
        · exact .inl (.inr (.inr hb))
        · exact .inr (by omega)
      · obtain rfl := List.mem_singleton.1 hq
        refine SpA.grow hM.sp x12 fun b hb => ?_
        rcases hb with hb | hb | hb | hb
        · rcases blkOf_append'.1 hb with hb | hb
          · exact .inl (.inr (h.own.blk hb).2)
          · exact .inl (.inl hb)
        · exact .inl (.inr (by omega))
        · exact .inl (.inr (hvl b hb))
        · exact .inr (by omega)
    refine (key.wr (Wrt.grown hg) fun b hb => .inr (.inr (.inl hb))).weak fun b hb => ?_
    rcases hb with hb | hb | hb
    · exact .inl hb
    · exact .inr (.inl hb)
    · rcases hav b hb with hb | hb
      · exact .inr (.inr (.inl hb))
      · exact .inr (.inr (.inr hb))
theorem OwnC.cub (h : OwnC s w v gs) (ho : OwnN e sb w v (gs.map (·.1))) (hsb : s ≤ sb) : CubO (fun b => BlkOf (flat gs) b ∨ b < s) w v gs := by
  refine ⟨?_, fun q hq => (h.sp q hq).weak fun b hb => hb.imp id .inl⟩
  cases hv : v.ownBlock with
  | none =>
    rcases ho.own.2 with ⟨rfl, h0⟩ | ⟨g, cap, cur, rfl, _⟩
    · have e0 : gs.map (·.1) = [] := List.eq_nil_of_length_eq_zero h0
      rw [e0]
      exact ⟨0, 0, ⟨⟨none, 0, rfl, Nat.le_refl _, by omega, fun k u hu => by simp at hu⟩⟩, fun b _ => .inr (Nat.zero_le _)⟩
    · cases hv
  | some k =>
    have hk := ho.lt k hv
    refine ⟨k, k + 1, ho.toSlAt hv, fun b hb => ?_⟩
    rcases hb with hb | hb
    · have : b ≠ k := fun e => h.off k hv (e ▸ hb)
      omega
    · omega
end
/-- A list of lists of rows that is the call's own, in blocks from s on, below t. -/
structure MatC (s t : Nat) (w : World) (v : Value) (gs : List (Value × List (Value × List Int))) : Prop where
  rows : Rowss s t w v (gs.map (·.1)) (gs.map fun q => q.2.map (·.1)) (gs.map fun q => q.2.map (·.2))
  own : RowsO s w (flat gs)
  lt : ∀ b, BlkOf (flat gs) b → b < t
  cub : CubO (fun b => BlkOf (flat gs) b ∨ b < s) w v gs
section
variable {e sb s s' t : Nat} {B : Nat → Prop} {w w' : World} {v : Value} {gs : List (Value × List (Value × List Int))}
theorem MatC.of (h : OwnC s w v gs) (hG : GrowV e sb s w v (gs.map (·.1)) (gs.map fun q => q.2.map (·.1)) (gs.map fun q => q.2.map (·.2))) (hsb : s ≤ sb) (hs : s ≤ w.heap.size) : MatC s w.heap.size w v gs :=
  ⟨hG.rowss hsb hs, h.own, fun b hb => (h.own.blk hb).2, h.cub hG.own hsb⟩
theorem MatC.lower (h : MatC s t w v gs) (hs : s' ≤ s) : MatC s' t w v gs :=
  ⟨⟨h.rows.sl.mono hs (Nat.le_refl _), h.rows.vals.len, h.rows.vals.len', fun i => (h.rows.vals.at_ i).mono hs (Nat.le_refl _)⟩, h.own.mono hs, h.lt,
    ⟨h.cub.sp0.weak fun b hb => hb.imp id fun hb => by omega, fun q hq => (h.cub.sp q hq).weak fun b hb => hb.imp id fun hb => by omega⟩⟩
theorem MatC.wr (h : MatC s t w v gs) (k : Wrt B w w') (hb : ∀ b, B b → b < s ∨ t ≤ b) : MatC s t w' v gs := by
  refine ⟨h.rows.same (k.same hb), h.own.wr k (fun b hR hB => by
    have h1 := h.lt b hR
    have h2 := (h.own.blk hR).1
    have := hb b hB; omega), h.lt, ⟨h.cub.sp0.wr' k h.rows.sl hb, fun q hq => ?_⟩⟩
  obtain ⟨i, hi, rfl⟩ := List.getElem_of_mem hq
  have h1 := (h.rows.vals.at_ i).sl
  have e1 : (gs.map (·.1)).getD i nilv = gs[i].1 := by simp [hi]
  have e2 : (gs.map fun q => q.2.map (·.1)).getD i [] = gs[i].2.map (·.1) := by simp [hi]
  rw [e1, e2] at h1
  exact (h.cub.sp _ hq).wr' k h1 hb
end
section
variable {P : Program} {N : Nat} {ops : Array Oper} {K : Env → World → Prop} {ρ : Env} {w0 w1 : World} {l : List Oper}
variable {ty ty2 : TypeId} {pos pos2 : String} {after after2 : Array Edge} {g g2 : Option (Nat × Bool)} {d d2 : Nat}
end
end Go.Pc

/-
  A homomorphism's value, and one of the call's own; stores into a part of a block.
  Conditions: none; nothing of the program stands here.
-/
namespace Go.Pc
open Go Go.RowKit
class HomV (lo hi : outParam Nat) (w : World) (v : Value) (p q : outParam Pr) (xss : outParam (List (List Int))) : Prop where
  ex : ∃ a0 a1 a2 a3 a4 a5 a6 us, v = .agg #[a0, a1, a2, a3, a4, a5, a6] ∧ Pres lo hi w (.agg #[a0, a1, a2]) p ∧ Pres lo hi w (.agg #[a3, a4, a5]) q ∧ Rows lo hi w a6 us xss
structure HomO (s t : Nat) (w : World) (v : Value) (p q : Pr) (rs : List (Value × List Int)) : Prop where
  ex : ∃ a0 a1 a2 a3 a4 a5 a6 m0 m1 m2 m3, v = .agg #[a0, a1, a2, a3, a4, a5, a6] ∧ s ≤ m0 ∧ m0 ≤ m1 ∧ m1 ≤ m2 ∧ m2 ≤ m3 ∧ m3 ≤ t ∧ PresO m0 m1 w (.agg #[a0, a1, a2]) p ∧ PresO m1 m2 w (.agg #[a3, a4, a5]) q ∧ MatO m2 m3 w a6 rs
section
variable {lo hi lo' hi' s t b : Nat} {w w' : World} {v : Value} {p q : Pr} {xss : List (List Int)} {rs : List (Value × List Int)} {B : Nat → Prop}
theorem Pres.mono (h : Pres lo hi w v p) (h1 : lo' ≤ lo) (h2 : hi ≤ hi') : Pres lo' hi' w v p := by
  obtain ⟨vo, vp, vc, ps, cs, css, rfl, k1, k2, k3⟩ := h.ex
  exact ⟨⟨vo, vp, vc, ps, cs, css, rfl, k1.mono h1 h2, k2.mono h1 h2, ⟨k3.sl.mono h1 h2, k3.vals.len, k3.vals.len', fun i => (k3.vals.at_ i).mono h1 h2⟩⟩⟩
theorem Pres.one3 {a0 a1 a2 : Value} (h : Pres lo hi w (.agg #[a0, a1, a2]) p) : a0.oneCell' = true ∧ a1.oneCell' = true ∧ a2.oneCell' = true := by
  obtain ⟨vo, vp, vc, ps, cs, css, e, h1, h2, h3⟩ := h.ex
  injection e with e
  have e0 : a0 = vo := by have := congrArg (fun a : Array Value => a.getD 0 undef) e; simpa using this
  have e1 : a1 = vp := by have := congrArg (fun a : Array Value => a.getD 1 undef) e; simpa using this
  have e2 : a2 = vc := by have := congrArg (fun a : Array Value => a.getD 2 undef) e; simpa using this
  subst e0 e1 e2
  exact ⟨h1.sl.one, h2.sl.one, h3.sl.one⟩
theorem HomV.same (h : HomV lo hi w v p q xss) (k : Same lo hi w w') : HomV lo hi w' v p q xss := by
  obtain ⟨a0, a1, a2, a3, a4, a5, a6, us, rfl, h1, h2, h3⟩ := h.ex
  exact ⟨⟨a0, a1, a2, a3, a4, a5, a6, us, rfl, h1.same k, h2.same k, h3.same k⟩⟩
theorem HomV.wide (h : HomV lo hi w v p q xss) : HomV 0 w.heap.size w v p q xss := by
  obtain ⟨a0, a1, a2, a3, a4, a5, a6, us, rfl, h1, h2, h3⟩ := h.ex
  exact ⟨⟨a0, a1, a2, a3, a4, a5, a6, us, rfl, h1.wide, h2.wide, h3.wide⟩⟩
instance (priority := low) HomV.ext [x : Ext w w'] [h : HomV lo hi w v p q xss] : HomV lo hi w' v p q xss := h.same (x.same _ _)
instance (priority := low) HomV.chg [c : Chg b w w'] [h : HomV lo hi w v p q xss] [a : Apart lo hi b] : HomV lo hi w' v p q xss := h.same (c.same a.out)
theorem HomO.hom (h : HomO s t w v p q rs) : HomV s t w v p q (rs.map (·.2)) := by
  obtain ⟨a0, a1, a2, a3, a4, a5, a6, m0, m1, m2, m3, rfl, l0, l1, l2, l3, l4, h1, h2, h3⟩ := h.ex
  exact ⟨⟨a0, a1, a2, a3, a4, a5, a6, _, rfl, h1.pres.mono (by omega) (by omega), h2.pres.mono (by omega) (by omega), h3.rows.mono (by omega) (by omega)⟩⟩
theorem HomO.wr (h : HomO s t w v p q rs) (k : Wrt B w w') (hb : ∀ b, B b → b < s ∨ t ≤ b) : HomO s t w' v p q rs := by
  obtain ⟨a0, a1, a2, a3, a4, a5, a6, m0, m1, m2, m3, rfl, l0, l1, l2, l3, l4, h1, h2, h3⟩ := h.ex
  exact ⟨a0, a1, a2, a3, a4, a5, a6, m0, m1, m2, m3, rfl, l0, l1, l2, l3, l4, h1.wr k (fun b h => by have := hb b h; omega), h2.wr k (fun b h => by have := hb b h; omega), h3.wr k (fun b h => by have := hb b h; omega)⟩
theorem Blk.cells7 {a0 a1 a2 a3 a4 a5 a6 : Value} (h : Blk w b [a0, a1, a2, a3, a4, a5, a6]) : Cell w b 0 a0 ∧ Cell w b 1 a1 ∧ Cell w b 2 a2 ∧ Cell w b 3 a3 ∧ Cell w b 4 a4 ∧ Cell w b 5 a5 ∧ Cell w b 6 a6 :=
  ⟨h.cell rfl, h.cell rfl, h.cell rfl, h.cell rfl, h.cell rfl, h.cell rfl, h.cell rfl⟩
end
section
variable {P : Program} {N : Nat} {ops : Array Oper} {K : Env → World → Prop} {l : List Oper} {ρ : Env} {w : World} {ty : TypeId} {pos : String} {after : Array Edge} {g : Option (Nat × Bool)}
end
section
variable {P : Program} {N : Nat} {ops : Array Oper} {ρ : Env} {w w0 : World}
end
section
variable {lo hi b : Nat} {w w' : World} {v : Value} {p q : Pr} {xss : List (List Int)}
/-- A block that holds a homomorphism. -/
class HomB (w : World) (b : Nat) (p q : outParam Pr) (xss : outParam (List (List Int))) : Prop where
  ex : ∃ a0 a1 a2 a3 a4 a5 a6 us, Cell w b 0 a0 ∧ Cell w b 1 a1 ∧ Cell w b 2 a2 ∧ Cell w b 3 a3 ∧ Cell w b 4 a4 ∧ Cell w b 5 a5 ∧ Cell w b 6 a6 ∧ Pres 0 w.heap.size w (.agg #[a0, a1, a2]) p ∧ Pres 0 w.heap.size w (.agg #[a3, a4, a5]) q ∧ Rows 0 w.heap.size w a6 us xss
theorem HomB.ext' (h : HomB w b p q xss) (x : Ext w w') : HomB w' b p q xss := by
  obtain ⟨a0, a1, a2, a3, a4, a5, a6, us, c0, c1, c2, c3, c4, c5, c6, hp, hq, hx⟩ := h.ex
  exact ⟨⟨a0, a1, a2, a3, a4, a5, a6, us, c0.same (x.same _ _) x.size, c1.same (x.same _ _) x.size, c2.same (x.same _ _) x.size, c3.same (x.same _ _) x.size, c4.same (x.same _ _) x.size, c5.same (x.same _ _) x.size, c6.same (x.same _ _) x.size,
    (hp.same (x.same _ _)).wide, (hq.same (x.same _ _)).wide, (hx.same (x.same _ _)).wide⟩⟩
instance (priority := low) HomB.ext [x : Ext w w'] [h : HomB w b p q xss] : HomB w' b p q xss := h.ext' x
/-- The block that a homomorphism given by value is put into. -/
theorem HomV.boxed {a0 a1 a2 a3 a4 a5 a6 : Value} (h : HomV lo hi w (.agg #[a0, a1, a2, a3, a4, a5, a6]) p q xss) (x : Ext w w') (hb : Blk w' b [a0, a1, a2, a3, a4, a5, a6]) : HomB w' b p q xss := by
  obtain ⟨d0, d1, d2, d3, d4, d5, d6, us, e, hp, hq, hx⟩ := h.ex
  injection e with e
  have f : ∀ i, (#[a0, a1, a2, a3, a4, a5, a6] : Array Value).getD i undef = (#[d0, d1, d2, d3, d4, d5, d6] : Array Value).getD i undef := fun i => by rw [e]
  obtain rfl : a0 = d0 := by simpa using f 0
  obtain rfl : a1 = d1 := by simpa using f 1
  obtain rfl : a2 = d2 := by simpa using f 2
  obtain rfl : a3 = d3 := by simpa using f 3
  obtain rfl : a4 = d4 := by simpa using f 4
  obtain rfl : a5 = d5 := by simpa using f 5
  obtain rfl : a6 = d6 := by simpa using f 6
  obtain ⟨c0, c1, c2, c3, c4, c5, c6⟩ := hb.cells7
  exact ⟨⟨_, _, _, _, _, _, _, us, c0, c1, c2, c3, c4, c5, c6, (hp.same (x.same _ _)).wide, (hq.same (x.same _ _)).wide, (hx.same (x.same _ _)).wide⟩⟩
end
end Go.Pc

/-
  Three lists that grow side by side, fields of one struct: what each takes up, and that none touches another.
  Conditions: none; nothing of the program stands here.
-/
namespace Go.Pc
open Go Go.RowKit
section
variable {A B : Nat → Prop} {e e' eo ep ec ei s s' : Nat} {w w' w0 w1 w2 w3 : World} {v v' u vo vo' vp vp' vc vc' : Value} {us : List Value} {xs ord : List Int} {rs rp : List (Value × List Int)} {gs : List (Value × List (Value × List Int))}
theorem OwnN.wr (h : OwnN e s w v us) (k : Wrt B w w') (hb : ∀ b, v.ownBlock = some b → ¬ B b) : OwnN e s w' v us := by
  induction k with
  | refl => exact h
  | step _ hB c ih => exact ih.other c (fun e => hb _ e hB)
  | grow _ x ih => exact @OwnN.ext _ _ _ _ _ _ x ih
theorem OwnN.spA (h : OwnN e s w v us) (hA : ∀ b, v.ownBlock = some b → ¬ A b) : SpA A w v us := by
  cases hv : v.ownBlock with
  | none =>
    rcases h.own.2 with ⟨rfl, h0⟩ | ⟨g, cap, cur, rfl, _⟩
    · have e0 : us = [] := List.eq_nil_of_length_eq_zero h0
      subst e0
      exact ⟨0, 0, ⟨⟨none, 0, rfl, Nat.le_refl _, by omega, fun k u hu => by simp at hu⟩⟩, fun b _ => .inr (Nat.zero_le _)⟩
    · cases hv
  | some g => exact ⟨g, g + 1, h.toSlAt hv, fun b hb => by
      have : b ≠ g := fun e => hA g hv (e ▸ hb)
      omega⟩
structure GrL (e s : Nat) (w : World) (v : Value) (rs : List (Value × List Int)) : Prop where
  own : OwnN e s w v (rs.map (·.1))
  rows : RowsO s w rs
  off : ∀ b, v.ownBlock = some b → ¬ BlkOf rs b
/-- What a list of rows takes up. -/
def FL (v : Value) (rs : List (Value × List Int)) (b : Nat) : Prop := v.ownBlock = some b ∨ BlkOf rs b
theorem GrL.of (h : GrowL e s w v rs) : GrL e s w v rs := ⟨h.lst.own, h.own, fun _ hb hB => h.lst.off h.own hB hb⟩
theorem GrL.wr (h : GrL e s w v rs) (k : Wrt B w w') (hb : ∀ b, FL v rs b → ¬ B b) : GrL e s w' v rs :=
  ⟨h.own.wr k fun b hB => hb b (.inl hB), h.rows.wr k fun b hB => hb b (.inr hB), h.off⟩
theorem GrL.lt (h : GrL e s w v rs) {b : Nat} (hb : FL v rs b) : s ≤ b ∧ b < w.heap.size := by
  rcases hb with hb | hb
  · exact h.own.lt b hb
  · exact h.rows.blk hb
theorem GrL.grow (h : GrL e s w v rs) (hs : s ≤ w.heap.size) : GrowL e s w v rs := by
  refine ⟨⟨h.own, ⟨by simp, fun i => ?_⟩, fun g hg hB => by have := (h.own.lt g hg).1; omega, fun g hg => by omega⟩, h.rows⟩
  by_cases hi : i < rs.length
  · have e1 : (rs.map (·.1)).getD i nilv = rs[i].1 := by simp [hi]
    have e2 : (rs.map (·.2)).getD i [] = rs[i].2 := by simp [hi]
    rw [e1, e2]
    have hf := h.rows.fr _ (List.getElem_mem hi)
    by_cases hn : rs[i].2 = []
    · rw [hn] at hf ⊢
      obtain ⟨X, c, hv, hc, hm, _⟩ := hf.ints.sl.ex
      exact ⟨0, 0, ⟨⟨X, c, hv, hc, hm, fun k u hu => by simp at hu⟩⟩, Nat.zero_le _, fun g _ => .inr (Nat.zero_le _)⟩
    · obtain ⟨te, b, hb, ho⟩ := hf.own hn
      refine ⟨b, b + 1, ⟨ho.own.toSl⟩, ho.lt, fun g hg => ?_⟩
      rcases hg with hg | hg
      · omega
      · have : g ≠ b := fun e => h.off g hg (e ▸ ⟨_, List.getElem_mem hi, hn, ho.block⟩)
        omega
  · have e1 : (rs.map (·.1)).getD i nilv = nilv := by rw [List.getD_eq_getElem?_getD, List.getElem?_eq_none (by simp; omega)]; rfl
    have e2 : (rs.map (·.2)).getD i [] = [] := by rw [List.getD_eq_getElem?_getD, List.getElem?_eq_none (by simp; omega)]; rfl
    rw [e1, e2]
    exact IntsAp.nil _ _
theorem Rows.ofOwn (h : OwnN e s w v (rs.map (·.1))) (hf : ∀ r, r ∈ rs → Fr s w r.1 r.2) (hs : s ≤ w.heap.size) : Rows s w.heap.size w v (rs.map (·.1)) (rs.map (·.2)) := by
  refine ⟨h.toSl, by simp, fun i => ?_⟩
  by_cases hi : i < rs.length
  · have e1 : (rs.map (·.1)).getD i nilv = rs[i].1 := by simp [hi]
    have e2 : (rs.map (·.2)).getD i [] = rs[i].2 := by simp [hi]
    rw [e1, e2]
    exact (hf _ (List.getElem_mem hi)).ints
  · have e1 : (rs.map (·.1)).getD i nilv = nilv := by rw [List.getD_eq_getElem?_getD, List.getElem?_eq_none (by simp; omega)]; rfl
    have e2 : (rs.map (·.2)).getD i [] = [] := by rw [List.getD_eq_getElem?_getD, List.getElem?_eq_none (by simp; omega)]; rfl
    rw [e1, e2]
    exact ⟨⟨none, 0, by simp, by simp, by omega, fun k u hu => by simp at hu⟩⟩
structure GrC (e e' s : Nat) (w : World) (v : Value) (gs : List (Value × List (Value × List Int))) : Prop where
  own : OwnN e s w v (gs.map (·.1))
  inn : ∀ q, q ∈ gs → OwnN e' s w q.1 (q.2.map (·.1))
  rows : RowsO s w (flat gs)
  off : ∀ b, v.ownBlock = some b → ¬ BlkOf (flat gs) b ∧ ∀ q, q ∈ gs → q.1.ownBlock ≠ some b
  offi : ∀ q, q ∈ gs → ∀ b, q.1.ownBlock = some b → ¬ BlkOf (flat gs) b
/-- What a list of lists of rows takes up. -/
def FC (v : Value) (gs : List (Value × List (Value × List Int))) (b : Nat) : Prop := v.ownBlock = some b ∨ (∃ q, q ∈ gs ∧ q.1.ownBlock = some b) ∨ BlkOf (flat gs) b
theorem GrC.nil (e e' s : Nat) (w : World) : GrC e e' s w nilv [] := ⟨OwnN.nil _ _ _, fun q h => (by cases h), RowsO.nil _ _, fun b h => (by cases h), fun q h => (by cases h)⟩
theorem GrC.wr (h : GrC e e' s w v gs) (k : Wrt B w w') (hb : ∀ b, FC v gs b → ¬ B b) : GrC e e' s w' v gs :=
  ⟨h.own.wr k fun b hB => hb b (.inl hB), fun q hq => (h.inn q hq).wr k fun b hB => hb b (.inr (.inl ⟨q, hq, hB⟩)), h.rows.wr k fun b hB => hb b (.inr (.inr hB)), h.off, h.offi⟩
theorem GrC.lt (h : GrC e e' s w v gs) {b : Nat} (hb : FC v gs b) : s ≤ b ∧ b < w.heap.size := by
  rcases hb with hb | ⟨q, hq, hb⟩ | hb
  · exact h.own.lt b hb
  · exact (h.inn q hq).lt b hb
  · exact h.rows.blk hb
theorem FC.push {b : Nat} (hL : GrL e' w0.heap.size w1 u rs) (x01 : Ext w0 w1) (x12 : Ext w1 w2) (hv : v'.ownBlock = v.ownBlock ∨ v'.ownBlock = some w2.heap.size) (h : FC v' (gs ++ [(u, rs)]) b) : FC v gs b ∨ w0.heap.size ≤ b := by
  have z1 := x01.size
  have z2 := x12.size
  rcases h with h | ⟨q, hq, h⟩ | h
  · rcases hv with e | e
    · exact .inl (.inl (e ▸ h))
    · rw [e] at h; injection h with h; exact .inr (by omega)
  · rcases List.mem_append.1 hq with hq | hq
    · exact .inl (.inr (.inl ⟨q, hq, h⟩))
    · obtain rfl := List.mem_singleton.1 hq
      exact .inr (hL.own.lt b h).1
  · rw [flat_append, flat_one] at h
    rcases blkOf_append'.1 h with h | h
    · exact .inl (.inr (.inr h))
    · exact .inr (hL.rows.blk h).1
theorem GrC.push (h : GrC e e' s w0 v gs) (x01 : Ext w0 w1) (hL : GrL e' w0.heap.size w1 u rs) (hs : s ≤ w0.heap.size) (x12 : Ext w1 w2)
    (ho : OwnN e s w3 v' (gs.map (·.1) ++ [u])) (hg : w2.grownBy w3 v.ownBlock) (hv : v'.ownBlock = v.ownBlock ∨ v'.ownBlock = some w2.heap.size) : GrC e e' s w3 v' (gs ++ [(u, rs)]) := by
  have z1 := x01.size
  have z2 := x12.size
  have x02 := x01.trans x12
  have hvl : ∀ b, v.ownBlock = some b → b < w0.heap.size := fun b hb => (h.own.lt b hb).2
  have hvn : ∀ b, v'.ownBlock = some b → (v.ownBlock = some b ∨ b = w2.heap.size) := fun b hb => by
    rcases hv with e | e
    · exact .inl (e ▸ hb)
    · rw [e] at hb; injection hb with hb; exact .inr hb.symm
  have k23 : Wrt (fun b => v.ownBlock = some b) w2 w3 := Wrt.grown hg
  have hI : ∀ q, q ∈ gs ++ [(u, rs)] → OwnN e' s w2 q.1 (q.2.map (·.1)) ∧ ∀ b, q.1.ownBlock = some b → v.ownBlock ≠ some b := fun q hq => by
    rcases List.mem_append.1 hq with hq | hq
    · exact ⟨@OwnN.ext _ _ _ _ _ _ x02 (h.inn q hq), fun b hb hB => (h.off b hB).2 q hq hb⟩
    · obtain rfl := List.mem_singleton.1 hq
      exact ⟨(@OwnN.ext _ _ _ _ _ _ x12 hL.own).mono hs, fun b hb hB => by have := hvl b hB; have := (hL.own.lt b hb).1; omega⟩
  have hR : RowsO s w2 (flat (gs ++ [(u, rs)])) := by
    rw [flat_append, flat_one]
    exact (h.rows.append x01 hs hL.rows).ext x12
  have hRv : ∀ b, BlkOf (flat (gs ++ [(u, rs)])) b → v.ownBlock ≠ some b := fun b hb hB => by
    rw [flat_append, flat_one] at hb
    rcases blkOf_append'.1 hb with hb | hb
    · exact (h.off b hB).1 hb
    · have := hvl b hB; have := (hL.rows.blk hb).1; omega
  refine ⟨by simpa using ho, fun q hq => (hI q hq).1.wr k23 (hI q hq).2, hR.wr k23 hRv, fun b hb => ⟨fun hB => ?_, fun q hq hB => ?_⟩, fun q hq b hb hB => ?_⟩
  · rcases hvn b hb with hb | rfl
    · exact hRv b hB hb
    · have := (hR.blk hB).2; omega
  · rcases hvn b hb with hb | rfl
    · exact (hI q hq).2 b hB hb
    · have := ((hI q hq).1.lt _ hB).2; omega
  · rw [flat_append, flat_one] at hB
    rcases List.mem_append.1 hq with hq | hq
    · rcases blkOf_append'.1 hB with hB | hB
      · exact h.offi q hq b hb hB
      · have := ((h.inn q hq).lt b hb).2; have := (hL.rows.blk hB).1; omega
    · obtain rfl := List.mem_singleton.1 hq
      rcases blkOf_append'.1 hB with hB | hB
      · have := (h.rows.blk hB).2; have := (hL.own.lt b hb).1; omega
      · exact hL.off b hb hB
/-- The three lists. -/
structure Tri (eo ep ec ei s : Nat) (w : World) (vo : Value) (ord : List Int) (vp : Value) (rp : List (Value × List Int)) (vc : Value) (gs : List (Value × List (Value × List Int))) : Prop where
  o : OwnN eo s w vo (ord.map (Value.int .i64))
  p : GrL ep s w vp rp
  c : GrC ec ei s w vc gs
  op : ∀ b, vo.ownBlock = some b → ¬ FL vp rp b
  oc : ∀ b, vo.ownBlock = some b → ¬ FC vc gs b
  pc : ∀ b, FL vp rp b → ¬ FC vc gs b
  lo : s ≤ w.heap.size
theorem Tri.nil (eo ep ec ei s : Nat) (w : World) (hs : s ≤ w.heap.size) : Tri eo ep ec ei s w nilv [] nilv [] nilv [] :=
  ⟨OwnN.nil _ _ _, ⟨OwnN.nil _ _ _, RowsO.nil _ _, fun b h => (by cases h)⟩, GrC.nil _ _ _ _, fun b h => (by cases h), fun b h => (by cases h), fun b h => (by
    rcases h with h | ⟨r, hr, _⟩
    · cases h
    · cases hr), hs⟩
theorem Tri.wr (h : Tri eo ep ec ei s w vo ord vp rp vc gs) (k : Wrt B w w') (hB : ∀ b, B b → b < s) : Tri eo ep ec ei s w' vo ord vp rp vc gs :=
  ⟨h.o.wr k fun b hb hb' => by have := (h.o.lt b hb).1; have := hB b hb'; omega, h.p.wr k fun b hb hb' => by have := (h.p.lt hb).1; have := hB b hb'; omega,
   h.c.wr k fun b hb hb' => by have := (h.c.lt hb).1; have := hB b hb'; omega, h.op, h.oc, h.pc, Nat.le_trans h.lo k.size⟩
theorem Tri.ext (h : Tri eo ep ec ei s w vo ord vp rp vc gs) (x : Ext w w') : Tri eo ep ec ei s w' vo ord vp rp vc gs := h.wr (.ofExt (B := fun _ => False) x) fun b hb => hb.elim
theorem GStep.wrt (h : GStep w w' v v') : Wrt (fun b => v.ownBlock = some b) w w' := by
  obtain ⟨w2, x, hg, _⟩ := h.ex
  exact (Wrt.ofExt x).trans (Wrt.grown hg)
theorem GStep.new (h : GStep w w' v v') {b : Nat} (hb : v'.ownBlock = some b) : v.ownBlock = some b ∨ w.heap.size ≤ b := by
  obtain ⟨w2, x, hg, e | e⟩ := h.ex
  · exact .inl (e ▸ hb)
  · rw [e] at hb; injection hb with hb; have := x.size; exact .inr (by omega)
theorem Tri.pushO {k : Int} (h : Tri eo ep ec ei s w0 vo ord vp rp vc gs) (x01 : Ext w0 w1) (hG : OwnN eo s w' vo' ((ord ++ [k]).map (Value.int .i64))) (hst : GStep w1 w' vo vo') : Tri eo ep ec ei s w' vo' (ord ++ [k]) vp rp vc gs := by
  have h1 := h.ext x01
  have k1 := hst.wrt
  refine ⟨hG, h1.p.wr k1 fun b hb hB => h.op b hB hb, h1.c.wr k1 fun b hb hB => h.oc b hB hb, fun b hb hB => ?_, fun b hb hB => ?_, h.pc, Nat.le_trans h1.lo k1.size⟩
  · rcases hst.new hb with hb | hb
    · exact h.op b hb hB
    · have := (h1.p.lt hB).2; omega
  · rcases hst.new hb with hb | hb
    · exact h.oc b hb hB
    · have := (h1.c.lt hB).2; omega
theorem FL.push {b : Nat} (hu : Fr w0.heap.size w1 u xs) (x01 : Ext w0 w1) (hst : GStep w1 w' v v') (h : FL v' (rs ++ [(u, xs)]) b) : FL v rs b ∨ w0.heap.size ≤ b := by
  have z1 := x01.size
  rcases h with h | h
  · rcases hst.new h with h | h
    · exact .inl (.inl h)
    · exact .inr (by omega)
  · rcases blkOf_append'.1 h with h | ⟨r, hr, hn, eb⟩
    · exact .inl (.inr h)
    · obtain rfl := List.mem_singleton.1 hr
      obtain ⟨g, e1, e2, _⟩ := hu.block hn
      rw [eb] at e1; injection e1 with e1
      exact .inr (by omega)
theorem Tri.pushP (h : Tri eo ep ec ei s w0 vo ord vp rp vc gs) (x01 : Ext w0 w1) (hu : Fr w0.heap.size w1 u xs) (hG : GrowL ep s w' vp' (rp ++ [(u, xs)])) (hst : GStep w1 w' vp vp') : Tri eo ep ec ei s w' vo ord vp' (rp ++ [(u, xs)]) vc gs := by
  have h1 := h.ext x01
  have k1 := hst.wrt
  refine ⟨h1.o.wr k1 fun b hb hB => h.op b hb (.inl hB), GrL.of hG, h1.c.wr k1 fun b hb hB => h.pc b (.inl hB) hb, fun b hb hB => ?_, h.oc, fun b hb hB => ?_, Nat.le_trans h1.lo k1.size⟩
  · rcases FL.push hu x01 hst hB with hB | hB
    · exact h.op b hb hB
    · have := (h.o.lt b hb).2; omega
  · rcases FL.push hu x01 hst hb with hb | hb
    · exact h.pc b hb hB
    · have := (h.c.lt hB).2; omega
theorem Tri.pushC (h : Tri eo ep ec ei s w0 vo ord vp rp vc gs) (x01 : Ext w0 w1) (hL : GrL ei w0.heap.size w1 u rs) (x12 : Ext w1 w2)
    (ho : OwnN ec s w3 vc' (gs.map (·.1) ++ [u])) (hg : w2.grownBy w3 vc.ownBlock) (hv : vc'.ownBlock = vc.ownBlock ∨ vc'.ownBlock = some w2.heap.size) : Tri eo ep ec ei s w3 vo ord vp rp vc' (gs ++ [(u, rs)]) := by
  have h2 := h.ext (x01.trans x12)
  have k1 := Wrt.grown hg
  refine ⟨h2.o.wr k1 fun b hb hB => h.oc b hb (.inl hB), h2.p.wr k1 fun b hb hB => h.pc b hb (.inl hB), h.c.push x01 hL h.lo x12 ho hg hv, h.op, fun b hb hB => ?_, fun b hb hB => ?_, Nat.le_trans h2.lo k1.size⟩
  · rcases FC.push hL x01 x12 hv hB with hB | hB
    · exact h.oc b hb hB
    · have := (h.o.lt b hb).2; omega
  · rcases FC.push hL x01 x12 hv hB with hB | hB
    · exact h.pc b hb hB
    · have := (h.p.lt hb).2; omega
theorem Tri.rowss (h : Tri eo ep ec ei s w vo ord vp rp vc gs) : Rowss s w.heap.size w vc (gs.map (·.1)) (gs.map fun q => q.2.map (·.1)) (gs.map fun q => q.2.map (·.2)) := by
  refine ⟨h.c.own.toSl, by simp, by simp, fun i => ?_⟩
  by_cases hi : i < gs.length
  · have e1 : (gs.map (·.1)).getD i nilv = gs[i].1 := by simp [hi]
    have e2 : (gs.map fun q => q.2.map (·.1)).getD i [] = gs[i].2.map (·.1) := by simp [hi]
    have e3 : (gs.map fun q => q.2.map (·.2)).getD i [] = gs[i].2.map (·.2) := by simp [hi]
    rw [e1, e2, e3]
    refine Rows.ofOwn (h.c.inn _ (List.getElem_mem hi)) (fun r hr => h.c.rows.fr r ?_) h.lo
    exact List.mem_flatten.2 ⟨gs[i].2, List.mem_map.2 ⟨gs[i], List.getElem_mem hi, rfl⟩, hr⟩
  · have e1 : (gs.map (·.1)).getD i nilv = nilv := by rw [List.getD_eq_getElem?_getD, List.getElem?_eq_none (by simp; omega)]; rfl
    have e2 : (gs.map fun q => q.2.map (·.1)).getD i [] = [] := by rw [List.getD_eq_getElem?_getD, List.getElem?_eq_none (by simp; omega)]; rfl
    have e3 : (gs.map fun q => q.2.map (·.2)).getD i [] = [] := by rw [List.getD_eq_getElem?_getD, List.getElem?_eq_none (by simp; omega)]; rfl
    rw [e1, e2, e3]
    exact (rows_nilv s w).mono (Nat.le_refl _) h.lo
theorem Tri.pres (h : Tri eo ep ec ei s w vo ord vp rp vc gs) : PresO s w.heap.size w (.agg #[vo, vp, vc]) ⟨ord, rp.map (·.2), gs.map fun q => q.2.map (·.2)⟩ := by
  have hfo := h.o.toFr
  have hO : RowsO s w ((vo, ord) :: (rp ++ flat gs)) := by
    refine ⟨fun r hr => ?_, List.pairwise_cons.2 ⟨fun r hr h1 h2 e => ?_, List.pairwise_append.2 ⟨h.p.rows.sep, h.c.rows.sep, fun a ha b hb h1 h2 e => ?_⟩⟩⟩
    · rcases List.mem_cons.1 hr with rfl | hr
      · exact hfo
      · rcases List.mem_append.1 hr with hr | hr
        · exact h.p.rows.fr r hr
        · exact h.c.rows.fr r hr
    · obtain ⟨g, e1, _⟩ := hfo.block h1
      rcases List.mem_append.1 hr with hr | hr
      · exact h.op g e1 (.inr ⟨r, hr, h2, e ▸ e1⟩)
      · exact h.oc g e1 (.inr (.inr ⟨r, hr, h2, e ▸ e1⟩))
    · obtain ⟨g, e1, _⟩ := (h.p.rows.fr a ha).block h1
      exact h.pc g (.inr ⟨a, ha, h1, e1⟩) (.inr (.inr ⟨b, hb, h2, e ▸ e1⟩))
  have hp : ∀ b, vp.ownBlock = some b → ¬ BlkOf ((vo, ord) :: (rp ++ flat gs)) b := fun b hb ⟨r, hr, hn, e⟩ => by
    rcases List.mem_cons.1 hr with rfl | hr
    · exact h.op b e (.inl hb)
    · rcases List.mem_append.1 hr with hr | hr
      · exact h.p.off b hb ⟨r, hr, hn, e⟩
      · exact h.pc b (.inl hb) (.inr (.inr ⟨r, hr, hn, e⟩))
  have hc : ∀ b, (vc.ownBlock = some b ∨ ∃ q, q ∈ gs ∧ q.1.ownBlock = some b) → ¬ BlkOf ((vo, ord) :: (rp ++ flat gs)) b := fun b hb ⟨r, hr, hn, e⟩ => by
    have hF : FC vc gs b := hb.imp id .inl
    rcases List.mem_cons.1 hr with rfl | hr
    · exact h.oc b e hF
    · rcases List.mem_append.1 hr with hr | hr
      · exact h.pc b (.inr ⟨r, hr, hn, e⟩) hF
      · rcases hb with hb | ⟨q, hq, hb⟩
        · exact (h.c.off b hb).1 ⟨r, hr, hn, e⟩
        · exact h.c.offi q hq b hb ⟨r, hr, hn, e⟩
  exact ⟨vo, vp, vc, rp, gs, rfl, hO, fun b hb => (hO.blk hb).2, h.p.own.spA hp, ⟨h.c.own.spA fun b hb => hc b (.inl hb), fun q hq => (h.c.inn q hq).spA fun b hb => hc b (.inr ⟨q, hq, hb⟩)⟩, rfl, rfl, hfo.ints, Rows.ofOwn h.p.own h.p.rows.fr h.lo, h.rowss⟩
end
end Go.Pc

/-
  A struct of three lists that is built up field by field: the append of a row to a list of lists, the store of a field that ends a drawn region, what stays.
  Conditions: none; nothing of the program stands here.
-/
namespace Go.Pc
open Go Go.RowKit
section
variable {P : Program} {N : Nat} {ops : Array Oper} {π : List Nat} {S : World → Prop} {K : Env → World → Prop} {ρ : Env} {w w0 w1 w00 : World} {l : List Oper}
variable {i : Nat} {ty ty2 : TypeId} {pos pos2 : String} {after after2 : Array Edge} {g g2 : Option (Nat × Bool)} {d d2 : Nat}
/-- 'append(s, x)', x of one cell, s the call's own. -/
theorem st_growu {s x : Operand} {t e bytes sb : Nat} {z v u : Value} {us : List Value} [ht : SlT P t e] [he : ElT P e 1 bytes z] (hO : OwnN e sb w1 v us) (hu1 : u.cells = #[u]) (hu2 : u.oneCell' = true) (hs0 : sb ≤ w1.heap.size)
    (hn : us.length ≤ 1000000) (next : ∀ v1 v' w', OwnN e sb w' v' (us ++ [u]) → (∀ wb, Ext wb w1 → wb.heap.size ≤ sb → Ext wb w') → w1.heap.size ≤ w'.heap.size → GStep w1 w' v v' → rops P N ops K l (put (put ρ d v1) d2 v') w')
    (hx : ev ρ x = u := by ((try simp only [ev_tmp, ev_const, ev_func, get_put, get_args, get_putL, get_putL_nil, Nat.reduceEqDiff, reduceIte, List.getD_cons_zero, List.getD_cons_succ, List.getD_nil]); first | done | with_reducible rfl)) (hs : ∀ v1, ev (put ρ d v1) s = v := by intro v1; ((try simp only [ev_tmp, ev_const, ev_func, get_put, get_args, get_putL, get_putL_nil, Nat.reduceEqDiff, reduceIte, List.getD_cons_zero, List.getD_cons_succ, List.getD_nil]); first | done | with_reducible rfl)) (hd : ∀ v1, ev (put ρ d v1) (.tmp d) = v1 := by intro v1; ((try simp only [ev_tmp, ev_const, ev_func, get_put, get_args, get_putL, get_putL_nil, Nat.reduceEqDiff, reduceIte, List.getD_cons_zero, List.getD_cons_succ, List.getD_nil]); first | done | with_reducible rfl)) (hz : z.cells = #[z] := by rfl) (hby : bytes ≤ 100 := by decide) (hg1 : Wants ops ρ g := by first | exact True.intro | exact ⟨_, rfl, by ((try simp only [ev_tmp, ev_const, ev_func, get_put, get_args, get_putL, get_putL_nil, Nat.reduceEqDiff, reduceIte, List.getD_cons_zero, List.getD_cons_succ, List.getD_nil, Bool.not_true, Bool.not_false]); first | done | with_reducible rfl)⟩) (hg2 : ∀ v1, Wants ops (put ρ d v1) g2 := by intro v1; first | exact True.intro | exact ⟨_, rfl, by ((try simp only [ev_tmp, ev_const, ev_func, get_put, get_args, get_putL, get_putL_nil, Nat.reduceEqDiff, reduceIte, List.getD_cons_zero, List.getD_cons_succ, List.getD_nil, Bool.not_true, Bool.not_false]); first | done | with_reducible rfl)⟩) :
    rops P N ops K (⟨some d, .buildSlice t 1 #[(0, x)], ty, pos, after, g⟩ :: ⟨some d2, .call { callee := .builtin .append, args := #[s, .tmp d], argTypes := #[t, t] }, ty2, pos2, after2, g2⟩ :: l) ρ w1 := by
  refine st_slice1 (u := u) hx hu1 hz hg1 fun w2 v2 he2 hs2 ho2 => ?_
  have hO2 : OwnN e sb w2 v us := @OwnN.ext _ _ _ _ _ _ he2 hO
  have hz2 := he2.size
  have hb : (us.length + 1) * bytes ≤ 1000001 * 100 := Nat.mul_le_mul (by omega) hby
  refine st_append (hv := hO2) (hy := ho2) (hs v2) (hd v2) (by rw [hz]; rfl) ?_ ?_ ?_ ?_ (hg2 v2) fun v3 w3 ho3 hg3 ha3 => ?_
  · intro a ha
    rw [List.mem_singleton.1 ha]; exact hu2
  · simp only [List.length_singleton]; omega
  · simp only [List.length_singleton, maxLen]; omega
  · omega
  · exact next v2 v3 w3 ho3 (fun wb hb1 hb2 => (hb1.trans he2).app hg3 (fun k hk => by have := (hO2.lt k hk).1; omega)) (Nat.le_trans hz2 hg3.size) ⟨w2, he2, hg3, ha3⟩
theorem retc2 {t s : Tmp} {ty : TypeId} {R : Value → World → Prop} {b n : Nat} {cs : List Value} {x : Value} [hp : StructT P ty n] [hb : Blk w b cs] (h : R (.tuple #[.agg cs.toArray, x]) w) (hn : n = cs.length) (hv : get ρ t = .pointer (some ⟨b, 0, none⟩) := by ((try simp only [ev_tmp, ev_const, ev_func, get_put, get_args, get_putL, get_putL_nil, Nat.reduceEqDiff, reduceIte, List.getD_cons_zero, List.getD_cons_succ, List.getD_nil, Bool.not_true, Bool.not_false]); first | done | with_reducible rfl)) (hx : get ρ s = x := by ((try simp only [ev_tmp, ev_const, ev_func, get_put, get_args, get_putL, get_putL_nil, Nat.reduceEqDiff, reduceIte, List.getD_cons_zero, List.getD_cons_succ, List.getD_nil, Bool.not_true, Bool.not_false]); first | done | with_reducible rfl)) : retQ P [.cell t ty, .tmp s] R .ret ρ w :=
  retQ_2 (rv_cell hv (run_loadAgg (h := hb) hn)) (rv_tmp hx) h
/-- The store of a field, the last operation of a drawn region. -/
theorem z_stfld {bo t m bytes : Nat} {x y : Operand} {u z : Value} {cs : List Value} [he : ElT P t 1 bytes z] (h : Blk w bo cs) (hu : u.oneCell' = true) (hm : m < cs.length)
    (next : ∀ w', Chg bo w w' → w'.heap.size = w.heap.size → Blk w' bo (cs.set m u) → K ρ w')
    (hi : opAt ops π i = some ⟨none, .store t x y, ty, pos, after, g⟩ := by exact rfl) (hx : ev ρ x = .pointer (some ⟨bo, m, none⟩) := by ((try simp only [ev_tmp, ev_const, ev_func, get_put, get_args, get_putL, get_putL_nil, Nat.reduceEqDiff, reduceIte, List.getD_cons_zero, List.getD_cons_succ, List.getD_nil]); first | done | with_reducible rfl)) (hy : ev ρ y = u := by ((try simp only [ev_tmp, ev_const, ev_func, get_put, get_args, get_putL, get_putL_nil, Nat.reduceEqDiff, reduceIte, List.getD_cons_zero, List.getD_cons_succ, List.getD_nil]); first | done | with_reducible rfl)) (hg : Wants ops ρ g := by first | exact True.intro | exact ⟨_, rfl, by ((try simp only [ev_tmp, ev_const, ev_func, get_put, get_args, get_putL, get_putL_nil, Nat.reduceEqDiff, reduceIte, List.getD_cons_zero, List.getD_cons_succ, List.getD_nil, Bool.not_true, Bool.not_false]); first | done | with_reducible rfl)⟩)
    (hn : nextOk ops π i = true := by decide +kernel) (hl : lastOf ops π = some (π.getD i 0) := by decide +kernel) (hd : doneOk ops π (i + 1) = true := by decide +kernel) : dops P N ops π S K i ρ w := by
  obtain ⟨tb, hb⟩ := h.ex
  have hr := run_storeVar_one (P := P) he hu hb (m := m) (by simpa using hm)
  have hw : Wr P (.store t x y) ty ρ w (w.setCell ⟨bo, m, none⟩ u) := by
    constructor; intro _ _ _ _
    simp [execOp, hx, hy, Instr.storeAt, Instr.sureAddr, hr]
  refine dt_lastw hi hn hl hd hg hw (next _ ⟨⟨rfl, rfl, rfl, by simp [World.setCell], fun k hk hne => Below.heap_setCell _ _ _ _ (by intro e; subst e; exact hne rfl)⟩⟩ (by simp [World.setCell]) ⟨tb, ?_⟩)
  simp [World.setCell, Array.getElem?_modify, hb]
end
section
variable {B : Nat → Prop} {e e' eo ep ec ei s s' s0 bo : Nat} {w w' w0 w1 w2 w3 w4 w5 : World} {v v' u vo vo' vp vp' vc vc' : Value} {us : List Value} {cs : List Value} {xs ord : List Int} {rs rp : List (Value × List Int)} {gs : List (Value × List (Value × List Int))}
theorem Tri.chg (h : Tri eo ep ec ei s w vo ord vp rp vc gs) (c : Chg bo w w') (hb : bo < s) : Tri eo ep ec ei s w' vo ord vp rp vc gs :=
  h.wr (.one (B := fun g => g = bo) rfl c) fun b e => e ▸ hb
/-- The block of the struct, when one of its lists has grown. -/
theorem Blk.gstep (h : Blk w bo cs) (k : GStep w w' v v') (hb : ∀ b, v.ownBlock = some b → bo < b) : Blk w' bo cs :=
  h.wr k.wrt fun e => by have := hb _ e; omega
theorem Tri.ob (h : Tri eo ep ec ei s w vo ord vp rp vc gs) (hb : bo < s) : ∀ b, vo.ownBlock = some b → bo < b := fun b e => Nat.lt_of_lt_of_le hb (h.o.lt b e).1
theorem Tri.pb (h : Tri eo ep ec ei s w vo ord vp rp vc gs) (hb : bo < s) : ∀ b, vp.ownBlock = some b → bo < b := fun b e => Nat.lt_of_lt_of_le hb (h.p.own.lt b e).1
theorem Tri.cb (h : Tri eo ep ec ei s w vo ord vp rp vc gs) (hb : bo < s) : ∀ b, vc.ownBlock = some b → bo < b := fun b e => Nat.lt_of_lt_of_le hb (h.c.own.lt b e).1
/-- One more order, stored. -/
theorem Tri.fieldO {k : Int} (h : Tri eo ep ec ei s w vo ord vp rp vc gs) (x : Ext w w1) (hG : GrowI eo s w2 vo' (ord ++ [k])) (hst : GStep w1 w2 vo vo') (c : Chg bo w2 w3) (hb : bo < s) : Tri eo ep ec ei s w3 vo' (ord ++ [k]) vp rp vc gs :=
  (h.pushO x hG.own hst).chg c hb
/-- One more power, stored. -/
theorem Tri.fieldP (h : Tri eo ep ec ei s w vo ord vp rp vc gs) (x : Ext w w1) (hu : Fr w.heap.size w1 u xs) (hG : GrowL ep s w2 vp' (rp ++ [(u, xs)])) (hst : GStep w1 w2 vp vp') (c : Chg bo w2 w3) (hb : bo < s) : Tri eo ep ec ei s w3 vo ord vp' (rp ++ [(u, xs)]) vc gs :=
  (h.pushP x hu hG hst).chg c hb
/-- One more list of conjugates, stored. -/
theorem Tri.fieldC (h : Tri eo ep ec ei s w vo ord vp rp vc gs) (x : Ext w w1) (hL : GrL ei w.heap.size w1 u rs) (hO : OwnN ec s w2 vc' (gs.map (·.1) ++ [u])) (hst : GStep w1 w2 vc vc') (c : Chg bo w2 w3) (hb : bo < s) : Tri eo ep ec ei s w3 vo ord vp rp vc' (gs ++ [(u, rs)]) := by
  obtain ⟨w5, x5, hg, ha⟩ := hst.ex
  exact (h.pushC x hL x5 hO hg ha).chg c hb
/-- The three lists, the first of which came from elsewhere. -/
theorem Tri.presO (h : Tri eo ep ec ei s w nilv [] vp rp vc gs) (hfo : Fr s0 w vo ord) (hs0 : s0 ≤ s) (hlt : ord ≠ [] → ∀ b, vo.ownBlock = some b → b < s) : PresO s0 w.heap.size w (.agg #[vo, vp, vc]) ⟨ord, rp.map (·.2), gs.map fun q => q.2.map (·.2)⟩ := by
  have hP := h.p.rows.mono hs0
  have hC := h.c.rows.mono hs0
  have hpl : ∀ b, FL vp rp b → s ≤ b := fun b hb => (h.p.lt hb).1
  have hcl : ∀ b, FC vc gs b → s ≤ b := fun b hb => (h.c.lt hb).1
  have hO : RowsO s0 w ((vo, ord) :: (rp ++ flat gs)) := by
    refine ⟨fun r hr => ?_, List.pairwise_cons.2 ⟨fun r hr h1 h2 e => ?_, List.pairwise_append.2 ⟨h.p.rows.sep, h.c.rows.sep, fun a ha b hb h1 h2 e => ?_⟩⟩⟩
    · rcases List.mem_cons.1 hr with rfl | hr
      · exact hfo
      · rcases List.mem_append.1 hr with hr | hr
        · exact hP.fr r hr
        · exact hC.fr r hr
    · obtain ⟨g, e1, _⟩ := hfo.block h1
      have h3 := hlt h1 g e1
      rcases List.mem_append.1 hr with hr | hr
      · have := hpl g (.inr ⟨r, hr, h2, e ▸ e1⟩); omega
      · have := hcl g (.inr (.inr ⟨r, hr, h2, e ▸ e1⟩)); omega
    · obtain ⟨g, e1, _⟩ := (h.p.rows.fr a ha).block h1
      exact h.pc g (.inr ⟨a, ha, h1, e1⟩) (.inr (.inr ⟨b, hb, h2, e ▸ e1⟩))
  have hp : ∀ b, vp.ownBlock = some b → ¬ BlkOf ((vo, ord) :: (rp ++ flat gs)) b := fun b hb ⟨r, hr, hn, e⟩ => by
    rcases List.mem_cons.1 hr with rfl | hr
    · have := hlt hn b e; have := hpl b (.inl hb); omega
    · rcases List.mem_append.1 hr with hr | hr
      · exact h.p.off b hb ⟨r, hr, hn, e⟩
      · exact h.pc b (.inl hb) (.inr (.inr ⟨r, hr, hn, e⟩))
  have hc : ∀ b, (vc.ownBlock = some b ∨ ∃ q, q ∈ gs ∧ q.1.ownBlock = some b) → ¬ BlkOf ((vo, ord) :: (rp ++ flat gs)) b := fun b hb ⟨r, hr, hn, e⟩ => by
    have hF : FC vc gs b := hb.imp id .inl
    rcases List.mem_cons.1 hr with rfl | hr
    · have := hlt hn b e; have := hcl b hF; omega
    · rcases List.mem_append.1 hr with hr | hr
      · exact h.pc b (.inr ⟨r, hr, hn, e⟩) hF
      · rcases hb with hb | ⟨q, hq, hb⟩
        · exact (h.c.off b hb).1 ⟨r, hr, hn, e⟩
        · exact h.c.offi q hq b hb ⟨r, hr, hn, e⟩
  have h2 := Rows.ofOwn h.p.own h.p.rows.fr h.lo
  have h3 := h.rowss
  exact ⟨vo, vp, vc, rp, gs, rfl, hO, fun b hb => (hO.blk hb).2, h.p.own.spA hp, ⟨h.c.own.spA fun b hb => hc b (.inl hb), fun q hq => (h.c.inn q hq).spA fun b hb => hc b (.inr ⟨q, hq, hb⟩)⟩, rfl, rfl, hfo.ints, h2.mono hs0 (Nat.le_refl _), ⟨h3.sl.mono hs0 (Nat.le_refl _), h3.vals.len, h3.vals.len', fun i => (h3.vals.at_ i).mono hs0 (Nat.le_refl _)⟩⟩
theorem PresO.sub {t t' : Nat} {p : Pr} (h : PresO s t w v p) (hs : s' ≤ s) (ht : t ≤ t') : PresO s' t' w v p := by
  obtain ⟨vo, vp, vc, rp, gs, rfl, hO, hl, h1, h2, h3, h4, h5, h6, h7⟩ := h.ex
  exact ⟨vo, vp, vc, rp, gs, rfl, hO.mono hs, fun b hb => Nat.lt_of_lt_of_le (hl b hb) ht, h1, h2, h3, h4, h5.mono hs ht, h6.mono hs ht, ⟨h7.sl.mono hs ht, h7.vals.len, h7.vals.len', fun i => (h7.vals.at_ i).mono hs ht⟩⟩
theorem getD_cut {α : Type} (l : List α) (z : α) {a k : Nat} (i : Nat) (hi : a + i < k) : ((l.take k).drop a).getD i z = l.getD (a + i) z := by
  rw [List.getD_eq_getElem?_getD, List.getElem?_drop, List.getElem?_take, if_pos hi, ← List.getD_eq_getElem?_getD]
theorem Rows.cut {lo hi : Nat} {xss : List (List Int)} (h : Rows lo hi w v us xss) {a k : Nat} (hlk : a ≤ k) (hk : k ≤ us.length) : Rows lo hi w (Pc.cut v a k) ((us.take k).drop a) ((xss.take k).drop a) := by
  refine ⟨h.sl.cut hlk hk, by simp [h.vals.len], fun i => ?_⟩
  by_cases hi : a + i < k
  · rw [getD_cut _ _ _ hi, getD_cut _ _ _ hi]
    exact h.vals.at_ _
  · have e1 : ((us.take k).drop a).getD i nilv = nilv := by rw [List.getD_eq_getElem?_getD, List.getElem?_eq_none (by simp; omega)]; rfl
    have e2 : ((xss.take k).drop a).getD i [] = [] := by rw [List.getD_eq_getElem?_getD, List.getElem?_eq_none (by simp; omega)]; rfl
    rw [e1, e2]
    exact ⟨⟨none, 0, by simp, by simp, by omega, fun k u hu => by simp at hu⟩⟩
theorem Fr.blt (h : Fr s w v xs) : xs ≠ [] → ∀ b, v.ownBlock = some b → b < w.heap.size := fun hn b e => by
  obtain ⟨g, h1, _, h3⟩ := h.block hn
  rw [e] at h1; injection h1 with h1; omega
end
end Go.Pc

/-
  Walks: the reference's IsMember and IsSubset.
  Conditions: what the arguments read as.
-/
namespace Go.Proofs.Ytnphljflkpekmaa
open Go Go.Pc
end Go.Proofs.Ytnphljflkpekmaa

/-
  Walks: the reference's CosetRepresentative.
  Conditions: what the arguments read as.
-/
namespace Go.Proofs.Ytnphljflkpekmaa
open Go Go.Pc
end Go.Proofs.Ytnphljflkpekmaa

/-
  Lists of lists that come from a call and grow on: lowered bounds, 'out = append(out, x)' where the rows need not be the call's own.
  Conditions: none; nothing of the program stands here.
-/
namespace Go.Pc
open Go Go.RowKit
section
variable {e s s' : Nat} {w : World} {v : Value} {us : List Value} {xss : List (List Int)} {rs : List (Value × List Int)}
theorem Lst.low (h : Lst e s (· < s) w v us xss) (h1 : s' ≤ s) (h2 : s' ≤ w.heap.size) : Lst e s' (· < s') w v us xss :=
  (h.mono h1).weak (fun g hg => .inl (Nat.lt_of_lt_of_le hg h1)) (fun g hg hlt => by
    have h3 := (h.lt hg).1
    have h4 : g < s' := hlt
    omega) (fun g hg => Nat.lt_of_lt_of_le hg h2)
theorem GrowL.lower (h : GrowL e s w v rs) (h1 : s' ≤ s) (h2 : s' ≤ w.heap.size) : GrowL e s' w v rs := ⟨h.lst.low h1 h2, h.own.mono h1⟩
end
section
variable {P : Program} {N : Nat} {ops : Array Oper} {π : List Nat} {K : Env → World → Prop} {ρ : Env} {w w0 w1 w00 : World} {l : List Oper}
variable {i : Nat} {ty ty2 : TypeId} {pos pos2 : String} {after after2 : Array Edge} {g g2 : Option (Nat × Bool)} {d d2 : Nat}
end
end Go.Pc

/-
  Walks: the reference's closure under conjugation, its test of normality (l13Stable, l13Normal).
  Conditions: the tails at all levels are groups; the lists are those told.
-/
namespace Go.Proofs.Ytnphljflkpekmaa
open Go Go.Pc
/-- One round: the elements, and their conjugates. -/
structure Rnd {p : Pr} [ConAll p] (os bs ls : List (El p)) (i j : Nat) : Prop where
  mem : ∀ a, a ∈ ls → a ∈ os ∨ ∃ o, o ∈ os ∧ ∃ b, b ∈ bs ∧ a = Grp.cj o b
  old : ∀ o, o ∈ os → o ∈ ls
  rows : ∀ i' (h : i' < bs.length), i' < i → ∀ o, o ∈ os → Grp.cj o bs[i'] ∈ ls
  part : ∀ (h : i < bs.length) j' (h' : j' < os.length), j' < j → Grp.cj os[j'] bs[i] ∈ ls
  len : ls.length ≤ 6 + i * 6 + j
theorem Rnd.step {p : Pr} [ConAll p] {os bs ls : List (El p)} {i j : Nat} (h : Rnd os bs ls i j) (hi : i < bs.length) (hj : j < os.length) : Rnd os bs (ls ++ [Grp.cj os[j] bs[i]]) i (j + 1) where
  mem a ha := by
    rcases List.mem_append.1 ha with ha | ha
    · exact h.mem a ha
    · exact .inr ⟨_, List.getElem_mem hj, _, List.getElem_mem hi, List.mem_singleton.1 ha⟩
  old o ho := List.mem_append_left _ (h.old o ho)
  rows i' h1 h2 o ho := List.mem_append_left _ (h.rows i' h1 h2 o ho)
  part h1 j' h2 h3 := by
    by_cases e : j' = j
    · subst e; simp
    · exact List.mem_append_left _ (h.part h1 j' h2 (by omega))
  len := by have := h.len; simp only [List.length_append, List.length_singleton]; omega
theorem Rnd.next {p : Pr} [ConAll p] {os bs ls : List (El p)} {i : Nat} (h : Rnd os bs ls i os.length) (hi : i < bs.length) (h6 : os.length ≤ 6) : Rnd os bs ls (i + 1) 0 where
  mem := h.mem
  old := h.old
  rows i' h1 h2 o ho := by
    by_cases e : i' = i
    · subst e
      obtain ⟨j, hj, rfl⟩ := List.getElem_of_mem ho
      exact h.part h1 j hj hj
    · exact h.rows i' h1 (by omega) o ho
  part h1 j' h2 h3 := absurd h3 (Nat.not_lt_zero _)
  len := by have := h.len; omega
end Go.Proofs.Ytnphljflkpekmaa

/-
  Walks: the reference's GeneratedSubgroup, ConjugateSubgroup, IsNormalSubgroup, SubgroupIndex, SubgroupDepths.
  Conditions: what the arguments read as.
-/
namespace Go.Proofs.Ytnphljflkpekmaa
open Go Go.Pc
end Go.Proofs.Ytnphljflkpekmaa

/-
  Walks: the reference's CosetNumber, MemberElement, MemberExponents.
  Conditions: what the arguments read as.
-/
namespace Go.Proofs.Ytnphljflkpekmaa
open Go Go.Pc
set_option maxHeartbeats 1000000 in
theorem l12Orders_ok {p : Pr} [hc : ConAll p] {ys : List (El p)} (hs : SeqOk ys) (hyl : ys.length ≤ 1000) {w : World} {vp vu : Value} {us : List Value} {xss : List (List Int)} {lo hi lo1 hi1 : Nat} [hp : Pres lo hi w vp p] [hu : Pc.Rows lo1 hi1 w vu us xss] (hus : xss = vecs ys) :
    Calls Try.prog 46 #[vp, vu] w (Ret fun v w' => Ext w w' ∧ Fr w.heap.size w' v (ys.map fun y => p.o (lead y.v))) := by
  subst hus
  have hv := hc.valid
  have hn6 := hv.n6
  have hol : p.ord.length = p.n := rfl
  have hvl : (vecs ys).length = ys.length := by simp
  replace hp := hp.wide
  replace hu := hu.wide
  obtain ⟨vo, vpw, vc, ps, cs, css, rfl, h1, h2, h3⟩ := hp.ex
  refine enter (args := [.agg #[vo, vpw, vc], vu]) (l := [.tmp 4]) Try.func46 rfl rfl Try.ntmps46 (by simp) ?_
  refine go ?_
  refine st_box3 (by ((try simp only [ev_tmp, ev_const, ev_func, get_put, get_args, get_putL, get_putL_nil, Nat.reduceEqDiff, reduceIte, List.getD_cons_zero, List.getD_cons_succ, List.getD_nil]); first | done | with_reducible rfl)) (by first | exact True.intro | exact ⟨_, rfl, by ((try simp only [ev_tmp, ev_const, ev_func, get_put, get_args, get_putL, get_putL_nil, Nat.reduceEqDiff, reduceIte, List.getD_cons_zero, List.getD_cons_succ, List.getD_nil, Bool.not_true, Bool.not_false]); first | done | with_reducible rfl)⟩) fun w1 b he1 hb1 hs1 hc0 hc1 hc2 => ?_
  refine go ?_
  refine st_slice0 (by first | exact True.intro | exact ⟨_, rfl, by ((try simp only [ev_tmp, ev_const, ev_func, get_put, get_args, get_putL, get_putL_nil, Nat.reduceEqDiff, reduceIte, List.getD_cons_zero, List.getD_cons_succ, List.getD_nil, Bool.not_true, Bool.not_false]); first | done | with_reducible rfl)⟩) fun w3 v3 he3 hs3 ho3 => ?_
  have hz1 := he1.size
  have hz3 := he3.size
  refine go ?_
  refine r_for ys.length (fun k ρ w' => ∃ vl, Has ρ [(1, vu), (2, .pointer (some ⟨b, 0, none⟩)), (5, vl), (6, .int .i64 k)] ∧ Ext w1 w' ∧ GrowI 2 w1.heap.size w' vl ((ys.take k).map fun y => p.o (lead y.v))) ?_ ?_
  · refine ⟨v3, ?_, he3, by simpa using GrowI.start ho3 (Nat.le_refl _)⟩
    exact hasP
  clear ho3
  rintro k ρ w4 hk ⟨vl, hH, he4, hg4⟩
  refine rwp_has hH fun ρ0 => ?_
  have hz4 := he4.size
  have hkl : ((ys.take k).map fun y => p.o (lead y.v)).length ≤ 1000 := by simp; omega
  refine go ?_
  refine c_if (fun h4 => ?_) (fun h4 => ?_)
  · have hkn : k < ys.length := by omega
    have hg := vecs_getD ys hkn
    have hgl : ((vecs ys).getD k []).length = p.n := by rw [hg]; exact (ys[k]).inr.len
    obtain ⟨hdn, hy1⟩ := hs.lead1 _ (List.getElem_mem hkn)
    obtain ⟨d, hd⟩ : ∃ d, lead (ys[k]).v = d := ⟨_, rfl⟩
    rw [hd] at hdn
    obtain ⟨b', hb', hvb'⟩ := own_some' vl w1.heap.size w4.heap.size (by omega) (fun g h => (hg4.own.lt g h).1)
    have ap1 : Apart 0 w.heap.size b' := ⟨.inr (by omega)⟩
    have ap2 : Apart b (b + 1) b' := ⟨.inr (by omega)⟩
    refine go ?_
    refine z_order b' (List.range 13) (h := fun w5 he5 _ => ?_)
    refine zgo ?_
    refine zc (l12Depth_ok (xs := (vecs ys).getD k []) ?_) (next := fun v6 w6 h7 => ?_)
    · omega
    obtain ⟨rfl, he6⟩ := h7
    rw [hg, hd]
    refine zgo ?_
    rw [show p.ord.getD d 0 = p.o d from rfl]
    have hg6 : GrowI 2 w1.heap.size w6 vl ((ys.take k).map fun y => p.o (lead y.v)) := @GrowI.ext _ _ _ _ _ _ he6 (@GrowI.ext _ _ _ _ _ _ he5 hg4)
    have hz5 := he5.size
    have hz6 := he6.size
    refine z_growi hg6 (by omega) (by omega) hvb' (next := fun v10 v11 w11 hg11 hx11 hz11 hgs11 => ?_)
    refine zgo ?_
    refine z_end ?_
    refine go ?_
    refine forQ_normal (by omega) ⟨v11, ?_, hx11 w1 ((he4.trans he5).trans he6) (Nat.le_refl _), ?_⟩
    · exact hasP
    · rw [List.take_succ_eq_append_getElem hkn, List.map_append, List.map_cons, List.map_nil, hd]; exact hg11
  · obtain rfl : k = ys.length := by omega
    rw [List.take_length] at hg4
    refine go ?_
    exact ret1 ⟨he1.trans he4, hg4.fr.mono (by omega)⟩
set_option maxHeartbeats 1000000 in
theorem l12Exponents_ok {p : Pr} [hc : ConAll p] {ys : List (El p)} (hs : SeqOk ys) (hyl : ys.length ≤ 1000) {w : World} {vp vu vx : Value} {us : List Value} {xss : List (List Int)} {x : El p} {xs : List Int} {lo hi lo1 hi1 lo2 hi2 : Nat} [hp : Pres lo hi w vp p] [hu : Pc.Rows lo1 hi1 w vu us xss] [hx : Ints lo2 hi2 w vx xs] (hus : xss = vecs ys) (hxe : xs = x.v) :
    Calls Try.prog 47 #[vp, vu, vx] w (Ret fun v w' => Ext w w' ∧ Fr w.heap.size w' v (expsL ys x ys.length)) := by
  subst hus hxe
  have hv := hc.valid
  have hvl : (vecs ys).length = ys.length := by simp
  replace hx := hx.wide
  obtain ⟨vo, vpw, vc, ps, cs, css, rfl, h1, h2, h3⟩ := hp.ex
  refine enter (args := [.agg #[vo, vpw, vc], vu, vx]) (l := [.tmp 6]) Try.func47 rfl rfl Try.ntmps47 (by simp) ?_
  refine go ?_
  refine st_box3 (by ((try simp only [ev_tmp, ev_const, ev_func, get_put, get_args, get_putL, get_putL_nil, Nat.reduceEqDiff, reduceIte, List.getD_cons_zero, List.getD_cons_succ, List.getD_nil]); first | done | with_reducible rfl)) (by first | exact True.intro | exact ⟨_, rfl, by ((try simp only [ev_tmp, ev_const, ev_func, get_put, get_args, get_putL, get_putL_nil, Nat.reduceEqDiff, reduceIte, List.getD_cons_zero, List.getD_cons_succ, List.getD_nil, Bool.not_true, Bool.not_false]); first | done | with_reducible rfl)⟩) fun w1 b he1 hb1 hs1 hc0 hc1 hc2 => ?_
  have hz1 := he1.size
  refine go ?_
  refine st_slice0 (by first | exact True.intro | exact ⟨_, rfl, by ((try simp only [ev_tmp, ev_const, ev_func, get_put, get_args, get_putL, get_putL_nil, Nat.reduceEqDiff, reduceIte, List.getD_cons_zero, List.getD_cons_succ, List.getD_nil, Bool.not_true, Bool.not_false]); first | done | with_reducible rfl)⟩) fun w2 v2 he2 hs2 ho2 => ?_
  have hx2 : IntsAp (fun g => v2.ownBlock = some g) w2 vx x.v := ⟨0, w.heap.size, hx.same ((he1.trans he2).same _ _), by have := he2.size; omega, fun g hg => .inr (by
    rw [ho2.toN_block] at hg; injection hg with hg; omega)⟩
  refine go ?_
  refine r_for ys.length (fun k ρ w' => ∃ vl vr, Has ρ [(1, vu), (2, vr), (3, .pointer (some ⟨b, 0, none⟩)), (7, vl), (8, .int .i64 k)] ∧ Ext w1 w' ∧ GrowI 2 w1.heap.size w' vl (expsL ys x k) ∧ IntsAp (fun g => vl.ownBlock = some g) w' vr (stE ys x k).v) ?_ ?_
  · refine ⟨v2, vx, ?_, he2, by simpa [expsL] using GrowI.start ho2 (Nat.le_refl _), hx2⟩
    exact hasP
  clear ho2 hx2 hx
  rintro k ρ w3 hk ⟨vl, vr, hH, he3, hg3, hi3⟩
  refine rwp_has hH fun ρ0 => ?_
  have hz3 := he3.size
  have hkl := expsL_len ys x k
  have hsl := (stE ys x k).inr.len
  have hi3' := hi3.ints
  refine go ?_
  refine c_if (fun h4 => ?_) (fun h4 => ?_)
  · have hkn : k < ys.length := by omega
    have hg := vecs_getD ys hkn
    have hgl : ((vecs ys).getD k []).length = p.n := by rw [hg]; exact (ys[k]).inr.len
    have hn6 := hv.n6
    obtain ⟨hdn, hy1⟩ := hs.lead1 _ (List.getElem_mem hkn)
    obtain ⟨d, hd⟩ : ∃ d, lead (ys[k]).v = d := ⟨_, rfl⟩
    rw [hd] at hdn
    have hod := hv.opos hdn
    have hcr : 0 ≤ co (stE ys x k) d ∧ co (stE ys x k) d < p.o d := (stE ys x k).inr.rng d hdn
    refine go ?_
    refine rc (l12Depth_ok (xs := (vecs ys).getD k []) ?_) (next := fun v5 w5 h5 => ?_)
    · omega
    obtain ⟨rfl, he5⟩ := h5
    rw [hg, hd]
    refine go ?_
    rw [show (stE ys x k).v.getD d 0 = co (stE ys x k) d from rfl]
    refine go ?_
    refine st_growi (@GrowI.ext _ _ _ _ _ _ he5 hg3) (by have := he5.size; omega) (by omega) (next := fun v10 v11 w11 hg11 hx11 hz11 hgs11 => ?_)
    have hE11 := hx11 w1 (he3.trans he5) (Nat.le_refl _)
    have hi11 := ((hi3.ext he5).gstep hgs11).ints
    have hz11' := hE11.size
    clear hi3'
    refine go ?_
    refine d_order [0, 1, 2, 3, 4, 5, 6, 7, 9, 8, 10, 11] (h := fun w12 he12 _ => ?_)
    refine dgo ?_
    refine dce (l10Pow_ok (p := p) (x := ys[k]) hg ?_) (next := fun v13 w13 h13 => ?_)
    · omega
    obtain ⟨he13, hf13⟩ := h13
    refine dce (l08Mul_ok (p := p) (x := Grp.pwz ys[k] (-(co (stE ys x k) d))) (y := stE ys x k) rfl rfl) (next := fun v14 w14 h14 => ?_)
    obtain ⟨he14, hf14⟩ := h14
    refine dgo ?_
    refine d_end (h := ?_)
    refine go ?_
    have hE13 := he12.trans he13
    have e1 : expsL ys x (k + 1) = expsL ys x k ++ [co (stE ys x k) d] := by rw [expsL_succ, getD_one hkn, hd]
    have e2 : stE ys x (k + 1) = Grp.pwz ys[k] (-(co (stE ys x k) d)) * stE ys x k := by
      show Grp.pwz (ys.getD k 1) _ * _ = _
      rw [getD_one hkn, hd]
    have hl11 : ∀ g, v11.ownBlock = some g → g < w11.heap.size := fun g hg => (hg11.own.lt g hg).2
    refine forQ_normal (by omega) ⟨v11, v14, ?_, hE11.trans (hE13.trans he14), ?_, ?_⟩
    · exact hasP
    · rw [e1]; exact @GrowI.ext _ _ _ _ _ _ (hE13.trans he14) hg11
    · rw [e2]; exact IntsAp.ofFr hf14 fun g hg => by have := hl11 g hg; have := hE13.size; omega
  · obtain rfl : k = ys.length := by omega
    refine go ?_
    exact ret1 ⟨he1.trans he3, hg3.fr.mono hz1⟩
end Go.Proofs.Ytnphljflkpekmaa

/-
  Walks: the reference's presentation of a subgroup (l15Sub).
  Conditions: stated at each theorem.
-/
namespace Go.Proofs.Ytnphljflkpekmaa
open Go Go.Pc
set_option maxHeartbeats 4000000 in
theorem l15Sub_ok {p : Pr} [hc : ConAll p] {ys : List (El p)} (hs : SeqOk ys) (hyl : ys.length ≤ 1000) {w : World} {vp vu : Value} {us : List Value} {xss : List (List Int)} {lo hi lo1 hi1 : Nat} [hp : Pres lo hi w vp p] [hu : Pc.Rows lo1 hi1 w vu us xss] (hus : xss = vecs ys) :
    Calls Try.prog 24 #[vp, vu] w (Ret fun v w' => Ext w w' ∧ PresO w.heap.size w'.heap.size w' v (subPr ys)) := by
  have hv := hc.valid
  have hn6 := hv.n6
  replace hu := hu.wide
  have hul : xss.length = ys.length := by rw [hus]; simp
  obtain ⟨vo, vpw, vc, ps, cs, css, rfl, h1, h2, h3⟩ := hp.ex
  replace h1 := h1.wide
  replace h2 := h2.wide
  replace h3 := h3.wide
  refine enter (args := [.agg #[vo, vpw, vc], vu]) (l := [.cell 4 29]) Try.func24 rfl rfl Try.ntmps24 (by simp) ?_
  refine go ?_
  refine st_box3 (by ((try simp only [ev_tmp, ev_const, ev_func, get_put, get_args, get_putL, get_putL_nil, Nat.reduceEqDiff, reduceIte, List.getD_cons_zero, List.getD_cons_succ, List.getD_nil]); first | done | with_reducible rfl)) (by first | exact True.intro | exact ⟨_, rfl, by ((try simp only [ev_tmp, ev_const, ev_func, get_put, get_args, get_putL, get_putL_nil, Nat.reduceEqDiff, reduceIte, List.getD_cons_zero, List.getD_cons_succ, List.getD_nil, Bool.not_true, Bool.not_false]); first | done | with_reducible rfl)⟩) fun w1 b he1 hb1 hs1 hc0 hc1 hc2 => ?_
  refine go ?_
  refine st_alloc (by first | exact True.intro | exact ⟨_, rfl, by ((try simp only [ev_tmp, ev_const, ev_func, get_put, get_args, get_putL, get_putL_nil, Nat.reduceEqDiff, reduceIte, List.getD_cons_zero, List.getD_cons_succ, List.getD_nil, Bool.not_true, Bool.not_false]); first | done | with_reducible rfl)⟩) fun w2 br he2 hbr hs2 hbk2 => ?_
  have hz1 := he1.size
  have hz2 := he2.size
  refine go ?_
  refine rc (l12Orders_ok (p := p) hs hyl hus) (next := fun v3 w3 h4 => ?_)
  obtain ⟨he3, hf3⟩ := h4
  have hz3 := he3.size
  refine go ?_
  refine ra (v := .agg #[v3, nilv, nilv]) (h := rd_build (by simp only [ev_tmp, ev_const, ev_func, get_put, get_args, get_putL, get_putL_nil, Nat.reduceEqDiff, reduceIte, List.getD_cons_zero, List.getD_cons_succ, List.getD_nil, List.map_toArray, List.map_cons, List.map_nil]; rfl) (fun _ => ?_)) (next := ?_)
  · obtain ⟨A, c, rfl, _⟩ := hf3.ints.sl.ex
    kernel_rfl
  refine st_alloc (by first | exact True.intro | exact ⟨_, rfl, by ((try simp only [ev_tmp, ev_const, ev_func, get_put, get_args, get_putL, get_putL_nil, Nat.reduceEqDiff, reduceIte, List.getD_cons_zero, List.getD_cons_succ, List.getD_nil, Bool.not_true, Bool.not_false]); first | done | with_reducible rfl)⟩) fun w4 bo he4 hbo hs4 hbk4 => ?_
  refine st_store_agg (vs := [v3, nilv, nilv]) (cs := _) (hb := hbk4) (by ((try simp only [ev_tmp, ev_const, ev_func, get_put, get_args, get_putL, get_putL_nil, Nat.reduceEqDiff, reduceIte, List.getD_cons_zero, List.getD_cons_succ, List.getD_nil]); first | done | with_reducible rfl)) (by ((try simp only [ev_tmp, ev_const, ev_func, get_put, get_args, get_putL, get_putL_nil, Nat.reduceEqDiff, reduceIte, List.getD_cons_zero, List.getD_cons_succ, List.getD_nil]); first | done | with_reducible rfl)) rfl ?_ ?_ (by first | exact True.intro | exact ⟨_, rfl, by ((try simp only [ev_tmp, ev_const, ev_func, get_put, get_args, get_putL, get_putL_nil, Nat.reduceEqDiff, reduceIte, List.getD_cons_zero, List.getD_cons_succ, List.getD_nil, Bool.not_true, Bool.not_false]); first | done | with_reducible rfl)⟩) fun w5 hc5 hs5 hbk5 => ?_
  · rfl
  · have := hf3.ints.sl.one
    simp [this]; rfl
  have hz4 := he4.size
  have hE35 : Ext w3 w5 := hc5.ext he4 (by omega)
  have hE3 := (he1.trans he2).trans he3
  have hz5 := hE35.size
  refine go ?_
  refine r_for ys.length (fun i ρ w' => ∃ vp vc rp gs, Has ρ [(1, vu), (2, .pointer (some ⟨b, 0, none⟩)), (4, .pointer (some ⟨br, 0, none⟩)), (5, .pointer (some ⟨bo, 0, none⟩)), (6, .int .i64 i)] ∧ Ext w3 w' ∧ Blk w' bo [v3, vp, vc] ∧ Tri 2 22 23 22 w5.heap.size w' nilv [] vp rp vc gs ∧ rp.map (·.2) = (List.range i).map (subPow ys) ∧ (gs.map fun q => q.2.map (·.2)) = (List.range i).map fun i => (List.range (ys.length - (i + 1))).map fun k => subCnj ys i (i + 1 + k)) ?_ ?_
  · refine ⟨nilv, nilv, [], [], ?_, hE35, hbk5, Tri.nil _ _ _ _ _ _ (Nat.le_refl _), rfl, rfl⟩
    exact hasP
  clear hbk4 hbk5
  rintro i ρ w6 hi ⟨vp6, vc6, rp, gs, hH, he6, hb6, hT6, hrp, hgs⟩
  refine rwp_has hH fun ρ0 => ?_
  have hz6 := he6.size
  have hrl : rp.length = i := by have := congrArg List.length hrp; simpa using this
  have hgl : gs.length = i := by have := congrArg List.length hgs; simpa using this
  refine go ?_
  refine c_if (fun h4 => ?_) (fun h4 => ?_)
  · have hin : i < ys.length := by omega
    have hyi : xss.getD i [] = (ys.getD i 1).v := by rw [hus, vecs_getD ys hin]; simp [hin]
    have hmem : ys.getD i 1 ∈ ys := by simp [hin]
    have hlead := hs.lead1 _ hmem
    have hoi : (ys.map fun y => p.o (lead y.v)).getD i 0 = p.o (lead (ys.getD i 1).v) := by simp [hin]
    have hob := hv.opos hlead.1
    have hfo : Fr w2.heap.size w6 v3 (ys.map fun y => p.o (lead y.v)) := hf3.ext' he6
    have hfl : (ys.map fun y => p.o (lead y.v)).length = ys.length := by simp
    obtain ⟨b', hb', hvb'⟩ := own_some' vp6 w5.heap.size w6.heap.size hT6.lo (fun g h => (hT6.p.own.lt g h).1)
    have ap1 : Apart 0 w.heap.size b' := ⟨.inr (by omega)⟩
    have ap2 : Apart b (b + 1) b' := ⟨.inr (by omega)⟩
    have ap3 : Apart bo (bo + 1) b' := ⟨.inr (by omega)⟩
    have hio := hfo.ints
    have ap4 : Apart w2.heap.size w3.heap.size b' := ⟨.inr (by omega)⟩
    have hio3 : Ints w2.heap.size w3.heap.size w6 v3 (ys.map fun y => p.o (lead y.v)) := hf3.ints.same (he6.same _ _)
    clear hio
    have k0 : Cell w6 bo 0 v3 := hb6.cell rfl
    have k1 : Cell w6 bo 1 vp6 := hb6.cell rfl
    refine go ?_
    refine z_order b' (List.range 20) (h := fun w7 he7 hs7 => ?_)
    refine zgo ?_
    refine zc (l10Pow_ok (p := p) (x := ys.getD i 1) hyi ?_) (next := fun v8 w8 h8 => ?_)
    · omega
    obtain ⟨he8, hf8⟩ := h8
    have hi8 := hf8.ints
    refine zc (l12Exponents_ok (p := p) (x := Grp.pwz (ys.getD i 1) ((ys.map fun y => p.o (lead y.v)).getD i 0)) hs hyl hus rfl) (next := fun v9 w9 h9 => ?_)
    obtain ⟨he9, hf9⟩ := h9
    rw [hoi] at hf9
    have hx69 := (he7.trans he8).trans he9
    have hz9 := hx69.size
    refine z_grow (hT6.p.grow hT6.lo) hx69 (hf9.mono (by have := he7.size; have := he8.size; omega)) hT6.lo (by omega) hvb' (next := fun v10 v11 w11 hG11 hx11 hz11 hst11 => ?_)
    have hb11 : Blk w11 bo [v3, vp6, vc6] := Blk.gstep (@Blk.ext _ _ _ _ hx69 hb6) hst11 (hT6.pb (by omega))
    refine zgo ?_
    refine z_stfld (bo := bo) (m := 1) (cs := [v3, vp6, vc6]) hb11 hG11.lst.own.toSl.one (by simp) (next := fun w12 hc12 hs12 hb12 => ?_)
    have hT12 := hT6.fieldP hx69 (hf9.mono (by have := he7.size; have := he8.size; omega)) hG11 hst11 hc12 (by omega)
    have hE12 : Ext w3 w12 := hc12.ext (hx11 w3 (he6.trans hx69) (by omega)) (by omega)
    clear hT6 hb6 hb11 k0 k1 hG11 hx11 hst11 hf9 hf8 hi8
    have hz12 := hE12.size
    refine go ?_
    refine st_slice0 (by first | exact True.intro | exact ⟨_, rfl, by ((try simp only [ev_tmp, ev_const, ev_func, get_put, get_args, get_putL, get_putL_nil, Nat.reduceEqDiff, reduceIte, List.getD_cons_zero, List.getD_cons_succ, List.getD_nil, Bool.not_true, Bool.not_false]); first | done | with_reducible rfl)⟩) fun w13 v13 he13 hs13 ho13 => ?_
    refine go ?_
    refine r_for (ys.length - (i + 1)) (fun k ρ w' => ∃ vl rs, Has ρ [(1, vu), (2, .pointer (some ⟨b, 0, none⟩)), (4, .pointer (some ⟨br, 0, none⟩)), (5, .pointer (some ⟨bo, 0, none⟩)), (6, .int .i64 i), (7, vl), (8, .int .i64 ((i + 1 + k : Nat) : Int))] ∧ Ext w12 w' ∧ GrowL 22 w12.heap.size w' vl rs ∧ rs.map (·.2) = (List.range k).map fun k => subCnj ys i (i + 1 + k)) ?_ ?_
    · refine ⟨v13, [], ?_, he13, GrowL.start ho13 (Nat.le_refl _), rfl⟩
      exact hasP
    clear ho13
    rintro k ρ w14 hk ⟨vl, rs, hH, he14, hG14, hrs14⟩
    refine rwp_has hH fun ρ0 => ?_
    have hz14 := he14.size
    have hE14 := hE12.trans he14
    have hrsl : rs.length = k := by have := congrArg List.length hrs14; simpa using this
    refine go ?_
    refine c_if (fun h5 => ?_) (fun h5 => ?_)
    · have hkn : k < ys.length - (i + 1) := by omega
      have hin2 : i + 1 + k < ys.length := by omega
      have hyj : xss.getD (i + 1 + k) [] = (ys.getD (i + 1 + k) 1).v := by rw [hus, vecs_getD ys hin2]; simp [hin2]
      obtain ⟨b2, hb2, hvb2⟩ := own_some' vl w12.heap.size w14.heap.size hz14 (fun g h => (hG14.lst.lt h).1)
      have ap1 : Apart 0 w.heap.size b2 := ⟨.inr (by omega)⟩
      have ap2 : Apart b (b + 1) b2 := ⟨.inr (by omega)⟩
      refine go ?_
      refine z_order b2 (List.range 17) (h := fun w15 he15 _ => ?_)
      refine zgo ?_
      refine zc (l10Conj_ok (p := p) (x := ys.getD (i + 1 + k) 1) (y := ys.getD i 1) hyj hyi) (next := fun v16 w16 h16 => ?_)
      obtain ⟨he16, hf16⟩ := h16
      have hi16 := hf16.ints
      refine zc (l12Exponents_ok (p := p) (x := Grp.cj (ys.getD (i + 1 + k) 1) (ys.getD i 1)) hs hyl hus rfl) (next := fun v17 w17 h17 => ?_)
      obtain ⟨he17, hf17⟩ := h17
      have hx := (he15.trans he16).trans he17
      refine z_grow hG14 hx (hf17.mono (by have := he15.size; have := he16.size; omega)) hz14 (by omega) hvb2 (next := fun v18 v19 w19 hG19 hx19 hz19 hst19 => ?_)
      refine zgo ?_
      refine z_end ?_
      refine go ?_
      refine forQ_normal (by omega) ⟨v19, _, ?_, hx19 w12 (he14.trans hx) (Nat.le_refl _), hG19, ?_⟩
      · exact hasP
      · rw [List.range_succ, List.map_append, List.map_append, hrs14]; rfl
    · obtain rfl : k = ys.length - (i + 1) := by omega
      have hT14 := hT12.ext he14
      have hb14 : Blk w14 bo _ := @Blk.ext _ _ _ _ he14 hb12
      have hb14' : Blk w14 bo [v3, v11, vc6] := hb14
      have k2 : Cell w14 bo 2 vc6 := hb14'.cell rfl
      have hL := GrL.of hG14
      refine go ?_
      refine st_growu (sb := w5.heap.size) hT14.c.own hG14.lst.own.toSl.cells hG14.lst.own.toSl.one hT14.lo (by rw [List.length_map]; omega) (next := fun v15 v16 w16 hO16 hx16 hz16 hst16 => ?_)
      have hb16 : Blk w16 bo [v3, v11, vc6] := Blk.gstep hb14' hst16 (hT14.cb (by omega))
      clear k2
      refine go ?_
      refine st_store_fld (h := hb16) (by ((try simp only [ev_tmp, ev_const, ev_func, get_put, get_args, get_putL, get_putL_nil, Nat.reduceEqDiff, reduceIte, List.getD_cons_zero, List.getD_cons_succ, List.getD_nil]); first | done | with_reducible rfl)) (by ((try simp only [ev_tmp, ev_const, ev_func, get_put, get_args, get_putL, get_putL_nil, Nat.reduceEqDiff, reduceIte, List.getD_cons_zero, List.getD_cons_succ, List.getD_nil]); first | done | with_reducible rfl)) ?_ ?_ (by first | exact True.intro | exact ⟨_, rfl, by ((try simp only [ev_tmp, ev_const, ev_func, get_put, get_args, get_putL, get_putL_nil, Nat.reduceEqDiff, reduceIte, List.getD_cons_zero, List.getD_cons_succ, List.getD_nil, Bool.not_true, Bool.not_false]); first | done | with_reducible rfl)⟩) fun w17 hc17 hs17 hb17 => ?_
      · exact hO16.toSl.one
      · simp
      have hT17 := hT12.fieldC he14 hL hO16 hst16 hc17 (by omega)
      have hE17 : Ext w3 w17 := hc17.ext (hx16 w3 hE14 (by omega)) (by omega)
      refine go ?_
      refine forQ_normal (by omega) ⟨v11, v16, _, _, ?_, hE17, hb17, hT17, ?_, ?_⟩
      · exact hasP
      · rw [List.range_succ, List.map_append, List.map_append, hrp]; rfl
      · rw [List.range_succ, List.map_append, List.map_append, hgs]
        simp only [List.map_cons, List.map_nil, hrs14]
  · obtain rfl : i = ys.length := by omega
    have hbr6 : Blk w6 br _ := @Blk.ext _ _ _ _ (he3.trans he6) hbk2
    have hP := hT6.presO (hf3.ext' he6) (by omega) (fun hn g hg => by have := hf3.blt hn g hg; omega)
    rw [hrp, hgs] at hP
    have o3 := hP.pres.one3
    refine go ?_
    refine ra (v := .agg #[v3, vp6, vc6]) (h := rd_load_blk (hb := hb6) (by ((try simp only [ev_tmp, ev_const, ev_func, get_put, get_args, get_putL, get_putL_nil, Nat.reduceEqDiff, reduceIte, List.getD_cons_zero, List.getD_cons_succ, List.getD_nil]); first | done | with_reducible rfl)) rfl) (next := ?_)
    refine st_store_agg (vs := [v3, vp6, vc6]) (cs := _) (hb := hbr6) (by ((try simp only [ev_tmp, ev_const, ev_func, get_put, get_args, get_putL, get_putL_nil, Nat.reduceEqDiff, reduceIte, List.getD_cons_zero, List.getD_cons_succ, List.getD_nil]); first | done | with_reducible rfl)) (by ((try simp only [ev_tmp, ev_const, ev_func, get_put, get_args, get_putL, get_putL_nil, Nat.reduceEqDiff, reduceIte, List.getD_cons_zero, List.getD_cons_succ, List.getD_nil]); first | done | with_reducible rfl)) rfl ?_ ?_ (by first | exact True.intro | exact ⟨_, rfl, by ((try simp only [ev_tmp, ev_const, ev_func, get_put, get_args, get_putL, get_putL_nil, Nat.reduceEqDiff, reduceIte, List.getD_cons_zero, List.getD_cons_succ, List.getD_nil, Bool.not_true, Bool.not_false]); first | done | with_reducible rfl)⟩) fun w7 hc7 hs7 hb7 => ?_
    · rfl
    · simp [o3.1, o3.2.1, o3.2.2]
    refine go ?_
    have hE7 : Ext w w7 := hc7.ext (hE3.trans he6) (by omega)
    refine retc (b := br) (hb := hb7) ⟨hE7, ?_⟩ rfl
    have hP7 := hP.wr (.one (B := fun g => g = br) rfl hc7) (fun g hg => .inl (by omega))
    have e : (⟨ys.map fun y => p.o (lead y.v), (List.range ys.length).map (subPow ys), (List.range ys.length).map fun i => (List.range (ys.length - (i + 1))).map fun k => subCnj ys i (i + 1 + k)⟩ : Pr) = subPr ys := by
      refine pr_ext3 ?_ rfl rfl
      show _ = (List.range ys.length).map fun i => p.o (lead (ys.getD i 1).v)
      refine List.ext_getElem (by simp) fun j h1 h2 => ?_
      simp at h1
      simp [h1]
    rw [e] at hP7
    rw [hs7]
    exact hP7.sub (by omega) (Nat.le_refl _)
end Go.Proofs.Ytnphljflkpekmaa

/-
  Walks: the reference's ProjectElement.
  Conditions: stated at each theorem.
-/
namespace Go.Proofs.Ytnphljflkpekmaa
open Go Go.Pc
end Go.Proofs.Ytnphljflkpekmaa

/-
  Walks: the reference's presentation of a quotient (l15Quo), SubgroupPresentation, QuotientPresentation.
  Conditions: stated at each theorem.
-/
namespace Go.Proofs.Ytnphljflkpekmaa
open Go Go.Pc
end Go.Proofs.Ytnphljflkpekmaa

/-
  Walks: the reference's SubgroupPresentation, QuotientPresentation.
  Conditions: stated at each theorem.
-/
namespace Go.Proofs.Ytnphljflkpekmaa
open Go Go.Pc
theorem presO_nil {s : Nat} {w : World} (h : s ≤ w.heap.size) : PresO s w.heap.size w (.agg #[nilv, nilv, nilv]) noP := (Tri.nil 0 0 0 0 s w h).pres
theorem presO_nilA {s : Nat} {w : World} (h : s ≤ w.heap.size) : PresO s w.heap.size w (.agg [nilv, nilv, nilv].toArray) noP := presO_nil h
set_option maxHeartbeats 2000000 in
theorem spec_SubgroupPresentation_ok {p : Pr} {w : World} {vp vu : Value} {us : List Value} {xss : List (List Int)} {lo hi lo1 hi1 : Nat} [hp : Pres lo hi w vp p] [hu : Pc.Rows lo1 hi1 w vu us xss] (hl : p.ord.length ≤ 2000000) :
    Calls Try.prog 7 #[vp, vu] w (Ret fun v w' => ∃ (u : Value) (k : Pr) (e : Int), v = .tuple #[u, .int .i64 e] ∧ Ans (IsSubP p xss) (SpV p xss) noP k e ∧ Ext w w' ∧ Pres w.heap.size w'.heap.size w' u k) := by
  obtain ⟨vo, vpw, vc, ps, cs, css, rfl, h1, h2, h3⟩ := hp.ex
  refine enter (args := [.agg #[vo, vpw, vc], vu]) (l := [.cell 4 29, .tmp 5]) Try.func7 rfl rfl Try.ntmps7 (by simp) ?_
  refine go ?_
  refine st_box3 (by ((try simp only [ev_tmp, ev_const, ev_func, get_put, get_args, get_putL, get_putL_nil, Nat.reduceEqDiff, reduceIte, List.getD_cons_zero, List.getD_cons_succ, List.getD_nil]); first | done | with_reducible rfl)) (by first | exact True.intro | exact ⟨_, rfl, by ((try simp only [ev_tmp, ev_const, ev_func, get_put, get_args, get_putL, get_putL_nil, Nat.reduceEqDiff, reduceIte, List.getD_cons_zero, List.getD_cons_succ, List.getD_nil, Bool.not_true, Bool.not_false]); first | done | with_reducible rfl)⟩) fun w1 b he1 hb1 hs1 hc0 hc1 hc2 => ?_
  refine go ?_
  refine st_alloc (by first | exact True.intro | exact ⟨_, rfl, by ((try simp only [ev_tmp, ev_const, ev_func, get_put, get_args, get_putL, get_putL_nil, Nat.reduceEqDiff, reduceIte, List.getD_cons_zero, List.getD_cons_succ, List.getD_nil, Bool.not_true, Bool.not_false]); first | done | with_reducible rfl)⟩) fun w2 br he2 hbr hs2 hbk2 => ?_
  have hz1 := he1.size
  refine go ?_
  refine rc (spec_IsSubgroup_ok (p := p) (xss := xss) hl) (next := fun v5 w5 h5 => ?_)
  obtain ⟨b5, rfl, hb5, he5⟩ := h5
  have hE5 := (he1.trans he2).trans he5
  have hz5 := hE5.size
  have hz52 := he5.size
  refine go ?_
  refine c_b (fun e5 => ?_) (fun e5 => ?_)
  · have hb5' : Blk w5 br _ := @Blk.ext _ _ _ _ he5 hbk2
    refine go ?_
    refine ra (v := .agg #[nilv, nilv, nilv]) (h := rd_build (by rfl) (fun _ => by kernel_rfl)) (next := ?_)
    refine st_store_agg (vs := [nilv, nilv, nilv]) (cs := _) (hb := hb5') (by ((try simp only [ev_tmp, ev_const, ev_func, get_put, get_args, get_putL, get_putL_nil, Nat.reduceEqDiff, reduceIte, List.getD_cons_zero, List.getD_cons_succ, List.getD_nil]); first | done | with_reducible rfl)) (by ((try simp only [ev_tmp, ev_const, ev_func, get_put, get_args, get_putL, get_putL_nil, Nat.reduceEqDiff, reduceIte, List.getD_cons_zero, List.getD_cons_succ, List.getD_nil]); first | done | with_reducible rfl)) rfl ?_ ?_ (by first | exact True.intro | exact ⟨_, rfl, by ((try simp only [ev_tmp, ev_const, ev_func, get_put, get_args, get_putL, get_putL_nil, Nat.reduceEqDiff, reduceIte, List.getD_cons_zero, List.getD_cons_succ, List.getD_nil, Bool.not_true, Bool.not_false]); first | done | with_reducible rfl)⟩) fun w6 hc6 hs6 hb6 => ?_
    · rfl
    · rfl
    have hE6 : Ext w w6 := hc6.ext hE5 (by omega)
    refine go ?_
    refine retc2 (b := br) (hb := hb6) ⟨_, noP, 1, rfl, .inr ⟨fun h => ?_, rfl, rfl⟩, hE6, (presO_nilA hE6.size).pres⟩ rfl
    rw [hb5.2 h] at e5; cases e5
  have hS := hb5.1 (by simpa using e5)
  have hS' := hS
  obtain ⟨hG, hq⟩ := hS'
  haveI : ConAll p := ⟨hG.con⟩
  have hn6 := hG.valid.n6
  obtain ⟨ys, hys, hse⟩ := isSeq_iff.1 hq
  have hyl := hse.len
  refine go ?_
  refine rc (l15Sub_ok (p := p) hse.ok (by omega) hys) (next := fun v6 w6 h6 => ?_)
  obtain ⟨he6, hP6⟩ := h6
  obtain ⟨u0, u1, u2, _, _, rfl, _⟩ := hP6.ex
  have o3 := hP6.pres.one3
  have hb6 : Blk w6 br _ := @Blk.ext _ _ _ _ (he5.trans he6) hbk2
  refine go ?_
  refine st_store_agg (vs := [u0, u1, u2]) (cs := _) (hb := hb6) (by ((try simp only [ev_tmp, ev_const, ev_func, get_put, get_args, get_putL, get_putL_nil, Nat.reduceEqDiff, reduceIte, List.getD_cons_zero, List.getD_cons_succ, List.getD_nil]); first | done | with_reducible rfl)) (by ((try simp only [ev_tmp, ev_const, ev_func, get_put, get_args, get_putL, get_putL_nil, Nat.reduceEqDiff, reduceIte, List.getD_cons_zero, List.getD_cons_succ, List.getD_nil]); first | done | with_reducible rfl)) rfl ?_ ?_ (by first | exact True.intro | exact ⟨_, rfl, by ((try simp only [ev_tmp, ev_const, ev_func, get_put, get_args, get_putL, get_putL_nil, Nat.reduceEqDiff, reduceIte, List.getD_cons_zero, List.getD_cons_succ, List.getD_nil, Bool.not_true, Bool.not_false]); first | done | with_reducible rfl)⟩) fun w7 hc7 hs7 hb7 => ?_
  · rfl
  · simp [o3.1, o3.2.1, o3.2.2]
  have hE7 : Ext w w7 := hc7.ext (hE5.trans he6) (by omega)
  have hP7 := hP6.wr (.one (B := fun g => g = br) rfl hc7) (fun g hg => .inl (by omega))
  refine go ?_
  exact retc2 (b := br) (hb := hb7) ⟨_, subPr ys, 0, rfl, .inl ⟨hS, ⟨inferInstance, ys, hys, rfl⟩, rfl⟩, hE7, ((hP7.sub (by omega) (by omega)).pres)⟩ rfl
end Go.Proofs.Ytnphljflkpekmaa
