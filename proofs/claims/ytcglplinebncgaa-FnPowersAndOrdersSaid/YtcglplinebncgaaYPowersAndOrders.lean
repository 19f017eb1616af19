/-
  Walk: the statement FnPowersAndOrders: it returns true.
  Conditions: the code is a list of bytes.
-/
import Derived.Test.YtcglplinebncgaaEPowersAndOrders1
set_option linter.unusedVariables false
set_option linter.unusedSimpArgs false
set_option linter.unusedSectionVars false
set_option linter.constructorNameAsVariable false
set_option linter.unnecessarySimpa false
set_option linter.deprecated false
/-
  Walk: the statement FnPowersAndOrders: it returns true.
  Conditions: the code is a list of bytes.
-/
namespace Go.Proofs.Ytcglplinebncgaa
open Go Go.Pc
theorem pow_ok {p : Pr} (hG : IsGrp p) [hc : ConAll p] {x : El p} {k : Int} (hk : -1000000 ≤ k ∧ k ≤ 1000000) {r : List Int} {e : Int} (h : Ans (GrpE p x.v) (PwV p x.v k) [] r e) : r = (Grp.pwz x k).v ∧ e = 0 := by
  rcases h with ⟨_, _, x', h1, ⟨h2, _⟩ | ⟨_, h3, h4⟩⟩ | ⟨hn, _⟩
  · exact absurd hk h2
  · obtain rfl : x = x' := T.ext h1
    exact ⟨h3, h4⟩
  · exact absurd ⟨hG, x.inr⟩ hn
set_option maxHeartbeats 16000000 in
theorem lwPowersAndOrders_ok {w : World} {vc : Value} {cs : List Int} {lo hi : Nat} (hs : Sl lo hi w vc (cs.map (Value.int .u8))) (hc : ∀ c, c ∈ cs → 0 ≤ c ∧ c < 256) :
    Calls Try.prog 4 #[vc] w (Ret fun v w' => v = .bool true ∧ Ext w w') := by
  refine enter (args := [vc]) (l := [.tmp 2]) Try.func4 rfl rfl Try.ntmps4 (by simp) ?_
  refine go ?_
  refine rc (big_ok hs) (next := fun v1 w1 h1 => ?_)
  obtain ⟨rfl, he1⟩ := h1
  refine go ?_
  refine c_if (fun q1 => ?_) (fun q1 => ?_)
  · refine go ?_
    exact ret1 ⟨rfl, he1⟩
  have hcod : Cod lo hi w1 vc cs := ⟨hs.same (he1.same _ _), hc, by rw [List.length_map] at q1; omega⟩
  refine go ?_
  refine rc (DrawPower_ok hcod) (next := fun v2 w2 h2 => ?_)
  obtain ⟨vp, vx, xs, k, rfl, ⟨p, he2, hP2, hp2⟩, hfx, hlx, hk1, hk2⟩ := h2
  obtain ⟨vo, vpw, vcc, ps, css, csss, rfl, k1, k2, k3⟩ := hP2.ex
  have o3 := hP2.one3
  have hz2 := he2.size
  have hol := hp2.ord
  refine go ?_
  refine st_alloc (by first | exact True.intro | exact ⟨_, rfl, by ((try simp only [ev_tmp, ev_const, ev_func, get_put, get_args, get_putL, get_putL_nil, Nat.reduceEqDiff, reduceIte, List.getD_cons_zero, List.getD_cons_succ, List.getD_nil, Bool.not_true, Bool.not_false]); first | done | with_reducible rfl)⟩) fun w3 bp he3 hbp hs3 hbk3 => ?_
  refine st_store_agg (vs := [vo, vpw, vcc]) (cs := _) (hb := hbk3) (by ((try simp only [ev_tmp, ev_const, ev_func, get_put, get_args, get_putL, get_putL_nil, Nat.reduceEqDiff, reduceIte, List.getD_cons_zero, List.getD_cons_succ, List.getD_nil]); first | done | with_reducible rfl)) (by ((try simp only [ev_tmp, ev_const, ev_func, get_put, get_args, get_putL, get_putL_nil, Nat.reduceEqDiff, reduceIte, List.getD_cons_zero, List.getD_cons_succ, List.getD_nil]); first | done | with_reducible rfl)) rfl rfl (by simp [o3.1, o3.2.1, o3.2.2]) (by first | exact True.intro | exact ⟨_, rfl, by ((try simp only [ev_tmp, ev_const, ev_func, get_put, get_args, get_putL, get_putL_nil, Nat.reduceEqDiff, reduceIte, List.getD_cons_zero, List.getD_cons_succ, List.getD_nil, Bool.not_true, Bool.not_false]); first | done | with_reducible rfl)⟩) fun w4 hc4 hs4 hB4 => ?_
  have hx4 : Ext w2 w4 := hc4.ext he3 (by omega)
  have hE4 : Ext w w4 := (he1.trans he2).trans hx4
  have hP4 : Pres w1.heap.size w2.heap.size w4 (.agg #[vo, vpw, vcc]) p := hP2.same (hx4.same _ _)
  have hX4 : Ints w1.heap.size w2.heap.size w4 vx xs := hfx.ints.same (hx4.same _ _)
  have hz4 := hx4.size
  clear hP2 hbk3 k1 k2 k3
  refine go ?_
  refine ra (v := .agg #[vo, vpw, vcc]) (h := rd_load_blk (hb := hB4) (by ((try simp only [ev_tmp, ev_const, ev_func, get_put, get_args, get_putL, get_putL_nil, Nat.reduceEqDiff, reduceIte, List.getD_cons_zero, List.getD_cons_succ, List.getD_nil]); first | done | with_reducible rfl)) rfl) (next := ?_)
  refine go ?_
  refine rc (impl_Power_ok (p := p) (xs := xs) (k := k) (by omega)) (next := fun v5 w5 h5 => ?_)
  obtain ⟨uy, ry, e1, rfl, hA5, he5, hf5⟩ := h5
  have hP5 : Pres w1.heap.size w2.heap.size w5 (.agg #[vo, vpw, vcc]) p := hP4.same (he5.same _ _)
  have hX5 : Ints w1.heap.size w2.heap.size w5 vx xs := hX4.same (he5.same _ _)
  have hB5 : Blk w5 bp [vo, vpw, vcc] := @Blk.ext _ _ _ _ he5 hB4
  have hE5 := hE4.trans he5
  have hz5 := (he5).size
  clear hP4 hX4 hB4
  have hY5 : Ints w4.heap.size w5.heap.size w5 uy ry := hf5.ints
  refine go ?_
  refine ra (v := .agg #[vo, vpw, vcc]) (h := rd_load_blk (hb := hB5) (by ((try simp only [ev_tmp, ev_const, ev_func, get_put, get_args, get_putL, get_putL_nil, Nat.reduceEqDiff, reduceIte, List.getD_cons_zero, List.getD_cons_succ, List.getD_nil]); first | done | with_reducible rfl)) rfl) (next := ?_)
  refine go ?_
  refine rc (spec_Power_ok (p := p) (xs := xs) (k := k) (by omega)) (next := fun v6 w6 h6 => ?_)
  obtain ⟨u6, r6, e6, rfl, hA6, he6, hf6⟩ := h6
  obtain ⟨rfl, rfl⟩ := hA5.same hA6 (fun _ => PwV.uniq)
  have hP6 : Pres w1.heap.size w2.heap.size w6 (.agg #[vo, vpw, vcc]) p := hP5.same (he6.same _ _)
  have hX6 : Ints w1.heap.size w2.heap.size w6 vx xs := hX5.same (he6.same _ _)
  have hB6 : Blk w6 bp [vo, vpw, vcc] := @Blk.ext _ _ _ _ he6 hB5
  have hY6 : Ints w4.heap.size w5.heap.size w6 uy ry := hY5.same (he6.same _ _)
  have hE6 := hE5.trans he6
  have hz6 := (he6).size
  clear hP5 hX5 hB5 hY5
  have hD6 := hf6.ints
  have hrl : ry.length ≤ 2000000 := by
    rcases hA5 with ⟨⟨hG, _⟩, _, x, _, ⟨_, rfl, _⟩ | ⟨_, rfl, _⟩⟩ | ⟨_, rfl, _⟩
    · simp
    · have := (Grp.pwz x k).inr.len
      have := hG.valid.n6
      omega
    · simp
  refine go ?_
  refine spd (fun h => absurd rfl h) (fun _ => ?_)
  refine go ?_
  refine rc (likeInts_ok (xs := ry) hrl) (next := fun v7 w7 h7 => ?_)
  obtain ⟨rfl, he7⟩ := h7
  have hP7 : Pres w1.heap.size w2.heap.size w7 (.agg #[vo, vpw, vcc]) p := hP6.same (he7.same _ _)
  have hX7 : Ints w1.heap.size w2.heap.size w7 vx xs := hX6.same (he7.same _ _)
  have hB7 : Blk w7 bp [vo, vpw, vcc] := @Blk.ext _ _ _ _ he7 hB6
  have hY7 : Ints w4.heap.size w5.heap.size w7 uy ry := hY6.same (he7.same _ _)
  have hE7 := hE6.trans he7
  have hz7 := (he7).size
  clear hP6 hX6 hB6 hY6
  refine go ?_
  refine c_b (fun h => ?_) (fun _ => ?_)
  · cases h
  refine go ?_
  refine c_if (fun q2 => ?_) (fun q2 => ?_)
  · refine go ?_
    exact ret1 ⟨rfl, hE7⟩
  obtain ⟨hG, x, rfl, hkr⟩ : ∃ (_ : IsGrp p) (x : El p), xs = x.v ∧ -1000000 ≤ k ∧ k ≤ 1000000 := by
    rcases hA5 with ⟨⟨hG, _⟩, _, x, h1, ⟨_, _, rfl⟩ | ⟨h2, _, _⟩⟩ | ⟨_, _, rfl⟩
    · exact absurd (by decide) q2
    · exact ⟨hG, x, h1, h2⟩
    · exact absurd (by decide) q2
  haveI hca : ConAll p := ⟨hG.con⟩
  obtain ⟨rfl, rfl⟩ := pow_ok hG hkr hA5
  have hv := hG.valid
  have hn6 := hv.n6
  have hnl : p.ord.length = p.n := rfl
  have hyl := (Grp.pwz x k).inr.len
  refine go ?_
  refine ra (v := .agg #[vo, vpw, vcc]) (h := rd_load_blk (hb := hB7) (by ((try simp only [ev_tmp, ev_const, ev_func, get_put, get_args, get_putL, get_putL_nil, Nat.reduceEqDiff, reduceIte, List.getD_cons_zero, List.getD_cons_succ, List.getD_nil]); first | done | with_reducible rfl)) rfl) (next := ?_)
  refine go ?_
  refine rc (ElementOrder_ok (p := p) hG (x := x) rfl) (next := fun v8 w8 h8 => ?_)
  obtain ⟨K, rfl, hK, he8⟩ := h8
  have hP8 : Pres w1.heap.size w2.heap.size w8 (.agg #[vo, vpw, vcc]) p := hP7.same (he8.same _ _)
  have hX8 : Ints w1.heap.size w2.heap.size w8 vx x.v := hX7.same (he8.same _ _)
  have hB8 : Blk w8 bp [vo, vpw, vcc] := @Blk.ext _ _ _ _ he8 hB7
  have hY8 : Ints w4.heap.size w5.heap.size w8 uy (Grp.pwz x k).v := hY7.same (he8.same _ _)
  have hE8 := hE7.trans he8
  have hz8 := (he8).size
  clear hP7 hX7 hB7 hY7
  have hK1 := hK.1
  have hK2 := hK.2.1
  obtain ⟨m, hKm⟩ := per_dvd hK
  obtain ⟨_, hN1, hN2⟩ := ordN_rng p
  refine go ?_
  refine spd (fun h => absurd rfl h) (fun _ => ?_)
  refine go ?_
  refine spd (fun h => absurd h (by omega)) (fun _ => ?_)
  refine go ?_
  refine ra (v := .agg #[vo, vpw, vcc]) (h := rd_load_blk (hb := hB8) (by ((try simp only [ev_tmp, ev_const, ev_func, get_put, get_args, get_putL, get_putL_nil, Nat.reduceEqDiff, reduceIte, List.getD_cons_zero, List.getD_cons_succ, List.getD_nil]); first | done | with_reducible rfl)) rfl) (next := ?_)
  refine go ?_
  refine rc (size9_ok (p := p) hv) (next := fun v9 w9 h9 => ?_)
  obtain ⟨rfl, he9⟩ := h9
  rw [size_ordN]
  have hP9 : Pres w1.heap.size w2.heap.size w9 (.agg #[vo, vpw, vcc]) p := hP8.same (he9.same _ _)
  have hX9 : Ints w1.heap.size w2.heap.size w9 vx x.v := hX8.same (he9.same _ _)
  have hB9 : Blk w9 bp [vo, vpw, vcc] := @Blk.ext _ _ _ _ he9 hB8
  have hY9 : Ints w4.heap.size w5.heap.size w9 uy (Grp.pwz x k).v := hY8.same (he9.same _ _)
  have hE9 := hE8.trans he9
  have hz9 := (he9).size
  clear hP8 hX8 hB8 hY8
  refine go ?_
  have hmod : (ordN p : Int) % (K : Int) = 0 := by rw [← hKm]; push_cast; exact Int.mul_emod_right _ _
  rw [hmod]
  refine go ?_
  refine c_if (fun h => ?_) (fun _ => ?_)
  · exact absurd rfl h
  have c0 : Cell w9 bp 0 vo := hB9.cell rfl
  have c1 : Cell w9 bp 1 vpw := hB9.cell rfl
  have c2 : Cell w9 bp 2 vcc := hB9.cell rfl
  have ht := tmod_bd k K (by omega)
  refine go ?_
  refine d_order (List.range 11) (h := fun wa hea _ => ?_)
  refine dgo ?_
  refine da (v := .int .i64 (k.tmod K)) (h := ⟨fun _ _ => rd_trem (by ((try simp only [ev_tmp, ev_const, ev_func, get_put, get_args, get_putL, get_putL_nil, Nat.reduceEqDiff, reduceIte, List.getD_cons_zero, List.getD_cons_succ, List.getD_nil]); first | done | with_reducible rfl)) (by ((try simp only [ev_tmp, ev_const, ev_func, get_put, get_args, get_putL, get_putL_nil, Nat.reduceEqDiff, reduceIte, List.getD_cons_zero, List.getD_cons_succ, List.getD_nil]); first | done | with_reducible rfl)) (by omega)⟩) (next := ?_)
  refine dce (impl_Power_ok (p := p) (xs := x.v) (k := k.tmod K) (by omega)) (hR := by rintro _ _ ⟨_, _, _, _, _, h, _⟩; exact h) (next := fun vb wb hb => ?_)
  obtain ⟨ua, ra_, eb, rfl, hAb, heb, hfb⟩ := hb
  obtain ⟨rfl, rfl⟩ := pow_ok hG (by omega) hAb
  rw [per_rem hK k] at hfb
  refine dgo ?_
  refine d_end (h := ?_)
  clear c0 c1 c2
  have hxb := hea.trans heb
  have hPb : Pres w1.heap.size w2.heap.size wb (.agg #[vo, vpw, vcc]) p := hP9.same (hxb.same _ _)
  have hXb : Ints w1.heap.size w2.heap.size wb vx x.v := hX9.same (hxb.same _ _)
  have hBb : Blk wb bp [vo, vpw, vcc] := @Blk.ext _ _ _ _ hxb hB9
  have hYb : Ints w4.heap.size w5.heap.size wb uy (Grp.pwz x k).v := hY9.same (hxb.same _ _)
  have hEb := hE9.trans hxb
  have hzb := (hxb).size
  clear hP9 hX9 hB9 hY9
  have hAi := hfb.ints
  refine go ?_
  refine spd (fun h => absurd rfl h) (fun _ => ?_)
  refine go ?_
  refine rc (likeInts_ok (xs := (Grp.pwz x k).v) (by omega)) (next := fun vd wd hd => ?_)
  obtain ⟨rfl, hed⟩ := hd
  have hPd : Pres w1.heap.size w2.heap.size wd (.agg #[vo, vpw, vcc]) p := hPb.same (hed.same _ _)
  have hXd : Ints w1.heap.size w2.heap.size wd vx x.v := hXb.same (hed.same _ _)
  have hBd : Blk wd bp [vo, vpw, vcc] := @Blk.ext _ _ _ _ hed hBb
  have hYd : Ints w4.heap.size w5.heap.size wd uy (Grp.pwz x k).v := hYb.same (hed.same _ _)
  have hEd := hEb.trans hed
  have hzd := (hed).size
  clear hPb hXb hBb hYb
  refine go ?_
  refine c_b (fun h => ?_) (fun _ => ?_)
  · cases h
  refine go ?_
  refine r_mid (fun ρ w' => Has ρ [(3, .pointer (some ⟨bp, 0, none⟩)), (6, uy)] ∧ Ext wd w') ?_ ?_
  · refine c_if (fun q3 => ?_) (fun q3 => ?_)
    · skip
      refine go ?_
      refine ra (v := .agg #[vo, vpw, vcc]) (h := rd_load_blk (hb := hBd) (by ((try simp only [ev_tmp, ev_const, ev_func, get_put, get_args, get_putL, get_putL_nil, Nat.reduceEqDiff, reduceIte, List.getD_cons_zero, List.getD_cons_succ, List.getD_nil]); first | done | with_reducible rfl)) rfl) (next := ?_)
      refine go ?_
      refine rc (impl_Power_ok (p := p) (xs := x.v) (k := k + 1) (by omega)) (next := fun vf wf hf => ?_)
      obtain ⟨um, rm, em, rfl, hAm, hef, hfm⟩ := hf
      obtain ⟨rfl, rfl⟩ := pow_ok hG (by omega) hAm
      rw [pwz_succ] at hfm
      have hPf : Pres w1.heap.size w2.heap.size wf (.agg #[vo, vpw, vcc]) p := hPd.same (hef.same _ _)
      have hXf : Ints w1.heap.size w2.heap.size wf vx x.v := hXd.same (hef.same _ _)
      have hBf : Blk wf bp [vo, vpw, vcc] := @Blk.ext _ _ _ _ hef hBd
      have hYf : Ints w4.heap.size w5.heap.size wf uy (Grp.pwz x k).v := hYd.same (hef.same _ _)
      have hEf := hEd.trans hef
      have hzf := (hef).size
      have hMf := hfm.ints
      have hml := (Grp.pwz x k * x).inr.len
      refine go ?_
      refine spd (fun h => absurd rfl h) (fun _ => ?_)
      refine go ?_
      refine ra (v := .agg #[vo, vpw, vcc]) (h := rd_load_blk (hb := hBf) (by ((try simp only [ev_tmp, ev_const, ev_func, get_put, get_args, get_putL, get_putL_nil, Nat.reduceEqDiff, reduceIte, List.getD_cons_zero, List.getD_cons_succ, List.getD_nil]); first | done | with_reducible rfl)) rfl) (next := ?_)
      refine go ?_
      refine rc (mul9_ok (p := p) hG (x := Grp.pwz x k) (y := x) rfl rfl) (next := fun vg wg hg => ?_)
      obtain ⟨heg, hfg⟩ := hg
      have hPg : Pres w1.heap.size w2.heap.size wg (.agg #[vo, vpw, vcc]) p := hPf.same (heg.same _ _)
      have hXg : Ints w1.heap.size w2.heap.size wg vx x.v := hXf.same (heg.same _ _)
      have hBg : Blk wg bp [vo, vpw, vcc] := @Blk.ext _ _ _ _ heg hBf
      have hYg : Ints w4.heap.size w5.heap.size wg uy (Grp.pwz x k).v := hYf.same (heg.same _ _)
      have hEg := hEf.trans heg
      have hzg := (heg).size
      have hMg := hMf.same (heg.same _ _)
      have hLg := hfg.ints
      refine go ?_
      refine rc (likeInts_ok (xs := (Grp.pwz x k * x).v) (by omega)) (next := fun vh wh hh => ?_)
      obtain ⟨rfl, heh⟩ := hh
      refine go ?_
      refine c_b (fun h => ?_) (fun _ => ?_)
      · cases h
      refine go ?_
      refine ⟨rfl, ?_, (hef.trans heg).trans heh⟩
      exact hasP
    · refine go ?_
      refine ⟨rfl, ?_, Ext.refl _⟩
      exact hasP
  rintro ρ we ⟨hH, hee⟩
  refine thn_normal (rwp_has hH fun ρ1 => ?_)
  have hPe : Pres w1.heap.size w2.heap.size we (.agg #[vo, vpw, vcc]) p := hPd.same (hee.same _ _)
  have hXe : Ints w1.heap.size w2.heap.size we vx x.v := hXd.same (hee.same _ _)
  have hBe : Blk we bp [vo, vpw, vcc] := @Blk.ext _ _ _ _ hee hBd
  have hYe : Ints w4.heap.size w5.heap.size we uy (Grp.pwz x k).v := hYd.same (hee.same _ _)
  have hEe := hEd.trans hee
  have hze := (hee).size
  clear hPd hXd hBd hYd
  refine go ?_
  refine ra (v := .agg #[vo, vpw, vcc]) (h := rd_load_blk (hb := hBe) (by ((try simp only [ev_tmp, ev_const, ev_func, get_put, get_args, get_putL, get_putL_nil, Nat.reduceEqDiff, reduceIte, List.getD_cons_zero, List.getD_cons_succ, List.getD_nil]); first | done | with_reducible rfl)) rfl) (next := ?_)
  refine go ?_
  refine rc (ElementNumber_ok (p := p) hG (x := Grp.pwz x k) rfl) (next := fun vi wi hi' => ?_)
  obtain ⟨rfl, hei⟩ := hi'
  have hPi : Pres w1.heap.size w2.heap.size wi (.agg #[vo, vpw, vcc]) p := hPe.same (hei.same _ _)
  have hXi : Ints w1.heap.size w2.heap.size wi vx x.v := hXe.same (hei.same _ _)
  have hBi : Blk wi bp [vo, vpw, vcc] := @Blk.ext _ _ _ _ hei hBe
  have hYi : Ints w4.heap.size w5.heap.size wi uy (Grp.pwz x k).v := hYe.same (hei.same _ _)
  have hEi := hEe.trans hei
  have hzi := (hei).size
  clear hPe hXe hBe hYe
  have hnl9 := numE_lt (Grp.pwz x k)
  refine go ?_
  refine ra (v := .agg #[vo, vpw, vcc]) (h := rd_load_blk (hb := hBi) (by ((try simp only [ev_tmp, ev_const, ev_func, get_put, get_args, get_putL, get_putL_nil, Nat.reduceEqDiff, reduceIte, List.getD_cons_zero, List.getD_cons_succ, List.getD_nil]); first | done | with_reducible rfl)) rfl) (next := ?_)
  refine go ?_
  refine rc (ElementAt_ok (p := p) hG (t := numE (Grp.pwz x k)) hnl9) (next := fun vj wj hj => ?_)
  obtain ⟨ub, rfl, hej, hfj⟩ := hj
  rw [allE_numE] at hfj
  have hPj : Pres w1.heap.size w2.heap.size wj (.agg #[vo, vpw, vcc]) p := hPi.same (hej.same _ _)
  have hXj : Ints w1.heap.size w2.heap.size wj vx x.v := hXi.same (hej.same _ _)
  have hBj : Blk wj bp [vo, vpw, vcc] := @Blk.ext _ _ _ _ hej hBi
  have hYj : Ints w4.heap.size w5.heap.size wj uy (Grp.pwz x k).v := hYi.same (hej.same _ _)
  have hEj := hEi.trans hej
  have hzj := (hej).size
  clear hPi hXi hBi hYi
  have hJj := hfj.ints
  refine go ?_
  refine spd (fun _ => ?k1) (fun h => (h ?t1).elim)
  case t1 => first | exact trivial | rfl | omega
  refine go ?_
  refine spd (fun _ => ?k2) (fun h => (h ?t2).elim)
  case t2 => first | exact trivial | rfl | omega
  refine go ?_
  refine rc (likeInts_ok (xs := (Grp.pwz x k).v) (by omega)) (next := fun vk wk hk' => ?_)
  obtain ⟨rfl, hek⟩ := hk'
  have hPk : Pres w1.heap.size w2.heap.size wk (.agg #[vo, vpw, vcc]) p := hPj.same (hek.same _ _)
  have hXk : Ints w1.heap.size w2.heap.size wk vx x.v := hXj.same (hek.same _ _)
  have hBk : Blk wk bp [vo, vpw, vcc] := @Blk.ext _ _ _ _ hek hBj
  have hYk : Ints w4.heap.size w5.heap.size wk uy (Grp.pwz x k).v := hYj.same (hek.same _ _)
  have hEk := hEj.trans hek
  have hzk := (hek).size
  clear hPj hXj hBj hYj
  refine go ?_
  refine spd (fun _ => ?k3) (fun h => (h ?t3).elim)
  case t3 => omega
  refine go ?_
  refine ra (v := .agg #[vo, vpw, vcc]) (h := rd_load_blk (hb := hBk) (by ((try simp only [ev_tmp, ev_const, ev_func, get_put, get_args, get_putL, get_putL_nil, Nat.reduceEqDiff, reduceIte, List.getD_cons_zero, List.getD_cons_succ, List.getD_nil]); first | done | with_reducible rfl)) rfl) (next := ?_)
  refine go ?_
  refine rc (size9_ok (p := p) hv) (next := fun vl wl hl => ?_)
  obtain ⟨rfl, hel⟩ := hl
  rw [size_ordN]
  refine go ?_
  refine ret1 (v := .bool (decide (((numE (Grp.pwz x k) : Nat) : Int) < (ordN p : Nat)))) ⟨?_, hEk.trans hel⟩
  rw [decide_eq_true (by omega)]
end Go.Proofs.Ytcglplinebncgaa
