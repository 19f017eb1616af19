/-
  Walk: the statement FnConjugation: it returns true.
  Conditions: the code is a list of bytes.
-/
import Derived.Test.YtcglplinebncgaaEConjugation1
set_option linter.unusedVariables false
set_option linter.unusedSimpArgs false
set_option linter.unusedSectionVars false
set_option linter.constructorNameAsVariable false
set_option linter.unnecessarySimpa false
set_option linter.deprecated false
/-
  Walk: the statement FnConjugation: it returns true.
  Conditions: the code is a list of bytes.
-/
namespace Go.Proofs.Ytcglplinebncgaa
open Go Go.Pc
theorem bin_ok {f : (p : Pr) → [ConAll p] → El p → El p → El p} {p : Pr} (hG : IsGrp p) [hc : ConAll p] {x y : El p} {r : List Int} {e : Int} (h : Ans (GrpE2 p x.v y.v) (BinV f p x.v y.v) [] r e) : r = (f p x y).v ∧ e = 0 := by
  rcases h with ⟨_, _, x', y', h1, h2, h3, h4⟩ | ⟨hn, _⟩
  · obtain rfl : x = x' := T.ext h1
    obtain rfl : y = y' := T.ext h2
    exact ⟨h3, h4⟩
  · exact absurd ⟨hG, x.inr, y.inr⟩ hn
theorem x_mul_cm {p : Pr} [hc : ConAll p] (x y : El p) : x * Grp.cm x y = Grp.cj x y := by
  unfold Grp.cm
  rw [← Grp.mul_assoc, Grp.mul_inv, Grp.one_mul]
set_option maxHeartbeats 16000000 in
theorem lwConjugation_ok {w : World} {vc : Value} {cs : List Int} {lo hi : Nat} (hs : Sl lo hi w vc (cs.map (Value.int .u8))) (hc : ∀ c, c ∈ cs → 0 ≤ c ∧ c < 256) :
    Calls Try.prog 3 #[vc] w (Ret fun v w' => v = .bool true ∧ Ext w w') := by
  refine enter (args := [vc]) (l := [.tmp 2]) Try.func3 rfl rfl Try.ntmps3 (by simp) ?_
  refine go ?_
  refine rc (big_ok hs) (next := fun v1 w1 h1 => ?_)
  obtain ⟨rfl, he1⟩ := h1
  refine go ?_
  refine c_if (fun q1 => ?_) (fun q1 => ?_)
  · refine go ?_
    exact ret1 ⟨rfl, he1⟩
  have hcod : Cod lo hi w1 vc cs := ⟨hs.same (he1.same _ _), hc, by rw [List.length_map] at q1; omega⟩
  refine go ?_
  refine rc (DrawConjugate_ok hcod) (next := fun v2 w2 h2 => ?_)
  obtain ⟨vp, vx, vy, xs, ys, rfl, ⟨p, he2, hP2, hp2⟩, hfx, hfy, hlx, hly⟩ := h2
  obtain ⟨vo, vpw, vcc, ps, css, csss, rfl, k1, k2, k3⟩ := hP2.ex
  have o3 := hP2.one3
  have hz2 := he2.size
  have hol := hp2.ord
  refine go ?_
  refine st_alloc (by first | exact True.intro | exact ⟨_, rfl, by ((try simp only [ev_tmp, ev_const, ev_func, get_put, get_args, get_putL, get_putL_nil, Nat.reduceEqDiff, reduceIte, List.getD_cons_zero, List.getD_cons_succ, List.getD_nil, Bool.not_true, Bool.not_false]); first | done | with_reducible rfl)⟩) fun w3 bp he3 hbp hs3 hbk3 => ?_
  refine st_store_agg (vs := [vo, vpw, vcc]) (cs := _) (hb := hbk3) (by ((try simp only [ev_tmp, ev_const, ev_func, get_put, get_args, get_putL, get_putL_nil, Nat.reduceEqDiff, reduceIte, List.getD_cons_zero, List.getD_cons_succ, List.getD_nil]); first | done | with_reducible rfl)) (by ((try simp only [ev_tmp, ev_const, ev_func, get_put, get_args, get_putL, get_putL_nil, Nat.reduceEqDiff, reduceIte, List.getD_cons_zero, List.getD_cons_succ, List.getD_nil]); first | done | with_reducible rfl)) rfl rfl (by simp [o3.1, o3.2.1, o3.2.2]) (by first | exact True.intro | exact ⟨_, rfl, by ((try simp only [ev_tmp, ev_const, ev_func, get_put, get_args, get_putL, get_putL_nil, Nat.reduceEqDiff, reduceIte, List.getD_cons_zero, List.getD_cons_succ, List.getD_nil, Bool.not_true, Bool.not_false]); first | done | with_reducible rfl)⟩) fun w4 hc4 hs4 hB4 => ?_
  have hx4 : Ext w2 w4 := hc4.ext he3 (by omega)
  have hE4 : Ext w w4 := (he1.trans he2).trans hx4
  have hP4 : Pres w1.heap.size w2.heap.size w4 (.agg #[vo, vpw, vcc]) p := hP2.same (hx4.same _ _)
  have hX4 : Ints w1.heap.size w2.heap.size w4 vx xs := hfx.ints.same (hx4.same _ _)
  have hY4 : Ints w1.heap.size w2.heap.size w4 vy ys := hfy.ints.same (hx4.same _ _)
  have hK4 : Cod lo hi w4 vc cs := ⟨hs.same (hE4.same _ _), hc, hcod.len⟩
  have hz4 := hx4.size
  clear hP2 hbk3 k1 k2 k3
  refine go ?_
  refine ra (v := .agg #[vo, vpw, vcc]) (h := rd_load_blk (hb := hB4) (by ((try simp only [ev_tmp, ev_const, ev_func, get_put, get_args, get_putL, get_putL_nil, Nat.reduceEqDiff, reduceIte, List.getD_cons_zero, List.getD_cons_succ, List.getD_nil]); first | done | with_reducible rfl)) rfl) (next := ?_)
  refine go ?_
  refine rc (impl_Conjugate_ok (p := p) (xs := xs) (ys := ys) (by omega)) (next := fun v5 w5 h5 => ?_)
  obtain ⟨uc, rc_, e1, rfl, hA5, he5, hf5⟩ := h5
  have hP5 : Pres w1.heap.size w2.heap.size w5 (.agg #[vo, vpw, vcc]) p := hP4.same (he5.same _ _)
  have hX5 : Ints w1.heap.size w2.heap.size w5 vx xs := hX4.same (he5.same _ _)
  have hY5 : Ints w1.heap.size w2.heap.size w5 vy ys := hY4.same (he5.same _ _)
  have hB5 : Blk w5 bp [vo, vpw, vcc] := @Blk.ext _ _ _ _ he5 hB4
  have hK5 : Cod lo hi w5 vc cs := ⟨hK4.sl.same (he5.same _ _), hc, hcod.len⟩
  have hE5 := hE4.trans he5
  have hz5 := (he5).size
  clear hP4 hX4 hY4 hB4 hK4
  have hC5 : Ints w4.heap.size w5.heap.size w5 uc rc_ := hf5.ints
  refine go ?_
  refine ra (v := .agg #[vo, vpw, vcc]) (h := rd_load_blk (hb := hB5) (by ((try simp only [ev_tmp, ev_const, ev_func, get_put, get_args, get_putL, get_putL_nil, Nat.reduceEqDiff, reduceIte, List.getD_cons_zero, List.getD_cons_succ, List.getD_nil]); first | done | with_reducible rfl)) rfl) (next := ?_)
  refine go ?_
  refine rc (spec_Conjugate_ok (p := p) (xs := xs) (ys := ys) (by omega)) (next := fun v6 w6 h6 => ?_)
  obtain ⟨u6, r6, e6, rfl, hA6, he6, hf6⟩ := h6
  obtain ⟨rfl, rfl⟩ := hA5.same hA6 (fun _ => BinV.uniq)
  have hP6 : Pres w1.heap.size w2.heap.size w6 (.agg #[vo, vpw, vcc]) p := hP5.same (he6.same _ _)
  have hX6 : Ints w1.heap.size w2.heap.size w6 vx xs := hX5.same (he6.same _ _)
  have hY6 : Ints w1.heap.size w2.heap.size w6 vy ys := hY5.same (he6.same _ _)
  have hB6 : Blk w6 bp [vo, vpw, vcc] := @Blk.ext _ _ _ _ he6 hB5
  have hK6 : Cod lo hi w6 vc cs := ⟨hK5.sl.same (he6.same _ _), hc, hcod.len⟩
  have hC6 : Ints w4.heap.size w5.heap.size w6 uc rc_ := hC5.same (he6.same _ _)
  have hE6 := hE5.trans he6
  have hz6 := (he6).size
  clear hP5 hX5 hY5 hB5 hK5 hC5
  have hD6 := hf6.ints
  have hrl : rc_.length ≤ 2000000 := by
    rcases hA5 with ⟨⟨hG, _⟩, _, x, y, _, _, rfl, _⟩ | ⟨_, rfl, _⟩
    · have := (cjF p x y).inr.len
      have := hG.valid.n6
      omega
    · simp
  refine go ?_
  refine spd (fun h => absurd rfl h) (fun _ => ?_)
  refine go ?_
  refine rc (likeInts_ok (xs := rc_) hrl) (next := fun v7 w7 h7 => ?_)
  obtain ⟨rfl, he7⟩ := h7
  have hP7 : Pres w1.heap.size w2.heap.size w7 (.agg #[vo, vpw, vcc]) p := hP6.same (he7.same _ _)
  have hX7 : Ints w1.heap.size w2.heap.size w7 vx xs := hX6.same (he7.same _ _)
  have hY7 : Ints w1.heap.size w2.heap.size w7 vy ys := hY6.same (he7.same _ _)
  have hB7 : Blk w7 bp [vo, vpw, vcc] := @Blk.ext _ _ _ _ he7 hB6
  have hK7 : Cod lo hi w7 vc cs := ⟨hK6.sl.same (he7.same _ _), hc, hcod.len⟩
  have hC7 : Ints w4.heap.size w5.heap.size w7 uc rc_ := hC6.same (he7.same _ _)
  have hE7 := hE6.trans he7
  have hz7 := (he7).size
  clear hP6 hX6 hY6 hB6 hK6 hC6
  refine go ?_
  refine c_b (fun h => ?_) (fun _ => ?_)
  · cases h
  refine go ?_
  refine c_if (fun q2 => ?_) (fun q2 => ?_)
  · refine go ?_
    exact ret1 ⟨rfl, hE7⟩
  obtain ⟨hG, x, y, rfl, rfl⟩ : ∃ (_ : IsGrp p) (x y : El p), xs = x.v ∧ ys = y.v := by
    rcases hA5 with ⟨⟨hG, _⟩, _, x, y, h1, h2, _⟩ | ⟨_, _, rfl⟩
    · exact ⟨hG, x, y, h1, h2⟩
    · exact absurd (by decide) q2
  haveI hca : ConAll p := ⟨hG.con⟩
  obtain ⟨rfl, rfl⟩ := bin_ok hG hA5
  have hv := hG.valid
  have hn6 := hv.n6
  have hnl : p.ord.length = p.n := rfl
  refine go ?_
  refine rc (roll_ok hK7) (next := fun v8 w8 h8 => ?_)
  obtain ⟨bd, rfl, he8, hd8, hbd8⟩ := h8
  have hP8 : Pres w1.heap.size w2.heap.size w8 (.agg #[vo, vpw, vcc]) p := hP7.same (he8.same _ _)
  have hX8 : Ints w1.heap.size w2.heap.size w8 vx x.v := hX7.same (he8.same _ _)
  have hY8 : Ints w1.heap.size w2.heap.size w8 vy y.v := hY7.same (he8.same _ _)
  have hB8 : Blk w8 bp [vo, vpw, vcc] := @Blk.ext _ _ _ _ he8 hB7
  have hK8 : Cod lo hi w8 vc cs := ⟨hK7.sl.same (he8.same _ _), hc, hcod.len⟩
  have hC8 : Ints w4.heap.size w5.heap.size w8 uc (cjF p x y).v := hC7.same (he8.same _ _)
  have hE8 := hE7.trans he8
  have hz8 := (he8).size
  clear hP7 hX7 hY7 hB7 hK7 hC7
  refine go ?_
  refine ra (v := .agg #[vo, vpw, vcc]) (h := rd_load_blk (hb := hB8) (by ((try simp only [ev_tmp, ev_const, ev_func, get_put, get_args, get_putL, get_putL_nil, Nat.reduceEqDiff, reduceIte, List.getD_cons_zero, List.getD_cons_succ, List.getD_nil]); first | done | with_reducible rfl)) rfl) (next := ?_)
  refine go ?_
  refine rc (draw9_ok (p := p) (hp := hP8) hv hd8 (by omega)) (next := fun vz w9 h9 => ?_)
  obtain ⟨zs, hc9, hd9, hf9, hI9⟩ := h9
  obtain ⟨z, rfl⟩ := inR_el hI9
  have hx79 : Ext w7 w9 := hc9.ext he8 hbd8
  have hP9 : Pres w1.heap.size w2.heap.size w9 (.agg #[vo, vpw, vcc]) p := hP8.same (hc9.same (.inr (by omega)))
  have hX9 : Ints w1.heap.size w2.heap.size w9 vx x.v := hX8.same (hc9.same (.inr (by omega)))
  have hY9 : Ints w1.heap.size w2.heap.size w9 vy y.v := hY8.same (hc9.same (.inr (by omega)))
  have hB9 : Blk w9 bp [vo, vpw, vcc] := hB8.wr (.one (B := fun g => g = bd) rfl hc9) fun e => by have := hB8.lt; omega
  have hC9 : Ints w4.heap.size w5.heap.size w9 uc (cjF p x y).v := hC8.same (hc9.same (.inr (by omega)))
  have hz9 := hc9.size
  have hE9 := hE7.trans hx79
  clear hP8 hX8 hY8 hB8 hK8 hC8
  have hZ9 : Ints w8.heap.size w9.heap.size w9 vz z.v := hf9.ints
  refine go ?_
  refine ra (v := .agg #[vo, vpw, vcc]) (h := rd_load_blk (hb := hB9) (by ((try simp only [ev_tmp, ev_const, ev_func, get_put, get_args, get_putL, get_putL_nil, Nat.reduceEqDiff, reduceIte, List.getD_cons_zero, List.getD_cons_succ, List.getD_nil]); first | done | with_reducible rfl)) rfl) (next := ?_)
  refine go ?_
  refine rc (impl_Conjugate_ok (p := p) (xs := (cjF p x y).v) (ys := z.v) (by omega)) (next := fun v10 w10 h10 => ?_)
  obtain ⟨ud, rd, e10, rfl, hA10, he10, hf10⟩ := h10
  obtain ⟨rfl, rfl⟩ := bin_ok hG hA10
  have hP10 : Pres w1.heap.size w2.heap.size w10 (.agg #[vo, vpw, vcc]) p := hP9.same (he10.same _ _)
  have hX10 : Ints w1.heap.size w2.heap.size w10 vx x.v := hX9.same (he10.same _ _)
  have hY10 : Ints w1.heap.size w2.heap.size w10 vy y.v := hY9.same (he10.same _ _)
  have hB10 : Blk w10 bp [vo, vpw, vcc] := @Blk.ext _ _ _ _ he10 hB9
  have hC10 : Ints w4.heap.size w5.heap.size w10 uc (cjF p x y).v := hC9.same (he10.same _ _)
  have hZ10 : Ints w8.heap.size w9.heap.size w10 vz z.v := hZ9.same (he10.same _ _)
  have hE10 := hE9.trans he10
  have hz10 := (he10).size
  clear hP9 hX9 hY9 hB9 hC9 hZ9
  have hD10 : Ints w9.heap.size w10.heap.size w10 ud (cjF p (cjF p x y) z).v := hf10.ints
  have c0 : Cell w10 bp 0 vo := hB10.cell rfl
  have c1 : Cell w10 bp 1 vpw := hB10.cell rfl
  have c2 : Cell w10 bp 2 vcc := hB10.cell rfl
  refine go ?_
  refine d_order (List.range 12) (h := fun w11 he11 _ => ?_)
  refine dgo ?_
  refine dce (mul9_ok (p := p) hG (x := y) (y := z) rfl rfl) (next := fun v12 w12 h12 => ?_)
  obtain ⟨he12, hf12⟩ := h12
  refine dce (impl_Conjugate_ok (p := p) (xs := x.v) (ys := (y * z).v) (by omega)) (hR := by rintro _ _ ⟨_, _, _, _, _, h, _⟩; exact h) (next := fun v13 w13 h13 => ?_)
  obtain ⟨ue, re, e13, rfl, hA13, he13, hf13⟩ := h13
  obtain ⟨rfl, rfl⟩ := bin_ok hG hA13
  refine dgo ?_
  refine d_end (h := ?_)
  clear c0 c1 c2
  have hx13 := (he11.trans he12).trans he13
  have hP13 : Pres w1.heap.size w2.heap.size w13 (.agg #[vo, vpw, vcc]) p := hP10.same (hx13.same _ _)
  have hX13 : Ints w1.heap.size w2.heap.size w13 vx x.v := hX10.same (hx13.same _ _)
  have hY13 : Ints w1.heap.size w2.heap.size w13 vy y.v := hY10.same (hx13.same _ _)
  have hB13 : Blk w13 bp [vo, vpw, vcc] := @Blk.ext _ _ _ _ hx13 hB10
  have hC13 : Ints w4.heap.size w5.heap.size w13 uc (cjF p x y).v := hC10.same (hx13.same _ _)
  have hZ13 : Ints w8.heap.size w9.heap.size w13 vz z.v := hZ10.same (hx13.same _ _)
  have hD13 : Ints w9.heap.size w10.heap.size w13 ud (cjF p (cjF p x y) z).v := hD10.same (hx13.same _ _)
  have hE13 := hE10.trans hx13
  have hz13 := (hx13).size
  clear hP10 hX10 hY10 hB10 hC10 hZ10 hD10
  have hF13 : Ints w12.heap.size w13.heap.size w13 ue (cjF p x (y * z)).v := hf13.ints
  refine go ?_
  refine ra (v := .agg #[vo, vpw, vcc]) (h := rd_load_blk (hb := hB13) (by ((try simp only [ev_tmp, ev_const, ev_func, get_put, get_args, get_putL, get_putL_nil, Nat.reduceEqDiff, reduceIte, List.getD_cons_zero, List.getD_cons_succ, List.getD_nil]); first | done | with_reducible rfl)) rfl) (next := ?_)
  refine go ?_
  refine rc (impl_Conjugate_ok (p := p) (xs := z.v) (ys := y.v) (by omega)) (next := fun v14 w14 h14 => ?_)
  obtain ⟨uf, rf, e14, rfl, hA14, he14, hf14⟩ := h14
  obtain ⟨rfl, rfl⟩ := bin_ok hG hA14
  have hP14 : Pres w1.heap.size w2.heap.size w14 (.agg #[vo, vpw, vcc]) p := hP13.same (he14.same _ _)
  have hX14 : Ints w1.heap.size w2.heap.size w14 vx x.v := hX13.same (he14.same _ _)
  have hY14 : Ints w1.heap.size w2.heap.size w14 vy y.v := hY13.same (he14.same _ _)
  have hB14 : Blk w14 bp [vo, vpw, vcc] := @Blk.ext _ _ _ _ he14 hB13
  have hC14 : Ints w4.heap.size w5.heap.size w14 uc (cjF p x y).v := hC13.same (he14.same _ _)
  have hZ14 : Ints w8.heap.size w9.heap.size w14 vz z.v := hZ13.same (he14.same _ _)
  have hD14 : Ints w9.heap.size w10.heap.size w14 ud (cjF p (cjF p x y) z).v := hD13.same (he14.same _ _)
  have hF14 : Ints w12.heap.size w13.heap.size w14 ue (cjF p x (y * z)).v := hF13.same (he14.same _ _)
  have hE14 := hE13.trans he14
  have hz14 := (he14).size
  clear hP13 hX13 hY13 hB13 hC13 hZ13 hD13 hF13
  have hG14 : Ints w13.heap.size w14.heap.size w14 uf (cjF p z y).v := hf14.ints
  have c0 : Cell w14 bp 0 vo := hB14.cell rfl
  have c1 : Cell w14 bp 1 vpw := hB14.cell rfl
  have c2 : Cell w14 bp 2 vcc := hB14.cell rfl
  refine go ?_
  refine d_order [0, 1, 2, 3, 5, 4, 6, 7, 8, 9, 10, 11] (h := fun w15 he15 _ => ?_)
  refine dgo ?_
  refine dce (mul9_ok (p := p) hG (x := x) (y := z) rfl rfl) (next := fun v16 w16 h16 => ?_)
  obtain ⟨he16, hf16⟩ := h16
  refine dce (impl_Conjugate_ok (p := p) (xs := (x * z).v) (ys := y.v) (by omega)) (hR := by rintro _ _ ⟨_, _, _, _, _, h, _⟩; exact h) (next := fun v17 w17 h17 => ?_)
  obtain ⟨ug, rg, e17, rfl, hA17, he17, hf17⟩ := h17
  obtain ⟨rfl, rfl⟩ := bin_ok hG hA17
  refine dgo ?_
  refine d_end (h := ?_)
  clear c0 c1 c2
  have hx17 := (he15.trans he16).trans he17
  have hP17 : Pres w1.heap.size w2.heap.size w17 (.agg #[vo, vpw, vcc]) p := hP14.same (hx17.same _ _)
  have hX17 : Ints w1.heap.size w2.heap.size w17 vx x.v := hX14.same (hx17.same _ _)
  have hY17 : Ints w1.heap.size w2.heap.size w17 vy y.v := hY14.same (hx17.same _ _)
  have hB17 : Blk w17 bp [vo, vpw, vcc] := @Blk.ext _ _ _ _ hx17 hB14
  have hC17 : Ints w4.heap.size w5.heap.size w17 uc (cjF p x y).v := hC14.same (hx17.same _ _)
  have hZ17 : Ints w8.heap.size w9.heap.size w17 vz z.v := hZ14.same (hx17.same _ _)
  have hD17 : Ints w9.heap.size w10.heap.size w17 ud (cjF p (cjF p x y) z).v := hD14.same (hx17.same _ _)
  have hF17 : Ints w12.heap.size w13.heap.size w17 ue (cjF p x (y * z)).v := hF14.same (hx17.same _ _)
  have hG17 : Ints w13.heap.size w14.heap.size w17 uf (cjF p z y).v := hG14.same (hx17.same _ _)
  have hE17 := hE14.trans hx17
  have hz17 := (hx17).size
  clear hP14 hX14 hY14 hB14 hC14 hZ14 hD14 hF14 hG14
  have hH17 : Ints w16.heap.size w17.heap.size w17 ug (cjF p (x * z) y).v := hf17.ints
  refine go ?_
  refine ra (v := .agg #[vo, vpw, vcc]) (h := rd_load_blk (hb := hB17) (by ((try simp only [ev_tmp, ev_const, ev_func, get_put, get_args, get_putL, get_putL_nil, Nat.reduceEqDiff, reduceIte, List.getD_cons_zero, List.getD_cons_succ, List.getD_nil]); first | done | with_reducible rfl)) rfl) (next := ?_)
  refine go ?_
  refine rc (impl_Commutator_ok (p := p) (xs := x.v) (ys := y.v) (by omega)) (next := fun v18 w18 h18 => ?_)
  obtain ⟨uh, rh, e18, rfl, hA18, he18, hf18⟩ := h18
  obtain ⟨rfl, rfl⟩ := bin_ok hG hA18
  have hP18 : Pres w1.heap.size w2.heap.size w18 (.agg #[vo, vpw, vcc]) p := hP17.same (he18.same _ _)
  have hX18 : Ints w1.heap.size w2.heap.size w18 vx x.v := hX17.same (he18.same _ _)
  have hY18 : Ints w1.heap.size w2.heap.size w18 vy y.v := hY17.same (he18.same _ _)
  have hB18 : Blk w18 bp [vo, vpw, vcc] := @Blk.ext _ _ _ _ he18 hB17
  have hC18 : Ints w4.heap.size w5.heap.size w18 uc (cjF p x y).v := hC17.same (he18.same _ _)
  have hZ18 : Ints w8.heap.size w9.heap.size w18 vz z.v := hZ17.same (he18.same _ _)
  have hD18 : Ints w9.heap.size w10.heap.size w18 ud (cjF p (cjF p x y) z).v := hD17.same (he18.same _ _)
  have hF18 : Ints w12.heap.size w13.heap.size w18 ue (cjF p x (y * z)).v := hF17.same (he18.same _ _)
  have hG18 : Ints w13.heap.size w14.heap.size w18 uf (cjF p z y).v := hG17.same (he18.same _ _)
  have hH18 : Ints w16.heap.size w17.heap.size w18 ug (cjF p (x * z) y).v := hH17.same (he18.same _ _)
  have hE18 := hE17.trans he18
  have hz18 := (he18).size
  clear hP17 hX17 hY17 hB17 hC17 hZ17 hD17 hF17 hG17 hH17
  have hI18 : Ints w17.heap.size w18.heap.size w18 uh (cmF p x y).v := hf18.ints
  have ed : cjF p (cjF p x y) z = cjF p x (y * z) := Grp.cj_cj x y z
  rw [ed] at hD18
  have l1 := (cjF p x (y * z)).inr.len
  have l2 := (cjF p (x * z) y).inr.len
  have l3 := (cjF p x y).inr.len
  refine go ?_
  refine spd (fun h => absurd rfl h) (fun _ => ?_)
  refine go ?_
  refine spd (fun h => absurd rfl h) (fun _ => ?_)
  refine go ?_
  refine spd (fun h => absurd rfl h) (fun _ => ?_)
  refine go ?_
  refine spd (fun h => absurd rfl h) (fun _ => ?_)
  refine go ?_
  refine c_if (fun h => ?_) (fun _ => ?_)
  · exact absurd rfl h
  refine go ?_
  refine rc (likeInts_ok (xs := (cjF p x (y * z)).v) (by omega)) (next := fun v19 w19 h19 => ?_)
  obtain ⟨rfl, he19⟩ := h19
  have hP19 : Pres w1.heap.size w2.heap.size w19 (.agg #[vo, vpw, vcc]) p := hP18.same (he19.same _ _)
  have hX19 : Ints w1.heap.size w2.heap.size w19 vx x.v := hX18.same (he19.same _ _)
  have hY19 : Ints w1.heap.size w2.heap.size w19 vy y.v := hY18.same (he19.same _ _)
  have hB19 : Blk w19 bp [vo, vpw, vcc] := @Blk.ext _ _ _ _ he19 hB18
  have hC19 : Ints w4.heap.size w5.heap.size w19 uc (cjF p x y).v := hC18.same (he19.same _ _)
  have hZ19 : Ints w8.heap.size w9.heap.size w19 vz z.v := hZ18.same (he19.same _ _)
  have hD19 : Ints w9.heap.size w10.heap.size w19 ud (cjF p x (y * z)).v := hD18.same (he19.same _ _)
  have hF19 : Ints w12.heap.size w13.heap.size w19 ue (cjF p x (y * z)).v := hF18.same (he19.same _ _)
  have hG19 : Ints w13.heap.size w14.heap.size w19 uf (cjF p z y).v := hG18.same (he19.same _ _)
  have hH19 : Ints w16.heap.size w17.heap.size w19 ug (cjF p (x * z) y).v := hH18.same (he19.same _ _)
  have hI19 : Ints w17.heap.size w18.heap.size w19 uh (cmF p x y).v := hI18.same (he19.same _ _)
  have hE19 := hE18.trans he19
  have hz19 := (he19).size
  clear hP18 hX18 hY18 hB18 hC18 hZ18 hD18 hF18 hG18 hH18 hI18
  refine go ?_
  refine ra (v := .agg #[vo, vpw, vcc]) (h := rd_load_blk (hb := hB19) (by ((try simp only [ev_tmp, ev_const, ev_func, get_put, get_args, get_putL, get_putL_nil, Nat.reduceEqDiff, reduceIte, List.getD_cons_zero, List.getD_cons_succ, List.getD_nil]); first | done | with_reducible rfl)) rfl) (next := ?_)
  refine go ?_
  refine rc (mul9_ok (p := p) hG (x := cjF p x y) (y := cjF p z y) rfl rfl) (next := fun v20 w20 h20 => ?_)
  obtain ⟨he20, hf20⟩ := h20
  have eg : cjF p x y * cjF p z y = cjF p (x * z) y := (Grp.cj_mul x z y).symm
  rw [eg] at hf20
  have hP20 : Pres w1.heap.size w2.heap.size w20 (.agg #[vo, vpw, vcc]) p := hP19.same (he20.same _ _)
  have hX20 : Ints w1.heap.size w2.heap.size w20 vx x.v := hX19.same (he20.same _ _)
  have hY20 : Ints w1.heap.size w2.heap.size w20 vy y.v := hY19.same (he20.same _ _)
  have hB20 : Blk w20 bp [vo, vpw, vcc] := @Blk.ext _ _ _ _ he20 hB19
  have hC20 : Ints w4.heap.size w5.heap.size w20 uc (cjF p x y).v := hC19.same (he20.same _ _)
  have hZ20 : Ints w8.heap.size w9.heap.size w20 vz z.v := hZ19.same (he20.same _ _)
  have hD20 : Ints w9.heap.size w10.heap.size w20 ud (cjF p x (y * z)).v := hD19.same (he20.same _ _)
  have hF20 : Ints w12.heap.size w13.heap.size w20 ue (cjF p x (y * z)).v := hF19.same (he20.same _ _)
  have hG20 : Ints w13.heap.size w14.heap.size w20 uf (cjF p z y).v := hG19.same (he20.same _ _)
  have hH20 : Ints w16.heap.size w17.heap.size w20 ug (cjF p (x * z) y).v := hH19.same (he20.same _ _)
  have hI20 : Ints w17.heap.size w18.heap.size w20 uh (cmF p x y).v := hI19.same (he20.same _ _)
  have hE20 := hE19.trans he20
  have hz20 := (he20).size
  clear hP19 hX19 hY19 hB19 hC19 hZ19 hD19 hF19 hG19 hH19 hI19
  have hM20 := hf20.ints
  refine go ?_
  refine rc (likeInts_ok (xs := (cjF p (x * z) y).v) (by omega)) (next := fun v21 w21 h21 => ?_)
  obtain ⟨rfl, he21⟩ := h21
  have hP21 : Pres w1.heap.size w2.heap.size w21 (.agg #[vo, vpw, vcc]) p := hP20.same (he21.same _ _)
  have hX21 : Ints w1.heap.size w2.heap.size w21 vx x.v := hX20.same (he21.same _ _)
  have hY21 : Ints w1.heap.size w2.heap.size w21 vy y.v := hY20.same (he21.same _ _)
  have hB21 : Blk w21 bp [vo, vpw, vcc] := @Blk.ext _ _ _ _ he21 hB20
  have hC21 : Ints w4.heap.size w5.heap.size w21 uc (cjF p x y).v := hC20.same (he21.same _ _)
  have hZ21 : Ints w8.heap.size w9.heap.size w21 vz z.v := hZ20.same (he21.same _ _)
  have hD21 : Ints w9.heap.size w10.heap.size w21 ud (cjF p x (y * z)).v := hD20.same (he21.same _ _)
  have hF21 : Ints w12.heap.size w13.heap.size w21 ue (cjF p x (y * z)).v := hF20.same (he21.same _ _)
  have hG21 : Ints w13.heap.size w14.heap.size w21 uf (cjF p z y).v := hG20.same (he21.same _ _)
  have hH21 : Ints w16.heap.size w17.heap.size w21 ug (cjF p (x * z) y).v := hH20.same (he21.same _ _)
  have hI21 : Ints w17.heap.size w18.heap.size w21 uh (cmF p x y).v := hI20.same (he21.same _ _)
  have hE21 := hE20.trans he21
  have hz21 := (he21).size
  clear hP20 hX20 hY20 hB20 hC20 hZ20 hD20 hF20 hG20 hH20 hI20
  refine go ?_
  refine ra (v := .agg #[vo, vpw, vcc]) (h := rd_load_blk (hb := hB21) (by ((try simp only [ev_tmp, ev_const, ev_func, get_put, get_args, get_putL, get_putL_nil, Nat.reduceEqDiff, reduceIte, List.getD_cons_zero, List.getD_cons_succ, List.getD_nil]); first | done | with_reducible rfl)) rfl) (next := ?_)
  refine go ?_
  refine rc (mul9_ok (p := p) hG (x := x) (y := cmF p x y) rfl rfl) (next := fun v22 w22 h22 => ?_)
  obtain ⟨he22, hf22⟩ := h22
  have eh : x * cmF p x y = cjF p x y := x_mul_cm x y
  rw [eh] at hf22
  have hP22 : Pres w1.heap.size w2.heap.size w22 (.agg #[vo, vpw, vcc]) p := hP21.same (he22.same _ _)
  have hX22 : Ints w1.heap.size w2.heap.size w22 vx x.v := hX21.same (he22.same _ _)
  have hY22 : Ints w1.heap.size w2.heap.size w22 vy y.v := hY21.same (he22.same _ _)
  have hB22 : Blk w22 bp [vo, vpw, vcc] := @Blk.ext _ _ _ _ he22 hB21
  have hC22 : Ints w4.heap.size w5.heap.size w22 uc (cjF p x y).v := hC21.same (he22.same _ _)
  have hZ22 : Ints w8.heap.size w9.heap.size w22 vz z.v := hZ21.same (he22.same _ _)
  have hD22 : Ints w9.heap.size w10.heap.size w22 ud (cjF p x (y * z)).v := hD21.same (he22.same _ _)
  have hF22 : Ints w12.heap.size w13.heap.size w22 ue (cjF p x (y * z)).v := hF21.same (he22.same _ _)
  have hG22 : Ints w13.heap.size w14.heap.size w22 uf (cjF p z y).v := hG21.same (he22.same _ _)
  have hH22 : Ints w16.heap.size w17.heap.size w22 ug (cjF p (x * z) y).v := hH21.same (he22.same _ _)
  have hI22 : Ints w17.heap.size w18.heap.size w22 uh (cmF p x y).v := hI21.same (he22.same _ _)
  have hE22 := hE21.trans he22
  have hz22 := (he22).size
  clear hP21 hX21 hY21 hB21 hC21 hZ21 hD21 hF21 hG21 hH21 hI21
  have hN22 := hf22.ints
  refine go ?_
  refine rc (likeInts_ok (xs := (cjF p x y).v) (by omega)) (next := fun v23 w23 h23 => ?_)
  obtain ⟨rfl, he23⟩ := h23
  refine go ?_
  exact ret1 ⟨rfl, hE22.trans he23⟩
end Go.Proofs.Ytcglplinebncgaa
