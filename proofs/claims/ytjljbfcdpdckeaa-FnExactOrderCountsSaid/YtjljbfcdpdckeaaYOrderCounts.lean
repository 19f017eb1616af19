/-
  Walk: the statement FnExactOrderCounts: it returns true.
  Conditions: what the arguments read as.
-/
import Derived.Test.YtjljbfcdpdckeaaB4
set_option linter.unusedVariables false
set_option linter.unusedSimpArgs false
set_option linter.unusedSectionVars false
set_option linter.constructorNameAsVariable false
set_option linter.unnecessarySimpa false
set_option linter.deprecated false
/-
  Walk: the statement FnExactOrderCounts: it returns true.
  Conditions: what the arguments read as.
-/
namespace Go.Proofs.Ytjljbfcdpdckeaa
open Go Go.Pc
set_option maxHeartbeats 4000000 in
theorem lwOrderCounts_ok {w : World} {p0 : Pr} {a0 : Value} {lo0 hi0 : Nat} [hp0 : Pres lo0 hi0 w a0 p0] :
    Calls Try.prog 8 #[a0] w (Ret fun v w' => v = .bool true ∧ Ext w w') := by
  obtain ⟨vo0, vpw0, vc0, ps0, cs0, css0, rfl, pa0, pb0, pc0⟩ := hp0.ex
  refine enter (args := [.agg #[vo0, vpw0, vc0]]) (l := [.tmp 2]) Try.func8 rfl rfl Try.ntmps8 (by simp) ?_
  refine go ?_
  refine st_box3 (by ((try simp only [ev_tmp, ev_const, ev_func, get_put, get_args, get_putL, get_putL_nil, Nat.reduceEqDiff, reduceIte, List.getD_cons_zero, List.getD_cons_succ, List.getD_nil]); first | done | with_reducible rfl)) (by first | exact True.intro | exact ⟨_, rfl, by ((try simp only [ev_tmp, ev_const, ev_func, get_put, get_args, get_putL, get_putL_nil, Nat.reduceEqDiff, reduceIte, List.getD_cons_zero, List.getD_cons_succ, List.getD_nil, Bool.not_true, Bool.not_false]); first | done | with_reducible rfl)⟩) fun w1 b0 he1 hb0 hsz1 hca0 hcb0 hcc0 => ?_
  have hz1 : w.heap.size ≤ w1.heap.size := he1.size
  have hx0_1 : Ext w w1 := he1
  replace pa0 := (pa0.same (Ext.same hx0_1 _ _)).wide
  replace pb0 := (pb0.same (Ext.same hx0_1 _ _)).wide
  replace pc0 := (pc0.same (Ext.same hx0_1 _ _)).wide
  replace hp0 := (hp0.same (Ext.same hx0_1 _ _)).wide
  refine go ?_
  refine rc (szPresentation_ok (p := p0) (k := (1048576 : Int)) (by omega)) (next := fun v2 w2 hq2 => ?_)
  obtain ⟨j2, rfl, hj2, he2⟩ := hq2
  have hz2 : w1.heap.size ≤ w2.heap.size := he2.size
  have hx0_2 : Ext w w2 := hx0_1.trans he2
  clear hx0_1
  have hx1_2 : Ext w1 w2 := he2
  refine go ?_
  refine c_if (fun hl102 => ?_) (fun hl102 => ?_)
  · refine go ?_
    exact ret1 ⟨rfl, hx0_2⟩
  obtain ⟨hja2, hjb2, hS0⟩ : 0 ≤ j2 ∧ j2 ≤ (1048576 : Int) ∧ SizeP p0 ((1048576 : Int)) := by
    rcases hj2 with h | h
    · omega
    · exact h
  have hs0 : SizeP p0 2000000 := hS0.mono (by omega)
  have hS0_ : SizeP p0 1048576 := hS0.mono (by omega)
  have hol0 := hs0.ord
  have htp0 := totP_le hS0_
  refine go ?_
  refine rc (toPresentation_ok (p := p0) hs0) (next := fun v3 w3 hq3 => ?_)
  obtain ⟨he3, hF3⟩ := hq3
  have hz3 : w2.heap.size ≤ w3.heap.size := he3.size
  have hx0_3 : Ext w w3 := hx0_2.trans he3
  clear hx0_2
  have hx1_3 : Ext w1 w3 := hx1_2.trans he3
  clear hx1_2
  have hR3 := hF3
  refine go ?_
  refine rc (spec_OrderCounts_ok (p := p0) (by omega)) (next := fun v4 w4 hq4 => ?_)
  obtain ⟨us0, us1, rs0, rs1, rs2, rfl, has, he4, ms0, ms1⟩ := hq4
  have hz4 : w3.heap.size ≤ w4.heap.size := he4.size
  have hx0_4 : Ext w w4 := hx0_3.trans he4
  clear hx0_3
  have hx1_4 : Ext w1 w4 := hx1_3.trans he4
  clear hx1_3
  clear hR3
  refine go ?_
  refine rc (toPresentationO_ok (p := p0) hs0) (next := fun v5 w5 hq5 => ?_)
  obtain ⟨he5, hF5⟩ := hq5
  have hz5 : w4.heap.size ≤ w5.heap.size := he5.size
  have hx0_5 : Ext w w5 := hx0_4.trans he5
  clear hx0_4
  have hx1_5 : Ext w1 w5 := hx1_4.trans he5
  clear hx1_4
  have hR5 := hF5.pres
  refine go ?_
  refine st_alloc (by first | exact True.intro | exact ⟨_, rfl, by ((try simp only [ev_tmp, ev_const, ev_func, get_put, get_args, get_putL, get_putL_nil, Nat.reduceEqDiff, reduceIte, List.getD_cons_zero, List.getD_cons_succ, List.getD_nil, Bool.not_true, Bool.not_false]); first | done | with_reducible rfl)⟩) fun w6 bx0 he6 hbx0 hsza0 hbk0 => ?_
  have hz6 : w5.heap.size ≤ w6.heap.size := he6.size
  have hx0_6 : Ext w w6 := hx0_5.trans he6
  clear hx0_5
  have hx1_6 : Ext w1 w6 := hx1_5.trans he6
  clear hx1_5
  replace hR5 := hR5.same ((Wrt.ofExt (B := fun b => b < w4.heap.size ∨ w5.heap.size ≤ b) he6).same (fun b hb => hb))
  obtain ⟨xo0, xp0, xc0, psx0, csx0, cssx0, rfl, ka0, kb0, kc0⟩ := hR5.ex
  refine go ?_
  refine st_store_agg (vs := [xo0, xp0, xc0]) (cs := _) (by ((try simp only [ev_tmp, ev_const, ev_func, get_put, get_args, get_putL, get_putL_nil, Nat.reduceEqDiff, reduceIte, List.getD_cons_zero, List.getD_cons_succ, List.getD_nil]); first | done | with_reducible rfl)) (by ((try simp only [ev_tmp, ev_const, ev_func, get_put, get_args, get_putL, get_putL_nil, Nat.reduceEqDiff, reduceIte, List.getD_cons_zero, List.getD_cons_succ, List.getD_nil]); first | done | with_reducible rfl)) rfl ?_ ?_ (by first | exact True.intro | exact ⟨_, rfl, by ((try simp only [ev_tmp, ev_const, ev_func, get_put, get_args, get_putL, get_putL_nil, Nat.reduceEqDiff, reduceIte, List.getD_cons_zero, List.getD_cons_succ, List.getD_nil, Bool.not_true, Bool.not_false]); first | done | with_reducible rfl)⟩) fun w7 hch7 hss7 hBk0 => ?_
  · rfl
  · have e1 := ka0.sl.one
    have e2 := kb0.sl.one
    have e3 := kc0.sl.one
    simp [e1, e2, e3]
  clear ka0 kb0 kc0 hbk0
  have hz7 : w6.heap.size ≤ w7.heap.size := hch7.size
  have hx0_7 : Ext w w7 := hch7.ext hx0_6 (by omega)
  clear hx0_6
  have hx1_7 : Ext w1 w7 := hch7.ext hx1_6 (by omega)
  clear hx1_6
  replace hR5 := hR5.same ((Wrt.one (B := fun b => b < w4.heap.size ∨ w5.heap.size ≤ b) (by omega) hch7).same (fun b hb => hb))
  refine go ?_
  refine ra (v := .agg #[xo0, xp0, xc0]) (h := rd_load_blk (hb := hBk0) (by ((try simp only [ev_tmp, ev_const, ev_func, get_put, get_args, get_putL, get_putL_nil, Nat.reduceEqDiff, reduceIte, List.getD_cons_zero, List.getD_cons_succ, List.getD_nil]); first | done | with_reducible rfl)) rfl) (next := ?_)
  refine go ?_
  refine rc (impl_OrderCounts_ok (p := p0) (by omega)) (next := fun v8 w8 hq8 => ?_)
  obtain ⟨ug0, ug1, rg0, rg1, rg2, rfl, hag, he8, midg, hmag, hmbg, mog0, mog1⟩ := hq8
  have hz8 : w7.heap.size ≤ w8.heap.size := he8.size
  have hx0_8 : Ext w w8 := hx0_7.trans he8
  clear hx0_7
  have hx1_8 : Ext w1 w8 := hx1_7.trans he8
  clear hx1_7
  have mg0R := mog0.ints
  have mg1R := mog1.ints
  obtain ⟨rfl, rfl, rfl⟩ : rs0 = rg0 ∧ rs1 = rg1 ∧ rs2 = rg2 := has.same hag
  have hrl0 : rs0.length ≤ 2000000 := OrderCounts_sz0 (p := p0) (by omega) has
  have hrl1 : rs1.length ≤ 2000000 := OrderCounts_sz1 (p := p0) (by omega) has
  replace ms0 := ms0.same (((((Wrt.ofExt (B := fun b => b < w3.heap.size ∨ w4.heap.size ≤ b) he5).trans (Wrt.ofExt (B := fun b => b < w3.heap.size ∨ w4.heap.size ≤ b) he6)).trans (Wrt.one (B := fun b => b < w3.heap.size ∨ w4.heap.size ≤ b) (by omega) hch7)).trans (Wrt.ofExt (B := fun b => b < w3.heap.size ∨ w4.heap.size ≤ b) he8)).same (fun b hb => hb))
  refine go ?_
  refine rc (eqInt64S_ok (xs := rs0) (ys := rs0) (by omega)) (next := fun v9 w9 hq9 => ?_)
  obtain ⟨t9, rfl, ht9, he9⟩ := hq9
  have hz9 : w8.heap.size ≤ w9.heap.size := he9.size
  have hx0_9 : Ext w w9 := hx0_8.trans he9
  clear hx0_8
  have hx1_9 : Ext w1 w9 := hx1_8.trans he9
  clear hx1_8
  refine go ?_
  refine sp (fun h => ?_) (fun _ => ?_)
  · rw [ht9.2 rfl] at h; cases h
  replace ms1 := ms1.same ((((((Wrt.ofExt (B := fun b => b < w3.heap.size ∨ w4.heap.size ≤ b) he5).trans (Wrt.ofExt (B := fun b => b < w3.heap.size ∨ w4.heap.size ≤ b) he6)).trans (Wrt.one (B := fun b => b < w3.heap.size ∨ w4.heap.size ≤ b) (by omega) hch7)).trans (Wrt.ofExt (B := fun b => b < w3.heap.size ∨ w4.heap.size ≤ b) he8)).trans (Wrt.ofExt (B := fun b => b < w3.heap.size ∨ w4.heap.size ≤ b) he9)).same (fun b hb => hb))
  replace mg1R := mg1R.same ((Wrt.ofExt (B := fun b => b < midg ∨ w8.heap.size ≤ b) he9).same (fun b hb => hb))
  refine go ?_
  refine rc (eqInt64S_ok (xs := rs1) (ys := rs1) (by omega)) (next := fun v10 w10 hq10 => ?_)
  obtain ⟨t10, rfl, ht10, he10⟩ := hq10
  have hz10 : w9.heap.size ≤ w10.heap.size := he10.size
  have hx0_10 : Ext w w10 := hx0_9.trans he10
  clear hx0_9
  have hx1_10 : Ext w1 w10 := hx1_9.trans he10
  clear hx1_9
  refine go ?_
  refine sp (fun h => ?_) (fun _ => ?_)
  · rw [ht10.2 rfl] at h; cases h
  refine go ?_
  refine c_if (fun h => ?_) (fun _ => ?_)
  · exact absurd rfl h
  refine go ?_
  replace hBk0 := hBk0.wr (((Wrt.ofExt (B := fun b => b ≠ bx0) he8).trans (Wrt.ofExt (B := fun b => b ≠ bx0) he9)).trans (Wrt.ofExt (B := fun b => b ≠ bx0) he10)) (by omega)
  refine d_region fun w11 he11 _ => ?_
  have hz11 : w10.heap.size ≤ w11.heap.size := he11.size
  have hx0_11 : Ext w w11 := hx0_10.trans he11
  clear hx0_10
  have hx1_11 : Ext w1 w11 := hx1_10.trans he11
  clear hx1_10
  replace hBk0 := hBk0.wr (Wrt.ofExt (B := fun b => b ≠ bx0) he11) (by omega)
  have hxa0 : Cell w11 bx0 0 xo0 := hBk0.cell rfl
  have hxb0 : Cell w11 bx0 1 xp0 := hBk0.cell rfl
  have hxc0 : Cell w11 bx0 2 xc0 := hBk0.cell rfl
  refine dgo ?_
  refine dce (toPresentation_ok (p := p0) hs0) (next := fun v12 w12 hq12 => ?_)
  obtain ⟨he12, hF12⟩ := hq12
  have hz12 : w11.heap.size ≤ w12.heap.size := he12.size
  have hx0_12 : Ext w w12 := hx0_11.trans he12
  clear hx0_11
  have hx1_12 : Ext w1 w12 := hx1_11.trans he12
  clear hx1_11
  have hR12 := hF12
  clear hxa0 hxb0 hxc0
  replace hR5 := hR5.same ((((((Wrt.ofExt (B := fun b => b < w4.heap.size ∨ w5.heap.size ≤ b) he8).trans (Wrt.ofExt (B := fun b => b < w4.heap.size ∨ w5.heap.size ≤ b) he9)).trans (Wrt.ofExt (B := fun b => b < w4.heap.size ∨ w5.heap.size ≤ b) he10)).trans (Wrt.ofExt (B := fun b => b < w4.heap.size ∨ w5.heap.size ≤ b) he11)).trans (Wrt.ofExt (B := fun b => b < w4.heap.size ∨ w5.heap.size ≤ b) he12)).same (fun b hb => hb))
  refine dce (eqPresentation_ok (p := p0) (q := p0) hs0) (next := fun v13 w13 hq13 => ?_)
  obtain ⟨t13, rfl, ht13, he13⟩ := hq13
  obtain rfl := ht13.2 rfl
  have hz13 : w12.heap.size ≤ w13.heap.size := he13.size
  have hx0_13 : Ext w w13 := hx0_12.trans he13
  clear hx0_12
  have hx1_13 : Ext w1 w13 := hx1_12.trans he13
  clear hx1_12
  clear hR12
  refine dgo ?_
  refine d_end (h := ?_)
  refine go ?_
  refine c_b (fun h => ?_) (fun _ => ?_)
  · cases h
  replace hF5 := hF5.wr ((((((((Wrt.ofExt (B := fun b => b < w4.heap.size ∨ w5.heap.size ≤ b) he6).trans (Wrt.one (B := fun b => b < w4.heap.size ∨ w5.heap.size ≤ b) (by omega) hch7)).trans (Wrt.ofExt (B := fun b => b < w4.heap.size ∨ w5.heap.size ≤ b) he8)).trans (Wrt.ofExt (B := fun b => b < w4.heap.size ∨ w5.heap.size ≤ b) he9)).trans (Wrt.ofExt (B := fun b => b < w4.heap.size ∨ w5.heap.size ≤ b) he10)).trans (Wrt.ofExt (B := fun b => b < w4.heap.size ∨ w5.heap.size ≤ b) he11)).trans (Wrt.ofExt (B := fun b => b < w4.heap.size ∨ w5.heap.size ≤ b) he12)).trans (Wrt.ofExt (B := fun b => b < w4.heap.size ∨ w5.heap.size ≤ b) he13)) (fun b hb => hb)
  replace hBk0 := hBk0.wr ((Wrt.ofExt (B := fun b => b ≠ bx0) he12).trans (Wrt.ofExt (B := fun b => b ≠ bx0) he13)) (by omega)
  refine go ?_
  refine ra (v := .agg #[xo0, xp0, xc0]) (h := rd_load_blk (hb := hBk0) (by ((try simp only [ev_tmp, ev_const, ev_func, get_put, get_args, get_putL, get_putL_nil, Nat.reduceEqDiff, reduceIte, List.getD_cons_zero, List.getD_cons_succ, List.getD_nil]); first | done | with_reducible rfl)) rfl) (next := ?_)
  refine go ?_
  refine rc (markPresentation_ok (k := (1 : Int)) hF5 ?_ ?_) (next := fun v14 w14 hq14 => ?_)
  · omega
  · omega
  obtain ⟨rfl, hW14⟩ := hq14
  have hz14 : w13.heap.size ≤ w14.heap.size := hW14.size
  have hx0_14 : Ext w w14 := hW14.ext hx0_13 (fun b hb => by omega)
  clear hx0_13
  have hx1_14 : Ext w1 w14 := hW14.ext hx1_13 (fun b hb => by omega)
  clear hx1_13
  clear hF5 hR5
  refine go ?_
  refine spd (fun h => ?_) (fun _ => ?_)
  · omega
  replace ms0 := ms0.same (((((((Wrt.ofExt (B := fun b => b < w3.heap.size ∨ w4.heap.size ≤ b) he9).trans (Wrt.ofExt (B := fun b => b < w3.heap.size ∨ w4.heap.size ≤ b) he10)).trans (Wrt.ofExt (B := fun b => b < w3.heap.size ∨ w4.heap.size ≤ b) he11)).trans (Wrt.ofExt (B := fun b => b < w3.heap.size ∨ w4.heap.size ≤ b) he12)).trans (Wrt.ofExt (B := fun b => b < w3.heap.size ∨ w4.heap.size ≤ b) he13)).trans (Wrt.mono (B' := fun b => b < w3.heap.size ∨ w4.heap.size ≤ b) hW14 (fun b hb => by omega))).same (fun b hb => hb))
  replace mg0R := mg0R.same (((((((Wrt.ofExt (B := fun b => b < w7.heap.size ∨ midg ≤ b) he9).trans (Wrt.ofExt (B := fun b => b < w7.heap.size ∨ midg ≤ b) he10)).trans (Wrt.ofExt (B := fun b => b < w7.heap.size ∨ midg ≤ b) he11)).trans (Wrt.ofExt (B := fun b => b < w7.heap.size ∨ midg ≤ b) he12)).trans (Wrt.ofExt (B := fun b => b < w7.heap.size ∨ midg ≤ b) he13)).trans (Wrt.mono (B' := fun b => b < w7.heap.size ∨ midg ≤ b) hW14 (fun b hb => by omega))).same (fun b hb => hb))
  refine go ?_
  refine rc (eqInt64S_ok (xs := rs0) (ys := rs0) (by omega)) (next := fun v15 w15 hq15 => ?_)
  obtain ⟨t15, rfl, ht15, he15⟩ := hq15
  have hz15 : w14.heap.size ≤ w15.heap.size := he15.size
  have hx0_15 : Ext w w15 := hx0_14.trans he15
  clear hx0_14
  have hx1_15 : Ext w1 w15 := hx1_14.trans he15
  clear hx1_14
  refine go ?_
  refine sp (fun h => ?_) (fun _ => ?_)
  · rw [ht15.2 rfl] at h; cases h
  replace ms1 := ms1.same (((((((Wrt.ofExt (B := fun b => b < w3.heap.size ∨ w4.heap.size ≤ b) he10).trans (Wrt.ofExt (B := fun b => b < w3.heap.size ∨ w4.heap.size ≤ b) he11)).trans (Wrt.ofExt (B := fun b => b < w3.heap.size ∨ w4.heap.size ≤ b) he12)).trans (Wrt.ofExt (B := fun b => b < w3.heap.size ∨ w4.heap.size ≤ b) he13)).trans (Wrt.mono (B' := fun b => b < w3.heap.size ∨ w4.heap.size ≤ b) hW14 (fun b hb => by omega))).trans (Wrt.ofExt (B := fun b => b < w3.heap.size ∨ w4.heap.size ≤ b) he15)).same (fun b hb => hb))
  replace mg1R := mg1R.same (((((((Wrt.ofExt (B := fun b => b < midg ∨ w8.heap.size ≤ b) he10).trans (Wrt.ofExt (B := fun b => b < midg ∨ w8.heap.size ≤ b) he11)).trans (Wrt.ofExt (B := fun b => b < midg ∨ w8.heap.size ≤ b) he12)).trans (Wrt.ofExt (B := fun b => b < midg ∨ w8.heap.size ≤ b) he13)).trans (Wrt.mono (B' := fun b => b < midg ∨ w8.heap.size ≤ b) hW14 (fun b hb => by omega))).trans (Wrt.ofExt (B := fun b => b < midg ∨ w8.heap.size ≤ b) he15)).same (fun b hb => hb))
  refine go ?_
  refine rc (eqInt64S_ok (xs := rs1) (ys := rs1) (by omega)) (next := fun v16 w16 hq16 => ?_)
  obtain ⟨t16, rfl, ht16, he16⟩ := hq16
  have hz16 : w15.heap.size ≤ w16.heap.size := he16.size
  have hx0_16 : Ext w w16 := hx0_15.trans he16
  clear hx0_15
  have hx1_16 : Ext w1 w16 := hx1_15.trans he16
  clear hx1_15
  refine go ?_
  refine sp (fun h => ?_) (fun _ => ?_)
  · rw [ht16.2 rfl] at h; cases h
  refine go ?_
  refine c_if (fun h => ?_) (fun _ => ?_)
  · exact absurd rfl h
  replace mog0 := mog0.wr ((((((((Wrt.ofExt (B := fun b => b < w7.heap.size ∨ midg ≤ b) he9).trans (Wrt.ofExt (B := fun b => b < w7.heap.size ∨ midg ≤ b) he10)).trans (Wrt.ofExt (B := fun b => b < w7.heap.size ∨ midg ≤ b) he11)).trans (Wrt.ofExt (B := fun b => b < w7.heap.size ∨ midg ≤ b) he12)).trans (Wrt.ofExt (B := fun b => b < w7.heap.size ∨ midg ≤ b) he13)).trans (Wrt.mono (B' := fun b => b < w7.heap.size ∨ midg ≤ b) hW14 (fun b hb => by omega))).trans (Wrt.ofExt (B := fun b => b < w7.heap.size ∨ midg ≤ b) he15)).trans (Wrt.ofExt (B := fun b => b < w7.heap.size ∨ midg ≤ b) he16)) (fun b hb => hb)
  refine go ?_
  refine rc (markInt64S_ok (k := (1 : Int)) mog0.fr ?_ ?_) (next := fun v17 w17 hq17 => ?_)
  · omega
  · omega
  obtain ⟨rfl, hO17, hV17⟩ := hq17
  have hW17 : Wrt (fun b => w7.heap.size ≤ b ∧ b < midg) w16 w17 := hV17.mono fun b hb => by
    obtain ⟨g, hg1, hg2, _⟩ := mog0.fr.block hb.1
    have hg3 := mog0.lt hb.1 b hb.2
    rw [hb.2] at hg1
    injection hg1 with hg1
    omega
  have hz17 : w16.heap.size ≤ w17.heap.size := hW17.size
  have hx0_17 : Ext w w17 := hW17.ext hx0_16 (fun b hb => by omega)
  clear hx0_16
  have hx1_17 : Ext w1 w17 := hW17.ext hx1_16 (fun b hb => by omega)
  clear hx1_16
  have hK17 := (vecO_marked mog0 hO17 marks_ne.1).ints
  clear mog0 mg0R
  replace mog1 := mog1.wr (((((((((Wrt.ofExt (B := fun b => b < midg ∨ w8.heap.size ≤ b) he9).trans (Wrt.ofExt (B := fun b => b < midg ∨ w8.heap.size ≤ b) he10)).trans (Wrt.ofExt (B := fun b => b < midg ∨ w8.heap.size ≤ b) he11)).trans (Wrt.ofExt (B := fun b => b < midg ∨ w8.heap.size ≤ b) he12)).trans (Wrt.ofExt (B := fun b => b < midg ∨ w8.heap.size ≤ b) he13)).trans (Wrt.mono (B' := fun b => b < midg ∨ w8.heap.size ≤ b) hW14 (fun b hb => by omega))).trans (Wrt.ofExt (B := fun b => b < midg ∨ w8.heap.size ≤ b) he15)).trans (Wrt.ofExt (B := fun b => b < midg ∨ w8.heap.size ≤ b) he16)).trans (Wrt.mono (B' := fun b => b < midg ∨ w8.heap.size ≤ b) hW17 (fun b hb => by omega))) (fun b hb => hb)
  refine go ?_
  refine rc (markInt64S_ok (k := ((1 : Int) + rs0.length)) mog1.fr ?_ ?_) (next := fun v18 w18 hq18 => ?_)
  · omega
  · omega
  obtain ⟨rfl, hO18, hV18⟩ := hq18
  have hW18 : Wrt (fun b => midg ≤ b ∧ b < w8.heap.size) w17 w18 := hV18.mono fun b hb => by
    obtain ⟨g, hg1, hg2, _⟩ := mog1.fr.block hb.1
    have hg3 := mog1.lt hb.1 b hb.2
    rw [hb.2] at hg1
    injection hg1 with hg1
    omega
  have hz18 : w17.heap.size ≤ w18.heap.size := hW18.size
  have hx0_18 : Ext w w18 := hW18.ext hx0_17 (fun b hb => by omega)
  clear hx0_17
  have hx1_18 : Ext w1 w18 := hW18.ext hx1_17 (fun b hb => by omega)
  clear hx1_17
  have hK18 := (vecO_marked mog1 hO18 marks_ne.1).ints
  clear mog1 mg1R
  replace hK17 := hK17.same ((Wrt.mono (B' := fun b => b < w7.heap.size ∨ midg ≤ b) hW18 (fun b hb => by omega)).same (fun b hb => hb))
  refine go ?_
  refine rc (heldInt64S_ok (k := (1 : Int)) (n := rs0.length) (xs := marks (1 : Int) rs0.length) rfl ?_ ?_) (next := fun v19 w19 hq19 => ?_)
  · omega
  · omega
  obtain ⟨rfl, he19⟩ := hq19
  have hz19 : w18.heap.size ≤ w19.heap.size := he19.size
  have hx0_19 : Ext w w19 := hx0_18.trans he19
  clear hx0_18
  have hx1_19 : Ext w1 w19 := hx1_18.trans he19
  clear hx1_18
  refine go ?_
  refine c_if (fun h => ?_) (fun _ => ?_)
  · omega
  replace hK18 := hK18.same ((Wrt.ofExt (B := fun b => b < midg ∨ w8.heap.size ≤ b) he19).same (fun b hb => hb))
  refine go ?_
  refine rc (heldInt64S_ok (k := ((1 : Int) + rs0.length)) (n := rs1.length) (xs := marks ((1 : Int) + rs0.length) rs1.length) rfl ?_ ?_) (next := fun v20 w20 hq20 => ?_)
  · omega
  · omega
  obtain ⟨rfl, he20⟩ := hq20
  have hz20 : w19.heap.size ≤ w20.heap.size := he20.size
  have hx0_20 : Ext w w20 := hx0_19.trans he20
  clear hx0_19
  have hx1_20 : Ext w1 w20 := hx1_19.trans he20
  clear hx1_19
  refine go ?_
  refine c_if (fun h => ?_) (fun _ => ?_)
  · omega
  refine go ?_
  refine c_if (fun h => ?_) (fun _ => ?_)
  · exact absurd rfl h
  refine go ?_
  refine rc (toPresentation_ok (p := p0) hs0) (next := fun v21 w21 hq21 => ?_)
  obtain ⟨he21, hF21⟩ := hq21
  have hz21 : w20.heap.size ≤ w21.heap.size := he21.size
  have hx0_21 : Ext w w21 := hx0_20.trans he21
  clear hx0_20
  have hx1_21 : Ext w1 w21 := hx1_20.trans he21
  clear hx1_20
  have hR21 := hF21
  refine go ?_
  refine rc (impl_OrderCounts_ok (p := p0) (by omega)) (next := fun v22 w22 hq22 => ?_)
  obtain ⟨uh0, uh1, rh0, rh1, rh2, rfl, hah, he22, midh, hmah, hmbh, moh0, moh1⟩ := hq22
  have hz22 : w21.heap.size ≤ w22.heap.size := he22.size
  have hx0_22 : Ext w w22 := hx0_21.trans he22
  clear hx0_21
  have hx1_22 : Ext w1 w22 := hx1_21.trans he22
  clear hx1_21
  have mh0R := moh0.ints
  have mh1R := moh1.ints
  clear hR21
  obtain ⟨rfl, rfl, rfl⟩ : rs0 = rh0 ∧ rs1 = rh1 ∧ rs2 = rh2 := has.same hah
  replace ms0 := ms0.same (((((((((Wrt.ofExt (B := fun b => b < w3.heap.size ∨ w4.heap.size ≤ b) he15).trans (Wrt.ofExt (B := fun b => b < w3.heap.size ∨ w4.heap.size ≤ b) he16)).trans (Wrt.mono (B' := fun b => b < w3.heap.size ∨ w4.heap.size ≤ b) hW17 (fun b hb => by omega))).trans (Wrt.mono (B' := fun b => b < w3.heap.size ∨ w4.heap.size ≤ b) hW18 (fun b hb => by omega))).trans (Wrt.ofExt (B := fun b => b < w3.heap.size ∨ w4.heap.size ≤ b) he19)).trans (Wrt.ofExt (B := fun b => b < w3.heap.size ∨ w4.heap.size ≤ b) he20)).trans (Wrt.ofExt (B := fun b => b < w3.heap.size ∨ w4.heap.size ≤ b) he21)).trans (Wrt.ofExt (B := fun b => b < w3.heap.size ∨ w4.heap.size ≤ b) he22)).same (fun b hb => hb))
  refine go ?_
  refine rc (eqInt64S_ok (xs := rs0) (ys := rs0) (by omega)) (next := fun v23 w23 hq23 => ?_)
  obtain ⟨t23, rfl, ht23, he23⟩ := hq23
  have hz23 : w22.heap.size ≤ w23.heap.size := he23.size
  have hx0_23 : Ext w w23 := hx0_22.trans he23
  clear hx0_22
  have hx1_23 : Ext w1 w23 := hx1_22.trans he23
  clear hx1_22
  refine go ?_
  refine sp (fun h => ?_) (fun _ => ?_)
  · rw [ht23.2 rfl] at h; cases h
  replace ms1 := ms1.same (((((((((Wrt.ofExt (B := fun b => b < w3.heap.size ∨ w4.heap.size ≤ b) he16).trans (Wrt.mono (B' := fun b => b < w3.heap.size ∨ w4.heap.size ≤ b) hW17 (fun b hb => by omega))).trans (Wrt.mono (B' := fun b => b < w3.heap.size ∨ w4.heap.size ≤ b) hW18 (fun b hb => by omega))).trans (Wrt.ofExt (B := fun b => b < w3.heap.size ∨ w4.heap.size ≤ b) he19)).trans (Wrt.ofExt (B := fun b => b < w3.heap.size ∨ w4.heap.size ≤ b) he20)).trans (Wrt.ofExt (B := fun b => b < w3.heap.size ∨ w4.heap.size ≤ b) he21)).trans (Wrt.ofExt (B := fun b => b < w3.heap.size ∨ w4.heap.size ≤ b) he22)).trans (Wrt.ofExt (B := fun b => b < w3.heap.size ∨ w4.heap.size ≤ b) he23)).same (fun b hb => hb))
  replace mh1R := mh1R.same ((Wrt.ofExt (B := fun b => b < midh ∨ w22.heap.size ≤ b) he23).same (fun b hb => hb))
  refine go ?_
  refine rc (eqInt64S_ok (xs := rs1) (ys := rs1) (by omega)) (next := fun v24 w24 hq24 => ?_)
  obtain ⟨t24, rfl, ht24, he24⟩ := hq24
  have hz24 : w23.heap.size ≤ w24.heap.size := he24.size
  have hx0_24 : Ext w w24 := hx0_23.trans he24
  clear hx0_23
  have hx1_24 : Ext w1 w24 := hx1_23.trans he24
  clear hx1_23
  refine go ?_
  refine sp (fun h => ?_) (fun _ => ?_)
  · rw [ht24.2 rfl] at h; cases h
  refine go ?_
  refine c_if (fun h => ?_) (fun _ => ?_)
  · exact absurd rfl h
  replace hK17 := hK17.same (((((((Wrt.ofExt (B := fun b => b < w7.heap.size ∨ midg ≤ b) he19).trans (Wrt.ofExt (B := fun b => b < w7.heap.size ∨ midg ≤ b) he20)).trans (Wrt.ofExt (B := fun b => b < w7.heap.size ∨ midg ≤ b) he21)).trans (Wrt.ofExt (B := fun b => b < w7.heap.size ∨ midg ≤ b) he22)).trans (Wrt.ofExt (B := fun b => b < w7.heap.size ∨ midg ≤ b) he23)).trans (Wrt.ofExt (B := fun b => b < w7.heap.size ∨ midg ≤ b) he24)).same (fun b hb => hb))
  refine go ?_
  refine rc (heldInt64S_ok (k := (1 : Int)) (n := rs0.length) (xs := marks (1 : Int) rs0.length) rfl ?_ ?_) (next := fun v25 w25 hq25 => ?_)
  · omega
  · omega
  obtain ⟨rfl, he25⟩ := hq25
  have hz25 : w24.heap.size ≤ w25.heap.size := he25.size
  have hx0_25 : Ext w w25 := hx0_24.trans he25
  clear hx0_24
  have hx1_25 : Ext w1 w25 := hx1_24.trans he25
  clear hx1_24
  refine go ?_
  refine c_if (fun h => ?_) (fun _ => ?_)
  · omega
  replace hK18 := hK18.same (((((((Wrt.ofExt (B := fun b => b < midg ∨ w8.heap.size ≤ b) he20).trans (Wrt.ofExt (B := fun b => b < midg ∨ w8.heap.size ≤ b) he21)).trans (Wrt.ofExt (B := fun b => b < midg ∨ w8.heap.size ≤ b) he22)).trans (Wrt.ofExt (B := fun b => b < midg ∨ w8.heap.size ≤ b) he23)).trans (Wrt.ofExt (B := fun b => b < midg ∨ w8.heap.size ≤ b) he24)).trans (Wrt.ofExt (B := fun b => b < midg ∨ w8.heap.size ≤ b) he25)).same (fun b hb => hb))
  refine go ?_
  refine rc (heldInt64S_ok (k := ((1 : Int) + rs0.length)) (n := rs1.length) (xs := marks ((1 : Int) + rs0.length) rs1.length) rfl ?_ ?_) (next := fun v26 w26 hq26 => ?_)
  · omega
  · omega
  obtain ⟨rfl, he26⟩ := hq26
  have hz26 : w25.heap.size ≤ w26.heap.size := he26.size
  have hx0_26 : Ext w w26 := hx0_25.trans he26
  clear hx0_25
  have hx1_26 : Ext w1 w26 := hx1_25.trans he26
  clear hx1_25
  refine go ?_
  refine c_if (fun h => ?_) (fun _ => ?_)
  · omega
  refine go ?_
  refine c_if (fun h => ?_) (fun _ => ?_)
  · exact absurd rfl h
  refine go ?_
  exact ret1 ⟨rfl, hx0_26⟩
end Go.Proofs.Ytjljbfcdpdckeaa
