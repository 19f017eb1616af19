/-
  Walk: the statement FnExactAutomorphismOrder: it returns true.
  Conditions: what the arguments read as.
-/
import Derived.Test.YtjljbfcdpdckeaaGreatB5
set_option linter.unusedVariables false
set_option linter.unusedSimpArgs false
set_option linter.unusedSectionVars false
set_option linter.constructorNameAsVariable false
set_option linter.unnecessarySimpa false
set_option linter.deprecated false
/-
  Walk: the statement FnExactAutomorphismOrder: it returns true.
  Conditions: what the arguments read as.
-/
namespace Go.Proofs.YtjljbfcdpdckeaaGreat
open Go Go.Pc
set_option maxHeartbeats 4000000 in
theorem lwAutomorphismOrder_ok {w : World} {p0 : Pr} {a0 : Value} {lo0 hi0 : Nat} {a1 : Value} {us1 : List Value} {xss1 : List (List Int)} {lo1 hi1 : Nat} [hp0 : Pres lo0 hi0 w a0 p0] [hp1 : Pc.Rows lo1 hi1 w a1 us1 xss1] :
    Calls Tryz.prog 3 #[a0, a1] w (Ret fun v w' => v = .bool true ∧ Ext w w') := by
  obtain ⟨vo0, vpw0, vc0, ps0, cs0, css0, rfl, pa0, pb0, pc0⟩ := hp0.ex
  refine enter (args := [.agg #[vo0, vpw0, vc0], a1]) (l := [.tmp 4]) Tryz.func3 rfl rfl Tryz.ntmps3 (by simp) ?_
  refine go ?_
  refine st_box3 (by ((try simp only [ev_tmp, ev_const, ev_func, get_put, get_args, get_putL, get_putL_nil, Nat.reduceEqDiff, reduceIte, List.getD_cons_zero, List.getD_cons_succ, List.getD_nil]); first | done | with_reducible rfl)) (by first | exact True.intro | exact ⟨_, rfl, by ((try simp only [ev_tmp, ev_const, ev_func, get_put, get_args, get_putL, get_putL_nil, Nat.reduceEqDiff, reduceIte, List.getD_cons_zero, List.getD_cons_succ, List.getD_nil, Bool.not_true, Bool.not_false]); first | done | with_reducible rfl)⟩) fun w1 b0 he1 hb0 hsz1 hca0 hcb0 hcc0 => ?_
  have hz1 : w.heap.size ≤ w1.heap.size := he1.size
  have hx0_1 : Ext w w1 := he1
  replace pa0 := (pa0.same (Ext.same hx0_1 _ _)).wide
  replace pb0 := (pb0.same (Ext.same hx0_1 _ _)).wide
  replace pc0 := (pc0.same (Ext.same hx0_1 _ _)).wide
  replace hp0 := (hp0.same (Ext.same hx0_1 _ _)).wide
  replace hp1 := (hp1.same (Ext.same hx0_1 _ _)).wide
  refine go ?_
  refine rc (szPresentation_ok (p := p0) (k := (1048576 : Int)) (by omega)) (next := fun v2 w2 hq2 => ?_)
  obtain ⟨j2, rfl, hj2, he2⟩ := hq2
  have hz2 : w1.heap.size ≤ w2.heap.size := he2.size
  have hx0_2 : Ext w w2 := hx0_1.trans he2
  clear hx0_1
  have hx1_2 : Ext w1 w2 := he2
  refine go ?_
  refine c_if (fun hl102 => ?_) (fun hl102 => ?_)
  · refine go ?_
    exact ret1 ⟨rfl, hx0_2⟩
  obtain ⟨hja2, hjb2, hS0⟩ : 0 ≤ j2 ∧ j2 ≤ (1048576 : Int) ∧ SizeP p0 ((1048576 : Int)) := by
    rcases hj2 with h | h
    · omega
    · exact h
  have hs0 : SizeP p0 2000000 := hS0.mono (by omega)
  have hS0_ : SizeP p0 1048576 := hS0.mono (by omega)
  have hol0 := hs0.ord
  have htp0 := totP_le hS0_
  refine go ?_
  refine rc (szInt64SS_ok (xss := xss1) (k := j2) (by omega)) (next := fun v3 w3 hq3 => ?_)
  obtain ⟨j3, rfl, hj3, he3⟩ := hq3
  have hz3 : w2.heap.size ≤ w3.heap.size := he3.size
  have hx0_3 : Ext w w3 := hx0_2.trans he3
  clear hx0_2
  have hx1_3 : Ext w1 w3 := hx1_2.trans he3
  clear hx1_2
  refine go ?_
  refine c_if (fun hl103 => ?_) (fun hl103 => ?_)
  · refine go ?_
    exact ret1 ⟨rfl, hx0_3⟩
  obtain ⟨hja3, hjb3, hS1⟩ : 0 ≤ j3 ∧ j3 ≤ j2 ∧ (xss1.length : Int) ≤ j2 ∧ ∀ i, ((xss1.getD i []).length : Int) ≤ j2 := by
    rcases hj3 with h | h
    · omega
    · exact h
  have hxl1 : xss1.length ≤ 2000000 := by have := hS1.1; omega
  have hxr1 : ∀ i, (xss1.getD i []).length ≤ 2000000 := fun i => by have := hS1.2 i; omega
  have htm1 := tot_rows_le hxl1 hxr1
  refine go ?_
  refine rc (toPresentation_ok (p := p0) hs0) (next := fun v4 w4 hq4 => ?_)
  obtain ⟨he4, hF4⟩ := hq4
  have hz4 : w3.heap.size ≤ w4.heap.size := he4.size
  have hx0_4 : Ext w w4 := hx0_3.trans he4
  clear hx0_3
  have hx1_4 : Ext w1 w4 := hx1_3.trans he4
  clear hx1_3
  have hR4 := hF4
  refine go ?_
  refine rc (toInt64SSM_ok (xss := xss1) hxl1 hxr1) (next := fun v5 w5 hq5 => ?_)
  obtain ⟨he5, rr5, hrr5, hF5⟩ := hq5
  have hz5 : w4.heap.size ≤ w5.heap.size := he5.size
  have hx0_5 : Ext w w5 := hx0_4.trans he5
  clear hx0_4
  have hx1_5 : Ext w1 w5 := hx1_4.trans he5
  clear hx1_4
  have hR5 := hF5.rows
  rw [← hrr5] at hR5
  clear hF5
  replace hR4 := hR4.same ((Wrt.ofExt (B := fun b => b < w3.heap.size ∨ w4.heap.size ≤ b) he5).same (fun b hb => hb))
  refine go ?_
  refine rc (spec_AutomorphismOrder_ok (p := p0) (xss := xss1) (by omega) (by omega)) (next := fun v6 w6 hq6 => ?_)
  obtain ⟨rs0, rs1, rfl, has, he6⟩ := hq6
  have hz6 : w5.heap.size ≤ w6.heap.size := he6.size
  have hx0_6 : Ext w w6 := hx0_5.trans he6
  clear hx0_5
  have hx1_6 : Ext w1 w6 := hx1_5.trans he6
  clear hx1_5
  clear hR4
  clear hR5
  refine go ?_
  refine rc (toPresentation_ok (p := p0) hs0) (next := fun v7 w7 hq7 => ?_)
  obtain ⟨he7, hF7⟩ := hq7
  have hz7 : w6.heap.size ≤ w7.heap.size := he7.size
  have hx0_7 : Ext w w7 := hx0_6.trans he7
  clear hx0_6
  have hx1_7 : Ext w1 w7 := hx1_6.trans he7
  clear hx1_6
  have hR7 := hF7
  refine go ?_
  refine st_alloc (by first | exact True.intro | exact ⟨_, rfl, by ((try simp only [ev_tmp, ev_const, ev_func, get_put, get_args, get_putL, get_putL_nil, Nat.reduceEqDiff, reduceIte, List.getD_cons_zero, List.getD_cons_succ, List.getD_nil, Bool.not_true, Bool.not_false]); first | done | with_reducible rfl)⟩) fun w8 bx0 he8 hbx0 hsza0 hbk0 => ?_
  have hz8 : w7.heap.size ≤ w8.heap.size := he8.size
  have hx0_8 : Ext w w8 := hx0_7.trans he8
  clear hx0_7
  have hx1_8 : Ext w1 w8 := hx1_7.trans he8
  clear hx1_7
  replace hR7 := hR7.same ((Wrt.ofExt (B := fun b => b < w6.heap.size ∨ w7.heap.size ≤ b) he8).same (fun b hb => hb))
  obtain ⟨xo0, xp0, xc0, psx0, csx0, cssx0, rfl, ka0, kb0, kc0⟩ := hR7.ex
  refine go ?_
  refine st_store_agg (vs := [xo0, xp0, xc0]) (cs := _) (by ((try simp only [ev_tmp, ev_const, ev_func, get_put, get_args, get_putL, get_putL_nil, Nat.reduceEqDiff, reduceIte, List.getD_cons_zero, List.getD_cons_succ, List.getD_nil]); first | done | with_reducible rfl)) (by ((try simp only [ev_tmp, ev_const, ev_func, get_put, get_args, get_putL, get_putL_nil, Nat.reduceEqDiff, reduceIte, List.getD_cons_zero, List.getD_cons_succ, List.getD_nil]); first | done | with_reducible rfl)) rfl ?_ ?_ (by first | exact True.intro | exact ⟨_, rfl, by ((try simp only [ev_tmp, ev_const, ev_func, get_put, get_args, get_putL, get_putL_nil, Nat.reduceEqDiff, reduceIte, List.getD_cons_zero, List.getD_cons_succ, List.getD_nil, Bool.not_true, Bool.not_false]); first | done | with_reducible rfl)⟩) fun w9 hch9 hss9 hBk0 => ?_
  · rfl
  · have e1 := ka0.sl.one
    have e2 := kb0.sl.one
    have e3 := kc0.sl.one
    simp [e1, e2, e3]
  clear ka0 kb0 kc0 hbk0
  have hz9 : w8.heap.size ≤ w9.heap.size := hch9.size
  have hx0_9 : Ext w w9 := hch9.ext hx0_8 (by omega)
  clear hx0_8
  have hx1_9 : Ext w1 w9 := hch9.ext hx1_8 (by omega)
  clear hx1_8
  refine go ?_
  refine rc (toInt64SSM_ok (xss := xss1) hxl1 hxr1) (next := fun v10 w10 hq10 => ?_)
  obtain ⟨he10, rr10, hrr10, hF10⟩ := hq10
  have hz10 : w9.heap.size ≤ w10.heap.size := he10.size
  have hx0_10 : Ext w w10 := hx0_9.trans he10
  clear hx0_9
  have hx1_10 : Ext w1 w10 := hx1_9.trans he10
  clear hx1_9
  have hR10 := hF10.rows
  rw [← hrr10] at hR10
  clear hF10
  replace hR7 := hR7.same (((Wrt.one (B := fun b => b < w6.heap.size ∨ w7.heap.size ≤ b) (by omega) hch9).trans (Wrt.ofExt (B := fun b => b < w6.heap.size ∨ w7.heap.size ≤ b) he10)).same (fun b hb => hb))
  replace hBk0 := hBk0.wr (Wrt.ofExt (B := fun b => b ≠ bx0) he10) (by omega)
  refine go ?_
  refine ra (v := .agg #[xo0, xp0, xc0]) (h := rd_load_blk (hb := hBk0) (by ((try simp only [ev_tmp, ev_const, ev_func, get_put, get_args, get_putL, get_putL_nil, Nat.reduceEqDiff, reduceIte, List.getD_cons_zero, List.getD_cons_succ, List.getD_nil]); first | done | with_reducible rfl)) rfl) (next := ?_)
  refine go ?_
  refine rc (impl_AutomorphismOrder_ok (p := p0) (xss := xss1) (by omega) (by omega)) (next := fun v11 w11 hq11 => ?_)
  obtain ⟨rg0, rg1, rfl, hag, he11⟩ := hq11
  have hz11 : w10.heap.size ≤ w11.heap.size := he11.size
  have hx0_11 : Ext w w11 := hx0_10.trans he11
  clear hx0_10
  have hx1_11 : Ext w1 w11 := hx1_10.trans he11
  clear hx1_10
  obtain ⟨rfl, rfl⟩ : rs0 = rg0 ∧ rs1 = rg1 := has.same hag fun _ => AoV.uniq
  refine go ?_
  refine spd (fun h => ?_) (fun _ => ?_)
  · exact absurd rfl h
  refine go ?_
  refine c_if (fun h => ?_) (fun _ => ?_)
  · exact absurd rfl h
  refine go ?_
  replace hBk0 := hBk0.wr (Wrt.ofExt (B := fun b => b ≠ bx0) he11) (by omega)
  refine d_region fun w12 he12 _ => ?_
  have hz12 : w11.heap.size ≤ w12.heap.size := he12.size
  have hx0_12 : Ext w w12 := hx0_11.trans he12
  clear hx0_11
  have hx1_12 : Ext w1 w12 := hx1_11.trans he12
  clear hx1_11
  replace hBk0 := hBk0.wr (Wrt.ofExt (B := fun b => b ≠ bx0) he12) (by omega)
  have hxa0 : Cell w12 bx0 0 xo0 := hBk0.cell rfl
  have hxb0 : Cell w12 bx0 1 xp0 := hBk0.cell rfl
  have hxc0 : Cell w12 bx0 2 xc0 := hBk0.cell rfl
  refine dgo ?_
  refine dce (toPresentation_ok (p := p0) hs0) (next := fun v13 w13 hq13 => ?_)
  obtain ⟨he13, hF13⟩ := hq13
  have hz13 : w12.heap.size ≤ w13.heap.size := he13.size
  have hx0_13 : Ext w w13 := hx0_12.trans he13
  clear hx0_12
  have hx1_13 : Ext w1 w13 := hx1_12.trans he13
  clear hx1_12
  have hR13 := hF13
  clear hxa0 hxb0 hxc0
  replace hR7 := hR7.same ((((Wrt.ofExt (B := fun b => b < w6.heap.size ∨ w7.heap.size ≤ b) he11).trans (Wrt.ofExt (B := fun b => b < w6.heap.size ∨ w7.heap.size ≤ b) he12)).trans (Wrt.ofExt (B := fun b => b < w6.heap.size ∨ w7.heap.size ≤ b) he13)).same (fun b hb => hb))
  refine dce (eqPresentation_ok (p := p0) (q := p0) hs0) (next := fun v14 w14 hq14 => ?_)
  obtain ⟨t14, rfl, ht14, he14⟩ := hq14
  obtain rfl := ht14.2 rfl
  have hz14 : w13.heap.size ≤ w14.heap.size := he14.size
  have hx0_14 : Ext w w14 := hx0_13.trans he14
  clear hx0_13
  have hx1_14 : Ext w1 w14 := hx1_13.trans he14
  clear hx1_13
  clear hR13
  refine dgo ?_
  refine d_end (h := ?_)
  refine go ?_
  refine c_b (fun h => ?_) (fun _ => ?_)
  · cases h
  refine go ?_
  refine rc (toInt64SSM_ok (xss := xss1) hxl1 hxr1) (next := fun v15 w15 hq15 => ?_)
  obtain ⟨he15, rr15, hrr15, hF15⟩ := hq15
  have hz15 : w14.heap.size ≤ w15.heap.size := he15.size
  have hx0_15 : Ext w w15 := hx0_14.trans he15
  clear hx0_14
  have hx1_15 : Ext w1 w15 := hx1_14.trans he15
  clear hx1_14
  have hR15 := hF15.rows
  rw [← hrr15] at hR15
  clear hF15
  replace hR10 := hR10.same ((((((Wrt.ofExt (B := fun b => b < w9.heap.size ∨ w10.heap.size ≤ b) he11).trans (Wrt.ofExt (B := fun b => b < w9.heap.size ∨ w10.heap.size ≤ b) he12)).trans (Wrt.ofExt (B := fun b => b < w9.heap.size ∨ w10.heap.size ≤ b) he13)).trans (Wrt.ofExt (B := fun b => b < w9.heap.size ∨ w10.heap.size ≤ b) he14)).trans (Wrt.ofExt (B := fun b => b < w9.heap.size ∨ w10.heap.size ≤ b) he15)).same (fun b hb => hb))
  refine go ?_
  refine rc (eqInt64SS_ok (xss := xss1) (yss := xss1) hxr1 (by omega)) (next := fun v16 w16 hq16 => ?_)
  obtain ⟨t16, rfl, ht16, he16⟩ := hq16
  obtain rfl := ht16.2 rfl
  have hz16 : w15.heap.size ≤ w16.heap.size := he16.size
  have hx0_16 : Ext w w16 := hx0_15.trans he16
  clear hx0_15
  have hx1_16 : Ext w1 w16 := hx1_15.trans he16
  clear hx1_15
  clear hR15
  refine go ?_
  refine c_b (fun h => ?_) (fun _ => ?_)
  · cases h
  refine go ?_
  exact ret1 ⟨rfl, hx0_16⟩
end Go.Proofs.YtjljbfcdpdckeaaGreat
