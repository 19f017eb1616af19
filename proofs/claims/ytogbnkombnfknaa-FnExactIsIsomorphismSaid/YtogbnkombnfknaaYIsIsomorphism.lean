/-
  Walk: the statement FnExactIsIsomorphism: it returns true.
  Conditions: what the arguments read as.
-/
import Derived.Test.YtogbnkombnfknaaB5
set_option linter.unusedVariables false
set_option linter.unusedSimpArgs false
set_option linter.unusedSectionVars false
set_option linter.constructorNameAsVariable false
set_option linter.unnecessarySimpa false
set_option linter.deprecated false
/-
  Walk: the statement FnExactIsIsomorphism: it returns true.
  Conditions: what the arguments read as.
-/
namespace Go.Proofs.Ytogbnkombnfknaa
open Go Go.Pc
set_option maxHeartbeats 4000000 in
theorem lwIsIsomorphism_ok {w : World} {p0 : Pr} {a0 : Value} {lo0 hi0 : Nat} {p1 : Pr} {a1 : Value} {lo1 hi1 : Nat} {a2 : Value} {us2 : List Value} {xss2 : List (List Int)} {lo2 hi2 : Nat} [hp0 : Pres lo0 hi0 w a0 p0] [hp1 : Pres lo1 hi1 w a1 p1] [hp2 : Pc.Rows lo2 hi2 w a2 us2 xss2] :
    Calls Try.prog 4 #[a0, a1, a2] w (Ret fun v w' => v = .bool true ∧ Ext w w') := by
  obtain ⟨vo0, vpw0, vc0, ps0, cs0, css0, rfl, pa0, pb0, pc0⟩ := hp0.ex
  obtain ⟨vo1, vpw1, vc1, ps1, cs1, css1, rfl, pa1, pb1, pc1⟩ := hp1.ex
  refine enter (args := [.agg #[vo0, vpw0, vc0], .agg #[vo1, vpw1, vc1], a2]) (l := [.tmp 6]) Try.func4 rfl rfl Try.ntmps4 (by simp) ?_
  refine go ?_
  refine st_box3 (by ((try simp only [ev_tmp, ev_const, ev_func, get_put, get_args, get_putL, get_putL_nil, Nat.reduceEqDiff, reduceIte, List.getD_cons_zero, List.getD_cons_succ, List.getD_nil]); first | done | with_reducible rfl)) (by first | exact True.intro | exact ⟨_, rfl, by ((try simp only [ev_tmp, ev_const, ev_func, get_put, get_args, get_putL, get_putL_nil, Nat.reduceEqDiff, reduceIte, List.getD_cons_zero, List.getD_cons_succ, List.getD_nil, Bool.not_true, Bool.not_false]); first | done | with_reducible rfl)⟩) fun w1 b0 he1 hb0 hsz1 hca0 hcb0 hcc0 => ?_
  have hz1 : w.heap.size ≤ w1.heap.size := he1.size
  have hx0_1 : Ext w w1 := he1
  refine go ?_
  refine st_box3 (by ((try simp only [ev_tmp, ev_const, ev_func, get_put, get_args, get_putL, get_putL_nil, Nat.reduceEqDiff, reduceIte, List.getD_cons_zero, List.getD_cons_succ, List.getD_nil]); first | done | with_reducible rfl)) (by first | exact True.intro | exact ⟨_, rfl, by ((try simp only [ev_tmp, ev_const, ev_func, get_put, get_args, get_putL, get_putL_nil, Nat.reduceEqDiff, reduceIte, List.getD_cons_zero, List.getD_cons_succ, List.getD_nil, Bool.not_true, Bool.not_false]); first | done | with_reducible rfl)⟩) fun w2 b1 he2 hb1 hsz2 hca1 hcb1 hcc1 => ?_
  have hz2 : w1.heap.size ≤ w2.heap.size := he2.size
  have hx0_2 : Ext w w2 := hx0_1.trans he2
  clear hx0_1
  replace pa0 := (pa0.same (Ext.same hx0_2 _ _)).wide
  replace pb0 := (pb0.same (Ext.same hx0_2 _ _)).wide
  replace pc0 := (pc0.same (Ext.same hx0_2 _ _)).wide
  replace hp0 := (hp0.same (Ext.same hx0_2 _ _)).wide
  replace pa1 := (pa1.same (Ext.same hx0_2 _ _)).wide
  replace pb1 := (pb1.same (Ext.same hx0_2 _ _)).wide
  replace pc1 := (pc1.same (Ext.same hx0_2 _ _)).wide
  replace hp1 := (hp1.same (Ext.same hx0_2 _ _)).wide
  replace hp2 := (hp2.same (Ext.same hx0_2 _ _)).wide
  refine go ?_
  refine rc (szPresentation_ok (p := p0) (k := (1048576 : Int)) (by omega)) (next := fun v3 w3 hq3 => ?_)
  obtain ⟨j3, rfl, hj3, he3⟩ := hq3
  have hz3 : w2.heap.size ≤ w3.heap.size := he3.size
  have hx0_3 : Ext w w3 := hx0_2.trans he3
  clear hx0_2
  have hx2_3 : Ext w2 w3 := he3
  refine go ?_
  refine c_if (fun hl103 => ?_) (fun hl103 => ?_)
  · refine go ?_
    exact ret1 ⟨rfl, hx0_3⟩
  obtain ⟨hja3, hjb3, hS0⟩ : 0 ≤ j3 ∧ j3 ≤ (1048576 : Int) ∧ SizeP p0 ((1048576 : Int)) := by
    rcases hj3 with h | h
    · omega
    · exact h
  have hs0 : SizeP p0 2000000 := hS0.mono (by omega)
  have hS0_ : SizeP p0 1048576 := hS0.mono (by omega)
  have hol0 := hs0.ord
  have htp0 := totP_le hS0_
  refine go ?_
  refine rc (szPresentation_ok (p := p1) (k := j3) (by omega)) (next := fun v4 w4 hq4 => ?_)
  obtain ⟨j4, rfl, hj4, he4⟩ := hq4
  have hz4 : w3.heap.size ≤ w4.heap.size := he4.size
  have hx0_4 : Ext w w4 := hx0_3.trans he4
  clear hx0_3
  have hx2_4 : Ext w2 w4 := hx2_3.trans he4
  clear hx2_3
  refine go ?_
  refine c_if (fun hl104 => ?_) (fun hl104 => ?_)
  · refine go ?_
    exact ret1 ⟨rfl, hx0_4⟩
  obtain ⟨hja4, hjb4, hS1⟩ : 0 ≤ j4 ∧ j4 ≤ j3 ∧ SizeP p1 (j3) := by
    rcases hj4 with h | h
    · omega
    · exact h
  have hs1 : SizeP p1 2000000 := hS1.mono (by omega)
  have hS1_ : SizeP p1 1048576 := hS1.mono (by omega)
  have hol1 := hs1.ord
  have htp1 := totP_le hS1_
  refine go ?_
  refine rc (szInt64SS_ok (xss := xss2) (k := j4) (by omega)) (next := fun v5 w5 hq5 => ?_)
  obtain ⟨j5, rfl, hj5, he5⟩ := hq5
  have hz5 : w4.heap.size ≤ w5.heap.size := he5.size
  have hx0_5 : Ext w w5 := hx0_4.trans he5
  clear hx0_4
  have hx2_5 : Ext w2 w5 := hx2_4.trans he5
  clear hx2_4
  refine go ?_
  refine c_if (fun hl105 => ?_) (fun hl105 => ?_)
  · refine go ?_
    exact ret1 ⟨rfl, hx0_5⟩
  obtain ⟨hja5, hjb5, hS2⟩ : 0 ≤ j5 ∧ j5 ≤ j4 ∧ (xss2.length : Int) ≤ j4 ∧ ∀ i, ((xss2.getD i []).length : Int) ≤ j4 := by
    rcases hj5 with h | h
    · omega
    · exact h
  have hxl2 : xss2.length ≤ 2000000 := by have := hS2.1; omega
  have hxr2 : ∀ i, (xss2.getD i []).length ≤ 2000000 := fun i => by have := hS2.2 i; omega
  have htm2 := tot_rows_le hxl2 hxr2
  refine go ?_
  refine d_order [0, 2, 4, 1, 3, 5, 6, 7] (h := fun w6 he6 _ => ?_)
  have hz6 : w5.heap.size ≤ w6.heap.size := he6.size
  have hx0_6 : Ext w w6 := hx0_5.trans he6
  clear hx0_5
  have hx2_6 : Ext w2 w6 := hx2_5.trans he6
  clear hx2_5
  refine dgo ?_
  refine dce (toPresentation_ok (p := p0) hs0) (next := fun v7 w7 hq7 => ?_)
  obtain ⟨he7, hF7⟩ := hq7
  have hz7 : w6.heap.size ≤ w7.heap.size := he7.size
  have hx0_7 : Ext w w7 := hx0_6.trans he7
  clear hx0_6
  have hx2_7 : Ext w2 w7 := hx2_6.trans he7
  clear hx2_6
  have hR7 := hF7
  refine dce (toPresentation_ok (p := p1) hs1) (next := fun v8 w8 hq8 => ?_)
  obtain ⟨he8, hF8⟩ := hq8
  have hz8 : w7.heap.size ≤ w8.heap.size := he8.size
  have hx0_8 : Ext w w8 := hx0_7.trans he8
  clear hx0_7
  have hx2_8 : Ext w2 w8 := hx2_7.trans he8
  clear hx2_7
  have hR8 := hF8
  refine dce (toInt64SSM_ok (xss := xss2) hxl2 hxr2) (next := fun v9 w9 hq9 => ?_)
  obtain ⟨he9, rr9, hrr9, hF9⟩ := hq9
  have hz9 : w8.heap.size ≤ w9.heap.size := he9.size
  have hx0_9 : Ext w w9 := hx0_8.trans he9
  clear hx0_8
  have hx2_9 : Ext w2 w9 := hx2_8.trans he9
  clear hx2_8
  have hR9 := hF9.rows
  rw [← hrr9] at hR9
  clear hF9
  replace hR7 := hR7.same (((Wrt.ofExt (B := fun b => b < w6.heap.size ∨ w7.heap.size ≤ b) he8).trans (Wrt.ofExt (B := fun b => b < w6.heap.size ∨ w7.heap.size ≤ b) he9)).same (fun b hb => hb))
  replace hR8 := hR8.same ((Wrt.ofExt (B := fun b => b < w7.heap.size ∨ w8.heap.size ≤ b) he9).same (fun b hb => hb))
  refine dce (spec_IsIsomorphism_ok (p := p0) (q := p1) (xss := xss2) (by omega) (by omega) (by omega)) (hR := by rintro _ _ ⟨_, rfl, _, h⟩; exact h) (next := fun v10 w10 hq10 => ?_)
  obtain ⟨rs0, rfl, has, he10⟩ := hq10
  have hz10 : w9.heap.size ≤ w10.heap.size := he10.size
  have hx0_10 : Ext w w10 := hx0_9.trans he10
  clear hx0_9
  have hx2_10 : Ext w2 w10 := hx2_9.trans he10
  clear hx2_9
  refine dgo ?_
  refine d_end (h := ?_)
  clear hR7
  clear hR8
  clear hR9
  refine go ?_
  refine rc (toPresentation_ok (p := p0) hs0) (next := fun v11 w11 hq11 => ?_)
  obtain ⟨he11, hF11⟩ := hq11
  have hz11 : w10.heap.size ≤ w11.heap.size := he11.size
  have hx0_11 : Ext w w11 := hx0_10.trans he11
  clear hx0_10
  have hx2_11 : Ext w2 w11 := hx2_10.trans he11
  clear hx2_10
  have hR11 := hF11
  refine go ?_
  refine st_alloc (by first | exact True.intro | exact ⟨_, rfl, by ((try simp only [ev_tmp, ev_const, ev_func, get_put, get_args, get_putL, get_putL_nil, Nat.reduceEqDiff, reduceIte, List.getD_cons_zero, List.getD_cons_succ, List.getD_nil, Bool.not_true, Bool.not_false]); first | done | with_reducible rfl)⟩) fun w12 bx0 he12 hbx0 hsza0 hbk0 => ?_
  have hz12 : w11.heap.size ≤ w12.heap.size := he12.size
  have hx0_12 : Ext w w12 := hx0_11.trans he12
  clear hx0_11
  have hx2_12 : Ext w2 w12 := hx2_11.trans he12
  clear hx2_11
  replace hR11 := hR11.same ((Wrt.ofExt (B := fun b => b < w10.heap.size ∨ w11.heap.size ≤ b) he12).same (fun b hb => hb))
  obtain ⟨xo0, xp0, xc0, psx0, csx0, cssx0, rfl, ka0, kb0, kc0⟩ := hR11.ex
  refine go ?_
  refine st_store_agg (vs := [xo0, xp0, xc0]) (cs := _) (by ((try simp only [ev_tmp, ev_const, ev_func, get_put, get_args, get_putL, get_putL_nil, Nat.reduceEqDiff, reduceIte, List.getD_cons_zero, List.getD_cons_succ, List.getD_nil]); first | done | with_reducible rfl)) (by ((try simp only [ev_tmp, ev_const, ev_func, get_put, get_args, get_putL, get_putL_nil, Nat.reduceEqDiff, reduceIte, List.getD_cons_zero, List.getD_cons_succ, List.getD_nil]); first | done | with_reducible rfl)) rfl ?_ ?_ (by first | exact True.intro | exact ⟨_, rfl, by ((try simp only [ev_tmp, ev_const, ev_func, get_put, get_args, get_putL, get_putL_nil, Nat.reduceEqDiff, reduceIte, List.getD_cons_zero, List.getD_cons_succ, List.getD_nil, Bool.not_true, Bool.not_false]); first | done | with_reducible rfl)⟩) fun w13 hch13 hss13 hBk0 => ?_
  · rfl
  · have e1 := ka0.sl.one
    have e2 := kb0.sl.one
    have e3 := kc0.sl.one
    simp [e1, e2, e3]
  clear ka0 kb0 kc0 hbk0
  have hz13 : w12.heap.size ≤ w13.heap.size := hch13.size
  have hx0_13 : Ext w w13 := hch13.ext hx0_12 (by omega)
  clear hx0_12
  have hx2_13 : Ext w2 w13 := hch13.ext hx2_12 (by omega)
  clear hx2_12
  refine go ?_
  refine rc (toPresentation_ok (p := p1) hs1) (next := fun v14 w14 hq14 => ?_)
  obtain ⟨he14, hF14⟩ := hq14
  have hz14 : w13.heap.size ≤ w14.heap.size := he14.size
  have hx0_14 : Ext w w14 := hx0_13.trans he14
  clear hx0_13
  have hx2_14 : Ext w2 w14 := hx2_13.trans he14
  clear hx2_13
  have hR14 := hF14
  refine go ?_
  refine st_alloc (by first | exact True.intro | exact ⟨_, rfl, by ((try simp only [ev_tmp, ev_const, ev_func, get_put, get_args, get_putL, get_putL_nil, Nat.reduceEqDiff, reduceIte, List.getD_cons_zero, List.getD_cons_succ, List.getD_nil, Bool.not_true, Bool.not_false]); first | done | with_reducible rfl)⟩) fun w15 bx1 he15 hbx1 hsza1 hbk1 => ?_
  have hz15 : w14.heap.size ≤ w15.heap.size := he15.size
  have hx0_15 : Ext w w15 := hx0_14.trans he15
  clear hx0_14
  have hx2_15 : Ext w2 w15 := hx2_14.trans he15
  clear hx2_14
  replace hR14 := hR14.same ((Wrt.ofExt (B := fun b => b < w13.heap.size ∨ w14.heap.size ≤ b) he15).same (fun b hb => hb))
  obtain ⟨xo1, xp1, xc1, psx1, csx1, cssx1, rfl, ka1, kb1, kc1⟩ := hR14.ex
  refine go ?_
  refine st_store_agg (vs := [xo1, xp1, xc1]) (cs := _) (by ((try simp only [ev_tmp, ev_const, ev_func, get_put, get_args, get_putL, get_putL_nil, Nat.reduceEqDiff, reduceIte, List.getD_cons_zero, List.getD_cons_succ, List.getD_nil]); first | done | with_reducible rfl)) (by ((try simp only [ev_tmp, ev_const, ev_func, get_put, get_args, get_putL, get_putL_nil, Nat.reduceEqDiff, reduceIte, List.getD_cons_zero, List.getD_cons_succ, List.getD_nil]); first | done | with_reducible rfl)) rfl ?_ ?_ (by first | exact True.intro | exact ⟨_, rfl, by ((try simp only [ev_tmp, ev_const, ev_func, get_put, get_args, get_putL, get_putL_nil, Nat.reduceEqDiff, reduceIte, List.getD_cons_zero, List.getD_cons_succ, List.getD_nil, Bool.not_true, Bool.not_false]); first | done | with_reducible rfl)⟩) fun w16 hch16 hss16 hBk1 => ?_
  · rfl
  · have e1 := ka1.sl.one
    have e2 := kb1.sl.one
    have e3 := kc1.sl.one
    simp [e1, e2, e3]
  clear ka1 kb1 kc1 hbk1
  have hz16 : w15.heap.size ≤ w16.heap.size := hch16.size
  have hx0_16 : Ext w w16 := hch16.ext hx0_15 (by omega)
  clear hx0_15
  have hx2_16 : Ext w2 w16 := hch16.ext hx2_15 (by omega)
  clear hx2_15
  refine go ?_
  refine rc (toInt64SSM_ok (xss := xss2) hxl2 hxr2) (next := fun v17 w17 hq17 => ?_)
  obtain ⟨he17, rr17, hrr17, hF17⟩ := hq17
  have hz17 : w16.heap.size ≤ w17.heap.size := he17.size
  have hx0_17 : Ext w w17 := hx0_16.trans he17
  clear hx0_16
  have hx2_17 : Ext w2 w17 := hx2_16.trans he17
  clear hx2_16
  have hR17 := hF17.rows
  rw [← hrr17] at hR17
  clear hF17
  replace hR11 := hR11.same ((((((Wrt.one (B := fun b => b < w10.heap.size ∨ w11.heap.size ≤ b) (by omega) hch13).trans (Wrt.ofExt (B := fun b => b < w10.heap.size ∨ w11.heap.size ≤ b) he14)).trans (Wrt.ofExt (B := fun b => b < w10.heap.size ∨ w11.heap.size ≤ b) he15)).trans (Wrt.one (B := fun b => b < w10.heap.size ∨ w11.heap.size ≤ b) (by omega) hch16)).trans (Wrt.ofExt (B := fun b => b < w10.heap.size ∨ w11.heap.size ≤ b) he17)).same (fun b hb => hb))
  replace hR14 := hR14.same (((Wrt.one (B := fun b => b < w13.heap.size ∨ w14.heap.size ≤ b) (by omega) hch16).trans (Wrt.ofExt (B := fun b => b < w13.heap.size ∨ w14.heap.size ≤ b) he17)).same (fun b hb => hb))
  replace hBk0 := hBk0.wr ((((Wrt.ofExt (B := fun b => b ≠ bx0) he14).trans (Wrt.ofExt (B := fun b => b ≠ bx0) he15)).trans (Wrt.one (B := fun b => b ≠ bx0) (by omega) hch16)).trans (Wrt.ofExt (B := fun b => b ≠ bx0) he17)) (by omega)
  replace hBk1 := hBk1.wr (Wrt.ofExt (B := fun b => b ≠ bx1) he17) (by omega)
  refine go ?_
  refine ra (v := .agg #[xo0, xp0, xc0]) (h := rd_load_blk (hb := hBk0) (by ((try simp only [ev_tmp, ev_const, ev_func, get_put, get_args, get_putL, get_putL_nil, Nat.reduceEqDiff, reduceIte, List.getD_cons_zero, List.getD_cons_succ, List.getD_nil]); first | done | with_reducible rfl)) rfl) (next := ?_)
  refine go ?_
  refine ra (v := .agg #[xo1, xp1, xc1]) (h := rd_load_blk (hb := hBk1) (by ((try simp only [ev_tmp, ev_const, ev_func, get_put, get_args, get_putL, get_putL_nil, Nat.reduceEqDiff, reduceIte, List.getD_cons_zero, List.getD_cons_succ, List.getD_nil]); first | done | with_reducible rfl)) rfl) (next := ?_)
  refine go ?_
  refine rc (impl_IsIsomorphism_ok (p := p0) (q := p1) (xss := xss2) (by omega) (by omega) (by omega)) (next := fun v18 w18 hq18 => ?_)
  obtain ⟨rg0, rfl, hag, he18⟩ := hq18
  have hz18 : w17.heap.size ≤ w18.heap.size := he18.size
  have hx0_18 : Ext w w18 := hx0_17.trans he18
  clear hx0_17
  have hx2_18 : Ext w2 w18 := hx2_17.trans he18
  clear hx2_17
  obtain ⟨rfl⟩ : rs0 = rg0 := bool_eq has hag
  refine go ?_
  refine ra (h := rd_neqb_same (a := rs0) (by ((try simp only [ev_tmp, ev_const, ev_func, get_put, get_args, get_putL, get_putL_nil, Nat.reduceEqDiff, reduceIte, List.getD_cons_zero, List.getD_cons_succ, List.getD_nil]); first | done | with_reducible rfl)) (by ((try simp only [ev_tmp, ev_const, ev_func, get_put, get_args, get_putL, get_putL_nil, Nat.reduceEqDiff, reduceIte, List.getD_cons_zero, List.getD_cons_succ, List.getD_nil]); first | done | with_reducible rfl))) (next := ?_)
  refine go ?_
  replace hBk0 := hBk0.wr (Wrt.ofExt (B := fun b => b ≠ bx0) he18) (by omega)
  replace hBk1 := hBk1.wr (Wrt.ofExt (B := fun b => b ≠ bx1) he18) (by omega)
  refine d_region fun w19 he19 _ => ?_
  have hz19 : w18.heap.size ≤ w19.heap.size := he19.size
  have hx0_19 : Ext w w19 := hx0_18.trans he19
  clear hx0_18
  have hx2_19 : Ext w2 w19 := hx2_18.trans he19
  clear hx2_18
  replace hBk0 := hBk0.wr (Wrt.ofExt (B := fun b => b ≠ bx0) he19) (by omega)
  have hxa0 : Cell w19 bx0 0 xo0 := hBk0.cell rfl
  have hxb0 : Cell w19 bx0 1 xp0 := hBk0.cell rfl
  have hxc0 : Cell w19 bx0 2 xc0 := hBk0.cell rfl
  refine dgo ?_
  refine dce (toPresentation_ok (p := p0) hs0) (next := fun v20 w20 hq20 => ?_)
  obtain ⟨he20, hF20⟩ := hq20
  have hz20 : w19.heap.size ≤ w20.heap.size := he20.size
  have hx0_20 : Ext w w20 := hx0_19.trans he20
  clear hx0_19
  have hx2_20 : Ext w2 w20 := hx2_19.trans he20
  clear hx2_19
  have hR20 := hF20
  clear hxa0 hxb0 hxc0
  replace hR11 := hR11.same ((((Wrt.ofExt (B := fun b => b < w10.heap.size ∨ w11.heap.size ≤ b) he18).trans (Wrt.ofExt (B := fun b => b < w10.heap.size ∨ w11.heap.size ≤ b) he19)).trans (Wrt.ofExt (B := fun b => b < w10.heap.size ∨ w11.heap.size ≤ b) he20)).same (fun b hb => hb))
  refine dce (eqPresentation_ok (p := p0) (q := p0) hs0) (next := fun v21 w21 hq21 => ?_)
  obtain ⟨t21, rfl, ht21, he21⟩ := hq21
  obtain rfl := ht21.2 rfl
  have hz21 : w20.heap.size ≤ w21.heap.size := he21.size
  have hx0_21 : Ext w w21 := hx0_20.trans he21
  clear hx0_20
  have hx2_21 : Ext w2 w21 := hx2_20.trans he21
  clear hx2_20
  clear hR20
  refine dgo ?_
  refine d_end (h := ?_)
  refine go ?_
  refine c_b (fun h => ?_) (fun _ => ?_)
  · cases h
  refine go ?_
  replace hBk0 := hBk0.wr ((Wrt.ofExt (B := fun b => b ≠ bx0) he20).trans (Wrt.ofExt (B := fun b => b ≠ bx0) he21)) (by omega)
  replace hBk1 := hBk1.wr (((Wrt.ofExt (B := fun b => b ≠ bx1) he19).trans (Wrt.ofExt (B := fun b => b ≠ bx1) he20)).trans (Wrt.ofExt (B := fun b => b ≠ bx1) he21)) (by omega)
  refine d_region fun w22 he22 _ => ?_
  have hz22 : w21.heap.size ≤ w22.heap.size := he22.size
  have hx0_22 : Ext w w22 := hx0_21.trans he22
  clear hx0_21
  have hx2_22 : Ext w2 w22 := hx2_21.trans he22
  clear hx2_21
  replace hBk1 := hBk1.wr (Wrt.ofExt (B := fun b => b ≠ bx1) he22) (by omega)
  have hxa1 : Cell w22 bx1 0 xo1 := hBk1.cell rfl
  have hxb1 : Cell w22 bx1 1 xp1 := hBk1.cell rfl
  have hxc1 : Cell w22 bx1 2 xc1 := hBk1.cell rfl
  refine dgo ?_
  refine dce (toPresentation_ok (p := p1) hs1) (next := fun v23 w23 hq23 => ?_)
  obtain ⟨he23, hF23⟩ := hq23
  have hz23 : w22.heap.size ≤ w23.heap.size := he23.size
  have hx0_23 : Ext w w23 := hx0_22.trans he23
  clear hx0_22
  have hx2_23 : Ext w2 w23 := hx2_22.trans he23
  clear hx2_22
  have hR23 := hF23
  clear hxa1 hxb1 hxc1
  replace hR14 := hR14.same (((((((Wrt.ofExt (B := fun b => b < w13.heap.size ∨ w14.heap.size ≤ b) he18).trans (Wrt.ofExt (B := fun b => b < w13.heap.size ∨ w14.heap.size ≤ b) he19)).trans (Wrt.ofExt (B := fun b => b < w13.heap.size ∨ w14.heap.size ≤ b) he20)).trans (Wrt.ofExt (B := fun b => b < w13.heap.size ∨ w14.heap.size ≤ b) he21)).trans (Wrt.ofExt (B := fun b => b < w13.heap.size ∨ w14.heap.size ≤ b) he22)).trans (Wrt.ofExt (B := fun b => b < w13.heap.size ∨ w14.heap.size ≤ b) he23)).same (fun b hb => hb))
  refine dce (eqPresentation_ok (p := p1) (q := p1) hs1) (next := fun v24 w24 hq24 => ?_)
  obtain ⟨t24, rfl, ht24, he24⟩ := hq24
  obtain rfl := ht24.2 rfl
  have hz24 : w23.heap.size ≤ w24.heap.size := he24.size
  have hx0_24 : Ext w w24 := hx0_23.trans he24
  clear hx0_23
  have hx2_24 : Ext w2 w24 := hx2_23.trans he24
  clear hx2_23
  clear hR23
  refine dgo ?_
  refine d_end (h := ?_)
  refine go ?_
  refine c_b (fun h => ?_) (fun _ => ?_)
  · cases h
  refine go ?_
  refine rc (toInt64SSM_ok (xss := xss2) hxl2 hxr2) (next := fun v25 w25 hq25 => ?_)
  obtain ⟨he25, rr25, hrr25, hF25⟩ := hq25
  have hz25 : w24.heap.size ≤ w25.heap.size := he25.size
  have hx0_25 : Ext w w25 := hx0_24.trans he25
  clear hx0_24
  have hx2_25 : Ext w2 w25 := hx2_24.trans he25
  clear hx2_24
  have hR25 := hF25.rows
  rw [← hrr25] at hR25
  clear hF25
  replace hR17 := hR17.same (((((((((Wrt.ofExt (B := fun b => b < w16.heap.size ∨ w17.heap.size ≤ b) he18).trans (Wrt.ofExt (B := fun b => b < w16.heap.size ∨ w17.heap.size ≤ b) he19)).trans (Wrt.ofExt (B := fun b => b < w16.heap.size ∨ w17.heap.size ≤ b) he20)).trans (Wrt.ofExt (B := fun b => b < w16.heap.size ∨ w17.heap.size ≤ b) he21)).trans (Wrt.ofExt (B := fun b => b < w16.heap.size ∨ w17.heap.size ≤ b) he22)).trans (Wrt.ofExt (B := fun b => b < w16.heap.size ∨ w17.heap.size ≤ b) he23)).trans (Wrt.ofExt (B := fun b => b < w16.heap.size ∨ w17.heap.size ≤ b) he24)).trans (Wrt.ofExt (B := fun b => b < w16.heap.size ∨ w17.heap.size ≤ b) he25)).same (fun b hb => hb))
  refine go ?_
  refine rc (eqInt64SS_ok (xss := xss2) (yss := xss2) hxr2 (by omega)) (next := fun v26 w26 hq26 => ?_)
  obtain ⟨t26, rfl, ht26, he26⟩ := hq26
  obtain rfl := ht26.2 rfl
  have hz26 : w25.heap.size ≤ w26.heap.size := he26.size
  have hx0_26 : Ext w w26 := hx0_25.trans he26
  clear hx0_25
  have hx2_26 : Ext w2 w26 := hx2_25.trans he26
  clear hx2_25
  clear hR25
  refine go ?_
  refine c_b (fun h => ?_) (fun _ => ?_)
  · cases h
  refine go ?_
  exact ret1 ⟨rfl, hx0_26⟩
end Go.Proofs.Ytogbnkombnfknaa
