/-
  Walk: the statement FnExactAllHoms: it returns true.
  Conditions: what the arguments read as.
-/
import Derived.Test.YtnphljflkpekmaaB6
set_option linter.unusedVariables false
set_option linter.unusedSimpArgs false
set_option linter.unusedSectionVars false
set_option linter.constructorNameAsVariable false
set_option linter.unnecessarySimpa false
set_option linter.deprecated false
/-
  Walk: the statement FnExactAllHoms: it returns true.
  Conditions: what the arguments read as.
-/
namespace Go.Proofs.Ytnphljflkpekmaa
open Go Go.Pc
set_option maxHeartbeats 4000000 in
theorem lwAllHoms_ok {w : World} {p0 : Pr} {a0 : Value} {lo0 hi0 : Nat} {p1 : Pr} {a1 : Value} {lo1 hi1 : Nat} [hp0 : Pres lo0 hi0 w a0 p0] [hp1 : Pres lo1 hi1 w a1 p1] :
    Calls Try.prog 4 #[a0, a1] w (Ret fun v w' => v = .bool true ∧ Ext w w') := by
  obtain ⟨vo0, vpw0, vc0, ps0, cs0, css0, rfl, pa0, pb0, pc0⟩ := hp0.ex
  obtain ⟨vo1, vpw1, vc1, ps1, cs1, css1, rfl, pa1, pb1, pc1⟩ := hp1.ex
  refine enter (args := [.agg #[vo0, vpw0, vc0], .agg #[vo1, vpw1, vc1]]) (l := [.tmp 4]) Try.func4 rfl rfl Try.ntmps4 (by simp) ?_
  refine go ?_
  refine st_box3 (by ((try simp only [ev_tmp, ev_const, ev_func, get_put, get_args, get_putL, get_putL_nil, Nat.reduceEqDiff, reduceIte, List.getD_cons_zero, List.getD_cons_succ, List.getD_nil]); first | done | with_reducible rfl)) (by first | exact True.intro | exact ⟨_, rfl, by ((try simp only [ev_tmp, ev_const, ev_func, get_put, get_args, get_putL, get_putL_nil, Nat.reduceEqDiff, reduceIte, List.getD_cons_zero, List.getD_cons_succ, List.getD_nil, Bool.not_true, Bool.not_false]); first | done | with_reducible rfl)⟩) fun w1 b0 he1 hb0 hsz1 hca0 hcb0 hcc0 => ?_
  have hz1 : w.heap.size ≤ w1.heap.size := he1.size
  have hx0_1 : Ext w w1 := he1
  refine go ?_
  refine st_box3 (by ((try simp only [ev_tmp, ev_const, ev_func, get_put, get_args, get_putL, get_putL_nil, Nat.reduceEqDiff, reduceIte, List.getD_cons_zero, List.getD_cons_succ, List.getD_nil]); first | done | with_reducible rfl)) (by first | exact True.intro | exact ⟨_, rfl, by ((try simp only [ev_tmp, ev_const, ev_func, get_put, get_args, get_putL, get_putL_nil, Nat.reduceEqDiff, reduceIte, List.getD_cons_zero, List.getD_cons_succ, List.getD_nil, Bool.not_true, Bool.not_false]); first | done | with_reducible rfl)⟩) fun w2 b1 he2 hb1 hsz2 hca1 hcb1 hcc1 => ?_
  have hz2 : w1.heap.size ≤ w2.heap.size := he2.size
  have hx0_2 : Ext w w2 := hx0_1.trans he2
  clear hx0_1
  replace pa0 := (pa0.same (Ext.same hx0_2 _ _)).wide
  replace pb0 := (pb0.same (Ext.same hx0_2 _ _)).wide
  replace pc0 := (pc0.same (Ext.same hx0_2 _ _)).wide
  replace hp0 := (hp0.same (Ext.same hx0_2 _ _)).wide
  replace pa1 := (pa1.same (Ext.same hx0_2 _ _)).wide
  replace pb1 := (pb1.same (Ext.same hx0_2 _ _)).wide
  replace pc1 := (pc1.same (Ext.same hx0_2 _ _)).wide
  replace hp1 := (hp1.same (Ext.same hx0_2 _ _)).wide
  refine go ?_
  refine rc (szPresentation_ok (p := p0) (k := (1048576 : Int)) (by omega)) (next := fun v3 w3 hq3 => ?_)
  obtain ⟨j3, rfl, hj3, he3⟩ := hq3
  have hz3 : w2.heap.size ≤ w3.heap.size := he3.size
  have hx0_3 : Ext w w3 := hx0_2.trans he3
  clear hx0_2
  have hx2_3 : Ext w2 w3 := he3
  refine go ?_
  refine c_if (fun hl103 => ?_) (fun hl103 => ?_)
  · refine go ?_
    exact ret1 ⟨rfl, hx0_3⟩
  obtain ⟨hja3, hjb3, hS0⟩ : 0 ≤ j3 ∧ j3 ≤ (1048576 : Int) ∧ SizeP p0 ((1048576 : Int)) := by
    rcases hj3 with h | h
    · omega
    · exact h
  have hs0 : SizeP p0 2000000 := hS0.mono (by omega)
  have hS0_ : SizeP p0 1048576 := hS0.mono (by omega)
  have hol0 := hs0.ord
  have htp0 := totP_le hS0_
  refine go ?_
  refine rc (szPresentation_ok (p := p1) (k := j3) (by omega)) (next := fun v4 w4 hq4 => ?_)
  obtain ⟨j4, rfl, hj4, he4⟩ := hq4
  have hz4 : w3.heap.size ≤ w4.heap.size := he4.size
  have hx0_4 : Ext w w4 := hx0_3.trans he4
  clear hx0_3
  have hx2_4 : Ext w2 w4 := hx2_3.trans he4
  clear hx2_3
  refine go ?_
  refine c_if (fun hl104 => ?_) (fun hl104 => ?_)
  · refine go ?_
    exact ret1 ⟨rfl, hx0_4⟩
  obtain ⟨hja4, hjb4, hS1⟩ : 0 ≤ j4 ∧ j4 ≤ j3 ∧ SizeP p1 (j3) := by
    rcases hj4 with h | h
    · omega
    · exact h
  have hs1 : SizeP p1 2000000 := hS1.mono (by omega)
  have hS1_ : SizeP p1 1048576 := hS1.mono (by omega)
  have hol1 := hs1.ord
  have htp1 := totP_le hS1_
  refine go ?_
  refine d_order [0, 2, 1, 3, 4, 5, 6, 7, 8, 9] (h := fun w5 he5 _ => ?_)
  have hz5 : w4.heap.size ≤ w5.heap.size := he5.size
  have hx0_5 : Ext w w5 := hx0_4.trans he5
  clear hx0_4
  have hx2_5 : Ext w2 w5 := hx2_4.trans he5
  clear hx2_4
  refine dgo ?_
  refine dce (toPresentation_ok (p := p0) hs0) (next := fun v6 w6 hq6 => ?_)
  obtain ⟨he6, hF6⟩ := hq6
  have hz6 : w5.heap.size ≤ w6.heap.size := he6.size
  have hx0_6 : Ext w w6 := hx0_5.trans he6
  clear hx0_5
  have hx2_6 : Ext w2 w6 := hx2_5.trans he6
  clear hx2_5
  have hR6 := hF6
  refine dce (toPresentation_ok (p := p1) hs1) (next := fun v7 w7 hq7 => ?_)
  obtain ⟨he7, hF7⟩ := hq7
  have hz7 : w6.heap.size ≤ w7.heap.size := he7.size
  have hx0_7 : Ext w w7 := hx0_6.trans he7
  clear hx0_6
  have hx2_7 : Ext w2 w7 := hx2_6.trans he7
  clear hx2_6
  have hR7 := hF7
  replace hR6 := hR6.same ((Wrt.ofExt (B := fun b => b < w5.heap.size ∨ w6.heap.size ≤ b) he7).same (fun b hb => hb))
  refine dce (spec_AllHoms_ok (p := p0) (q := p1) (by omega) (by omega)) (hR := by rintro _ _ ⟨_, _, _, rfl, _, h, _⟩; exact h) (next := fun v8 w8 hq8 => ?_)
  obtain ⟨us0, rs0, rs1, rfl, has, he8, ms0⟩ := hq8
  have hz8 : w7.heap.size ≤ w8.heap.size := he8.size
  have hx0_8 : Ext w w8 := hx0_7.trans he8
  clear hx0_7
  have hx2_8 : Ext w2 w8 := hx2_7.trans he8
  clear hx2_7
  refine dgo ?_
  refine d_end (h := ?_)
  clear hR6
  clear hR7
  refine go ?_
  refine rc (toPresentationO_ok (p := p0) hs0) (next := fun v9 w9 hq9 => ?_)
  obtain ⟨he9, hF9⟩ := hq9
  have hz9 : w8.heap.size ≤ w9.heap.size := he9.size
  have hx0_9 : Ext w w9 := hx0_8.trans he9
  clear hx0_8
  have hx2_9 : Ext w2 w9 := hx2_8.trans he9
  clear hx2_8
  have hR9 := hF9.pres
  refine go ?_
  refine st_alloc (by first | exact True.intro | exact ⟨_, rfl, by ((try simp only [ev_tmp, ev_const, ev_func, get_put, get_args, get_putL, get_putL_nil, Nat.reduceEqDiff, reduceIte, List.getD_cons_zero, List.getD_cons_succ, List.getD_nil, Bool.not_true, Bool.not_false]); first | done | with_reducible rfl)⟩) fun w10 bx0 he10 hbx0 hsza0 hbk0 => ?_
  have hz10 : w9.heap.size ≤ w10.heap.size := he10.size
  have hx0_10 : Ext w w10 := hx0_9.trans he10
  clear hx0_9
  have hx2_10 : Ext w2 w10 := hx2_9.trans he10
  clear hx2_9
  replace hR9 := hR9.same ((Wrt.ofExt (B := fun b => b < w8.heap.size ∨ w9.heap.size ≤ b) he10).same (fun b hb => hb))
  obtain ⟨xo0, xp0, xc0, psx0, csx0, cssx0, rfl, ka0, kb0, kc0⟩ := hR9.ex
  refine go ?_
  refine st_store_agg (vs := [xo0, xp0, xc0]) (cs := _) (by ((try simp only [ev_tmp, ev_const, ev_func, get_put, get_args, get_putL, get_putL_nil, Nat.reduceEqDiff, reduceIte, List.getD_cons_zero, List.getD_cons_succ, List.getD_nil]); first | done | with_reducible rfl)) (by ((try simp only [ev_tmp, ev_const, ev_func, get_put, get_args, get_putL, get_putL_nil, Nat.reduceEqDiff, reduceIte, List.getD_cons_zero, List.getD_cons_succ, List.getD_nil]); first | done | with_reducible rfl)) rfl ?_ ?_ (by first | exact True.intro | exact ⟨_, rfl, by ((try simp only [ev_tmp, ev_const, ev_func, get_put, get_args, get_putL, get_putL_nil, Nat.reduceEqDiff, reduceIte, List.getD_cons_zero, List.getD_cons_succ, List.getD_nil, Bool.not_true, Bool.not_false]); first | done | with_reducible rfl)⟩) fun w11 hch11 hss11 hBk0 => ?_
  · rfl
  · have e1 := ka0.sl.one
    have e2 := kb0.sl.one
    have e3 := kc0.sl.one
    simp [e1, e2, e3]
  clear ka0 kb0 kc0 hbk0
  have hz11 : w10.heap.size ≤ w11.heap.size := hch11.size
  have hx0_11 : Ext w w11 := hch11.ext hx0_10 (by omega)
  clear hx0_10
  have hx2_11 : Ext w2 w11 := hch11.ext hx2_10 (by omega)
  clear hx2_10
  refine go ?_
  refine rc (toPresentationO_ok (p := p1) hs1) (next := fun v12 w12 hq12 => ?_)
  obtain ⟨he12, hF12⟩ := hq12
  have hz12 : w11.heap.size ≤ w12.heap.size := he12.size
  have hx0_12 : Ext w w12 := hx0_11.trans he12
  clear hx0_11
  have hx2_12 : Ext w2 w12 := hx2_11.trans he12
  clear hx2_11
  have hR12 := hF12.pres
  refine go ?_
  refine st_alloc (by first | exact True.intro | exact ⟨_, rfl, by ((try simp only [ev_tmp, ev_const, ev_func, get_put, get_args, get_putL, get_putL_nil, Nat.reduceEqDiff, reduceIte, List.getD_cons_zero, List.getD_cons_succ, List.getD_nil, Bool.not_true, Bool.not_false]); first | done | with_reducible rfl)⟩) fun w13 bx1 he13 hbx1 hsza1 hbk1 => ?_
  have hz13 : w12.heap.size ≤ w13.heap.size := he13.size
  have hx0_13 : Ext w w13 := hx0_12.trans he13
  clear hx0_12
  have hx2_13 : Ext w2 w13 := hx2_12.trans he13
  clear hx2_12
  replace hR12 := hR12.same ((Wrt.ofExt (B := fun b => b < w11.heap.size ∨ w12.heap.size ≤ b) he13).same (fun b hb => hb))
  obtain ⟨xo1, xp1, xc1, psx1, csx1, cssx1, rfl, ka1, kb1, kc1⟩ := hR12.ex
  refine go ?_
  refine st_store_agg (vs := [xo1, xp1, xc1]) (cs := _) (by ((try simp only [ev_tmp, ev_const, ev_func, get_put, get_args, get_putL, get_putL_nil, Nat.reduceEqDiff, reduceIte, List.getD_cons_zero, List.getD_cons_succ, List.getD_nil]); first | done | with_reducible rfl)) (by ((try simp only [ev_tmp, ev_const, ev_func, get_put, get_args, get_putL, get_putL_nil, Nat.reduceEqDiff, reduceIte, List.getD_cons_zero, List.getD_cons_succ, List.getD_nil]); first | done | with_reducible rfl)) rfl ?_ ?_ (by first | exact True.intro | exact ⟨_, rfl, by ((try simp only [ev_tmp, ev_const, ev_func, get_put, get_args, get_putL, get_putL_nil, Nat.reduceEqDiff, reduceIte, List.getD_cons_zero, List.getD_cons_succ, List.getD_nil, Bool.not_true, Bool.not_false]); first | done | with_reducible rfl)⟩) fun w14 hch14 hss14 hBk1 => ?_
  · rfl
  · have e1 := ka1.sl.one
    have e2 := kb1.sl.one
    have e3 := kc1.sl.one
    simp [e1, e2, e3]
  clear ka1 kb1 kc1 hbk1
  have hz14 : w13.heap.size ≤ w14.heap.size := hch14.size
  have hx0_14 : Ext w w14 := hch14.ext hx0_13 (by omega)
  clear hx0_13
  have hx2_14 : Ext w2 w14 := hch14.ext hx2_13 (by omega)
  clear hx2_13
  replace hR9 := hR9.same (((((Wrt.one (B := fun b => b < w8.heap.size ∨ w9.heap.size ≤ b) (by omega) hch11).trans (Wrt.ofExt (B := fun b => b < w8.heap.size ∨ w9.heap.size ≤ b) he12)).trans (Wrt.ofExt (B := fun b => b < w8.heap.size ∨ w9.heap.size ≤ b) he13)).trans (Wrt.one (B := fun b => b < w8.heap.size ∨ w9.heap.size ≤ b) (by omega) hch14)).same (fun b hb => hb))
  replace hR12 := hR12.same ((Wrt.one (B := fun b => b < w11.heap.size ∨ w12.heap.size ≤ b) (by omega) hch14).same (fun b hb => hb))
  replace hBk0 := hBk0.wr (((Wrt.ofExt (B := fun b => b ≠ bx0) he12).trans (Wrt.ofExt (B := fun b => b ≠ bx0) he13)).trans (Wrt.one (B := fun b => b ≠ bx0) (by omega) hch14)) (by omega)
  refine go ?_
  refine ra (v := .agg #[xo0, xp0, xc0]) (h := rd_load_blk (hb := hBk0) (by ((try simp only [ev_tmp, ev_const, ev_func, get_put, get_args, get_putL, get_putL_nil, Nat.reduceEqDiff, reduceIte, List.getD_cons_zero, List.getD_cons_succ, List.getD_nil]); first | done | with_reducible rfl)) rfl) (next := ?_)
  refine go ?_
  refine ra (v := .agg #[xo1, xp1, xc1]) (h := rd_load_blk (hb := hBk1) (by ((try simp only [ev_tmp, ev_const, ev_func, get_put, get_args, get_putL, get_putL_nil, Nat.reduceEqDiff, reduceIte, List.getD_cons_zero, List.getD_cons_succ, List.getD_nil]); first | done | with_reducible rfl)) rfl) (next := ?_)
  refine go ?_
  refine rc (impl_AllHoms_ok (p := p0) (q := p1) (by omega) (by omega)) (next := fun v15 w15 hq15 => ?_)
  obtain ⟨ug0, rg0, rg1, rfl, hag, he15, mg0⟩ := hq15
  have hz15 : w14.heap.size ≤ w15.heap.size := he15.size
  have hx0_15 : Ext w w15 := hx0_14.trans he15
  clear hx0_14
  have hx2_15 : Ext w2 w15 := hx2_14.trans he15
  clear hx2_14
  obtain ⟨esg0, hesg0, mog0⟩ := mg0
  obtain ⟨rfl, rfl⟩ : rs0 = rg0 ∧ rs1 = rg1 := has.same hag fun _ => AhV.uniq
  obtain ⟨hrx0, hrl0, hrt0⟩ := AllHoms_sz0 (p := p0) (q := p1) (by omega) (by omega) has
  replace ms0 := ms0.same ((((((((Wrt.ofExt (B := fun b => b < w7.heap.size ∨ w8.heap.size ≤ b) he9).trans (Wrt.ofExt (B := fun b => b < w7.heap.size ∨ w8.heap.size ≤ b) he10)).trans (Wrt.one (B := fun b => b < w7.heap.size ∨ w8.heap.size ≤ b) (by omega) hch11)).trans (Wrt.ofExt (B := fun b => b < w7.heap.size ∨ w8.heap.size ≤ b) he12)).trans (Wrt.ofExt (B := fun b => b < w7.heap.size ∨ w8.heap.size ≤ b) he13)).trans (Wrt.one (B := fun b => b < w7.heap.size ∨ w8.heap.size ≤ b) (by omega) hch14)).trans (Wrt.ofExt (B := fun b => b < w7.heap.size ∨ w8.heap.size ≤ b) he15)).same (fun b hb => hb)) (((((((Wrt.ofExt (B := fun b => b < w7.heap.size ∨ w8.heap.size ≤ b) he9).trans (Wrt.ofExt (B := fun b => b < w7.heap.size ∨ w8.heap.size ≤ b) he10)).trans (Wrt.one (B := fun b => b < w7.heap.size ∨ w8.heap.size ≤ b) (by omega) hch11)).trans (Wrt.ofExt (B := fun b => b < w7.heap.size ∨ w8.heap.size ≤ b) he12)).trans (Wrt.ofExt (B := fun b => b < w7.heap.size ∨ w8.heap.size ≤ b) he13)).trans (Wrt.one (B := fun b => b < w7.heap.size ∨ w8.heap.size ≤ b) (by omega) hch14)).trans (Wrt.ofExt (B := fun b => b < w7.heap.size ∨ w8.heap.size ≤ b) he15)).size
  have mA16 := HomsO.homs mog0
  rw [← hesg0] at mA16
  refine go ?_
  refine rc (eqHomS_ok (ks := rs0) (js := rs0) hrx0 hrl0) (next := fun v16 w16 hq16 => ?_)
  obtain ⟨t16, rfl, ht16, he16⟩ := hq16
  clear mA16
  have hz16 : w15.heap.size ≤ w16.heap.size := he16.size
  have hx0_16 : Ext w w16 := hx0_15.trans he16
  clear hx0_15
  have hx2_16 : Ext w2 w16 := hx2_15.trans he16
  clear hx2_15
  refine go ?_
  refine sp (fun h => ?_) (fun _ => ?_)
  · rw [ht16.2 rfl] at h; cases h
  refine go ?_
  refine c_if (fun h => ?_) (fun _ => ?_)
  · exact absurd rfl h
  refine go ?_
  replace hBk0 := hBk0.wr ((Wrt.ofExt (B := fun b => b ≠ bx0) he15).trans (Wrt.ofExt (B := fun b => b ≠ bx0) he16)) (by omega)
  replace hBk1 := hBk1.wr ((Wrt.ofExt (B := fun b => b ≠ bx1) he15).trans (Wrt.ofExt (B := fun b => b ≠ bx1) he16)) (by omega)
  refine d_region fun w17 he17 _ => ?_
  have hz17 : w16.heap.size ≤ w17.heap.size := he17.size
  have hx0_17 : Ext w w17 := hx0_16.trans he17
  clear hx0_16
  have hx2_17 : Ext w2 w17 := hx2_16.trans he17
  clear hx2_16
  replace hBk0 := hBk0.wr (Wrt.ofExt (B := fun b => b ≠ bx0) he17) (by omega)
  have hxa0 : Cell w17 bx0 0 xo0 := hBk0.cell rfl
  have hxb0 : Cell w17 bx0 1 xp0 := hBk0.cell rfl
  have hxc0 : Cell w17 bx0 2 xc0 := hBk0.cell rfl
  refine dgo ?_
  refine dce (toPresentation_ok (p := p0) hs0) (next := fun v18 w18 hq18 => ?_)
  obtain ⟨he18, hF18⟩ := hq18
  have hz18 : w17.heap.size ≤ w18.heap.size := he18.size
  have hx0_18 : Ext w w18 := hx0_17.trans he18
  clear hx0_17
  have hx2_18 : Ext w2 w18 := hx2_17.trans he18
  clear hx2_17
  have hR18 := hF18
  clear hxa0 hxb0 hxc0
  replace hR9 := hR9.same (((((Wrt.ofExt (B := fun b => b < w8.heap.size ∨ w9.heap.size ≤ b) he15).trans (Wrt.ofExt (B := fun b => b < w8.heap.size ∨ w9.heap.size ≤ b) he16)).trans (Wrt.ofExt (B := fun b => b < w8.heap.size ∨ w9.heap.size ≤ b) he17)).trans (Wrt.ofExt (B := fun b => b < w8.heap.size ∨ w9.heap.size ≤ b) he18)).same (fun b hb => hb))
  refine dce (eqPresentation_ok (p := p0) (q := p0) hs0) (next := fun v19 w19 hq19 => ?_)
  obtain ⟨t19, rfl, ht19, he19⟩ := hq19
  obtain rfl := ht19.2 rfl
  have hz19 : w18.heap.size ≤ w19.heap.size := he19.size
  have hx0_19 : Ext w w19 := hx0_18.trans he19
  clear hx0_18
  have hx2_19 : Ext w2 w19 := hx2_18.trans he19
  clear hx2_18
  clear hR18
  refine dgo ?_
  refine d_end (h := ?_)
  refine go ?_
  refine c_b (fun h => ?_) (fun _ => ?_)
  · cases h
  refine go ?_
  replace hBk0 := hBk0.wr ((Wrt.ofExt (B := fun b => b ≠ bx0) he18).trans (Wrt.ofExt (B := fun b => b ≠ bx0) he19)) (by omega)
  replace hBk1 := hBk1.wr (((Wrt.ofExt (B := fun b => b ≠ bx1) he17).trans (Wrt.ofExt (B := fun b => b ≠ bx1) he18)).trans (Wrt.ofExt (B := fun b => b ≠ bx1) he19)) (by omega)
  refine d_region fun w20 he20 _ => ?_
  have hz20 : w19.heap.size ≤ w20.heap.size := he20.size
  have hx0_20 : Ext w w20 := hx0_19.trans he20
  clear hx0_19
  have hx2_20 : Ext w2 w20 := hx2_19.trans he20
  clear hx2_19
  replace hBk1 := hBk1.wr (Wrt.ofExt (B := fun b => b ≠ bx1) he20) (by omega)
  have hxa1 : Cell w20 bx1 0 xo1 := hBk1.cell rfl
  have hxb1 : Cell w20 bx1 1 xp1 := hBk1.cell rfl
  have hxc1 : Cell w20 bx1 2 xc1 := hBk1.cell rfl
  refine dgo ?_
  refine dce (toPresentation_ok (p := p1) hs1) (next := fun v21 w21 hq21 => ?_)
  obtain ⟨he21, hF21⟩ := hq21
  have hz21 : w20.heap.size ≤ w21.heap.size := he21.size
  have hx0_21 : Ext w w21 := hx0_20.trans he21
  clear hx0_20
  have hx2_21 : Ext w2 w21 := hx2_20.trans he21
  clear hx2_20
  have hR21 := hF21
  clear hxa1 hxb1 hxc1
  replace hR12 := hR12.same ((((((((Wrt.ofExt (B := fun b => b < w11.heap.size ∨ w12.heap.size ≤ b) he15).trans (Wrt.ofExt (B := fun b => b < w11.heap.size ∨ w12.heap.size ≤ b) he16)).trans (Wrt.ofExt (B := fun b => b < w11.heap.size ∨ w12.heap.size ≤ b) he17)).trans (Wrt.ofExt (B := fun b => b < w11.heap.size ∨ w12.heap.size ≤ b) he18)).trans (Wrt.ofExt (B := fun b => b < w11.heap.size ∨ w12.heap.size ≤ b) he19)).trans (Wrt.ofExt (B := fun b => b < w11.heap.size ∨ w12.heap.size ≤ b) he20)).trans (Wrt.ofExt (B := fun b => b < w11.heap.size ∨ w12.heap.size ≤ b) he21)).same (fun b hb => hb))
  refine dce (eqPresentation_ok (p := p1) (q := p1) hs1) (next := fun v22 w22 hq22 => ?_)
  obtain ⟨t22, rfl, ht22, he22⟩ := hq22
  obtain rfl := ht22.2 rfl
  have hz22 : w21.heap.size ≤ w22.heap.size := he22.size
  have hx0_22 : Ext w w22 := hx0_21.trans he22
  clear hx0_21
  have hx2_22 : Ext w2 w22 := hx2_21.trans he22
  clear hx2_21
  clear hR21
  refine dgo ?_
  refine d_end (h := ?_)
  refine go ?_
  refine c_b (fun h => ?_) (fun _ => ?_)
  · cases h
  replace hF9 := hF9.wr (((((((((((((Wrt.ofExt (B := fun b => b < w8.heap.size ∨ w9.heap.size ≤ b) he10).trans (Wrt.one (B := fun b => b < w8.heap.size ∨ w9.heap.size ≤ b) (by omega) hch11)).trans (Wrt.ofExt (B := fun b => b < w8.heap.size ∨ w9.heap.size ≤ b) he12)).trans (Wrt.ofExt (B := fun b => b < w8.heap.size ∨ w9.heap.size ≤ b) he13)).trans (Wrt.one (B := fun b => b < w8.heap.size ∨ w9.heap.size ≤ b) (by omega) hch14)).trans (Wrt.ofExt (B := fun b => b < w8.heap.size ∨ w9.heap.size ≤ b) he15)).trans (Wrt.ofExt (B := fun b => b < w8.heap.size ∨ w9.heap.size ≤ b) he16)).trans (Wrt.ofExt (B := fun b => b < w8.heap.size ∨ w9.heap.size ≤ b) he17)).trans (Wrt.ofExt (B := fun b => b < w8.heap.size ∨ w9.heap.size ≤ b) he18)).trans (Wrt.ofExt (B := fun b => b < w8.heap.size ∨ w9.heap.size ≤ b) he19)).trans (Wrt.ofExt (B := fun b => b < w8.heap.size ∨ w9.heap.size ≤ b) he20)).trans (Wrt.ofExt (B := fun b => b < w8.heap.size ∨ w9.heap.size ≤ b) he21)).trans (Wrt.ofExt (B := fun b => b < w8.heap.size ∨ w9.heap.size ≤ b) he22)) (fun b hb => hb)
  replace hBk0 := hBk0.wr (((Wrt.ofExt (B := fun b => b ≠ bx0) he20).trans (Wrt.ofExt (B := fun b => b ≠ bx0) he21)).trans (Wrt.ofExt (B := fun b => b ≠ bx0) he22)) (by omega)
  refine go ?_
  refine ra (v := .agg #[xo0, xp0, xc0]) (h := rd_load_blk (hb := hBk0) (by ((try simp only [ev_tmp, ev_const, ev_func, get_put, get_args, get_putL, get_putL_nil, Nat.reduceEqDiff, reduceIte, List.getD_cons_zero, List.getD_cons_succ, List.getD_nil]); first | done | with_reducible rfl)) rfl) (next := ?_)
  refine go ?_
  refine rc (markPresentation_ok (k := (1 : Int)) hF9 ?_ ?_) (next := fun v23 w23 hq23 => ?_)
  · omega
  · omega
  obtain ⟨rfl, hW23⟩ := hq23
  have hz23 : w22.heap.size ≤ w23.heap.size := hW23.size
  have hx0_23 : Ext w w23 := hW23.ext hx0_22 (fun b hb => by omega)
  clear hx0_22
  have hx2_23 : Ext w2 w23 := hW23.ext hx2_22 (fun b hb => by omega)
  clear hx2_22
  clear hF9 hR9
  replace hF12 := hF12.wr (((((((((((Wrt.ofExt (B := fun b => b < w11.heap.size ∨ w12.heap.size ≤ b) he13).trans (Wrt.one (B := fun b => b < w11.heap.size ∨ w12.heap.size ≤ b) (by omega) hch14)).trans (Wrt.ofExt (B := fun b => b < w11.heap.size ∨ w12.heap.size ≤ b) he15)).trans (Wrt.ofExt (B := fun b => b < w11.heap.size ∨ w12.heap.size ≤ b) he16)).trans (Wrt.ofExt (B := fun b => b < w11.heap.size ∨ w12.heap.size ≤ b) he17)).trans (Wrt.ofExt (B := fun b => b < w11.heap.size ∨ w12.heap.size ≤ b) he18)).trans (Wrt.ofExt (B := fun b => b < w11.heap.size ∨ w12.heap.size ≤ b) he19)).trans (Wrt.ofExt (B := fun b => b < w11.heap.size ∨ w12.heap.size ≤ b) he20)).trans (Wrt.ofExt (B := fun b => b < w11.heap.size ∨ w12.heap.size ≤ b) he21)).trans (Wrt.ofExt (B := fun b => b < w11.heap.size ∨ w12.heap.size ≤ b) he22)).trans (Wrt.mono (B' := fun b => b < w11.heap.size ∨ w12.heap.size ≤ b) hW23 (fun b hb => by omega))) (fun b hb => hb)
  replace hBk1 := hBk1.wr (((Wrt.ofExt (B := fun b => b ≠ bx1) he21).trans (Wrt.ofExt (B := fun b => b ≠ bx1) he22)).trans (Wrt.mono (B' := fun b => b ≠ bx1) hW23 (fun b hb => by omega))) (by omega)
  refine go ?_
  refine ra (v := .agg #[xo1, xp1, xc1]) (h := rd_load_blk (hb := hBk1) (by ((try simp only [ev_tmp, ev_const, ev_func, get_put, get_args, get_putL, get_putL_nil, Nat.reduceEqDiff, reduceIte, List.getD_cons_zero, List.getD_cons_succ, List.getD_nil]); first | done | with_reducible rfl)) rfl) (next := ?_)
  refine go ?_
  refine rc (markPresentation_ok (k := ((1 : Int) + totP p0)) hF12 ?_ ?_) (next := fun v24 w24 hq24 => ?_)
  · omega
  · omega
  obtain ⟨rfl, hW24⟩ := hq24
  have hz24 : w23.heap.size ≤ w24.heap.size := hW24.size
  have hx0_24 : Ext w w24 := hW24.ext hx0_23 (fun b hb => by omega)
  clear hx0_23
  have hx2_24 : Ext w2 w24 := hW24.ext hx2_23 (fun b hb => by omega)
  clear hx2_23
  clear hF12 hR12
  refine go ?_
  refine spd (fun h => ?_) (fun _ => ?_)
  · omega
  replace ms0 := ms0.same ((((((((((Wrt.ofExt (B := fun b => b < w7.heap.size ∨ w8.heap.size ≤ b) he16).trans (Wrt.ofExt (B := fun b => b < w7.heap.size ∨ w8.heap.size ≤ b) he17)).trans (Wrt.ofExt (B := fun b => b < w7.heap.size ∨ w8.heap.size ≤ b) he18)).trans (Wrt.ofExt (B := fun b => b < w7.heap.size ∨ w8.heap.size ≤ b) he19)).trans (Wrt.ofExt (B := fun b => b < w7.heap.size ∨ w8.heap.size ≤ b) he20)).trans (Wrt.ofExt (B := fun b => b < w7.heap.size ∨ w8.heap.size ≤ b) he21)).trans (Wrt.ofExt (B := fun b => b < w7.heap.size ∨ w8.heap.size ≤ b) he22)).trans (Wrt.mono (B' := fun b => b < w7.heap.size ∨ w8.heap.size ≤ b) hW23 (fun b hb => by omega))).trans (Wrt.mono (B' := fun b => b < w7.heap.size ∨ w8.heap.size ≤ b) hW24 (fun b hb => by omega))).same (fun b hb => hb)) (((((((((Wrt.ofExt (B := fun b => b < w7.heap.size ∨ w8.heap.size ≤ b) he16).trans (Wrt.ofExt (B := fun b => b < w7.heap.size ∨ w8.heap.size ≤ b) he17)).trans (Wrt.ofExt (B := fun b => b < w7.heap.size ∨ w8.heap.size ≤ b) he18)).trans (Wrt.ofExt (B := fun b => b < w7.heap.size ∨ w8.heap.size ≤ b) he19)).trans (Wrt.ofExt (B := fun b => b < w7.heap.size ∨ w8.heap.size ≤ b) he20)).trans (Wrt.ofExt (B := fun b => b < w7.heap.size ∨ w8.heap.size ≤ b) he21)).trans (Wrt.ofExt (B := fun b => b < w7.heap.size ∨ w8.heap.size ≤ b) he22)).trans (Wrt.mono (B' := fun b => b < w7.heap.size ∨ w8.heap.size ≤ b) hW23 (fun b hb => by omega))).trans (Wrt.mono (B' := fun b => b < w7.heap.size ∨ w8.heap.size ≤ b) hW24 (fun b hb => by omega))).size
  replace mog0 := mog0.wr (((((((((Wrt.ofExt (B := fun b => b < w14.heap.size ∨ w15.heap.size ≤ b) he16).trans (Wrt.ofExt (B := fun b => b < w14.heap.size ∨ w15.heap.size ≤ b) he17)).trans (Wrt.ofExt (B := fun b => b < w14.heap.size ∨ w15.heap.size ≤ b) he18)).trans (Wrt.ofExt (B := fun b => b < w14.heap.size ∨ w15.heap.size ≤ b) he19)).trans (Wrt.ofExt (B := fun b => b < w14.heap.size ∨ w15.heap.size ≤ b) he20)).trans (Wrt.ofExt (B := fun b => b < w14.heap.size ∨ w15.heap.size ≤ b) he21)).trans (Wrt.ofExt (B := fun b => b < w14.heap.size ∨ w15.heap.size ≤ b) he22)).trans (Wrt.mono (B' := fun b => b < w14.heap.size ∨ w15.heap.size ≤ b) hW23 (fun b hb => by omega))).trans (Wrt.mono (B' := fun b => b < w14.heap.size ∨ w15.heap.size ≤ b) hW24 (fun b hb => by omega))) (fun b hb => hb)
  have mA25 := HomsO.homs mog0
  rw [← hesg0] at mA25
  refine go ?_
  refine rc (eqHomS_ok (ks := rs0) (js := rs0) hrx0 hrl0) (next := fun v25 w25 hq25 => ?_)
  obtain ⟨t25, rfl, ht25, he25⟩ := hq25
  clear mA25
  have hz25 : w24.heap.size ≤ w25.heap.size := he25.size
  have hx0_25 : Ext w w25 := hx0_24.trans he25
  clear hx0_24
  have hx2_25 : Ext w2 w25 := hx2_24.trans he25
  clear hx2_24
  refine go ?_
  refine sp (fun h => ?_) (fun _ => ?_)
  · rw [ht25.2 rfl] at h; cases h
  refine go ?_
  refine c_if (fun h => ?_) (fun _ => ?_)
  · exact absurd rfl h
  replace mog0 := mog0.wr (Wrt.ofExt (B := fun b => b < w14.heap.size ∨ w15.heap.size ≤ b) he25) (fun b hb => hb)
  refine go ?_
  have htg0 : tot ((allR esg0).map (·.2)) = totH rs0 := by rw [totH_all, ← hesg0]
  refine rc (markHomS_ok (k := (1 : Int)) mog0 ?_ ?_) (next := fun v26 w26 hq26 => ?_)
  · omega
  · rw [htg0]; omega
  obtain ⟨rfl, hK26, hV26⟩ := hq26
  rw [htg0]
  have hW26 : Wrt (fun b => w14.heap.size ≤ b ∧ b < w15.heap.size) w25 w26 := hV26.mono fun b hb => ⟨(mog0.rows.blk hb).1, mog0.lt b hb⟩
  have hz26 : w25.heap.size ≤ w26.heap.size := hW26.size
  have hx0_26 : Ext w w26 := hW26.ext hx0_25 (fun b hb => by omega)
  clear hx0_25
  have hx2_26 : Ext w2 w26 := hW26.ext hx2_25 (fun b hb => by omega)
  clear hx2_25
  clear mog0
  refine go ?_
  refine rc (heldHomS_ok (k := (1 : Int)) (es := esg0) hK26 ?_ ?_) (next := fun v27 w27 hq27 => ?_)
  · omega
  · rw [htg0]; omega
  obtain ⟨rfl, he27⟩ := hq27
  rw [htg0]
  have hz27 : w26.heap.size ≤ w27.heap.size := he27.size
  have hx0_27 : Ext w w27 := hx0_26.trans he27
  clear hx0_26
  have hx2_27 : Ext w2 w27 := hx2_26.trans he27
  clear hx2_26
  refine go ?_
  refine c_if (fun h => ?_) (fun _ => ?_)
  · omega
  refine go ?_
  refine c_if (fun h => ?_) (fun _ => ?_)
  · exact absurd rfl h
  refine go ?_
  refine d_order [0, 2, 1, 3, 4, 5, 6, 7, 8, 9] (h := fun w28 he28 _ => ?_)
  have hz28 : w27.heap.size ≤ w28.heap.size := he28.size
  have hx0_28 : Ext w w28 := hx0_27.trans he28
  clear hx0_27
  have hx2_28 : Ext w2 w28 := hx2_27.trans he28
  clear hx2_27
  refine dgo ?_
  refine dce (toPresentation_ok (p := p0) hs0) (next := fun v29 w29 hq29 => ?_)
  obtain ⟨he29, hF29⟩ := hq29
  have hz29 : w28.heap.size ≤ w29.heap.size := he29.size
  have hx0_29 : Ext w w29 := hx0_28.trans he29
  clear hx0_28
  have hx2_29 : Ext w2 w29 := hx2_28.trans he29
  clear hx2_28
  have hR29 := hF29
  refine dce (toPresentation_ok (p := p1) hs1) (next := fun v30 w30 hq30 => ?_)
  obtain ⟨he30, hF30⟩ := hq30
  have hz30 : w29.heap.size ≤ w30.heap.size := he30.size
  have hx0_30 : Ext w w30 := hx0_29.trans he30
  clear hx0_29
  have hx2_30 : Ext w2 w30 := hx2_29.trans he30
  clear hx2_29
  have hR30 := hF30
  replace hR29 := hR29.same ((Wrt.ofExt (B := fun b => b < w28.heap.size ∨ w29.heap.size ≤ b) he30).same (fun b hb => hb))
  refine dce (impl_AllHoms_ok (p := p0) (q := p1) (by omega) (by omega)) (hR := by rintro _ _ ⟨_, _, _, rfl, _, h, _⟩; exact h) (next := fun v31 w31 hq31 => ?_)
  obtain ⟨uh0, rh0, rh1, rfl, hah, he31, mh0⟩ := hq31
  have hz31 : w30.heap.size ≤ w31.heap.size := he31.size
  have hx0_31 : Ext w w31 := hx0_30.trans he31
  clear hx0_30
  have hx2_31 : Ext w2 w31 := hx2_30.trans he31
  clear hx2_30
  obtain ⟨esh0, hesh0, moh0⟩ := mh0
  refine dgo ?_
  refine d_end (h := ?_)
  clear hR29
  clear hR30
  obtain ⟨rfl, rfl⟩ : rs0 = rh0 ∧ rs1 = rh1 := has.same hah fun _ => AhV.uniq
  replace ms0 := ms0.same ((((((((Wrt.ofExt (B := fun b => b < w7.heap.size ∨ w8.heap.size ≤ b) he25).trans (Wrt.mono (B' := fun b => b < w7.heap.size ∨ w8.heap.size ≤ b) hW26 (fun b hb => by omega))).trans (Wrt.ofExt (B := fun b => b < w7.heap.size ∨ w8.heap.size ≤ b) he27)).trans (Wrt.ofExt (B := fun b => b < w7.heap.size ∨ w8.heap.size ≤ b) he28)).trans (Wrt.ofExt (B := fun b => b < w7.heap.size ∨ w8.heap.size ≤ b) he29)).trans (Wrt.ofExt (B := fun b => b < w7.heap.size ∨ w8.heap.size ≤ b) he30)).trans (Wrt.ofExt (B := fun b => b < w7.heap.size ∨ w8.heap.size ≤ b) he31)).same (fun b hb => hb)) (((((((Wrt.ofExt (B := fun b => b < w7.heap.size ∨ w8.heap.size ≤ b) he25).trans (Wrt.mono (B' := fun b => b < w7.heap.size ∨ w8.heap.size ≤ b) hW26 (fun b hb => by omega))).trans (Wrt.ofExt (B := fun b => b < w7.heap.size ∨ w8.heap.size ≤ b) he27)).trans (Wrt.ofExt (B := fun b => b < w7.heap.size ∨ w8.heap.size ≤ b) he28)).trans (Wrt.ofExt (B := fun b => b < w7.heap.size ∨ w8.heap.size ≤ b) he29)).trans (Wrt.ofExt (B := fun b => b < w7.heap.size ∨ w8.heap.size ≤ b) he30)).trans (Wrt.ofExt (B := fun b => b < w7.heap.size ∨ w8.heap.size ≤ b) he31)).size
  have mA32 := HomsO.homs moh0
  rw [← hesh0] at mA32
  refine go ?_
  refine rc (eqHomS_ok (ks := rs0) (js := rs0) hrx0 hrl0) (next := fun v32 w32 hq32 => ?_)
  obtain ⟨t32, rfl, ht32, he32⟩ := hq32
  clear mA32
  have hz32 : w31.heap.size ≤ w32.heap.size := he32.size
  have hx0_32 : Ext w w32 := hx0_31.trans he32
  clear hx0_31
  have hx2_32 : Ext w2 w32 := hx2_31.trans he32
  clear hx2_31
  refine go ?_
  refine sp (fun h => ?_) (fun _ => ?_)
  · rw [ht32.2 rfl] at h; cases h
  refine go ?_
  refine c_if (fun h => ?_) (fun _ => ?_)
  · exact absurd rfl h
  replace hK26 := hK26.wr ((((((Wrt.ofExt (B := fun b => b < w14.heap.size ∨ w15.heap.size ≤ b) he27).trans (Wrt.ofExt (B := fun b => b < w14.heap.size ∨ w15.heap.size ≤ b) he28)).trans (Wrt.ofExt (B := fun b => b < w14.heap.size ∨ w15.heap.size ≤ b) he29)).trans (Wrt.ofExt (B := fun b => b < w14.heap.size ∨ w15.heap.size ≤ b) he30)).trans (Wrt.ofExt (B := fun b => b < w14.heap.size ∨ w15.heap.size ≤ b) he31)).trans (Wrt.ofExt (B := fun b => b < w14.heap.size ∨ w15.heap.size ≤ b) he32)) (fun b hb => hb)
  refine go ?_
  refine rc (heldHomS_ok (k := (1 : Int)) (es := esg0) hK26 ?_ ?_) (next := fun v33 w33 hq33 => ?_)
  · omega
  · rw [htg0]; omega
  obtain ⟨rfl, he33⟩ := hq33
  rw [htg0]
  have hz33 : w32.heap.size ≤ w33.heap.size := he33.size
  have hx0_33 : Ext w w33 := hx0_32.trans he33
  clear hx0_32
  have hx2_33 : Ext w2 w33 := hx2_32.trans he33
  clear hx2_32
  refine go ?_
  refine c_if (fun h => ?_) (fun _ => ?_)
  · omega
  refine go ?_
  refine c_if (fun h => ?_) (fun _ => ?_)
  · exact absurd rfl h
  refine go ?_
  exact ret1 ⟨rfl, hx0_33⟩
end Go.Proofs.Ytnphljflkpekmaa
