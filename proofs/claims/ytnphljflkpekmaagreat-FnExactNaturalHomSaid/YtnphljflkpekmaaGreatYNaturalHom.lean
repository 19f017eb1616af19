/-
  Walk: the statement FnExactNaturalHom: it returns true.
  Conditions: what the arguments read as.
-/
import Derived.Test.YtnphljflkpekmaaGreatENaturalHom1
set_option linter.unusedVariables false
set_option linter.unusedSimpArgs false
set_option linter.unusedSectionVars false
set_option linter.constructorNameAsVariable false
set_option linter.unnecessarySimpa false
set_option linter.deprecated false
/-
  Walk: the statement FnExactNaturalHom: it returns true.
  Conditions: what the arguments read as.
-/
namespace Go.Proofs.YtnphljflkpekmaaGreat
open Go Go.Pc
set_option maxHeartbeats 4000000 in
theorem lwNaturalHom_ok {w : World} {p0 : Pr} {a0 : Value} {lo0 hi0 : Nat} {a1 : Value} {us1 : List Value} {xss1 : List (List Int)} {lo1 hi1 : Nat} [hp0 : Pres lo0 hi0 w a0 p0] [hp1 : Pc.Rows lo1 hi1 w a1 us1 xss1] :
    Calls Tryz.prog 3 #[a0, a1] w (Ret fun v w' => v = .bool true ∧ Ext w w') := by
  obtain ⟨vo0, vpw0, vc0, ps0, cs0, css0, rfl, pa0, pb0, pc0⟩ := hp0.ex
  refine enter (args := [.agg #[vo0, vpw0, vc0], a1]) (l := [.tmp 4]) Tryz.func3 rfl rfl Tryz.ntmps3 (by simp) ?_
  refine go ?_
  refine st_box3 (by ((try simp only [ev_tmp, ev_const, ev_func, get_put, get_args, get_putL, get_putL_nil, Nat.reduceEqDiff, reduceIte, List.getD_cons_zero, List.getD_cons_succ, List.getD_nil]); first | done | with_reducible rfl)) (by first | exact True.intro | exact ⟨_, rfl, by ((try simp only [ev_tmp, ev_const, ev_func, get_put, get_args, get_putL, get_putL_nil, Nat.reduceEqDiff, reduceIte, List.getD_cons_zero, List.getD_cons_succ, List.getD_nil, Bool.not_true, Bool.not_false]); first | done | with_reducible rfl)⟩) fun w1 b0 he1 hb0 hsz1 hca0 hcb0 hcc0 => ?_
  have hz1 : w.heap.size ≤ w1.heap.size := he1.size
  have hx0_1 : Ext w w1 := he1
  replace pa0 := (pa0.same (Ext.same hx0_1 _ _)).wide
  replace pb0 := (pb0.same (Ext.same hx0_1 _ _)).wide
  replace pc0 := (pc0.same (Ext.same hx0_1 _ _)).wide
  replace hp0 := (hp0.same (Ext.same hx0_1 _ _)).wide
  replace hp1 := (hp1.same (Ext.same hx0_1 _ _)).wide
  refine go ?_
  refine rc (szPresentation_ok (p := p0) (k := (1048576 : Int)) (by omega)) (next := fun v2 w2 hq2 => ?_)
  obtain ⟨j2, rfl, hj2, he2⟩ := hq2
  have hz2 : w1.heap.size ≤ w2.heap.size := he2.size
  have hx0_2 : Ext w w2 := hx0_1.trans he2
  clear hx0_1
  have hx1_2 : Ext w1 w2 := he2
  refine go ?_
  refine c_if (fun hl102 => ?_) (fun hl102 => ?_)
  · refine go ?_
    exact ret1 ⟨rfl, hx0_2⟩
  obtain ⟨hja2, hjb2, hS0⟩ : 0 ≤ j2 ∧ j2 ≤ (1048576 : Int) ∧ SizeP p0 ((1048576 : Int)) := by
    rcases hj2 with h | h
    · omega
    · exact h
  have hs0 : SizeP p0 2000000 := hS0.mono (by omega)
  have hS0_ : SizeP p0 1048576 := hS0.mono (by omega)
  have hol0 := hs0.ord
  have htp0 := totP_le hS0_
  refine go ?_
  refine rc (szInt64SS_ok (xss := xss1) (k := j2) (by omega)) (next := fun v3 w3 hq3 => ?_)
  obtain ⟨j3, rfl, hj3, he3⟩ := hq3
  have hz3 : w2.heap.size ≤ w3.heap.size := he3.size
  have hx0_3 : Ext w w3 := hx0_2.trans he3
  clear hx0_2
  have hx1_3 : Ext w1 w3 := hx1_2.trans he3
  clear hx1_2
  refine go ?_
  refine c_if (fun hl103 => ?_) (fun hl103 => ?_)
  · refine go ?_
    exact ret1 ⟨rfl, hx0_3⟩
  obtain ⟨hja3, hjb3, hS1⟩ : 0 ≤ j3 ∧ j3 ≤ j2 ∧ (xss1.length : Int) ≤ j2 ∧ ∀ i, ((xss1.getD i []).length : Int) ≤ j2 := by
    rcases hj3 with h | h
    · omega
    · exact h
  have hxl1 : xss1.length ≤ 2000000 := by have := hS1.1; omega
  have hxr1 : ∀ i, (xss1.getD i []).length ≤ 2000000 := fun i => by have := hS1.2 i; omega
  have htm1 := tot_rows_le hxl1 hxr1
  refine go ?_
  refine rc (toPresentation_ok (p := p0) hs0) (next := fun v4 w4 hq4 => ?_)
  obtain ⟨he4, hF4⟩ := hq4
  have hz4 : w3.heap.size ≤ w4.heap.size := he4.size
  have hx0_4 : Ext w w4 := hx0_3.trans he4
  clear hx0_3
  have hx1_4 : Ext w1 w4 := hx1_3.trans he4
  clear hx1_3
  have hR4 := hF4
  refine go ?_
  refine rc (toInt64SSM_ok (xss := xss1) hxl1 hxr1) (next := fun v5 w5 hq5 => ?_)
  obtain ⟨he5, rr5, hrr5, hF5⟩ := hq5
  have hz5 : w4.heap.size ≤ w5.heap.size := he5.size
  have hx0_5 : Ext w w5 := hx0_4.trans he5
  clear hx0_4
  have hx1_5 : Ext w1 w5 := hx1_4.trans he5
  clear hx1_4
  have hR5 := hF5.rows
  rw [← hrr5] at hR5
  clear hF5
  replace hR4 := hR4.same ((Wrt.ofExt (B := fun b => b < w3.heap.size ∨ w4.heap.size ≤ b) he5).same (fun b hb => hb))
  refine go ?_
  refine rc (spec_NaturalHom_ok (p := p0) (xss := xss1) (by omega)) (next := fun v6 w6 hq6 => ?_)
  obtain ⟨us0, rs0, rs1, rfl, has, he6, ms0⟩ := hq6
  have hz6 : w5.heap.size ≤ w6.heap.size := he6.size
  have hx0_6 : Ext w w6 := hx0_5.trans he6
  clear hx0_5
  have hx1_6 : Ext w1 w6 := hx1_5.trans he6
  clear hx1_5
  obtain ⟨ys00, ys01, ys02, ys03, ys04, ys05, ys06, _, rfl, kS, kT, kI⟩ := ms0.ex
  have oSs0 := kS.one3
  have oTs0 := kT.one3
  have oIs0 := kI.sl.one
  clear kS kT kI
  refine go ?_
  refine st_alloc (by first | exact True.intro | exact ⟨_, rfl, by ((try simp only [ev_tmp, ev_const, ev_func, get_put, get_args, get_putL, get_putL_nil, Nat.reduceEqDiff, reduceIte, List.getD_cons_zero, List.getD_cons_succ, List.getD_nil, Bool.not_true, Bool.not_false]); first | done | with_reducible rfl)⟩) fun w7 bs0 he7 hbs0 hszbs0 hbkbs0 => ?_
  have hz7 : w6.heap.size ≤ w7.heap.size := he7.size
  have hx0_7 : Ext w w7 := hx0_6.trans he7
  clear hx0_6
  have hx1_7 : Ext w1 w7 := hx1_6.trans he7
  clear hx1_6
  refine go ?_
  refine st_store_agg (vs := [ys00, ys01, ys02, ys03, ys04, ys05, ys06]) (cs := _) (hb := hbkbs0) (by ((try simp only [ev_tmp, ev_const, ev_func, get_put, get_args, get_putL, get_putL_nil, Nat.reduceEqDiff, reduceIte, List.getD_cons_zero, List.getD_cons_succ, List.getD_nil]); first | done | with_reducible rfl)) (by ((try simp only [ev_tmp, ev_const, ev_func, get_put, get_args, get_putL, get_putL_nil, Nat.reduceEqDiff, reduceIte, List.getD_cons_zero, List.getD_cons_succ, List.getD_nil]); first | done | with_reducible rfl)) rfl ?_ ?_ (by first | exact True.intro | exact ⟨_, rfl, by ((try simp only [ev_tmp, ev_const, ev_func, get_put, get_args, get_putL, get_putL_nil, Nat.reduceEqDiff, reduceIte, List.getD_cons_zero, List.getD_cons_succ, List.getD_nil, Bool.not_true, Bool.not_false]); first | done | with_reducible rfl)⟩) fun w8 hch8 hss8 hBbs0 => ?_
  · rfl
  · simp [oSs0.1, oSs0.2.1, oSs0.2.2, oTs0.1, oTs0.2.1, oTs0.2.2, oIs0]
  clear hbkbs0
  have hz8 : w7.heap.size ≤ w8.heap.size := hch8.size
  have hx0_8 : Ext w w8 := hch8.ext hx0_7 (by omega)
  clear hx0_7
  have hx1_8 : Ext w1 w8 := hch8.ext hx1_7 (by omega)
  clear hx1_7
  clear hR4
  clear hR5
  refine go ?_
  refine rc (toPresentationO_ok (p := p0) hs0) (next := fun v9 w9 hq9 => ?_)
  obtain ⟨he9, hF9⟩ := hq9
  have hz9 : w8.heap.size ≤ w9.heap.size := he9.size
  have hx0_9 : Ext w w9 := hx0_8.trans he9
  clear hx0_8
  have hx1_9 : Ext w1 w9 := hx1_8.trans he9
  clear hx1_8
  have hR9 := hF9.pres
  refine go ?_
  refine st_alloc (by first | exact True.intro | exact ⟨_, rfl, by ((try simp only [ev_tmp, ev_const, ev_func, get_put, get_args, get_putL, get_putL_nil, Nat.reduceEqDiff, reduceIte, List.getD_cons_zero, List.getD_cons_succ, List.getD_nil, Bool.not_true, Bool.not_false]); first | done | with_reducible rfl)⟩) fun w10 bx0 he10 hbx0 hsza0 hbk0 => ?_
  have hz10 : w9.heap.size ≤ w10.heap.size := he10.size
  have hx0_10 : Ext w w10 := hx0_9.trans he10
  clear hx0_9
  have hx1_10 : Ext w1 w10 := hx1_9.trans he10
  clear hx1_9
  replace hR9 := hR9.same ((Wrt.ofExt (B := fun b => b < w8.heap.size ∨ w9.heap.size ≤ b) he10).same (fun b hb => hb))
  obtain ⟨xo0, xp0, xc0, psx0, csx0, cssx0, rfl, ka0, kb0, kc0⟩ := hR9.ex
  refine go ?_
  refine st_store_agg (vs := [xo0, xp0, xc0]) (cs := _) (by ((try simp only [ev_tmp, ev_const, ev_func, get_put, get_args, get_putL, get_putL_nil, Nat.reduceEqDiff, reduceIte, List.getD_cons_zero, List.getD_cons_succ, List.getD_nil]); first | done | with_reducible rfl)) (by ((try simp only [ev_tmp, ev_const, ev_func, get_put, get_args, get_putL, get_putL_nil, Nat.reduceEqDiff, reduceIte, List.getD_cons_zero, List.getD_cons_succ, List.getD_nil]); first | done | with_reducible rfl)) rfl ?_ ?_ (by first | exact True.intro | exact ⟨_, rfl, by ((try simp only [ev_tmp, ev_const, ev_func, get_put, get_args, get_putL, get_putL_nil, Nat.reduceEqDiff, reduceIte, List.getD_cons_zero, List.getD_cons_succ, List.getD_nil, Bool.not_true, Bool.not_false]); first | done | with_reducible rfl)⟩) fun w11 hch11 hss11 hBk0 => ?_
  · rfl
  · have e1 := ka0.sl.one
    have e2 := kb0.sl.one
    have e3 := kc0.sl.one
    simp [e1, e2, e3]
  clear ka0 kb0 kc0 hbk0
  have hz11 : w10.heap.size ≤ w11.heap.size := hch11.size
  have hx0_11 : Ext w w11 := hch11.ext hx0_10 (by omega)
  clear hx0_10
  have hx1_11 : Ext w1 w11 := hch11.ext hx1_10 (by omega)
  clear hx1_10
  refine go ?_
  refine rc (toInt64SSM_ok (xss := xss1) hxl1 hxr1) (next := fun v12 w12 hq12 => ?_)
  obtain ⟨he12, rr12, hrr12, hF12⟩ := hq12
  have hz12 : w11.heap.size ≤ w12.heap.size := he12.size
  have hx0_12 : Ext w w12 := hx0_11.trans he12
  clear hx0_11
  have hx1_12 : Ext w1 w12 := hx1_11.trans he12
  clear hx1_11
  have hR12 := hF12.rows
  rw [← hrr12] at hR12
  replace hR9 := hR9.same (((Wrt.one (B := fun b => b < w8.heap.size ∨ w9.heap.size ≤ b) (by omega) hch11).trans (Wrt.ofExt (B := fun b => b < w8.heap.size ∨ w9.heap.size ≤ b) he12)).same (fun b hb => hb))
  replace hBk0 := hBk0.wr (Wrt.ofExt (B := fun b => b ≠ bx0) he12) (by omega)
  refine go ?_
  refine ra (v := .agg #[xo0, xp0, xc0]) (h := rd_load_blk (hb := hBk0) (by ((try simp only [ev_tmp, ev_const, ev_func, get_put, get_args, get_putL, get_putL_nil, Nat.reduceEqDiff, reduceIte, List.getD_cons_zero, List.getD_cons_succ, List.getD_nil]); first | done | with_reducible rfl)) rfl) (next := ?_)
  refine go ?_
  refine rc (impl_NaturalHom_ok (p := p0) (xss := xss1) (by omega)) (next := fun v13 w13 hq13 => ?_)
  obtain ⟨ug0, rg0, rg1, rfl, hag, he13, mg0⟩ := hq13
  have hz13 : w12.heap.size ≤ w13.heap.size := he13.size
  have hx0_13 : Ext w w13 := hx0_12.trans he13
  clear hx0_12
  have hx1_13 : Ext w1 w13 := hx1_12.trans he13
  clear hx1_12
  obtain ⟨rsg0, hrsg0, mog0⟩ := mg0
  have mg0R := mog0.hom
  rw [← hrsg0] at mg0R
  obtain ⟨yg00, yg01, yg02, yg03, yg04, yg05, yg06, _, rfl, kS, kT, kI⟩ := mg0R.ex
  have oSg0 := kS.one3
  have oTg0 := kT.one3
  have oIg0 := kI.sl.one
  clear kS kT kI
  refine go ?_
  refine st_alloc (by first | exact True.intro | exact ⟨_, rfl, by ((try simp only [ev_tmp, ev_const, ev_func, get_put, get_args, get_putL, get_putL_nil, Nat.reduceEqDiff, reduceIte, List.getD_cons_zero, List.getD_cons_succ, List.getD_nil, Bool.not_true, Bool.not_false]); first | done | with_reducible rfl)⟩) fun w14 bg0 he14 hbg0 hszbg0 hbkbg0 => ?_
  have hz14 : w13.heap.size ≤ w14.heap.size := he14.size
  have hx0_14 : Ext w w14 := hx0_13.trans he14
  clear hx0_13
  have hx1_14 : Ext w1 w14 := hx1_13.trans he14
  clear hx1_13
  refine go ?_
  refine st_store_agg (vs := [yg00, yg01, yg02, yg03, yg04, yg05, yg06]) (cs := _) (hb := hbkbg0) (by ((try simp only [ev_tmp, ev_const, ev_func, get_put, get_args, get_putL, get_putL_nil, Nat.reduceEqDiff, reduceIte, List.getD_cons_zero, List.getD_cons_succ, List.getD_nil]); first | done | with_reducible rfl)) (by ((try simp only [ev_tmp, ev_const, ev_func, get_put, get_args, get_putL, get_putL_nil, Nat.reduceEqDiff, reduceIte, List.getD_cons_zero, List.getD_cons_succ, List.getD_nil]); first | done | with_reducible rfl)) rfl ?_ ?_ (by first | exact True.intro | exact ⟨_, rfl, by ((try simp only [ev_tmp, ev_const, ev_func, get_put, get_args, get_putL, get_putL_nil, Nat.reduceEqDiff, reduceIte, List.getD_cons_zero, List.getD_cons_succ, List.getD_nil, Bool.not_true, Bool.not_false]); first | done | with_reducible rfl)⟩) fun w15 hch15 hss15 hBbg0 => ?_
  · rfl
  · simp [oSg0.1, oSg0.2.1, oSg0.2.2, oTg0.1, oTg0.2.1, oTg0.2.2, oIg0]
  clear hbkbg0
  have hz15 : w14.heap.size ≤ w15.heap.size := hch15.size
  have hx0_15 : Ext w w15 := hch15.ext hx0_14 (by omega)
  clear hx0_14
  have hx1_15 : Ext w1 w15 := hch15.ext hx1_14 (by omega)
  clear hx1_14
  obtain ⟨rfl, rfl⟩ : rs0 = rg0 ∧ rs1 = rg1 := has.same hag fun _ => NhV.uniq
  obtain ⟨hrx0, hrt0⟩ := NaturalHom_sz0 (p := p0) (xss := xss1) (by omega) has
  replace ms0 := ms0.same ((((((((((Wrt.ofExt (B := fun b => b < w5.heap.size ∨ w6.heap.size ≤ b) he7).trans (Wrt.one (B := fun b => b < w5.heap.size ∨ w6.heap.size ≤ b) (by omega) hch8)).trans (Wrt.ofExt (B := fun b => b < w5.heap.size ∨ w6.heap.size ≤ b) he9)).trans (Wrt.ofExt (B := fun b => b < w5.heap.size ∨ w6.heap.size ≤ b) he10)).trans (Wrt.one (B := fun b => b < w5.heap.size ∨ w6.heap.size ≤ b) (by omega) hch11)).trans (Wrt.ofExt (B := fun b => b < w5.heap.size ∨ w6.heap.size ≤ b) he12)).trans (Wrt.ofExt (B := fun b => b < w5.heap.size ∨ w6.heap.size ≤ b) he13)).trans (Wrt.ofExt (B := fun b => b < w5.heap.size ∨ w6.heap.size ≤ b) he14)).trans (Wrt.one (B := fun b => b < w5.heap.size ∨ w6.heap.size ≤ b) (by omega) hch15)).same (fun b hb => hb))
  replace mg0R := mg0R.same (((Wrt.ofExt (B := fun b => b < w12.heap.size ∨ w13.heap.size ≤ b) he14).trans (Wrt.one (B := fun b => b < w12.heap.size ∨ w13.heap.size ≤ b) (by omega) hch15)).same (fun b hb => hb))
  obtain ⟨cbg00, cbg01, cbg02, cbg03, cbg04, cbg05, cbg06⟩ := hBbg0.cells7
  replace hBbs0 := hBbs0.wr (((((((Wrt.ofExt (B := fun b => b ≠ bs0) he9).trans (Wrt.ofExt (B := fun b => b ≠ bs0) he10)).trans (Wrt.one (B := fun b => b ≠ bs0) (by omega) hch11)).trans (Wrt.ofExt (B := fun b => b ≠ bs0) he12)).trans (Wrt.ofExt (B := fun b => b ≠ bs0) he13)).trans (Wrt.ofExt (B := fun b => b ≠ bs0) he14)).trans (Wrt.one (B := fun b => b ≠ bs0) (by omega) hch15)) (by omega)
  obtain ⟨cbs00, cbs01, cbs02, cbs03, cbs04, cbs05, cbs06⟩ := hBbs0.cells7
  refine go ?_
  refine rc (eqHom_ok (p := rs0.1) (q := rs0.2.1) (p' := rs0.1) (q' := rs0.2.1) (xss := rs0.2.2) (yss := rs0.2.2) hrx0.1 hrx0.2.1 hrx0.2.2.1 hrx0.2.2.2) (next := fun v16 w16 hq16 => ?_)
  obtain ⟨t16, rfl, ht16, he16⟩ := hq16
  clear cbg00 cbg01 cbg02 cbg03 cbg04 cbg05 cbg06 cbs00 cbs01 cbs02 cbs03 cbs04 cbs05 cbs06
  have hz16 : w15.heap.size ≤ w16.heap.size := he16.size
  have hx0_16 : Ext w w16 := hx0_15.trans he16
  clear hx0_15
  have hx1_16 : Ext w1 w16 := hx1_15.trans he16
  clear hx1_15
  refine go ?_
  refine sp (fun h => ?_) (fun _ => ?_)
  · rw [ht16.2 ⟨rfl, rfl, rfl⟩] at h; cases h
  refine go ?_
  refine c_if (fun h => ?_) (fun _ => ?_)
  · exact absurd rfl h
  refine go ?_
  replace hBk0 := hBk0.wr ((((Wrt.ofExt (B := fun b => b ≠ bx0) he13).trans (Wrt.ofExt (B := fun b => b ≠ bx0) he14)).trans (Wrt.one (B := fun b => b ≠ bx0) (by omega) hch15)).trans (Wrt.ofExt (B := fun b => b ≠ bx0) he16)) (by omega)
  refine d_region fun w17 he17 _ => ?_
  have hz17 : w16.heap.size ≤ w17.heap.size := he17.size
  have hx0_17 : Ext w w17 := hx0_16.trans he17
  clear hx0_16
  have hx1_17 : Ext w1 w17 := hx1_16.trans he17
  clear hx1_16
  replace hBk0 := hBk0.wr (Wrt.ofExt (B := fun b => b ≠ bx0) he17) (by omega)
  have hxa0 : Cell w17 bx0 0 xo0 := hBk0.cell rfl
  have hxb0 : Cell w17 bx0 1 xp0 := hBk0.cell rfl
  have hxc0 : Cell w17 bx0 2 xc0 := hBk0.cell rfl
  refine dgo ?_
  refine dce (toPresentation_ok (p := p0) hs0) (next := fun v18 w18 hq18 => ?_)
  obtain ⟨he18, hF18⟩ := hq18
  have hz18 : w17.heap.size ≤ w18.heap.size := he18.size
  have hx0_18 : Ext w w18 := hx0_17.trans he18
  clear hx0_17
  have hx1_18 : Ext w1 w18 := hx1_17.trans he18
  clear hx1_17
  have hR18 := hF18
  clear hxa0 hxb0 hxc0
  replace hR9 := hR9.same (((((((Wrt.ofExt (B := fun b => b < w8.heap.size ∨ w9.heap.size ≤ b) he13).trans (Wrt.ofExt (B := fun b => b < w8.heap.size ∨ w9.heap.size ≤ b) he14)).trans (Wrt.one (B := fun b => b < w8.heap.size ∨ w9.heap.size ≤ b) (by omega) hch15)).trans (Wrt.ofExt (B := fun b => b < w8.heap.size ∨ w9.heap.size ≤ b) he16)).trans (Wrt.ofExt (B := fun b => b < w8.heap.size ∨ w9.heap.size ≤ b) he17)).trans (Wrt.ofExt (B := fun b => b < w8.heap.size ∨ w9.heap.size ≤ b) he18)).same (fun b hb => hb))
  refine dce (eqPresentation_ok (p := p0) (q := p0) hs0) (next := fun v19 w19 hq19 => ?_)
  obtain ⟨t19, rfl, ht19, he19⟩ := hq19
  obtain rfl := ht19.2 rfl
  have hz19 : w18.heap.size ≤ w19.heap.size := he19.size
  have hx0_19 : Ext w w19 := hx0_18.trans he19
  clear hx0_18
  have hx1_19 : Ext w1 w19 := hx1_18.trans he19
  clear hx1_18
  clear hR18
  refine dgo ?_
  refine d_end (h := ?_)
  refine go ?_
  refine c_b (fun h => ?_) (fun _ => ?_)
  · cases h
  refine go ?_
  refine rc (toInt64SSM_ok (xss := xss1) hxl1 hxr1) (next := fun v20 w20 hq20 => ?_)
  obtain ⟨he20, rr20, hrr20, hF20⟩ := hq20
  have hz20 : w19.heap.size ≤ w20.heap.size := he20.size
  have hx0_20 : Ext w w20 := hx0_19.trans he20
  clear hx0_19
  have hx1_20 : Ext w1 w20 := hx1_19.trans he20
  clear hx1_19
  have hR20 := hF20.rows
  rw [← hrr20] at hR20
  clear hF20
  replace hR12 := hR12.same (((((((((Wrt.ofExt (B := fun b => b < w11.heap.size ∨ w12.heap.size ≤ b) he13).trans (Wrt.ofExt (B := fun b => b < w11.heap.size ∨ w12.heap.size ≤ b) he14)).trans (Wrt.one (B := fun b => b < w11.heap.size ∨ w12.heap.size ≤ b) (by omega) hch15)).trans (Wrt.ofExt (B := fun b => b < w11.heap.size ∨ w12.heap.size ≤ b) he16)).trans (Wrt.ofExt (B := fun b => b < w11.heap.size ∨ w12.heap.size ≤ b) he17)).trans (Wrt.ofExt (B := fun b => b < w11.heap.size ∨ w12.heap.size ≤ b) he18)).trans (Wrt.ofExt (B := fun b => b < w11.heap.size ∨ w12.heap.size ≤ b) he19)).trans (Wrt.ofExt (B := fun b => b < w11.heap.size ∨ w12.heap.size ≤ b) he20)).same (fun b hb => hb))
  refine go ?_
  refine rc (eqInt64SS_ok (xss := xss1) (yss := xss1) hxr1 (by omega)) (next := fun v21 w21 hq21 => ?_)
  obtain ⟨t21, rfl, ht21, he21⟩ := hq21
  obtain rfl := ht21.2 rfl
  have hz21 : w20.heap.size ≤ w21.heap.size := he21.size
  have hx0_21 : Ext w w21 := hx0_20.trans he21
  clear hx0_20
  have hx1_21 : Ext w1 w21 := hx1_20.trans he21
  clear hx1_20
  clear hR20
  refine go ?_
  refine c_b (fun h => ?_) (fun _ => ?_)
  · cases h
  replace hF9 := hF9.wr ((((((((((((Wrt.ofExt (B := fun b => b < w8.heap.size ∨ w9.heap.size ≤ b) he10).trans (Wrt.one (B := fun b => b < w8.heap.size ∨ w9.heap.size ≤ b) (by omega) hch11)).trans (Wrt.ofExt (B := fun b => b < w8.heap.size ∨ w9.heap.size ≤ b) he12)).trans (Wrt.ofExt (B := fun b => b < w8.heap.size ∨ w9.heap.size ≤ b) he13)).trans (Wrt.ofExt (B := fun b => b < w8.heap.size ∨ w9.heap.size ≤ b) he14)).trans (Wrt.one (B := fun b => b < w8.heap.size ∨ w9.heap.size ≤ b) (by omega) hch15)).trans (Wrt.ofExt (B := fun b => b < w8.heap.size ∨ w9.heap.size ≤ b) he16)).trans (Wrt.ofExt (B := fun b => b < w8.heap.size ∨ w9.heap.size ≤ b) he17)).trans (Wrt.ofExt (B := fun b => b < w8.heap.size ∨ w9.heap.size ≤ b) he18)).trans (Wrt.ofExt (B := fun b => b < w8.heap.size ∨ w9.heap.size ≤ b) he19)).trans (Wrt.ofExt (B := fun b => b < w8.heap.size ∨ w9.heap.size ≤ b) he20)).trans (Wrt.ofExt (B := fun b => b < w8.heap.size ∨ w9.heap.size ≤ b) he21)) (fun b hb => hb)
  replace hBk0 := hBk0.wr ((((Wrt.ofExt (B := fun b => b ≠ bx0) he18).trans (Wrt.ofExt (B := fun b => b ≠ bx0) he19)).trans (Wrt.ofExt (B := fun b => b ≠ bx0) he20)).trans (Wrt.ofExt (B := fun b => b ≠ bx0) he21)) (by omega)
  refine go ?_
  refine ra (v := .agg #[xo0, xp0, xc0]) (h := rd_load_blk (hb := hBk0) (by ((try simp only [ev_tmp, ev_const, ev_func, get_put, get_args, get_putL, get_putL_nil, Nat.reduceEqDiff, reduceIte, List.getD_cons_zero, List.getD_cons_succ, List.getD_nil]); first | done | with_reducible rfl)) rfl) (next := ?_)
  refine go ?_
  refine rc (markPresentation_ok (k := (1 : Int)) hF9 ?_ ?_) (next := fun v22 w22 hq22 => ?_)
  · omega
  · omega
  obtain ⟨rfl, hW22⟩ := hq22
  have hz22 : w21.heap.size ≤ w22.heap.size := hW22.size
  have hx0_22 : Ext w w22 := hW22.ext hx0_21 (fun b hb => by omega)
  clear hx0_21
  have hx1_22 : Ext w1 w22 := hW22.ext hx1_21 (fun b hb => by omega)
  clear hx1_21
  clear hF9 hR9
  replace hF12 := hF12.wr ((((((((((Wrt.ofExt (B := fun b => b < w11.heap.size ∨ w12.heap.size ≤ b) he13).trans (Wrt.ofExt (B := fun b => b < w11.heap.size ∨ w12.heap.size ≤ b) he14)).trans (Wrt.one (B := fun b => b < w11.heap.size ∨ w12.heap.size ≤ b) (by omega) hch15)).trans (Wrt.ofExt (B := fun b => b < w11.heap.size ∨ w12.heap.size ≤ b) he16)).trans (Wrt.ofExt (B := fun b => b < w11.heap.size ∨ w12.heap.size ≤ b) he17)).trans (Wrt.ofExt (B := fun b => b < w11.heap.size ∨ w12.heap.size ≤ b) he18)).trans (Wrt.ofExt (B := fun b => b < w11.heap.size ∨ w12.heap.size ≤ b) he19)).trans (Wrt.ofExt (B := fun b => b < w11.heap.size ∨ w12.heap.size ≤ b) he20)).trans (Wrt.ofExt (B := fun b => b < w11.heap.size ∨ w12.heap.size ≤ b) he21)).trans (Wrt.mono (B' := fun b => b < w11.heap.size ∨ w12.heap.size ≤ b) hW22 (fun b hb => by omega))) (fun b hb => hb)
  refine go ?_
  have htx1 : tot (rr12.map (·.2)) = tot xss1 := by rw [← hrr12]
  refine rc (markInt64SS_ok (k := ((1 : Int) + totP p0)) (pre := []) (post := []) (by simpa using hF12.own) hF12.sp (fun b hb => .inl hb) ?_ ?_) (next := fun v23 w23 hq23 => ?_)
  · omega
  · rw [htx1]; omega
  obtain ⟨rfl, _, hV23⟩ := hq23
  rw [htx1]
  have hW23 : Wrt (fun b => w11.heap.size ≤ b ∧ b < w12.heap.size) w22 w23 := hV23.mono fun b hb => ⟨(hF12.own.blk hb).1, hF12.lt b hb⟩
  have hz23 : w22.heap.size ≤ w23.heap.size := hW23.size
  have hx0_23 : Ext w w23 := hW23.ext hx0_22 (fun b hb => by omega)
  clear hx0_22
  have hx1_23 : Ext w1 w23 := hW23.ext hx1_22 (fun b hb => by omega)
  clear hx1_22
  clear hF12 hR12
  refine go ?_
  refine spd (fun h => ?_) (fun _ => ?_)
  · omega
  replace ms0 := ms0.same (((((((((Wrt.ofExt (B := fun b => b < w5.heap.size ∨ w6.heap.size ≤ b) he16).trans (Wrt.ofExt (B := fun b => b < w5.heap.size ∨ w6.heap.size ≤ b) he17)).trans (Wrt.ofExt (B := fun b => b < w5.heap.size ∨ w6.heap.size ≤ b) he18)).trans (Wrt.ofExt (B := fun b => b < w5.heap.size ∨ w6.heap.size ≤ b) he19)).trans (Wrt.ofExt (B := fun b => b < w5.heap.size ∨ w6.heap.size ≤ b) he20)).trans (Wrt.ofExt (B := fun b => b < w5.heap.size ∨ w6.heap.size ≤ b) he21)).trans (Wrt.mono (B' := fun b => b < w5.heap.size ∨ w6.heap.size ≤ b) hW22 (fun b hb => by omega))).trans (Wrt.mono (B' := fun b => b < w5.heap.size ∨ w6.heap.size ≤ b) hW23 (fun b hb => by omega))).same (fun b hb => hb))
  replace mg0R := mg0R.same (((((((((Wrt.ofExt (B := fun b => b < w12.heap.size ∨ w13.heap.size ≤ b) he16).trans (Wrt.ofExt (B := fun b => b < w12.heap.size ∨ w13.heap.size ≤ b) he17)).trans (Wrt.ofExt (B := fun b => b < w12.heap.size ∨ w13.heap.size ≤ b) he18)).trans (Wrt.ofExt (B := fun b => b < w12.heap.size ∨ w13.heap.size ≤ b) he19)).trans (Wrt.ofExt (B := fun b => b < w12.heap.size ∨ w13.heap.size ≤ b) he20)).trans (Wrt.ofExt (B := fun b => b < w12.heap.size ∨ w13.heap.size ≤ b) he21)).trans (Wrt.mono (B' := fun b => b < w12.heap.size ∨ w13.heap.size ≤ b) hW22 (fun b hb => by omega))).trans (Wrt.mono (B' := fun b => b < w12.heap.size ∨ w13.heap.size ≤ b) hW23 (fun b hb => by omega))).same (fun b hb => hb))
  replace hBbg0 := hBbg0.wr ((((((((Wrt.ofExt (B := fun b => b ≠ bg0) he16).trans (Wrt.ofExt (B := fun b => b ≠ bg0) he17)).trans (Wrt.ofExt (B := fun b => b ≠ bg0) he18)).trans (Wrt.ofExt (B := fun b => b ≠ bg0) he19)).trans (Wrt.ofExt (B := fun b => b ≠ bg0) he20)).trans (Wrt.ofExt (B := fun b => b ≠ bg0) he21)).trans (Wrt.mono (B' := fun b => b ≠ bg0) hW22 (fun b hb => by omega))).trans (Wrt.mono (B' := fun b => b ≠ bg0) hW23 (fun b hb => by omega))) (by omega)
  obtain ⟨cbg00, cbg01, cbg02, cbg03, cbg04, cbg05, cbg06⟩ := hBbg0.cells7
  replace hBbs0 := hBbs0.wr ((((((((Wrt.ofExt (B := fun b => b ≠ bs0) he16).trans (Wrt.ofExt (B := fun b => b ≠ bs0) he17)).trans (Wrt.ofExt (B := fun b => b ≠ bs0) he18)).trans (Wrt.ofExt (B := fun b => b ≠ bs0) he19)).trans (Wrt.ofExt (B := fun b => b ≠ bs0) he20)).trans (Wrt.ofExt (B := fun b => b ≠ bs0) he21)).trans (Wrt.mono (B' := fun b => b ≠ bs0) hW22 (fun b hb => by omega))).trans (Wrt.mono (B' := fun b => b ≠ bs0) hW23 (fun b hb => by omega))) (by omega)
  obtain ⟨cbs00, cbs01, cbs02, cbs03, cbs04, cbs05, cbs06⟩ := hBbs0.cells7
  refine go ?_
  refine rc (eqHom_ok (p := rs0.1) (q := rs0.2.1) (p' := rs0.1) (q' := rs0.2.1) (xss := rs0.2.2) (yss := rs0.2.2) hrx0.1 hrx0.2.1 hrx0.2.2.1 hrx0.2.2.2) (next := fun v24 w24 hq24 => ?_)
  obtain ⟨t24, rfl, ht24, he24⟩ := hq24
  clear cbg00 cbg01 cbg02 cbg03 cbg04 cbg05 cbg06 cbs00 cbs01 cbs02 cbs03 cbs04 cbs05 cbs06
  have hz24 : w23.heap.size ≤ w24.heap.size := he24.size
  have hx0_24 : Ext w w24 := hx0_23.trans he24
  clear hx0_23
  have hx1_24 : Ext w1 w24 := hx1_23.trans he24
  clear hx1_23
  refine go ?_
  refine sp (fun h => ?_) (fun _ => ?_)
  · rw [ht24.2 ⟨rfl, rfl, rfl⟩] at h; cases h
  refine go ?_
  refine c_if (fun h => ?_) (fun _ => ?_)
  · exact absurd rfl h
  replace mog0 := mog0.wr (((((((((((Wrt.ofExt (B := fun b => b < w12.heap.size ∨ w13.heap.size ≤ b) he14).trans (Wrt.one (B := fun b => b < w12.heap.size ∨ w13.heap.size ≤ b) (by omega) hch15)).trans (Wrt.ofExt (B := fun b => b < w12.heap.size ∨ w13.heap.size ≤ b) he16)).trans (Wrt.ofExt (B := fun b => b < w12.heap.size ∨ w13.heap.size ≤ b) he17)).trans (Wrt.ofExt (B := fun b => b < w12.heap.size ∨ w13.heap.size ≤ b) he18)).trans (Wrt.ofExt (B := fun b => b < w12.heap.size ∨ w13.heap.size ≤ b) he19)).trans (Wrt.ofExt (B := fun b => b < w12.heap.size ∨ w13.heap.size ≤ b) he20)).trans (Wrt.ofExt (B := fun b => b < w12.heap.size ∨ w13.heap.size ≤ b) he21)).trans (Wrt.mono (B' := fun b => b < w12.heap.size ∨ w13.heap.size ≤ b) hW22 (fun b hb => by omega))).trans (Wrt.mono (B' := fun b => b < w12.heap.size ∨ w13.heap.size ≤ b) hW23 (fun b hb => by omega))).trans (Wrt.ofExt (B := fun b => b < w12.heap.size ∨ w13.heap.size ≤ b) he24)) (fun b hb => hb)
  replace hBbg0 := hBbg0.wr (Wrt.ofExt (B := fun b => b ≠ bg0) he24) (by omega)
  obtain ⟨cbg00, cbg01, cbg02, cbg03, cbg04, cbg05, cbg06⟩ := hBbg0.cells7
  refine go ?_
  have htg0 : tot (rsg0.map (·.2)) = tot rs0.2.2 := by rw [← hrsg0]
  refine rc (markHomR_ok (k := (1 : Int)) mog0 ?_ ?_ ?_) (next := fun v25 w25 hq25 => ?_)
  · omega
  · omega
  · rw [htg0]; omega
  obtain ⟨rfl, hW25, hK25⟩ := hq25
  rw [htg0]
  rw [← hrsg0] at hK25
  clear cbg00 cbg01 cbg02 cbg03 cbg04 cbg05 cbg06
  have hz25 : w24.heap.size ≤ w25.heap.size := hW25.size
  have hx0_25 : Ext w w25 := hW25.ext hx0_24 (fun b hb => by omega)
  clear hx0_24
  have hx1_25 : Ext w1 w25 := hW25.ext hx1_24 (fun b hb => by omega)
  clear hx1_24
  clear mog0 mg0R
  replace hBbg0 := hBbg0.wr (Wrt.mono (B' := fun b => b ≠ bg0) hW25 (fun b hb => by omega)) (by omega)
  obtain ⟨cbg00, cbg01, cbg02, cbg03, cbg04, cbg05, cbg06⟩ := hBbg0.cells7
  refine go ?_
  refine rc (heldHom_ok (k := (1 : Int)) (p := rs0.1) (q := rs0.2.1) (xss := rs0.2.2) rfl rfl rfl ?_ ?_) (next := fun v26 w26 hq26 => ?_)
  · omega
  · omega
  obtain ⟨rfl, he26⟩ := hq26
  clear cbg00 cbg01 cbg02 cbg03 cbg04 cbg05 cbg06
  have hz26 : w25.heap.size ≤ w26.heap.size := he26.size
  have hx0_26 : Ext w w26 := hx0_25.trans he26
  clear hx0_25
  have hx1_26 : Ext w1 w26 := hx1_25.trans he26
  clear hx1_25
  refine go ?_
  refine c_if (fun h => ?_) (fun _ => ?_)
  · omega
  refine go ?_
  refine c_if (fun h => ?_) (fun _ => ?_)
  · exact absurd rfl h
  refine go ?_
  refine rc (toPresentation_ok (p := p0) hs0) (next := fun v27 w27 hq27 => ?_)
  obtain ⟨he27, hF27⟩ := hq27
  have hz27 : w26.heap.size ≤ w27.heap.size := he27.size
  have hx0_27 : Ext w w27 := hx0_26.trans he27
  clear hx0_26
  have hx1_27 : Ext w1 w27 := hx1_26.trans he27
  clear hx1_26
  have hR27 := hF27
  refine go ?_
  refine rc (toInt64SSM_ok (xss := xss1) hxl1 hxr1) (next := fun v28 w28 hq28 => ?_)
  obtain ⟨he28, rr28, hrr28, hF28⟩ := hq28
  have hz28 : w27.heap.size ≤ w28.heap.size := he28.size
  have hx0_28 : Ext w w28 := hx0_27.trans he28
  clear hx0_27
  have hx1_28 : Ext w1 w28 := hx1_27.trans he28
  clear hx1_27
  have hR28 := hF28.rows
  rw [← hrr28] at hR28
  clear hF28
  replace hR27 := hR27.same ((Wrt.ofExt (B := fun b => b < w26.heap.size ∨ w27.heap.size ≤ b) he28).same (fun b hb => hb))
  refine go ?_
  refine rc (impl_NaturalHom_ok (p := p0) (xss := xss1) (by omega)) (next := fun v29 w29 hq29 => ?_)
  obtain ⟨uh0, rh0, rh1, rfl, hah, he29, mh0⟩ := hq29
  have hz29 : w28.heap.size ≤ w29.heap.size := he29.size
  have hx0_29 : Ext w w29 := hx0_28.trans he29
  clear hx0_28
  have hx1_29 : Ext w1 w29 := hx1_28.trans he29
  clear hx1_28
  obtain ⟨rsh0, hrsh0, moh0⟩ := mh0
  have mh0R := moh0.hom
  rw [← hrsh0] at mh0R
  obtain ⟨yh00, yh01, yh02, yh03, yh04, yh05, yh06, _, rfl, kS, kT, kI⟩ := mh0R.ex
  have oSh0 := kS.one3
  have oTh0 := kT.one3
  have oIh0 := kI.sl.one
  clear kS kT kI
  refine go ?_
  refine st_alloc (by first | exact True.intro | exact ⟨_, rfl, by ((try simp only [ev_tmp, ev_const, ev_func, get_put, get_args, get_putL, get_putL_nil, Nat.reduceEqDiff, reduceIte, List.getD_cons_zero, List.getD_cons_succ, List.getD_nil, Bool.not_true, Bool.not_false]); first | done | with_reducible rfl)⟩) fun w30 bh0 he30 hbh0 hszbh0 hbkbh0 => ?_
  have hz30 : w29.heap.size ≤ w30.heap.size := he30.size
  have hx0_30 : Ext w w30 := hx0_29.trans he30
  clear hx0_29
  have hx1_30 : Ext w1 w30 := hx1_29.trans he30
  clear hx1_29
  refine go ?_
  refine st_store_agg (vs := [yh00, yh01, yh02, yh03, yh04, yh05, yh06]) (cs := _) (hb := hbkbh0) (by ((try simp only [ev_tmp, ev_const, ev_func, get_put, get_args, get_putL, get_putL_nil, Nat.reduceEqDiff, reduceIte, List.getD_cons_zero, List.getD_cons_succ, List.getD_nil]); first | done | with_reducible rfl)) (by ((try simp only [ev_tmp, ev_const, ev_func, get_put, get_args, get_putL, get_putL_nil, Nat.reduceEqDiff, reduceIte, List.getD_cons_zero, List.getD_cons_succ, List.getD_nil]); first | done | with_reducible rfl)) rfl ?_ ?_ (by first | exact True.intro | exact ⟨_, rfl, by ((try simp only [ev_tmp, ev_const, ev_func, get_put, get_args, get_putL, get_putL_nil, Nat.reduceEqDiff, reduceIte, List.getD_cons_zero, List.getD_cons_succ, List.getD_nil, Bool.not_true, Bool.not_false]); first | done | with_reducible rfl)⟩) fun w31 hch31 hss31 hBbh0 => ?_
  · rfl
  · simp [oSh0.1, oSh0.2.1, oSh0.2.2, oTh0.1, oTh0.2.1, oTh0.2.2, oIh0]
  clear hbkbh0
  have hz31 : w30.heap.size ≤ w31.heap.size := hch31.size
  have hx0_31 : Ext w w31 := hch31.ext hx0_30 (by omega)
  clear hx0_30
  have hx1_31 : Ext w1 w31 := hch31.ext hx1_30 (by omega)
  clear hx1_30
  clear hR27
  clear hR28
  obtain ⟨rfl, rfl⟩ : rs0 = rh0 ∧ rs1 = rh1 := has.same hah fun _ => NhV.uniq
  replace ms0 := ms0.same (((((((((Wrt.ofExt (B := fun b => b < w5.heap.size ∨ w6.heap.size ≤ b) he24).trans (Wrt.mono (B' := fun b => b < w5.heap.size ∨ w6.heap.size ≤ b) hW25 (fun b hb => by omega))).trans (Wrt.ofExt (B := fun b => b < w5.heap.size ∨ w6.heap.size ≤ b) he26)).trans (Wrt.ofExt (B := fun b => b < w5.heap.size ∨ w6.heap.size ≤ b) he27)).trans (Wrt.ofExt (B := fun b => b < w5.heap.size ∨ w6.heap.size ≤ b) he28)).trans (Wrt.ofExt (B := fun b => b < w5.heap.size ∨ w6.heap.size ≤ b) he29)).trans (Wrt.ofExt (B := fun b => b < w5.heap.size ∨ w6.heap.size ≤ b) he30)).trans (Wrt.one (B := fun b => b < w5.heap.size ∨ w6.heap.size ≤ b) (by omega) hch31)).same (fun b hb => hb))
  replace mh0R := mh0R.same (((Wrt.ofExt (B := fun b => b < w28.heap.size ∨ w29.heap.size ≤ b) he30).trans (Wrt.one (B := fun b => b < w28.heap.size ∨ w29.heap.size ≤ b) (by omega) hch31)).same (fun b hb => hb))
  obtain ⟨cbh00, cbh01, cbh02, cbh03, cbh04, cbh05, cbh06⟩ := hBbh0.cells7
  replace hBbs0 := hBbs0.wr ((((((((Wrt.ofExt (B := fun b => b ≠ bs0) he24).trans (Wrt.mono (B' := fun b => b ≠ bs0) hW25 (fun b hb => by omega))).trans (Wrt.ofExt (B := fun b => b ≠ bs0) he26)).trans (Wrt.ofExt (B := fun b => b ≠ bs0) he27)).trans (Wrt.ofExt (B := fun b => b ≠ bs0) he28)).trans (Wrt.ofExt (B := fun b => b ≠ bs0) he29)).trans (Wrt.ofExt (B := fun b => b ≠ bs0) he30)).trans (Wrt.one (B := fun b => b ≠ bs0) (by omega) hch31)) (by omega)
  obtain ⟨cbs00, cbs01, cbs02, cbs03, cbs04, cbs05, cbs06⟩ := hBbs0.cells7
  refine go ?_
  refine rc (eqHom_ok (p := rs0.1) (q := rs0.2.1) (p' := rs0.1) (q' := rs0.2.1) (xss := rs0.2.2) (yss := rs0.2.2) hrx0.1 hrx0.2.1 hrx0.2.2.1 hrx0.2.2.2) (next := fun v32 w32 hq32 => ?_)
  obtain ⟨t32, rfl, ht32, he32⟩ := hq32
  clear cbh00 cbh01 cbh02 cbh03 cbh04 cbh05 cbh06 cbs00 cbs01 cbs02 cbs03 cbs04 cbs05 cbs06
  have hz32 : w31.heap.size ≤ w32.heap.size := he32.size
  have hx0_32 : Ext w w32 := hx0_31.trans he32
  clear hx0_31
  have hx1_32 : Ext w1 w32 := hx1_31.trans he32
  clear hx1_31
  refine go ?_
  refine sp (fun h => ?_) (fun _ => ?_)
  · rw [ht32.2 ⟨rfl, rfl, rfl⟩] at h; cases h
  refine go ?_
  refine c_if (fun h => ?_) (fun _ => ?_)
  · exact absurd rfl h
  replace hK25 := hK25.same ((((((((Wrt.ofExt (B := fun b => b < 0 ∨ w25.heap.size ≤ b) he26).trans (Wrt.ofExt (B := fun b => b < 0 ∨ w25.heap.size ≤ b) he27)).trans (Wrt.ofExt (B := fun b => b < 0 ∨ w25.heap.size ≤ b) he28)).trans (Wrt.ofExt (B := fun b => b < 0 ∨ w25.heap.size ≤ b) he29)).trans (Wrt.ofExt (B := fun b => b < 0 ∨ w25.heap.size ≤ b) he30)).trans (Wrt.one (B := fun b => b < 0 ∨ w25.heap.size ≤ b) (by omega) hch31)).trans (Wrt.ofExt (B := fun b => b < 0 ∨ w25.heap.size ≤ b) he32)).same (fun b hb => hb))
  replace hBbg0 := hBbg0.wr (((((((Wrt.ofExt (B := fun b => b ≠ bg0) he26).trans (Wrt.ofExt (B := fun b => b ≠ bg0) he27)).trans (Wrt.ofExt (B := fun b => b ≠ bg0) he28)).trans (Wrt.ofExt (B := fun b => b ≠ bg0) he29)).trans (Wrt.ofExt (B := fun b => b ≠ bg0) he30)).trans (Wrt.one (B := fun b => b ≠ bg0) (by omega) hch31)).trans (Wrt.ofExt (B := fun b => b ≠ bg0) he32)) (by omega)
  obtain ⟨cbg00, cbg01, cbg02, cbg03, cbg04, cbg05, cbg06⟩ := hBbg0.cells7
  refine go ?_
  refine rc (heldHom_ok (k := (1 : Int)) (p := rs0.1) (q := rs0.2.1) (xss := rs0.2.2) rfl rfl rfl ?_ ?_) (next := fun v33 w33 hq33 => ?_)
  · omega
  · omega
  obtain ⟨rfl, he33⟩ := hq33
  clear cbg00 cbg01 cbg02 cbg03 cbg04 cbg05 cbg06
  have hz33 : w32.heap.size ≤ w33.heap.size := he33.size
  have hx0_33 : Ext w w33 := hx0_32.trans he33
  clear hx0_32
  have hx1_33 : Ext w1 w33 := hx1_32.trans he33
  clear hx1_32
  refine go ?_
  refine c_if (fun h => ?_) (fun _ => ?_)
  · omega
  refine go ?_
  refine c_if (fun h => ?_) (fun _ => ?_)
  · exact absurd rfl h
  refine go ?_
  exact ret1 ⟨rfl, hx0_33⟩
end Go.Proofs.YtnphljflkpekmaaGreat
