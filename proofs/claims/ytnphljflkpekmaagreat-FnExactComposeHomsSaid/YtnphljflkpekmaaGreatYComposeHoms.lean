/-
  Walk: the statement FnExactComposeHoms: it returns true.
  Conditions: what the arguments read as.
-/
import Derived.Test.YtnphljflkpekmaaGreatEComposeHoms2
set_option linter.unusedVariables false
set_option linter.unusedSimpArgs false
set_option linter.unusedSectionVars false
set_option linter.constructorNameAsVariable false
set_option linter.unnecessarySimpa false
set_option linter.deprecated false
/-
  Walk: the statement FnExactComposeHoms: it returns true.
  Conditions: what the arguments read as.
-/
namespace Go.Proofs.YtnphljflkpekmaaGreat
open Go Go.Pc
set_option maxHeartbeats 4000000 in
theorem lwComposeHoms_ok {w : World} {p0 q0 : Pr} {xss0 : List (List Int)} {a0 : Value} {lo0 hi0 : Nat} {p1 q1 : Pr} {xss1 : List (List Int)} {a1 : Value} {lo1 hi1 : Nat} [hp0 : HomV lo0 hi0 w a0 p0 q0 xss0] [hp1 : HomV lo1 hi1 w a1 p1 q1 xss1] :
    Calls Tryz.prog 5 #[a0, a1] w (Ret fun v w' => v = .bool true ∧ Ext w w') := by
  obtain ⟨f00, f01, f02, f03, f04, f05, f06, us0, rfl, _, _, _⟩ := hp0.ex
  obtain ⟨f10, f11, f12, f13, f14, f15, f16, us1, rfl, _, _, _⟩ := hp1.ex
  refine enter (args := [.agg #[f00, f01, f02, f03, f04, f05, f06], .agg #[f10, f11, f12, f13, f14, f15, f16]]) (l := [.tmp 4]) Tryz.func5 rfl rfl Tryz.ntmps5 (by simp) ?_
  refine go ?_
  refine st_box (vs := [f00, f01, f02, f03, f04, f05, f06]) (by ((try simp only [ev_tmp, ev_const, ev_func, get_put, get_args, get_putL, get_putL_nil, Nat.reduceEqDiff, reduceIte, List.getD_cons_zero, List.getD_cons_succ, List.getD_nil]); first | done | with_reducible rfl)) (by first | exact True.intro | exact ⟨_, rfl, by ((try simp only [ev_tmp, ev_const, ev_func, get_put, get_args, get_putL, get_putL_nil, Nat.reduceEqDiff, reduceIte, List.getD_cons_zero, List.getD_cons_succ, List.getD_nil, Bool.not_true, Bool.not_false]); first | done | with_reducible rfl)⟩) fun w1 b0 he1 hb0 hsz1 hbb0 => ?_
  obtain ⟨hc00, hc01, hc02, hc03, hc04, hc05, hc06⟩ := hbb0.cells7
  have hz1 : w.heap.size ≤ w1.heap.size := he1.size
  have hx0_1 : Ext w w1 := he1
  refine go ?_
  refine st_box (vs := [f10, f11, f12, f13, f14, f15, f16]) (by ((try simp only [ev_tmp, ev_const, ev_func, get_put, get_args, get_putL, get_putL_nil, Nat.reduceEqDiff, reduceIte, List.getD_cons_zero, List.getD_cons_succ, List.getD_nil]); first | done | with_reducible rfl)) (by first | exact True.intro | exact ⟨_, rfl, by ((try simp only [ev_tmp, ev_const, ev_func, get_put, get_args, get_putL, get_putL_nil, Nat.reduceEqDiff, reduceIte, List.getD_cons_zero, List.getD_cons_succ, List.getD_nil, Bool.not_true, Bool.not_false]); first | done | with_reducible rfl)⟩) fun w2 b1 he2 hb1 hsz2 hbb1 => ?_
  obtain ⟨hc10, hc11, hc12, hc13, hc14, hc15, hc16⟩ := hbb1.cells7
  have hz2 : w1.heap.size ≤ w2.heap.size := he2.size
  have hx0_2 : Ext w w2 := hx0_1.trans he2
  clear hx0_1
  replace hp0 := (hp0.same (Ext.same hx0_2 _ _)).wide
  replace hp1 := (hp1.same (Ext.same hx0_2 _ _)).wide
  refine go ?_
  refine rc (szHom_ok (p := p0) (q := q0) (xss := xss0) (k := (1048576 : Int)) (by omega)) (next := fun v3 w3 hq3 => ?_)
  obtain ⟨j3, rfl, hj3, he3⟩ := hq3
  have hz3 : w2.heap.size ≤ w3.heap.size := he3.size
  have hx0_3 : Ext w w3 := hx0_2.trans he3
  clear hx0_2
  have hx2_3 : Ext w2 w3 := he3
  refine go ?_
  refine c_if (fun hl103 => ?_) (fun hl103 => ?_)
  · refine go ?_
    exact ret1 ⟨rfl, hx0_3⟩
  obtain ⟨hja3, hjb3, hS0⟩ : 0 ≤ j3 ∧ j3 ≤ (1048576 : Int) ∧ SizeP p0 ((1048576 : Int)) ∧ SizeP q0 ((1048576 : Int)) ∧ (xss0.length : Int) ≤ (1048576 : Int) ∧ ∀ i, ((xss0.getD i []).length : Int) ≤ (1048576 : Int) := by
    rcases hj3 with h | h
    · omega
    · exact h
  have hs0 : SizeP p0 2000000 := hS0.1.mono (by omega)
  have hS0_ : SizeP p0 1048576 := hS0.1.mono (by omega)
  have hol0 := hs0.ord
  have htp0 := totP_le hS0_
  have hsq0 : SizeP q0 2000000 := hS0.2.1.mono (by omega)
  have hSq0_ : SizeP q0 1048576 := hS0.2.1.mono (by omega)
  have holq0 := hsq0.ord
  have htq0 := totP_le hSq0_
  have hxl0 : xss0.length ≤ 2000000 := by have := hS0.2.2.1; omega
  have hxr0 : ∀ i, (xss0.getD i []).length ≤ 2000000 := fun i => by have := hS0.2.2.2 i; omega
  have htm0 := tot_rows_le hxl0 hxr0
  refine go ?_
  refine rc (szHom_ok (p := p1) (q := q1) (xss := xss1) (k := j3) (by omega)) (next := fun v4 w4 hq4 => ?_)
  obtain ⟨j4, rfl, hj4, he4⟩ := hq4
  have hz4 : w3.heap.size ≤ w4.heap.size := he4.size
  have hx0_4 : Ext w w4 := hx0_3.trans he4
  clear hx0_3
  have hx2_4 : Ext w2 w4 := hx2_3.trans he4
  clear hx2_3
  refine go ?_
  refine c_if (fun hl104 => ?_) (fun hl104 => ?_)
  · refine go ?_
    exact ret1 ⟨rfl, hx0_4⟩
  obtain ⟨hja4, hjb4, hS1⟩ : 0 ≤ j4 ∧ j4 ≤ j3 ∧ SizeP p1 (j3) ∧ SizeP q1 (j3) ∧ (xss1.length : Int) ≤ j3 ∧ ∀ i, ((xss1.getD i []).length : Int) ≤ j3 := by
    rcases hj4 with h | h
    · omega
    · exact h
  have hs1 : SizeP p1 2000000 := hS1.1.mono (by omega)
  have hS1_ : SizeP p1 1048576 := hS1.1.mono (by omega)
  have hol1 := hs1.ord
  have htp1 := totP_le hS1_
  have hsq1 : SizeP q1 2000000 := hS1.2.1.mono (by omega)
  have hSq1_ : SizeP q1 1048576 := hS1.2.1.mono (by omega)
  have holq1 := hsq1.ord
  have htq1 := totP_le hSq1_
  have hxl1 : xss1.length ≤ 2000000 := by have := hS1.2.2.1; omega
  have hxr1 : ∀ i, (xss1.getD i []).length ≤ 2000000 := fun i => by have := hS1.2.2.2 i; omega
  have htm1 := tot_rows_le hxl1 hxr1
  refine go ?_
  refine d_post (fun ρ' w' => ∃ ys00 ys01 ys02 ys03 ys04 ys05 ys06 bs0 rs0 rs1, Has ρ' [(2, .pointer (some ⟨b0, 0, none⟩)), (3, .pointer (some ⟨b1, 0, none⟩)), (6, .pointer (some ⟨bs0, 0, none⟩)), (7, .int .i64 rs1)] ∧ Ext w4 w' ∧ Ans (HomP p0 q0 xss0 ∧ HomP p1 q1 xss1) (HcV p0 q0 xss0 p1 q1 xss1) noH rs0 rs1 ∧ Blk w' bs0 [ys00, ys01, ys02, ys03, ys04, ys05, ys06] ∧ HomV w4.heap.size w'.heap.size w' (.agg #[ys00, ys01, ys02, ys03, ys04, ys05, ys06]) rs0.1 rs0.2.1 rs0.2.2 ∧ w4.heap.size ≤ bs0 ∧ bs0 < w'.heap.size) ?_ ?_
  · refine d_order [0, 2, 1, 3, 4, 5, 6, 7, 8, 9, 10] (h := fun w5 he5 hs5 => ?_)
    refine dgo ?_
    refine dt_fork (π' := [0, 2, 8, 1, 3, 4, 5, 6, 7, 9, 10]) (by decide) rfl rfl (by decide +kernel) ?_ ?_
    · skip
      refine ds_call (toHom_ok (p := p0) (q := q0) (xss := xss0) hs0 hsq0 hxl0 hxr0) (next := fun v6 w6 hq6 => ?_)
      obtain ⟨he6, rr6, hrr6, hF6⟩ := hq6
      have hz6 := he6.size
      have hR6 := hF6.hom
      rw [← hrr6] at hR6
      clear hF6
      refine dt_fork (π' := [0, 2, 1, 8, 3, 4, 5, 6, 7, 9, 10]) (by decide) rfl rfl (by decide +kernel) ?_ ?_
      · skip
        refine ds_call (toHom_ok (p := p1) (q := q1) (xss := xss1) hs1 hsq1 hxl1 hxr1) (next := fun v7 w7 hq7 => ?_)
        obtain ⟨he7, rr7, hrr7, hF7⟩ := hq7
        have hz7 := he7.size
        have hR7 := hF7.hom
        rw [← hrr7] at hR7
        clear hF7
        refine dt_fork (π' := [0, 2, 1, 3, 8, 4, 5, 6, 7, 9, 10]) (by decide) rfl rfl (by decide +kernel) ?_ ?_
        · skip
          refine ds_call (spec_ComposeHoms_ok (p := p0) (q := q0) (xss := xss0) (p' := p1) (q' := q1) (yss := xss1) (by omega) (by omega) (by omega) (by omega) (by omega) (by omega)) (hR := by rintro _ _ ⟨_, _, _, rfl, _, h, _⟩; exact h) (next := fun v8 w8 hq8 => ?_)
          obtain ⟨us0, rs0, rs1, rfl, has, he8, ms0⟩ := hq8
          have hz8 := he8.size
          obtain ⟨ys00, ys01, ys02, ys03, ys04, ys05, ys06, us_, rfl, kS, kT, kI⟩ := ms0.ex
          have oS := kS.one3
          have oT := kT.one3
          have oI := kI.sl.one
          clear kS kT kI
          refine dgo ?_
          refine d_alloc (next := fun w9 bs0 he9 hbs0 hsz9 hbk9 => ?_)
          have hz9 := he9.size
          have hbkL : Blk w9 bs0 _ := @Blk.ext _ _ _ _ (Ext.refl _) hbk9
          refine d_store_agg (vs := [ys00, ys01, ys02, ys03, ys04, ys05, ys06]) (cs := _) hbkL (by omega) rfl rfl (by simp [oS.1, oS.2.1, oS.2.2, oT.1, oT.2.1, oT.2.2, oI]) (next := fun wL hcL hsL hBL => ?_)
          refine dgo ?_
          refine d_end (h := ?_)
          have hmL := (ms0.same (Ext.same (he9) _ _)).same (hcL.same (by omega))
          obtain ⟨z0, z1, z2, z3, z4, z5, z6, zs, ez, m1, m2, m3⟩ := hmL.ex
          refine ⟨rfl, ys00, ys01, ys02, ys03, ys04, ys05, ys06, bs0, rs0, rs1, ?_, hcL.ext (((((he5.trans he6).trans he7).trans he8).trans he9)) (by omega), has, hBL, ⟨z0, z1, z2, z3, z4, z5, z6, zs, ez, m1.mono (by omega) (by omega), m2.mono (by omega) (by omega), m3.mono (by omega) (by omega)⟩, by omega, by omega⟩
          exact hasP
        · skip
          refine ds_alloc (next := fun w8 bs0 he8 hbs0 hsz8 hbk8 => ?_)
          have hz8 := he8.size
          refine dce (spec_ComposeHoms_ok (p := p0) (q := q0) (xss := xss0) (p' := p1) (q' := q1) (yss := xss1) (by omega) (by omega) (by omega) (by omega) (by omega) (by omega)) (hR := by rintro _ _ ⟨_, _, _, rfl, _, h, _⟩; exact h) (next := fun v9 w9 hq9 => ?_)
          obtain ⟨us0, rs0, rs1, rfl, has, he9, ms0⟩ := hq9
          have hz9 := he9.size
          obtain ⟨ys00, ys01, ys02, ys03, ys04, ys05, ys06, us_, rfl, kS, kT, kI⟩ := ms0.ex
          have oS := kS.one3
          have oT := kT.one3
          have oI := kI.sl.one
          clear kS kT kI
          refine dgo ?_
          have hbkL : Blk w9 bs0 _ := @Blk.ext _ _ _ _ (he9) hbk8
          refine d_store_agg (vs := [ys00, ys01, ys02, ys03, ys04, ys05, ys06]) (cs := _) hbkL (by omega) rfl rfl (by simp [oS.1, oS.2.1, oS.2.2, oT.1, oT.2.1, oT.2.2, oI]) (next := fun wL hcL hsL hBL => ?_)
          refine dgo ?_
          refine d_end (h := ?_)
          have hmL := (ms0.same (Ext.same (Ext.refl _) _ _)).same (hcL.same (by omega))
          obtain ⟨z0, z1, z2, z3, z4, z5, z6, zs, ez, m1, m2, m3⟩ := hmL.ex
          refine ⟨rfl, ys00, ys01, ys02, ys03, ys04, ys05, ys06, bs0, rs0, rs1, ?_, hcL.ext (((((he5.trans he6).trans he7).trans he8).trans he9)) (by omega), has, hBL, ⟨z0, z1, z2, z3, z4, z5, z6, zs, ez, m1.mono (by omega) (by omega), m2.mono (by omega) (by omega), m3.mono (by omega) (by omega)⟩, by omega, by omega⟩
          exact hasP
      · skip
        refine ds_alloc (next := fun w7 bs0 he7 hbs0 hsz7 hbk7 => ?_)
        have hz7 := he7.size
        refine dce (toHom_ok (p := p1) (q := q1) (xss := xss1) hs1 hsq1 hxl1 hxr1) (next := fun v8 w8 hq8 => ?_)
        obtain ⟨he8, rr8, hrr8, hF8⟩ := hq8
        have hz8 := he8.size
        have hR8 := hF8.hom
        rw [← hrr8] at hR8
        clear hF8
        refine dce (spec_ComposeHoms_ok (p := p0) (q := q0) (xss := xss0) (p' := p1) (q' := q1) (yss := xss1) (by omega) (by omega) (by omega) (by omega) (by omega) (by omega)) (hR := by rintro _ _ ⟨_, _, _, rfl, _, h, _⟩; exact h) (next := fun v9 w9 hq9 => ?_)
        obtain ⟨us0, rs0, rs1, rfl, has, he9, ms0⟩ := hq9
        have hz9 := he9.size
        obtain ⟨ys00, ys01, ys02, ys03, ys04, ys05, ys06, us_, rfl, kS, kT, kI⟩ := ms0.ex
        have oS := kS.one3
        have oT := kT.one3
        have oI := kI.sl.one
        clear kS kT kI
        refine dgo ?_
        have hbkL : Blk w9 bs0 _ := @Blk.ext _ _ _ _ ((he8.trans he9)) hbk7
        refine d_store_agg (vs := [ys00, ys01, ys02, ys03, ys04, ys05, ys06]) (cs := _) hbkL (by omega) rfl rfl (by simp [oS.1, oS.2.1, oS.2.2, oT.1, oT.2.1, oT.2.2, oI]) (next := fun wL hcL hsL hBL => ?_)
        refine dgo ?_
        refine d_end (h := ?_)
        have hmL := (ms0.same (Ext.same (Ext.refl _) _ _)).same (hcL.same (by omega))
        obtain ⟨z0, z1, z2, z3, z4, z5, z6, zs, ez, m1, m2, m3⟩ := hmL.ex
        refine ⟨rfl, ys00, ys01, ys02, ys03, ys04, ys05, ys06, bs0, rs0, rs1, ?_, hcL.ext (((((he5.trans he6).trans he7).trans he8).trans he9)) (by omega), has, hBL, ⟨z0, z1, z2, z3, z4, z5, z6, zs, ez, m1.mono (by omega) (by omega), m2.mono (by omega) (by omega), m3.mono (by omega) (by omega)⟩, by omega, by omega⟩
        exact hasP
    · skip
      refine ds_alloc (next := fun w6 bs0 he6 hbs0 hsz6 hbk6 => ?_)
      have hz6 := he6.size
      refine dce (toHom_ok (p := p0) (q := q0) (xss := xss0) hs0 hsq0 hxl0 hxr0) (next := fun v7 w7 hq7 => ?_)
      obtain ⟨he7, rr7, hrr7, hF7⟩ := hq7
      have hz7 := he7.size
      have hR7 := hF7.hom
      rw [← hrr7] at hR7
      clear hF7
      refine dce (toHom_ok (p := p1) (q := q1) (xss := xss1) hs1 hsq1 hxl1 hxr1) (next := fun v8 w8 hq8 => ?_)
      obtain ⟨he8, rr8, hrr8, hF8⟩ := hq8
      have hz8 := he8.size
      have hR8 := hF8.hom
      rw [← hrr8] at hR8
      clear hF8
      refine dce (spec_ComposeHoms_ok (p := p0) (q := q0) (xss := xss0) (p' := p1) (q' := q1) (yss := xss1) (by omega) (by omega) (by omega) (by omega) (by omega) (by omega)) (hR := by rintro _ _ ⟨_, _, _, rfl, _, h, _⟩; exact h) (next := fun v9 w9 hq9 => ?_)
      obtain ⟨us0, rs0, rs1, rfl, has, he9, ms0⟩ := hq9
      have hz9 := he9.size
      obtain ⟨ys00, ys01, ys02, ys03, ys04, ys05, ys06, us_, rfl, kS, kT, kI⟩ := ms0.ex
      have oS := kS.one3
      have oT := kT.one3
      have oI := kI.sl.one
      clear kS kT kI
      refine dgo ?_
      have hbkL : Blk w9 bs0 _ := @Blk.ext _ _ _ _ (((he7.trans he8).trans he9)) hbk6
      refine d_store_agg (vs := [ys00, ys01, ys02, ys03, ys04, ys05, ys06]) (cs := _) hbkL (by omega) rfl rfl (by simp [oS.1, oS.2.1, oS.2.2, oT.1, oT.2.1, oT.2.2, oI]) (next := fun wL hcL hsL hBL => ?_)
      refine dgo ?_
      refine d_end (h := ?_)
      have hmL := (ms0.same (Ext.same (Ext.refl _) _ _)).same (hcL.same (by omega))
      obtain ⟨z0, z1, z2, z3, z4, z5, z6, zs, ez, m1, m2, m3⟩ := hmL.ex
      refine ⟨rfl, ys00, ys01, ys02, ys03, ys04, ys05, ys06, bs0, rs0, rs1, ?_, hcL.ext (((((he5.trans he6).trans he7).trans he8).trans he9)) (by omega), has, hBL, ⟨z0, z1, z2, z3, z4, z5, z6, zs, ez, m1.mono (by omega) (by omega), m2.mono (by omega) (by omega), m3.mono (by omega) (by omega)⟩, by omega, by omega⟩
      exact hasP
  rintro ρ' w10 ⟨ys00, ys01, ys02, ys03, ys04, ys05, ys06, bs0, rs0, rs1, hH, he10, has, hBbs0, ms0, hbs1, hbs2⟩
  refine thn_normal (rwp_has hH fun ρ0 => ?_)
  have hz10 : w4.heap.size ≤ w10.heap.size := he10.size
  have hx0_10 : Ext w w10 := hx0_4.trans he10
  clear hx0_4
  have hx2_10 : Ext w2 w10 := hx2_4.trans he10
  clear hx2_4
  refine go ?_
  refine rc (toHom_ok (p := p0) (q := q0) (xss := xss0) hs0 hsq0 hxl0 hxr0) (next := fun v11 w11 hq11 => ?_)
  obtain ⟨he11, rr11, hrr11, hF11⟩ := hq11
  have hz11 : w10.heap.size ≤ w11.heap.size := he11.size
  have hx0_11 : Ext w w11 := hx0_10.trans he11
  clear hx0_10
  have hx2_11 : Ext w2 w11 := hx2_10.trans he11
  clear hx2_10
  have hR11 := hF11.hom
  rw [← hrr11] at hR11
  refine go ?_
  refine st_alloc (by first | exact True.intro | exact ⟨_, rfl, by ((try simp only [ev_tmp, ev_const, ev_func, get_put, get_args, get_putL, get_putL_nil, Nat.reduceEqDiff, reduceIte, List.getD_cons_zero, List.getD_cons_succ, List.getD_nil, Bool.not_true, Bool.not_false]); first | done | with_reducible rfl)⟩) fun w12 bx0 he12 hbx0 hsza0 hbk0 => ?_
  have hz12 : w11.heap.size ≤ w12.heap.size := he12.size
  have hx0_12 : Ext w w12 := hx0_11.trans he12
  clear hx0_11
  have hx2_12 : Ext w2 w12 := hx2_11.trans he12
  clear hx2_11
  replace hR11 := hR11.same ((Wrt.ofExt (B := fun b => b < w10.heap.size ∨ w11.heap.size ≤ b) he12).same (fun b hb => hb))
  obtain ⟨x00, x01, x02, x03, x04, x05, x06, usx0, rfl, kS0, kT0, kI0⟩ := hR11.ex
  refine go ?_
  refine st_store_agg (vs := [x00, x01, x02, x03, x04, x05, x06]) (cs := _) (by ((try simp only [ev_tmp, ev_const, ev_func, get_put, get_args, get_putL, get_putL_nil, Nat.reduceEqDiff, reduceIte, List.getD_cons_zero, List.getD_cons_succ, List.getD_nil]); first | done | with_reducible rfl)) (by ((try simp only [ev_tmp, ev_const, ev_func, get_put, get_args, get_putL, get_putL_nil, Nat.reduceEqDiff, reduceIte, List.getD_cons_zero, List.getD_cons_succ, List.getD_nil]); first | done | with_reducible rfl)) rfl ?_ ?_ (by first | exact True.intro | exact ⟨_, rfl, by ((try simp only [ev_tmp, ev_const, ev_func, get_put, get_args, get_putL, get_putL_nil, Nat.reduceEqDiff, reduceIte, List.getD_cons_zero, List.getD_cons_succ, List.getD_nil, Bool.not_true, Bool.not_false]); first | done | with_reducible rfl)⟩) fun w13 hch13 hss13 hBk0 => ?_
  · rfl
  · have o1 := kS0.one3
    have o2 := kT0.one3
    have o3 := kI0.sl.one
    simp [o1.1, o1.2.1, o1.2.2, o2.1, o2.2.1, o2.2.2, o3]
  clear kS0 kT0 kI0 hbk0
  have hz13 : w12.heap.size ≤ w13.heap.size := hch13.size
  have hx0_13 : Ext w w13 := hch13.ext hx0_12 (by omega)
  clear hx0_12
  have hx2_13 : Ext w2 w13 := hch13.ext hx2_12 (by omega)
  clear hx2_12
  refine go ?_
  refine rc (toHom_ok (p := p1) (q := q1) (xss := xss1) hs1 hsq1 hxl1 hxr1) (next := fun v14 w14 hq14 => ?_)
  obtain ⟨he14, rr14, hrr14, hF14⟩ := hq14
  have hz14 : w13.heap.size ≤ w14.heap.size := he14.size
  have hx0_14 : Ext w w14 := hx0_13.trans he14
  clear hx0_13
  have hx2_14 : Ext w2 w14 := hx2_13.trans he14
  clear hx2_13
  have hR14 := hF14.hom
  rw [← hrr14] at hR14
  refine go ?_
  refine st_alloc (by first | exact True.intro | exact ⟨_, rfl, by ((try simp only [ev_tmp, ev_const, ev_func, get_put, get_args, get_putL, get_putL_nil, Nat.reduceEqDiff, reduceIte, List.getD_cons_zero, List.getD_cons_succ, List.getD_nil, Bool.not_true, Bool.not_false]); first | done | with_reducible rfl)⟩) fun w15 bx1 he15 hbx1 hsza1 hbk1 => ?_
  have hz15 : w14.heap.size ≤ w15.heap.size := he15.size
  have hx0_15 : Ext w w15 := hx0_14.trans he15
  clear hx0_14
  have hx2_15 : Ext w2 w15 := hx2_14.trans he15
  clear hx2_14
  replace hR14 := hR14.same ((Wrt.ofExt (B := fun b => b < w13.heap.size ∨ w14.heap.size ≤ b) he15).same (fun b hb => hb))
  obtain ⟨x10, x11, x12, x13, x14, x15, x16, usx1, rfl, kS1, kT1, kI1⟩ := hR14.ex
  refine go ?_
  refine st_store_agg (vs := [x10, x11, x12, x13, x14, x15, x16]) (cs := _) (by ((try simp only [ev_tmp, ev_const, ev_func, get_put, get_args, get_putL, get_putL_nil, Nat.reduceEqDiff, reduceIte, List.getD_cons_zero, List.getD_cons_succ, List.getD_nil]); first | done | with_reducible rfl)) (by ((try simp only [ev_tmp, ev_const, ev_func, get_put, get_args, get_putL, get_putL_nil, Nat.reduceEqDiff, reduceIte, List.getD_cons_zero, List.getD_cons_succ, List.getD_nil]); first | done | with_reducible rfl)) rfl ?_ ?_ (by first | exact True.intro | exact ⟨_, rfl, by ((try simp only [ev_tmp, ev_const, ev_func, get_put, get_args, get_putL, get_putL_nil, Nat.reduceEqDiff, reduceIte, List.getD_cons_zero, List.getD_cons_succ, List.getD_nil, Bool.not_true, Bool.not_false]); first | done | with_reducible rfl)⟩) fun w16 hch16 hss16 hBk1 => ?_
  · rfl
  · have o1 := kS1.one3
    have o2 := kT1.one3
    have o3 := kI1.sl.one
    simp [o1.1, o1.2.1, o1.2.2, o2.1, o2.2.1, o2.2.2, o3]
  clear kS1 kT1 kI1 hbk1
  have hz16 : w15.heap.size ≤ w16.heap.size := hch16.size
  have hx0_16 : Ext w w16 := hch16.ext hx0_15 (by omega)
  clear hx0_15
  have hx2_16 : Ext w2 w16 := hch16.ext hx2_15 (by omega)
  clear hx2_15
  replace hR11 := hR11.same (((((Wrt.one (B := fun b => b < w10.heap.size ∨ w11.heap.size ≤ b) (by omega) hch13).trans (Wrt.ofExt (B := fun b => b < w10.heap.size ∨ w11.heap.size ≤ b) he14)).trans (Wrt.ofExt (B := fun b => b < w10.heap.size ∨ w11.heap.size ≤ b) he15)).trans (Wrt.one (B := fun b => b < w10.heap.size ∨ w11.heap.size ≤ b) (by omega) hch16)).same (fun b hb => hb))
  replace hR14 := hR14.same ((Wrt.one (B := fun b => b < w13.heap.size ∨ w14.heap.size ≤ b) (by omega) hch16).same (fun b hb => hb))
  replace hBk0 := hBk0.wr (((Wrt.ofExt (B := fun b => b ≠ bx0) he14).trans (Wrt.ofExt (B := fun b => b ≠ bx0) he15)).trans (Wrt.one (B := fun b => b ≠ bx0) (by omega) hch16)) (by omega)
  refine go ?_
  refine ra (v := .agg #[x00, x01, x02, x03, x04, x05, x06]) (h := rd_load_blk (hb := hBk0) (by ((try simp only [ev_tmp, ev_const, ev_func, get_put, get_args, get_putL, get_putL_nil, Nat.reduceEqDiff, reduceIte, List.getD_cons_zero, List.getD_cons_succ, List.getD_nil]); first | done | with_reducible rfl)) rfl) (next := ?_)
  refine go ?_
  refine ra (v := .agg #[x10, x11, x12, x13, x14, x15, x16]) (h := rd_load_blk (hb := hBk1) (by ((try simp only [ev_tmp, ev_const, ev_func, get_put, get_args, get_putL, get_putL_nil, Nat.reduceEqDiff, reduceIte, List.getD_cons_zero, List.getD_cons_succ, List.getD_nil]); first | done | with_reducible rfl)) rfl) (next := ?_)
  refine go ?_
  refine rc (impl_ComposeHoms_ok (p := p0) (q := q0) (xss := xss0) (p' := p1) (q' := q1) (yss := xss1) (by omega) (by omega) (by omega) (by omega) (by omega) (by omega)) (next := fun v17 w17 hq17 => ?_)
  obtain ⟨ug0, rg0, rg1, rfl, hag, he17, mg0⟩ := hq17
  have hz17 : w16.heap.size ≤ w17.heap.size := he17.size
  have hx0_17 : Ext w w17 := hx0_16.trans he17
  clear hx0_16
  have hx2_17 : Ext w2 w17 := hx2_16.trans he17
  clear hx2_16
  obtain ⟨rsg0, hrsg0, mog0⟩ := mg0
  have mg0R := mog0.hom
  rw [← hrsg0] at mg0R
  obtain ⟨yg00, yg01, yg02, yg03, yg04, yg05, yg06, _, rfl, kS, kT, kI⟩ := mg0R.ex
  have oSg0 := kS.one3
  have oTg0 := kT.one3
  have oIg0 := kI.sl.one
  clear kS kT kI
  refine go ?_
  refine st_alloc (by first | exact True.intro | exact ⟨_, rfl, by ((try simp only [ev_tmp, ev_const, ev_func, get_put, get_args, get_putL, get_putL_nil, Nat.reduceEqDiff, reduceIte, List.getD_cons_zero, List.getD_cons_succ, List.getD_nil, Bool.not_true, Bool.not_false]); first | done | with_reducible rfl)⟩) fun w18 bg0 he18 hbg0 hszbg0 hbkbg0 => ?_
  have hz18 : w17.heap.size ≤ w18.heap.size := he18.size
  have hx0_18 : Ext w w18 := hx0_17.trans he18
  clear hx0_17
  have hx2_18 : Ext w2 w18 := hx2_17.trans he18
  clear hx2_17
  refine go ?_
  refine st_store_agg (vs := [yg00, yg01, yg02, yg03, yg04, yg05, yg06]) (cs := _) (hb := hbkbg0) (by ((try simp only [ev_tmp, ev_const, ev_func, get_put, get_args, get_putL, get_putL_nil, Nat.reduceEqDiff, reduceIte, List.getD_cons_zero, List.getD_cons_succ, List.getD_nil]); first | done | with_reducible rfl)) (by ((try simp only [ev_tmp, ev_const, ev_func, get_put, get_args, get_putL, get_putL_nil, Nat.reduceEqDiff, reduceIte, List.getD_cons_zero, List.getD_cons_succ, List.getD_nil]); first | done | with_reducible rfl)) rfl ?_ ?_ (by first | exact True.intro | exact ⟨_, rfl, by ((try simp only [ev_tmp, ev_const, ev_func, get_put, get_args, get_putL, get_putL_nil, Nat.reduceEqDiff, reduceIte, List.getD_cons_zero, List.getD_cons_succ, List.getD_nil, Bool.not_true, Bool.not_false]); first | done | with_reducible rfl)⟩) fun w19 hch19 hss19 hBbg0 => ?_
  · rfl
  · simp [oSg0.1, oSg0.2.1, oSg0.2.2, oTg0.1, oTg0.2.1, oTg0.2.2, oIg0]
  clear hbkbg0
  have hz19 : w18.heap.size ≤ w19.heap.size := hch19.size
  have hx0_19 : Ext w w19 := hch19.ext hx0_18 (by omega)
  clear hx0_18
  have hx2_19 : Ext w2 w19 := hch19.ext hx2_18 (by omega)
  clear hx2_18
  obtain ⟨rfl, rfl⟩ : rs0 = rg0 ∧ rs1 = rg1 := has.same hag fun _ => HcV.uniq
  obtain ⟨hrx0, hrt0⟩ := ComposeHoms_sz0 (p := p0) (q := q0) (xss := xss0) (p' := p1) (q' := q1) (yss := xss1) (by omega) (by omega) (by omega) (by omega) (by omega) (by omega) has
  replace ms0 := ms0.same (((((((((((Wrt.ofExt (B := fun b => b < w4.heap.size ∨ w10.heap.size ≤ b) he11)).trans (Wrt.ofExt (B := fun b => b < w4.heap.size ∨ w10.heap.size ≤ b) he12)).trans (Wrt.one (B := fun b => b < w4.heap.size ∨ w10.heap.size ≤ b) (by omega) hch13)).trans (Wrt.ofExt (B := fun b => b < w4.heap.size ∨ w10.heap.size ≤ b) he14)).trans (Wrt.ofExt (B := fun b => b < w4.heap.size ∨ w10.heap.size ≤ b) he15)).trans (Wrt.one (B := fun b => b < w4.heap.size ∨ w10.heap.size ≤ b) (by omega) hch16)).trans (Wrt.ofExt (B := fun b => b < w4.heap.size ∨ w10.heap.size ≤ b) he17)).trans (Wrt.ofExt (B := fun b => b < w4.heap.size ∨ w10.heap.size ≤ b) he18)).trans (Wrt.one (B := fun b => b < w4.heap.size ∨ w10.heap.size ≤ b) (by omega) hch19)).same (fun b hb => hb))
  replace mg0R := mg0R.same (((Wrt.ofExt (B := fun b => b < w16.heap.size ∨ w17.heap.size ≤ b) he18).trans (Wrt.one (B := fun b => b < w16.heap.size ∨ w17.heap.size ≤ b) (by omega) hch19)).same (fun b hb => hb))
  obtain ⟨cbg00, cbg01, cbg02, cbg03, cbg04, cbg05, cbg06⟩ := hBbg0.cells7
  replace hBbs0 := hBbs0.wr (((((((((Wrt.ofExt (B := fun b => b ≠ bs0) he11).trans (Wrt.ofExt (B := fun b => b ≠ bs0) he12)).trans (Wrt.one (B := fun b => b ≠ bs0) (by omega) hch13)).trans (Wrt.ofExt (B := fun b => b ≠ bs0) he14)).trans (Wrt.ofExt (B := fun b => b ≠ bs0) he15)).trans (Wrt.one (B := fun b => b ≠ bs0) (by omega) hch16)).trans (Wrt.ofExt (B := fun b => b ≠ bs0) he17)).trans (Wrt.ofExt (B := fun b => b ≠ bs0) he18)).trans (Wrt.one (B := fun b => b ≠ bs0) (by omega) hch19)) (by omega)
  obtain ⟨cbs00, cbs01, cbs02, cbs03, cbs04, cbs05, cbs06⟩ := hBbs0.cells7
  refine go ?_
  refine rc (eqHom_ok (p := rs0.1) (q := rs0.2.1) (p' := rs0.1) (q' := rs0.2.1) (xss := rs0.2.2) (yss := rs0.2.2) hrx0.1 hrx0.2.1 hrx0.2.2.1 hrx0.2.2.2) (next := fun v20 w20 hq20 => ?_)
  obtain ⟨t20, rfl, ht20, he20⟩ := hq20
  clear cbg00 cbg01 cbg02 cbg03 cbg04 cbg05 cbg06 cbs00 cbs01 cbs02 cbs03 cbs04 cbs05 cbs06
  have hz20 : w19.heap.size ≤ w20.heap.size := he20.size
  have hx0_20 : Ext w w20 := hx0_19.trans he20
  clear hx0_19
  have hx2_20 : Ext w2 w20 := hx2_19.trans he20
  clear hx2_19
  refine go ?_
  refine sp (fun h => ?_) (fun _ => ?_)
  · rw [ht20.2 ⟨rfl, rfl, rfl⟩] at h; cases h
  refine go ?_
  refine c_if (fun h => ?_) (fun _ => ?_)
  · exact absurd rfl h
  refine go ?_
  replace hBk0 := hBk0.wr ((((Wrt.ofExt (B := fun b => b ≠ bx0) he17).trans (Wrt.ofExt (B := fun b => b ≠ bx0) he18)).trans (Wrt.one (B := fun b => b ≠ bx0) (by omega) hch19)).trans (Wrt.ofExt (B := fun b => b ≠ bx0) he20)) (by omega)
  replace hBk1 := hBk1.wr ((((Wrt.ofExt (B := fun b => b ≠ bx1) he17).trans (Wrt.ofExt (B := fun b => b ≠ bx1) he18)).trans (Wrt.one (B := fun b => b ≠ bx1) (by omega) hch19)).trans (Wrt.ofExt (B := fun b => b ≠ bx1) he20)) (by omega)
  refine d_region fun w21 he21 _ => ?_
  have hz21 : w20.heap.size ≤ w21.heap.size := he21.size
  have hx0_21 : Ext w w21 := hx0_20.trans he21
  clear hx0_20
  have hx2_21 : Ext w2 w21 := hx2_20.trans he21
  clear hx2_20
  replace hBk0 := hBk0.wr (Wrt.ofExt (B := fun b => b ≠ bx0) he21) (by omega)
  obtain ⟨hxc00, hxc01, hxc02, hxc03, hxc04, hxc05, hxc06⟩ := hBk0.cells7
  refine dgo ?_
  refine dce (toHom_ok (p := p0) (q := q0) (xss := xss0) hs0 hsq0 hxl0 hxr0) (next := fun v22 w22 hq22 => ?_)
  obtain ⟨he22, rr22, hrr22, hF22⟩ := hq22
  have hz22 : w21.heap.size ≤ w22.heap.size := he22.size
  have hx0_22 : Ext w w22 := hx0_21.trans he22
  clear hx0_21
  have hx2_22 : Ext w2 w22 := hx2_21.trans he22
  clear hx2_21
  have hR22 := hF22.hom
  rw [← hrr22] at hR22
  clear hF22
  clear hxc00 hxc01 hxc02 hxc03 hxc04 hxc05 hxc06
  replace hR11 := hR11.same (((((((Wrt.ofExt (B := fun b => b < w10.heap.size ∨ w11.heap.size ≤ b) he17).trans (Wrt.ofExt (B := fun b => b < w10.heap.size ∨ w11.heap.size ≤ b) he18)).trans (Wrt.one (B := fun b => b < w10.heap.size ∨ w11.heap.size ≤ b) (by omega) hch19)).trans (Wrt.ofExt (B := fun b => b < w10.heap.size ∨ w11.heap.size ≤ b) he20)).trans (Wrt.ofExt (B := fun b => b < w10.heap.size ∨ w11.heap.size ≤ b) he21)).trans (Wrt.ofExt (B := fun b => b < w10.heap.size ∨ w11.heap.size ≤ b) he22)).same (fun b hb => hb))
  refine dce (eqHom_ok (p := p0) (q := q0) (p' := p0) (q' := q0) (xss := xss0) (yss := xss0) hs0 hsq0 hxl0 hxr0) (next := fun v23 w23 hq23 => ?_)
  obtain ⟨t23, rfl, ht23, he23⟩ := hq23
  obtain rfl := ht23.2 ⟨rfl, rfl, rfl⟩
  have hz23 : w22.heap.size ≤ w23.heap.size := he23.size
  have hx0_23 : Ext w w23 := hx0_22.trans he23
  clear hx0_22
  have hx2_23 : Ext w2 w23 := hx2_22.trans he23
  clear hx2_22
  clear hR22
  refine dgo ?_
  refine d_end (h := ?_)
  refine go ?_
  refine c_b (fun h => ?_) (fun _ => ?_)
  · cases h
  refine go ?_
  replace hBk0 := hBk0.wr ((Wrt.ofExt (B := fun b => b ≠ bx0) he22).trans (Wrt.ofExt (B := fun b => b ≠ bx0) he23)) (by omega)
  replace hBk1 := hBk1.wr (((Wrt.ofExt (B := fun b => b ≠ bx1) he21).trans (Wrt.ofExt (B := fun b => b ≠ bx1) he22)).trans (Wrt.ofExt (B := fun b => b ≠ bx1) he23)) (by omega)
  refine d_region fun w24 he24 _ => ?_
  have hz24 : w23.heap.size ≤ w24.heap.size := he24.size
  have hx0_24 : Ext w w24 := hx0_23.trans he24
  clear hx0_23
  have hx2_24 : Ext w2 w24 := hx2_23.trans he24
  clear hx2_23
  replace hBk1 := hBk1.wr (Wrt.ofExt (B := fun b => b ≠ bx1) he24) (by omega)
  obtain ⟨hxc10, hxc11, hxc12, hxc13, hxc14, hxc15, hxc16⟩ := hBk1.cells7
  refine dgo ?_
  refine dce (toHom_ok (p := p1) (q := q1) (xss := xss1) hs1 hsq1 hxl1 hxr1) (next := fun v25 w25 hq25 => ?_)
  obtain ⟨he25, rr25, hrr25, hF25⟩ := hq25
  have hz25 : w24.heap.size ≤ w25.heap.size := he25.size
  have hx0_25 : Ext w w25 := hx0_24.trans he25
  clear hx0_24
  have hx2_25 : Ext w2 w25 := hx2_24.trans he25
  clear hx2_24
  have hR25 := hF25.hom
  rw [← hrr25] at hR25
  clear hF25
  clear hxc10 hxc11 hxc12 hxc13 hxc14 hxc15 hxc16
  replace hR14 := hR14.same ((((((((((Wrt.ofExt (B := fun b => b < w13.heap.size ∨ w14.heap.size ≤ b) he17).trans (Wrt.ofExt (B := fun b => b < w13.heap.size ∨ w14.heap.size ≤ b) he18)).trans (Wrt.one (B := fun b => b < w13.heap.size ∨ w14.heap.size ≤ b) (by omega) hch19)).trans (Wrt.ofExt (B := fun b => b < w13.heap.size ∨ w14.heap.size ≤ b) he20)).trans (Wrt.ofExt (B := fun b => b < w13.heap.size ∨ w14.heap.size ≤ b) he21)).trans (Wrt.ofExt (B := fun b => b < w13.heap.size ∨ w14.heap.size ≤ b) he22)).trans (Wrt.ofExt (B := fun b => b < w13.heap.size ∨ w14.heap.size ≤ b) he23)).trans (Wrt.ofExt (B := fun b => b < w13.heap.size ∨ w14.heap.size ≤ b) he24)).trans (Wrt.ofExt (B := fun b => b < w13.heap.size ∨ w14.heap.size ≤ b) he25)).same (fun b hb => hb))
  refine dce (eqHom_ok (p := p1) (q := q1) (p' := p1) (q' := q1) (xss := xss1) (yss := xss1) hs1 hsq1 hxl1 hxr1) (next := fun v26 w26 hq26 => ?_)
  obtain ⟨t26, rfl, ht26, he26⟩ := hq26
  obtain rfl := ht26.2 ⟨rfl, rfl, rfl⟩
  have hz26 : w25.heap.size ≤ w26.heap.size := he26.size
  have hx0_26 : Ext w w26 := hx0_25.trans he26
  clear hx0_25
  have hx2_26 : Ext w2 w26 := hx2_25.trans he26
  clear hx2_25
  clear hR25
  refine dgo ?_
  refine d_end (h := ?_)
  refine go ?_
  refine c_b (fun h => ?_) (fun _ => ?_)
  · cases h
  replace hF11 := hF11.wr (((((((((((((((Wrt.ofExt (B := fun b => b < w10.heap.size ∨ w11.heap.size ≤ b) he12).trans (Wrt.one (B := fun b => b < w10.heap.size ∨ w11.heap.size ≤ b) (by omega) hch13)).trans (Wrt.ofExt (B := fun b => b < w10.heap.size ∨ w11.heap.size ≤ b) he14)).trans (Wrt.ofExt (B := fun b => b < w10.heap.size ∨ w11.heap.size ≤ b) he15)).trans (Wrt.one (B := fun b => b < w10.heap.size ∨ w11.heap.size ≤ b) (by omega) hch16)).trans (Wrt.ofExt (B := fun b => b < w10.heap.size ∨ w11.heap.size ≤ b) he17)).trans (Wrt.ofExt (B := fun b => b < w10.heap.size ∨ w11.heap.size ≤ b) he18)).trans (Wrt.one (B := fun b => b < w10.heap.size ∨ w11.heap.size ≤ b) (by omega) hch19)).trans (Wrt.ofExt (B := fun b => b < w10.heap.size ∨ w11.heap.size ≤ b) he20)).trans (Wrt.ofExt (B := fun b => b < w10.heap.size ∨ w11.heap.size ≤ b) he21)).trans (Wrt.ofExt (B := fun b => b < w10.heap.size ∨ w11.heap.size ≤ b) he22)).trans (Wrt.ofExt (B := fun b => b < w10.heap.size ∨ w11.heap.size ≤ b) he23)).trans (Wrt.ofExt (B := fun b => b < w10.heap.size ∨ w11.heap.size ≤ b) he24)).trans (Wrt.ofExt (B := fun b => b < w10.heap.size ∨ w11.heap.size ≤ b) he25)).trans (Wrt.ofExt (B := fun b => b < w10.heap.size ∨ w11.heap.size ≤ b) he26)) (fun b hb => hb)
  replace hBk0 := hBk0.wr (((Wrt.ofExt (B := fun b => b ≠ bx0) he24).trans (Wrt.ofExt (B := fun b => b ≠ bx0) he25)).trans (Wrt.ofExt (B := fun b => b ≠ bx0) he26)) (by omega)
  refine go ?_
  refine ra (v := .agg #[x00, x01, x02, x03, x04, x05, x06]) (h := rd_load_blk (hb := hBk0) (by ((try simp only [ev_tmp, ev_const, ev_func, get_put, get_args, get_putL, get_putL_nil, Nat.reduceEqDiff, reduceIte, List.getD_cons_zero, List.getD_cons_succ, List.getD_nil]); first | done | with_reducible rfl)) rfl) (next := ?_)
  refine go ?_
  have htx0 : tot (rr11.map (·.2)) = tot xss0 := by rw [← hrr11]
  refine rc (markHom_ok (k := (1 : Int)) hF11 ?_ ?_ ?_) (next := fun v27 w27 hq27 => ?_)
  · omega
  · omega
  · rw [htx0]; omega
  obtain ⟨rfl, hW27⟩ := hq27
  rw [htx0]
  have hz27 : w26.heap.size ≤ w27.heap.size := hW27.size
  have hx0_27 : Ext w w27 := hW27.ext hx0_26 (fun b hb => by omega)
  clear hx0_26
  have hx2_27 : Ext w2 w27 := hW27.ext hx2_26 (fun b hb => by omega)
  clear hx2_26
  clear hF11 hR11
  replace hF14 := hF14.wr (((((((((((((Wrt.ofExt (B := fun b => b < w13.heap.size ∨ w14.heap.size ≤ b) he15).trans (Wrt.one (B := fun b => b < w13.heap.size ∨ w14.heap.size ≤ b) (by omega) hch16)).trans (Wrt.ofExt (B := fun b => b < w13.heap.size ∨ w14.heap.size ≤ b) he17)).trans (Wrt.ofExt (B := fun b => b < w13.heap.size ∨ w14.heap.size ≤ b) he18)).trans (Wrt.one (B := fun b => b < w13.heap.size ∨ w14.heap.size ≤ b) (by omega) hch19)).trans (Wrt.ofExt (B := fun b => b < w13.heap.size ∨ w14.heap.size ≤ b) he20)).trans (Wrt.ofExt (B := fun b => b < w13.heap.size ∨ w14.heap.size ≤ b) he21)).trans (Wrt.ofExt (B := fun b => b < w13.heap.size ∨ w14.heap.size ≤ b) he22)).trans (Wrt.ofExt (B := fun b => b < w13.heap.size ∨ w14.heap.size ≤ b) he23)).trans (Wrt.ofExt (B := fun b => b < w13.heap.size ∨ w14.heap.size ≤ b) he24)).trans (Wrt.ofExt (B := fun b => b < w13.heap.size ∨ w14.heap.size ≤ b) he25)).trans (Wrt.ofExt (B := fun b => b < w13.heap.size ∨ w14.heap.size ≤ b) he26)).trans (Wrt.mono (B' := fun b => b < w13.heap.size ∨ w14.heap.size ≤ b) hW27 (fun b hb => by omega))) (fun b hb => hb)
  replace hBk1 := hBk1.wr (((Wrt.ofExt (B := fun b => b ≠ bx1) he25).trans (Wrt.ofExt (B := fun b => b ≠ bx1) he26)).trans (Wrt.mono (B' := fun b => b ≠ bx1) hW27 (fun b hb => by omega))) (by omega)
  refine go ?_
  refine ra (v := .agg #[x10, x11, x12, x13, x14, x15, x16]) (h := rd_load_blk (hb := hBk1) (by ((try simp only [ev_tmp, ev_const, ev_func, get_put, get_args, get_putL, get_putL_nil, Nat.reduceEqDiff, reduceIte, List.getD_cons_zero, List.getD_cons_succ, List.getD_nil]); first | done | with_reducible rfl)) rfl) (next := ?_)
  refine go ?_
  have htx1 : tot (rr14.map (·.2)) = tot xss1 := by rw [← hrr14]
  refine rc (markHom_ok (k := ((1 : Int) + totP p0 + totP q0 + tot xss0)) hF14 ?_ ?_ ?_) (next := fun v28 w28 hq28 => ?_)
  · omega
  · omega
  · rw [htx1]; omega
  obtain ⟨rfl, hW28⟩ := hq28
  rw [htx1]
  have hz28 : w27.heap.size ≤ w28.heap.size := hW28.size
  have hx0_28 : Ext w w28 := hW28.ext hx0_27 (fun b hb => by omega)
  clear hx0_27
  have hx2_28 : Ext w2 w28 := hW28.ext hx2_27 (fun b hb => by omega)
  clear hx2_27
  clear hF14 hR14
  refine go ?_
  refine spd (fun h => ?_) (fun _ => ?_)
  · omega
  replace ms0 := ms0.same ((((((((((Wrt.ofExt (B := fun b => b < w4.heap.size ∨ w10.heap.size ≤ b) he20).trans (Wrt.ofExt (B := fun b => b < w4.heap.size ∨ w10.heap.size ≤ b) he21)).trans (Wrt.ofExt (B := fun b => b < w4.heap.size ∨ w10.heap.size ≤ b) he22)).trans (Wrt.ofExt (B := fun b => b < w4.heap.size ∨ w10.heap.size ≤ b) he23)).trans (Wrt.ofExt (B := fun b => b < w4.heap.size ∨ w10.heap.size ≤ b) he24)).trans (Wrt.ofExt (B := fun b => b < w4.heap.size ∨ w10.heap.size ≤ b) he25)).trans (Wrt.ofExt (B := fun b => b < w4.heap.size ∨ w10.heap.size ≤ b) he26)).trans (Wrt.mono (B' := fun b => b < w4.heap.size ∨ w10.heap.size ≤ b) hW27 (fun b hb => by omega))).trans (Wrt.mono (B' := fun b => b < w4.heap.size ∨ w10.heap.size ≤ b) hW28 (fun b hb => by omega))).same (fun b hb => hb))
  replace mg0R := mg0R.same ((((((((((Wrt.ofExt (B := fun b => b < w16.heap.size ∨ w17.heap.size ≤ b) he20).trans (Wrt.ofExt (B := fun b => b < w16.heap.size ∨ w17.heap.size ≤ b) he21)).trans (Wrt.ofExt (B := fun b => b < w16.heap.size ∨ w17.heap.size ≤ b) he22)).trans (Wrt.ofExt (B := fun b => b < w16.heap.size ∨ w17.heap.size ≤ b) he23)).trans (Wrt.ofExt (B := fun b => b < w16.heap.size ∨ w17.heap.size ≤ b) he24)).trans (Wrt.ofExt (B := fun b => b < w16.heap.size ∨ w17.heap.size ≤ b) he25)).trans (Wrt.ofExt (B := fun b => b < w16.heap.size ∨ w17.heap.size ≤ b) he26)).trans (Wrt.mono (B' := fun b => b < w16.heap.size ∨ w17.heap.size ≤ b) hW27 (fun b hb => by omega))).trans (Wrt.mono (B' := fun b => b < w16.heap.size ∨ w17.heap.size ≤ b) hW28 (fun b hb => by omega))).same (fun b hb => hb))
  replace hBbg0 := hBbg0.wr (((((((((Wrt.ofExt (B := fun b => b ≠ bg0) he20).trans (Wrt.ofExt (B := fun b => b ≠ bg0) he21)).trans (Wrt.ofExt (B := fun b => b ≠ bg0) he22)).trans (Wrt.ofExt (B := fun b => b ≠ bg0) he23)).trans (Wrt.ofExt (B := fun b => b ≠ bg0) he24)).trans (Wrt.ofExt (B := fun b => b ≠ bg0) he25)).trans (Wrt.ofExt (B := fun b => b ≠ bg0) he26)).trans (Wrt.mono (B' := fun b => b ≠ bg0) hW27 (fun b hb => by omega))).trans (Wrt.mono (B' := fun b => b ≠ bg0) hW28 (fun b hb => by omega))) (by omega)
  obtain ⟨cbg00, cbg01, cbg02, cbg03, cbg04, cbg05, cbg06⟩ := hBbg0.cells7
  replace hBbs0 := hBbs0.wr (((((((((Wrt.ofExt (B := fun b => b ≠ bs0) he20).trans (Wrt.ofExt (B := fun b => b ≠ bs0) he21)).trans (Wrt.ofExt (B := fun b => b ≠ bs0) he22)).trans (Wrt.ofExt (B := fun b => b ≠ bs0) he23)).trans (Wrt.ofExt (B := fun b => b ≠ bs0) he24)).trans (Wrt.ofExt (B := fun b => b ≠ bs0) he25)).trans (Wrt.ofExt (B := fun b => b ≠ bs0) he26)).trans (Wrt.mono (B' := fun b => b ≠ bs0) hW27 (fun b hb => by omega))).trans (Wrt.mono (B' := fun b => b ≠ bs0) hW28 (fun b hb => by omega))) (by omega)
  obtain ⟨cbs00, cbs01, cbs02, cbs03, cbs04, cbs05, cbs06⟩ := hBbs0.cells7
  refine go ?_
  refine rc (eqHom_ok (p := rs0.1) (q := rs0.2.1) (p' := rs0.1) (q' := rs0.2.1) (xss := rs0.2.2) (yss := rs0.2.2) hrx0.1 hrx0.2.1 hrx0.2.2.1 hrx0.2.2.2) (next := fun v29 w29 hq29 => ?_)
  obtain ⟨t29, rfl, ht29, he29⟩ := hq29
  clear cbg00 cbg01 cbg02 cbg03 cbg04 cbg05 cbg06 cbs00 cbs01 cbs02 cbs03 cbs04 cbs05 cbs06
  have hz29 : w28.heap.size ≤ w29.heap.size := he29.size
  have hx0_29 : Ext w w29 := hx0_28.trans he29
  clear hx0_28
  have hx2_29 : Ext w2 w29 := hx2_28.trans he29
  clear hx2_28
  refine go ?_
  refine sp (fun h => ?_) (fun _ => ?_)
  · rw [ht29.2 ⟨rfl, rfl, rfl⟩] at h; cases h
  refine go ?_
  refine c_if (fun h => ?_) (fun _ => ?_)
  · exact absurd rfl h
  replace mog0 := mog0.wr ((((((((((((Wrt.ofExt (B := fun b => b < w16.heap.size ∨ w17.heap.size ≤ b) he18).trans (Wrt.one (B := fun b => b < w16.heap.size ∨ w17.heap.size ≤ b) (by omega) hch19)).trans (Wrt.ofExt (B := fun b => b < w16.heap.size ∨ w17.heap.size ≤ b) he20)).trans (Wrt.ofExt (B := fun b => b < w16.heap.size ∨ w17.heap.size ≤ b) he21)).trans (Wrt.ofExt (B := fun b => b < w16.heap.size ∨ w17.heap.size ≤ b) he22)).trans (Wrt.ofExt (B := fun b => b < w16.heap.size ∨ w17.heap.size ≤ b) he23)).trans (Wrt.ofExt (B := fun b => b < w16.heap.size ∨ w17.heap.size ≤ b) he24)).trans (Wrt.ofExt (B := fun b => b < w16.heap.size ∨ w17.heap.size ≤ b) he25)).trans (Wrt.ofExt (B := fun b => b < w16.heap.size ∨ w17.heap.size ≤ b) he26)).trans (Wrt.mono (B' := fun b => b < w16.heap.size ∨ w17.heap.size ≤ b) hW27 (fun b hb => by omega))).trans (Wrt.mono (B' := fun b => b < w16.heap.size ∨ w17.heap.size ≤ b) hW28 (fun b hb => by omega))).trans (Wrt.ofExt (B := fun b => b < w16.heap.size ∨ w17.heap.size ≤ b) he29)) (fun b hb => hb)
  replace hBbg0 := hBbg0.wr (Wrt.ofExt (B := fun b => b ≠ bg0) he29) (by omega)
  obtain ⟨cbg00, cbg01, cbg02, cbg03, cbg04, cbg05, cbg06⟩ := hBbg0.cells7
  refine go ?_
  have htg0 : tot (rsg0.map (·.2)) = tot rs0.2.2 := by rw [← hrsg0]
  refine rc (markHomR_ok (k := (1 : Int)) mog0 ?_ ?_ ?_) (next := fun v30 w30 hq30 => ?_)
  · omega
  · omega
  · rw [htg0]; omega
  obtain ⟨rfl, hW30, hK30⟩ := hq30
  rw [htg0]
  rw [← hrsg0] at hK30
  clear cbg00 cbg01 cbg02 cbg03 cbg04 cbg05 cbg06
  have hz30 : w29.heap.size ≤ w30.heap.size := hW30.size
  have hx0_30 : Ext w w30 := hW30.ext hx0_29 (fun b hb => by omega)
  clear hx0_29
  have hx2_30 : Ext w2 w30 := hW30.ext hx2_29 (fun b hb => by omega)
  clear hx2_29
  clear mog0 mg0R
  replace hBbg0 := hBbg0.wr (Wrt.mono (B' := fun b => b ≠ bg0) hW30 (fun b hb => by omega)) (by omega)
  obtain ⟨cbg00, cbg01, cbg02, cbg03, cbg04, cbg05, cbg06⟩ := hBbg0.cells7
  refine go ?_
  refine rc (heldHom_ok (k := (1 : Int)) (p := rs0.1) (q := rs0.2.1) (xss := rs0.2.2) rfl rfl rfl ?_ ?_) (next := fun v31 w31 hq31 => ?_)
  · omega
  · omega
  obtain ⟨rfl, he31⟩ := hq31
  clear cbg00 cbg01 cbg02 cbg03 cbg04 cbg05 cbg06
  have hz31 : w30.heap.size ≤ w31.heap.size := he31.size
  have hx0_31 : Ext w w31 := hx0_30.trans he31
  clear hx0_30
  have hx2_31 : Ext w2 w31 := hx2_30.trans he31
  clear hx2_30
  refine go ?_
  refine c_if (fun h => ?_) (fun _ => ?_)
  · omega
  refine go ?_
  refine c_if (fun h => ?_) (fun _ => ?_)
  · exact absurd rfl h
  refine go ?_
  refine d_post (fun ρ' w' => ∃ yh00 yh01 yh02 yh03 yh04 yh05 yh06 bh0 rh0 rh1, Has ρ' [(6, .pointer (some ⟨bs0, 0, none⟩)), (7, .int .i64 rs1), (10, .pointer (some ⟨bg0, 0, none⟩)), (13, .int .i64 ((1 : Int) + totP rs0.1 + totP rs0.2.1 + tot rs0.2.2)), (15, .pointer (some ⟨bh0, 0, none⟩)), (16, .int .i64 rh1)] ∧ Ext w31 w' ∧ Ans (HomP p0 q0 xss0 ∧ HomP p1 q1 xss1) (HcV p0 q0 xss0 p1 q1 xss1) noH rh0 rh1 ∧ Blk w' bh0 [yh00, yh01, yh02, yh03, yh04, yh05, yh06] ∧ HomV w31.heap.size w'.heap.size w' (.agg #[yh00, yh01, yh02, yh03, yh04, yh05, yh06]) rh0.1 rh0.2.1 rh0.2.2 ∧ w31.heap.size ≤ bh0 ∧ bh0 < w'.heap.size) ?_ ?_
  · refine d_order [0, 2, 1, 3, 4, 5, 6, 7, 8, 9, 10] (h := fun w37 he37 hs37 => ?_)
    have hz37 := he37.size
    refine dgo ?_
    refine dt_fork (π' := [0, 2, 8, 1, 3, 4, 5, 6, 7, 9, 10]) (by decide) rfl rfl (by decide +kernel) ?_ ?_
    · skip
      refine ds_call (toHom_ok (p := p0) (q := q0) (xss := xss0) hs0 hsq0 hxl0 hxr0) (next := fun v38 w38 hq38 => ?_)
      obtain ⟨he38, rr38, hrr38, hF38⟩ := hq38
      have hz38 := he38.size
      have hR38 := hF38.hom
      rw [← hrr38] at hR38
      clear hF38
      refine dt_fork (π' := [0, 2, 1, 8, 3, 4, 5, 6, 7, 9, 10]) (by decide) rfl rfl (by decide +kernel) ?_ ?_
      · skip
        refine ds_call (toHom_ok (p := p1) (q := q1) (xss := xss1) hs1 hsq1 hxl1 hxr1) (next := fun v39 w39 hq39 => ?_)
        obtain ⟨he39, rr39, hrr39, hF39⟩ := hq39
        have hz39 := he39.size
        have hR39 := hF39.hom
        rw [← hrr39] at hR39
        clear hF39
        refine dt_fork (π' := [0, 2, 1, 3, 8, 4, 5, 6, 7, 9, 10]) (by decide) rfl rfl (by decide +kernel) ?_ ?_
        · skip
          refine ds_call (impl_ComposeHoms_ok (p := p0) (q := q0) (xss := xss0) (p' := p1) (q' := q1) (yss := xss1) (by omega) (by omega) (by omega) (by omega) (by omega) (by omega)) (hR := by rintro _ _ ⟨_, _, _, rfl, _, h, _⟩; exact h) (next := fun v40 w40 hq40 => ?_)
          obtain ⟨uh0, rh0, rh1, rfl, hah, he40, rsh0, hrsh0, moh0⟩ := hq40
          have hz40 := he40.size
          have mh0 := moh0.hom
          rw [← hrsh0] at mh0
          obtain ⟨yh00, yh01, yh02, yh03, yh04, yh05, yh06, us_, rfl, kS, kT, kI⟩ := mh0.ex
          have oS := kS.one3
          have oT := kT.one3
          have oI := kI.sl.one
          clear kS kT kI
          refine dgo ?_
          refine d_alloc (next := fun w41 bh0 he41 hbh0 hsz41 hbk41 => ?_)
          have hz41 := he41.size
          have hbkL : Blk w41 bh0 _ := @Blk.ext _ _ _ _ (Ext.refl _) hbk41
          refine d_store_agg (vs := [yh00, yh01, yh02, yh03, yh04, yh05, yh06]) (cs := _) hbkL (by omega) rfl rfl (by simp [oS.1, oS.2.1, oS.2.2, oT.1, oT.2.1, oT.2.2, oI]) (next := fun wL hcL hsL hBL => ?_)
          refine dgo ?_
          refine d_end (h := ?_)
          have hmL := (mh0.same (Ext.same (he41) _ _)).same (hcL.same (by omega))
          obtain ⟨z0, z1, z2, z3, z4, z5, z6, zs, ez, m1, m2, m3⟩ := hmL.ex
          refine ⟨rfl, yh00, yh01, yh02, yh03, yh04, yh05, yh06, bh0, rh0, rh1, ?_, hcL.ext (((((he37.trans he38).trans he39).trans he40).trans he41)) (by omega), hah, hBL, ⟨z0, z1, z2, z3, z4, z5, z6, zs, ez, m1.mono (by omega) (by omega), m2.mono (by omega) (by omega), m3.mono (by omega) (by omega)⟩, by omega, by omega⟩
          exact hasP
        · skip
          refine ds_alloc (next := fun w40 bh0 he40 hbh0 hsz40 hbk40 => ?_)
          have hz40 := he40.size
          refine dce (impl_ComposeHoms_ok (p := p0) (q := q0) (xss := xss0) (p' := p1) (q' := q1) (yss := xss1) (by omega) (by omega) (by omega) (by omega) (by omega) (by omega)) (hR := by rintro _ _ ⟨_, _, _, rfl, _, h, _⟩; exact h) (next := fun v41 w41 hq41 => ?_)
          obtain ⟨uh0, rh0, rh1, rfl, hah, he41, rsh0, hrsh0, moh0⟩ := hq41
          have hz41 := he41.size
          have mh0 := moh0.hom
          rw [← hrsh0] at mh0
          obtain ⟨yh00, yh01, yh02, yh03, yh04, yh05, yh06, us_, rfl, kS, kT, kI⟩ := mh0.ex
          have oS := kS.one3
          have oT := kT.one3
          have oI := kI.sl.one
          clear kS kT kI
          refine dgo ?_
          have hbkL : Blk w41 bh0 _ := @Blk.ext _ _ _ _ (he41) hbk40
          refine d_store_agg (vs := [yh00, yh01, yh02, yh03, yh04, yh05, yh06]) (cs := _) hbkL (by omega) rfl rfl (by simp [oS.1, oS.2.1, oS.2.2, oT.1, oT.2.1, oT.2.2, oI]) (next := fun wL hcL hsL hBL => ?_)
          refine dgo ?_
          refine d_end (h := ?_)
          have hmL := (mh0.same (Ext.same (Ext.refl _) _ _)).same (hcL.same (by omega))
          obtain ⟨z0, z1, z2, z3, z4, z5, z6, zs, ez, m1, m2, m3⟩ := hmL.ex
          refine ⟨rfl, yh00, yh01, yh02, yh03, yh04, yh05, yh06, bh0, rh0, rh1, ?_, hcL.ext (((((he37.trans he38).trans he39).trans he40).trans he41)) (by omega), hah, hBL, ⟨z0, z1, z2, z3, z4, z5, z6, zs, ez, m1.mono (by omega) (by omega), m2.mono (by omega) (by omega), m3.mono (by omega) (by omega)⟩, by omega, by omega⟩
          exact hasP
      · skip
        refine ds_alloc (next := fun w39 bh0 he39 hbh0 hsz39 hbk39 => ?_)
        have hz39 := he39.size
        refine dce (toHom_ok (p := p1) (q := q1) (xss := xss1) hs1 hsq1 hxl1 hxr1) (next := fun v40 w40 hq40 => ?_)
        obtain ⟨he40, rr40, hrr40, hF40⟩ := hq40
        have hz40 := he40.size
        have hR40 := hF40.hom
        rw [← hrr40] at hR40
        clear hF40
        refine dce (impl_ComposeHoms_ok (p := p0) (q := q0) (xss := xss0) (p' := p1) (q' := q1) (yss := xss1) (by omega) (by omega) (by omega) (by omega) (by omega) (by omega)) (hR := by rintro _ _ ⟨_, _, _, rfl, _, h, _⟩; exact h) (next := fun v41 w41 hq41 => ?_)
        obtain ⟨uh0, rh0, rh1, rfl, hah, he41, rsh0, hrsh0, moh0⟩ := hq41
        have hz41 := he41.size
        have mh0 := moh0.hom
        rw [← hrsh0] at mh0
        obtain ⟨yh00, yh01, yh02, yh03, yh04, yh05, yh06, us_, rfl, kS, kT, kI⟩ := mh0.ex
        have oS := kS.one3
        have oT := kT.one3
        have oI := kI.sl.one
        clear kS kT kI
        refine dgo ?_
        have hbkL : Blk w41 bh0 _ := @Blk.ext _ _ _ _ ((he40.trans he41)) hbk39
        refine d_store_agg (vs := [yh00, yh01, yh02, yh03, yh04, yh05, yh06]) (cs := _) hbkL (by omega) rfl rfl (by simp [oS.1, oS.2.1, oS.2.2, oT.1, oT.2.1, oT.2.2, oI]) (next := fun wL hcL hsL hBL => ?_)
        refine dgo ?_
        refine d_end (h := ?_)
        have hmL := (mh0.same (Ext.same (Ext.refl _) _ _)).same (hcL.same (by omega))
        obtain ⟨z0, z1, z2, z3, z4, z5, z6, zs, ez, m1, m2, m3⟩ := hmL.ex
        refine ⟨rfl, yh00, yh01, yh02, yh03, yh04, yh05, yh06, bh0, rh0, rh1, ?_, hcL.ext (((((he37.trans he38).trans he39).trans he40).trans he41)) (by omega), hah, hBL, ⟨z0, z1, z2, z3, z4, z5, z6, zs, ez, m1.mono (by omega) (by omega), m2.mono (by omega) (by omega), m3.mono (by omega) (by omega)⟩, by omega, by omega⟩
        exact hasP
    · skip
      refine ds_alloc (next := fun w38 bh0 he38 hbh0 hsz38 hbk38 => ?_)
      have hz38 := he38.size
      refine dce (toHom_ok (p := p0) (q := q0) (xss := xss0) hs0 hsq0 hxl0 hxr0) (next := fun v39 w39 hq39 => ?_)
      obtain ⟨he39, rr39, hrr39, hF39⟩ := hq39
      have hz39 := he39.size
      have hR39 := hF39.hom
      rw [← hrr39] at hR39
      clear hF39
      refine dce (toHom_ok (p := p1) (q := q1) (xss := xss1) hs1 hsq1 hxl1 hxr1) (next := fun v40 w40 hq40 => ?_)
      obtain ⟨he40, rr40, hrr40, hF40⟩ := hq40
      have hz40 := he40.size
      have hR40 := hF40.hom
      rw [← hrr40] at hR40
      clear hF40
      refine dce (impl_ComposeHoms_ok (p := p0) (q := q0) (xss := xss0) (p' := p1) (q' := q1) (yss := xss1) (by omega) (by omega) (by omega) (by omega) (by omega) (by omega)) (hR := by rintro _ _ ⟨_, _, _, rfl, _, h, _⟩; exact h) (next := fun v41 w41 hq41 => ?_)
      obtain ⟨uh0, rh0, rh1, rfl, hah, he41, rsh0, hrsh0, moh0⟩ := hq41
      have hz41 := he41.size
      have mh0 := moh0.hom
      rw [← hrsh0] at mh0
      obtain ⟨yh00, yh01, yh02, yh03, yh04, yh05, yh06, us_, rfl, kS, kT, kI⟩ := mh0.ex
      have oS := kS.one3
      have oT := kT.one3
      have oI := kI.sl.one
      clear kS kT kI
      refine dgo ?_
      have hbkL : Blk w41 bh0 _ := @Blk.ext _ _ _ _ (((he39.trans he40).trans he41)) hbk38
      refine d_store_agg (vs := [yh00, yh01, yh02, yh03, yh04, yh05, yh06]) (cs := _) hbkL (by omega) rfl rfl (by simp [oS.1, oS.2.1, oS.2.2, oT.1, oT.2.1, oT.2.2, oI]) (next := fun wL hcL hsL hBL => ?_)
      refine dgo ?_
      refine d_end (h := ?_)
      have hmL := (mh0.same (Ext.same (Ext.refl _) _ _)).same (hcL.same (by omega))
      obtain ⟨z0, z1, z2, z3, z4, z5, z6, zs, ez, m1, m2, m3⟩ := hmL.ex
      refine ⟨rfl, yh00, yh01, yh02, yh03, yh04, yh05, yh06, bh0, rh0, rh1, ?_, hcL.ext (((((he37.trans he38).trans he39).trans he40).trans he41)) (by omega), hah, hBL, ⟨z0, z1, z2, z3, z4, z5, z6, zs, ez, m1.mono (by omega) (by omega), m2.mono (by omega) (by omega), m3.mono (by omega) (by omega)⟩, by omega, by omega⟩
      exact hasP
  rintro ρ' w36 ⟨yh00, yh01, yh02, yh03, yh04, yh05, yh06, bh0, rh0, rh1, hH, he36, hah, hBbh0, mh0R, hbh1, hbh2⟩
  refine thn_normal (rwp_has hH fun ρ0 => ?_)
  have he32 : Ext w31 w31 := Ext.refl _
  have he33 : Ext w31 w31 := Ext.refl _
  have he34 : Ext w31 w31 := Ext.refl _
  have he35 : Ext w31 w31 := Ext.refl _
  have hz36 : w31.heap.size ≤ w36.heap.size := he36.size
  have hx0_36 : Ext w w36 := hx0_31.trans he36
  clear hx0_31
  have hx2_36 : Ext w2 w36 := hx2_31.trans he36
  clear hx2_31
  obtain ⟨rfl, rfl⟩ : rs0 = rh0 ∧ rs1 = rh1 := has.same hah fun _ => HcV.uniq
  replace ms0 := ms0.same (((((((((Wrt.ofExt (B := fun b => b < w4.heap.size ∨ w10.heap.size ≤ b) he29).trans (Wrt.mono (B' := fun b => b < w4.heap.size ∨ w10.heap.size ≤ b) hW30 (fun b hb => by omega))).trans (Wrt.ofExt (B := fun b => b < w4.heap.size ∨ w10.heap.size ≤ b) he31)).trans (Wrt.ofExt (B := fun b => b < w4.heap.size ∨ w10.heap.size ≤ b) he32)).trans (Wrt.ofExt (B := fun b => b < w4.heap.size ∨ w10.heap.size ≤ b) he33)).trans (Wrt.ofExt (B := fun b => b < w4.heap.size ∨ w10.heap.size ≤ b) he34)).trans (Wrt.ofExt (B := fun b => b < w4.heap.size ∨ w10.heap.size ≤ b) he35)).trans (Wrt.ofExt (B := fun b => b < w4.heap.size ∨ w10.heap.size ≤ b) he36)).same (fun b hb => hb))
  obtain ⟨cbh00, cbh01, cbh02, cbh03, cbh04, cbh05, cbh06⟩ := hBbh0.cells7
  replace hBbs0 := hBbs0.wr ((((((((Wrt.ofExt (B := fun b => b ≠ bs0) he29).trans (Wrt.mono (B' := fun b => b ≠ bs0) hW30 (fun b hb => by omega))).trans (Wrt.ofExt (B := fun b => b ≠ bs0) he31)).trans (Wrt.ofExt (B := fun b => b ≠ bs0) he32)).trans (Wrt.ofExt (B := fun b => b ≠ bs0) he33)).trans (Wrt.ofExt (B := fun b => b ≠ bs0) he34)).trans (Wrt.ofExt (B := fun b => b ≠ bs0) he35)).trans (Wrt.ofExt (B := fun b => b ≠ bs0) he36)) (by omega)
  obtain ⟨cbs00, cbs01, cbs02, cbs03, cbs04, cbs05, cbs06⟩ := hBbs0.cells7
  refine go ?_
  refine rc (eqHom_ok (p := rs0.1) (q := rs0.2.1) (p' := rs0.1) (q' := rs0.2.1) (xss := rs0.2.2) (yss := rs0.2.2) hrx0.1 hrx0.2.1 hrx0.2.2.1 hrx0.2.2.2) (next := fun v37 w37 hq37 => ?_)
  obtain ⟨t37, rfl, ht37, he37⟩ := hq37
  clear cbh00 cbh01 cbh02 cbh03 cbh04 cbh05 cbh06 cbs00 cbs01 cbs02 cbs03 cbs04 cbs05 cbs06
  have hz37 : w36.heap.size ≤ w37.heap.size := he37.size
  have hx0_37 : Ext w w37 := hx0_36.trans he37
  clear hx0_36
  have hx2_37 : Ext w2 w37 := hx2_36.trans he37
  clear hx2_36
  refine go ?_
  refine sp (fun h => ?_) (fun _ => ?_)
  · rw [ht37.2 ⟨rfl, rfl, rfl⟩] at h; cases h
  refine go ?_
  refine c_if (fun h => ?_) (fun _ => ?_)
  · exact absurd rfl h
  replace hK30 := hK30.same ((((((((Wrt.ofExt (B := fun b => b < 0 ∨ w30.heap.size ≤ b) he31).trans (Wrt.ofExt (B := fun b => b < 0 ∨ w30.heap.size ≤ b) he32)).trans (Wrt.ofExt (B := fun b => b < 0 ∨ w30.heap.size ≤ b) he33)).trans (Wrt.ofExt (B := fun b => b < 0 ∨ w30.heap.size ≤ b) he34)).trans (Wrt.ofExt (B := fun b => b < 0 ∨ w30.heap.size ≤ b) he35)).trans (Wrt.ofExt (B := fun b => b < 0 ∨ w30.heap.size ≤ b) he36)).trans (Wrt.ofExt (B := fun b => b < 0 ∨ w30.heap.size ≤ b) he37)).same (fun b hb => hb))
  replace hBbg0 := hBbg0.wr (((((((Wrt.ofExt (B := fun b => b ≠ bg0) he31).trans (Wrt.ofExt (B := fun b => b ≠ bg0) he32)).trans (Wrt.ofExt (B := fun b => b ≠ bg0) he33)).trans (Wrt.ofExt (B := fun b => b ≠ bg0) he34)).trans (Wrt.ofExt (B := fun b => b ≠ bg0) he35)).trans (Wrt.ofExt (B := fun b => b ≠ bg0) he36)).trans (Wrt.ofExt (B := fun b => b ≠ bg0) he37)) (by omega)
  obtain ⟨cbg00, cbg01, cbg02, cbg03, cbg04, cbg05, cbg06⟩ := hBbg0.cells7
  refine go ?_
  refine rc (heldHom_ok (k := (1 : Int)) (p := rs0.1) (q := rs0.2.1) (xss := rs0.2.2) rfl rfl rfl ?_ ?_) (next := fun v38 w38 hq38 => ?_)
  · omega
  · omega
  obtain ⟨rfl, he38⟩ := hq38
  clear cbg00 cbg01 cbg02 cbg03 cbg04 cbg05 cbg06
  have hz38 : w37.heap.size ≤ w38.heap.size := he38.size
  have hx0_38 : Ext w w38 := hx0_37.trans he38
  clear hx0_37
  have hx2_38 : Ext w2 w38 := hx2_37.trans he38
  clear hx2_37
  refine go ?_
  refine c_if (fun h => ?_) (fun _ => ?_)
  · omega
  refine go ?_
  refine c_if (fun h => ?_) (fun _ => ?_)
  · exact absurd rfl h
  refine go ?_
  exact ret1 ⟨rfl, hx0_38⟩
end Go.Proofs.YtnphljflkpekmaaGreat
