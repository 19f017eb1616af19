/-
  Walk: the statement FnExactConjugacyClass: it returns true.
  Conditions: what the arguments read as.
-/
import Derived.Test.YtjljbfcdpdckeaaB5
set_option linter.unusedVariables false
set_option linter.unusedSimpArgs false
set_option linter.unusedSectionVars false
set_option linter.constructorNameAsVariable false
set_option linter.unnecessarySimpa false
set_option linter.deprecated false
/-
  Walk: the statement FnExactConjugacyClass: it returns true.
  Conditions: what the arguments read as.
-/
namespace Go.Proofs.Ytjljbfcdpdckeaa
open Go Go.Pc
set_option maxHeartbeats 4000000 in
theorem lwConjugacyClass_ok {w : World} {p0 : Pr} {a0 : Value} {lo0 hi0 : Nat} {a1 : Value} {xs1 : List Int} {lo1 hi1 : Nat} [hp0 : Pres lo0 hi0 w a0 p0] [hp1 : Ints lo1 hi1 w a1 xs1] :
    Calls Try.prog 10 #[a0, a1] w (Ret fun v w' => v = .bool true ∧ Ext w w') := by
  obtain ⟨vo0, vpw0, vc0, ps0, cs0, css0, rfl, pa0, pb0, pc0⟩ := hp0.ex
  refine enter (args := [.agg #[vo0, vpw0, vc0], a1]) (l := [.tmp 4]) Try.func10 rfl rfl Try.ntmps10 (by simp) ?_
  refine go ?_
  refine st_box3 (by ((try simp only [ev_tmp, ev_const, ev_func, get_put, get_args, get_putL, get_putL_nil, Nat.reduceEqDiff, reduceIte, List.getD_cons_zero, List.getD_cons_succ, List.getD_nil]); first | done | with_reducible rfl)) (by first | exact True.intro | exact ⟨_, rfl, by ((try simp only [ev_tmp, ev_const, ev_func, get_put, get_args, get_putL, get_putL_nil, Nat.reduceEqDiff, reduceIte, List.getD_cons_zero, List.getD_cons_succ, List.getD_nil, Bool.not_true, Bool.not_false]); first | done | with_reducible rfl)⟩) fun w1 b0 he1 hb0 hsz1 hca0 hcb0 hcc0 => ?_
  have hz1 : w.heap.size ≤ w1.heap.size := he1.size
  have hx0_1 : Ext w w1 := he1
  replace pa0 := (pa0.same (Ext.same hx0_1 _ _)).wide
  replace pb0 := (pb0.same (Ext.same hx0_1 _ _)).wide
  replace pc0 := (pc0.same (Ext.same hx0_1 _ _)).wide
  replace hp0 := (hp0.same (Ext.same hx0_1 _ _)).wide
  replace hp1 := (hp1.same (Ext.same hx0_1 _ _)).wide
  refine go ?_
  refine c_if (fun hl1 => ?_) (fun hl1 => ?_)
  · refine go ?_
    exact ret1 ⟨rfl, hx0_1⟩
  refine go ?_
  refine rc (szPresentation_ok (p := p0) (k := (1048576 : Int)) (by omega)) (next := fun v2 w2 hq2 => ?_)
  obtain ⟨j2, rfl, hj2, he2⟩ := hq2
  have hz2 : w1.heap.size ≤ w2.heap.size := he2.size
  have hx0_2 : Ext w w2 := hx0_1.trans he2
  clear hx0_1
  have hx1_2 : Ext w1 w2 := he2
  refine go ?_
  refine c_if (fun hl102 => ?_) (fun hl102 => ?_)
  · refine go ?_
    exact ret1 ⟨rfl, hx0_2⟩
  obtain ⟨hja2, hjb2, hS0⟩ : 0 ≤ j2 ∧ j2 ≤ (1048576 : Int) ∧ SizeP p0 ((1048576 : Int)) := by
    rcases hj2 with h | h
    · omega
    · exact h
  have hs0 : SizeP p0 2000000 := hS0.mono (by omega)
  have hS0_ : SizeP p0 1048576 := hS0.mono (by omega)
  have hol0 := hs0.ord
  have htp0 := totP_le hS0_
  have hxl1 : xs1.length ≤ 2000000 := by omega
  refine go ?_
  refine rc (toPresentation_ok (p := p0) hs0) (next := fun v3 w3 hq3 => ?_)
  obtain ⟨he3, hF3⟩ := hq3
  have hz3 : w2.heap.size ≤ w3.heap.size := he3.size
  have hx0_3 : Ext w w3 := hx0_2.trans he3
  clear hx0_2
  have hx1_3 : Ext w1 w3 := hx1_2.trans he3
  clear hx1_2
  have hR3 := hF3
  refine go ?_
  refine rc (toInt64S_ok (xs := xs1) hxl1) (next := fun v4 w4 hq4 => ?_)
  obtain ⟨he4, hFr4⟩ := hq4
  have hz4 : w3.heap.size ≤ w4.heap.size := he4.size
  have hx0_4 : Ext w w4 := hx0_3.trans he4
  clear hx0_3
  have hx1_4 : Ext w1 w4 := hx1_3.trans he4
  clear hx1_3
  have hF4 := VecO.ofFr hFr4
  have hR4 := hF4.ints
  clear hFr4
  clear hF4
  replace hR3 := hR3.same ((Wrt.ofExt (B := fun b => b < w2.heap.size ∨ w3.heap.size ≤ b) he4).same (fun b hb => hb))
  refine go ?_
  refine rc (spec_ConjugacyClass_ok (p := p0) (xs := xs1) (by omega)) (next := fun v5 w5 hq5 => ?_)
  obtain ⟨us0, rs0, rs1, rfl, has, he5, ms0⟩ := hq5
  have hz5 : w4.heap.size ≤ w5.heap.size := he5.size
  have hx0_5 : Ext w w5 := hx0_4.trans he5
  clear hx0_4
  have hx1_5 : Ext w1 w5 := hx1_4.trans he5
  clear hx1_4
  obtain ⟨uss0, ms0⟩ := ms0
  clear hR3
  clear hR4
  refine go ?_
  refine rc (toPresentationO_ok (p := p0) hs0) (next := fun v6 w6 hq6 => ?_)
  obtain ⟨he6, hF6⟩ := hq6
  have hz6 : w5.heap.size ≤ w6.heap.size := he6.size
  have hx0_6 : Ext w w6 := hx0_5.trans he6
  clear hx0_5
  have hx1_6 : Ext w1 w6 := hx1_5.trans he6
  clear hx1_5
  have hR6 := hF6.pres
  refine go ?_
  refine st_alloc (by first | exact True.intro | exact ⟨_, rfl, by ((try simp only [ev_tmp, ev_const, ev_func, get_put, get_args, get_putL, get_putL_nil, Nat.reduceEqDiff, reduceIte, List.getD_cons_zero, List.getD_cons_succ, List.getD_nil, Bool.not_true, Bool.not_false]); first | done | with_reducible rfl)⟩) fun w7 bx0 he7 hbx0 hsza0 hbk0 => ?_
  have hz7 : w6.heap.size ≤ w7.heap.size := he7.size
  have hx0_7 : Ext w w7 := hx0_6.trans he7
  clear hx0_6
  have hx1_7 : Ext w1 w7 := hx1_6.trans he7
  clear hx1_6
  replace hR6 := hR6.same ((Wrt.ofExt (B := fun b => b < w5.heap.size ∨ w6.heap.size ≤ b) he7).same (fun b hb => hb))
  obtain ⟨xo0, xp0, xc0, psx0, csx0, cssx0, rfl, ka0, kb0, kc0⟩ := hR6.ex
  refine go ?_
  refine st_store_agg (vs := [xo0, xp0, xc0]) (cs := _) (by ((try simp only [ev_tmp, ev_const, ev_func, get_put, get_args, get_putL, get_putL_nil, Nat.reduceEqDiff, reduceIte, List.getD_cons_zero, List.getD_cons_succ, List.getD_nil]); first | done | with_reducible rfl)) (by ((try simp only [ev_tmp, ev_const, ev_func, get_put, get_args, get_putL, get_putL_nil, Nat.reduceEqDiff, reduceIte, List.getD_cons_zero, List.getD_cons_succ, List.getD_nil]); first | done | with_reducible rfl)) rfl ?_ ?_ (by first | exact True.intro | exact ⟨_, rfl, by ((try simp only [ev_tmp, ev_const, ev_func, get_put, get_args, get_putL, get_putL_nil, Nat.reduceEqDiff, reduceIte, List.getD_cons_zero, List.getD_cons_succ, List.getD_nil, Bool.not_true, Bool.not_false]); first | done | with_reducible rfl)⟩) fun w8 hch8 hss8 hBk0 => ?_
  · rfl
  · have e1 := ka0.sl.one
    have e2 := kb0.sl.one
    have e3 := kc0.sl.one
    simp [e1, e2, e3]
  clear ka0 kb0 kc0 hbk0
  have hz8 : w7.heap.size ≤ w8.heap.size := hch8.size
  have hx0_8 : Ext w w8 := hch8.ext hx0_7 (by omega)
  clear hx0_7
  have hx1_8 : Ext w1 w8 := hch8.ext hx1_7 (by omega)
  clear hx1_7
  refine go ?_
  refine rc (toInt64S_ok (xs := xs1) hxl1) (next := fun v9 w9 hq9 => ?_)
  obtain ⟨he9, hFr9⟩ := hq9
  have hz9 : w8.heap.size ≤ w9.heap.size := he9.size
  have hx0_9 : Ext w w9 := hx0_8.trans he9
  clear hx0_8
  have hx1_9 : Ext w1 w9 := hx1_8.trans he9
  clear hx1_8
  have hF9 := VecO.ofFr hFr9
  have hR9 := hF9.ints
  clear hFr9
  replace hR6 := hR6.same (((Wrt.one (B := fun b => b < w5.heap.size ∨ w6.heap.size ≤ b) (by omega) hch8).trans (Wrt.ofExt (B := fun b => b < w5.heap.size ∨ w6.heap.size ≤ b) he9)).same (fun b hb => hb))
  replace hBk0 := hBk0.wr (Wrt.ofExt (B := fun b => b ≠ bx0) he9) (by omega)
  refine go ?_
  refine ra (v := .agg #[xo0, xp0, xc0]) (h := rd_load_blk (hb := hBk0) (by ((try simp only [ev_tmp, ev_const, ev_func, get_put, get_args, get_putL, get_putL_nil, Nat.reduceEqDiff, reduceIte, List.getD_cons_zero, List.getD_cons_succ, List.getD_nil]); first | done | with_reducible rfl)) rfl) (next := ?_)
  refine go ?_
  refine rc (impl_ConjugacyClass_ok (p := p0) (xs := xs1) (by omega)) (next := fun v10 w10 hq10 => ?_)
  obtain ⟨ug0, rg0, rg1, rfl, hag, he10, mg0⟩ := hq10
  have hz10 : w9.heap.size ≤ w10.heap.size := he10.size
  have hx0_10 : Ext w w10 := hx0_9.trans he10
  clear hx0_9
  have hx1_10 : Ext w1 w10 := hx1_9.trans he10
  clear hx1_9
  obtain ⟨rsg0, hrsg0, mog0⟩ := mg0
  have mg0R := mog0.rows
  rw [← hrsg0] at mg0R
  obtain ⟨rfl, rfl⟩ : rs0 = rg0 ∧ rs1 = rg1 := has.same hag fun _ => CcV.uniq
  have hrl0 : rs0.length ≤ 2000000 ∧ ∀ i, (rs0.getD i []).length ≤ 2000000 := ConjugacyClass_sz0 (p := p0) (xs := xs1) (by omega) has
  have hrx0 := hrl0.2
  have hrt0 := tot_rows_le hrl0.1 hrl0.2
  replace ms0 := ms0.same ((((((Wrt.ofExt (B := fun b => b < w4.heap.size ∨ w5.heap.size ≤ b) he6).trans (Wrt.ofExt (B := fun b => b < w4.heap.size ∨ w5.heap.size ≤ b) he7)).trans (Wrt.one (B := fun b => b < w4.heap.size ∨ w5.heap.size ≤ b) (by omega) hch8)).trans (Wrt.ofExt (B := fun b => b < w4.heap.size ∨ w5.heap.size ≤ b) he9)).trans (Wrt.ofExt (B := fun b => b < w4.heap.size ∨ w5.heap.size ≤ b) he10)).same (fun b hb => hb))
  refine go ?_
  refine rc (eqInt64SS_ok (xss := rs0) (yss := rs0) hrx0 (by omega)) (next := fun v11 w11 hq11 => ?_)
  obtain ⟨t11, rfl, ht11, he11⟩ := hq11
  have hz11 : w10.heap.size ≤ w11.heap.size := he11.size
  have hx0_11 : Ext w w11 := hx0_10.trans he11
  clear hx0_10
  have hx1_11 : Ext w1 w11 := hx1_10.trans he11
  clear hx1_10
  refine go ?_
  refine sp (fun h => ?_) (fun _ => ?_)
  · rw [ht11.2 rfl] at h; cases h
  refine go ?_
  refine c_if (fun h => ?_) (fun _ => ?_)
  · exact absurd rfl h
  refine go ?_
  replace hBk0 := hBk0.wr ((Wrt.ofExt (B := fun b => b ≠ bx0) he10).trans (Wrt.ofExt (B := fun b => b ≠ bx0) he11)) (by omega)
  refine d_region fun w12 he12 _ => ?_
  have hz12 : w11.heap.size ≤ w12.heap.size := he12.size
  have hx0_12 : Ext w w12 := hx0_11.trans he12
  clear hx0_11
  have hx1_12 : Ext w1 w12 := hx1_11.trans he12
  clear hx1_11
  replace hBk0 := hBk0.wr (Wrt.ofExt (B := fun b => b ≠ bx0) he12) (by omega)
  have hxa0 : Cell w12 bx0 0 xo0 := hBk0.cell rfl
  have hxb0 : Cell w12 bx0 1 xp0 := hBk0.cell rfl
  have hxc0 : Cell w12 bx0 2 xc0 := hBk0.cell rfl
  refine dgo ?_
  refine dce (toPresentation_ok (p := p0) hs0) (next := fun v13 w13 hq13 => ?_)
  obtain ⟨he13, hF13⟩ := hq13
  have hz13 : w12.heap.size ≤ w13.heap.size := he13.size
  have hx0_13 : Ext w w13 := hx0_12.trans he13
  clear hx0_12
  have hx1_13 : Ext w1 w13 := hx1_12.trans he13
  clear hx1_12
  have hR13 := hF13
  clear hxa0 hxb0 hxc0
  replace hR6 := hR6.same (((((Wrt.ofExt (B := fun b => b < w5.heap.size ∨ w6.heap.size ≤ b) he10).trans (Wrt.ofExt (B := fun b => b < w5.heap.size ∨ w6.heap.size ≤ b) he11)).trans (Wrt.ofExt (B := fun b => b < w5.heap.size ∨ w6.heap.size ≤ b) he12)).trans (Wrt.ofExt (B := fun b => b < w5.heap.size ∨ w6.heap.size ≤ b) he13)).same (fun b hb => hb))
  refine dce (eqPresentation_ok (p := p0) (q := p0) hs0) (next := fun v14 w14 hq14 => ?_)
  obtain ⟨t14, rfl, ht14, he14⟩ := hq14
  obtain rfl := ht14.2 rfl
  have hz14 : w13.heap.size ≤ w14.heap.size := he14.size
  have hx0_14 : Ext w w14 := hx0_13.trans he14
  clear hx0_13
  have hx1_14 : Ext w1 w14 := hx1_13.trans he14
  clear hx1_13
  clear hR13
  refine dgo ?_
  refine d_end (h := ?_)
  refine go ?_
  refine c_b (fun h => ?_) (fun _ => ?_)
  · cases h
  refine go ?_
  refine rc (toInt64S_ok (xs := xs1) hxl1) (next := fun v15 w15 hq15 => ?_)
  obtain ⟨he15, hFr15⟩ := hq15
  have hz15 : w14.heap.size ≤ w15.heap.size := he15.size
  have hx0_15 : Ext w w15 := hx0_14.trans he15
  clear hx0_14
  have hx1_15 : Ext w1 w15 := hx1_14.trans he15
  clear hx1_14
  have hF15 := VecO.ofFr hFr15
  have hR15 := hF15.ints
  clear hFr15
  clear hF15
  replace hR9 := hR9.same (((((((Wrt.ofExt (B := fun b => b < w8.heap.size ∨ w9.heap.size ≤ b) he10).trans (Wrt.ofExt (B := fun b => b < w8.heap.size ∨ w9.heap.size ≤ b) he11)).trans (Wrt.ofExt (B := fun b => b < w8.heap.size ∨ w9.heap.size ≤ b) he12)).trans (Wrt.ofExt (B := fun b => b < w8.heap.size ∨ w9.heap.size ≤ b) he13)).trans (Wrt.ofExt (B := fun b => b < w8.heap.size ∨ w9.heap.size ≤ b) he14)).trans (Wrt.ofExt (B := fun b => b < w8.heap.size ∨ w9.heap.size ≤ b) he15)).same (fun b hb => hb))
  refine go ?_
  refine rc (eqInt64S_ok (xs := xs1) (ys := xs1) (by omega)) (next := fun v16 w16 hq16 => ?_)
  obtain ⟨t16, rfl, ht16, he16⟩ := hq16
  obtain rfl := ht16.2 rfl
  have hz16 : w15.heap.size ≤ w16.heap.size := he16.size
  have hx0_16 : Ext w w16 := hx0_15.trans he16
  clear hx0_15
  have hx1_16 : Ext w1 w16 := hx1_15.trans he16
  clear hx1_15
  clear hR15
  refine go ?_
  refine c_b (fun h => ?_) (fun _ => ?_)
  · cases h
  replace hF6 := hF6.wr ((((((((((Wrt.ofExt (B := fun b => b < w5.heap.size ∨ w6.heap.size ≤ b) he7).trans (Wrt.one (B := fun b => b < w5.heap.size ∨ w6.heap.size ≤ b) (by omega) hch8)).trans (Wrt.ofExt (B := fun b => b < w5.heap.size ∨ w6.heap.size ≤ b) he9)).trans (Wrt.ofExt (B := fun b => b < w5.heap.size ∨ w6.heap.size ≤ b) he10)).trans (Wrt.ofExt (B := fun b => b < w5.heap.size ∨ w6.heap.size ≤ b) he11)).trans (Wrt.ofExt (B := fun b => b < w5.heap.size ∨ w6.heap.size ≤ b) he12)).trans (Wrt.ofExt (B := fun b => b < w5.heap.size ∨ w6.heap.size ≤ b) he13)).trans (Wrt.ofExt (B := fun b => b < w5.heap.size ∨ w6.heap.size ≤ b) he14)).trans (Wrt.ofExt (B := fun b => b < w5.heap.size ∨ w6.heap.size ≤ b) he15)).trans (Wrt.ofExt (B := fun b => b < w5.heap.size ∨ w6.heap.size ≤ b) he16)) (fun b hb => hb)
  replace hBk0 := hBk0.wr ((((Wrt.ofExt (B := fun b => b ≠ bx0) he13).trans (Wrt.ofExt (B := fun b => b ≠ bx0) he14)).trans (Wrt.ofExt (B := fun b => b ≠ bx0) he15)).trans (Wrt.ofExt (B := fun b => b ≠ bx0) he16)) (by omega)
  refine go ?_
  refine ra (v := .agg #[xo0, xp0, xc0]) (h := rd_load_blk (hb := hBk0) (by ((try simp only [ev_tmp, ev_const, ev_func, get_put, get_args, get_putL, get_putL_nil, Nat.reduceEqDiff, reduceIte, List.getD_cons_zero, List.getD_cons_succ, List.getD_nil]); first | done | with_reducible rfl)) rfl) (next := ?_)
  refine go ?_
  refine rc (markPresentation_ok (k := (1 : Int)) hF6 ?_ ?_) (next := fun v17 w17 hq17 => ?_)
  · omega
  · omega
  obtain ⟨rfl, hW17⟩ := hq17
  have hz17 : w16.heap.size ≤ w17.heap.size := hW17.size
  have hx0_17 : Ext w w17 := hW17.ext hx0_16 (fun b hb => by omega)
  clear hx0_16
  have hx1_17 : Ext w1 w17 := hW17.ext hx1_16 (fun b hb => by omega)
  clear hx1_16
  clear hF6 hR6
  replace hF9 := hF9.wr ((((((((Wrt.ofExt (B := fun b => b < w8.heap.size ∨ w9.heap.size ≤ b) he10).trans (Wrt.ofExt (B := fun b => b < w8.heap.size ∨ w9.heap.size ≤ b) he11)).trans (Wrt.ofExt (B := fun b => b < w8.heap.size ∨ w9.heap.size ≤ b) he12)).trans (Wrt.ofExt (B := fun b => b < w8.heap.size ∨ w9.heap.size ≤ b) he13)).trans (Wrt.ofExt (B := fun b => b < w8.heap.size ∨ w9.heap.size ≤ b) he14)).trans (Wrt.ofExt (B := fun b => b < w8.heap.size ∨ w9.heap.size ≤ b) he15)).trans (Wrt.ofExt (B := fun b => b < w8.heap.size ∨ w9.heap.size ≤ b) he16)).trans (Wrt.mono (B' := fun b => b < w8.heap.size ∨ w9.heap.size ≤ b) hW17 (fun b hb => by omega))) (fun b hb => hb)
  refine go ?_
  refine rc (markInt64S_ok (k := ((1 : Int) + totP p0)) hF9.fr ?_ ?_) (next := fun v18 w18 hq18 => ?_)
  · omega
  · omega
  obtain ⟨rfl, _, hV18⟩ := hq18
  have hW18 : Wrt (fun b => w8.heap.size ≤ b ∧ b < w9.heap.size) w17 w18 := hV18.mono fun b hb => by
    obtain ⟨g, hg1, hg2, _⟩ := hF9.fr.block hb.1
    have hg3 := hF9.lt hb.1 b hb.2
    rw [hb.2] at hg1
    injection hg1 with hg1
    omega
  have hz18 : w17.heap.size ≤ w18.heap.size := hW18.size
  have hx0_18 : Ext w w18 := hW18.ext hx0_17 (fun b hb => by omega)
  clear hx0_17
  have hx1_18 : Ext w1 w18 := hW18.ext hx1_17 (fun b hb => by omega)
  clear hx1_17
  clear hF9 hR9
  refine go ?_
  refine spd (fun h => ?_) (fun _ => ?_)
  · omega
  replace ms0 := ms0.same (((((((((Wrt.ofExt (B := fun b => b < w4.heap.size ∨ w5.heap.size ≤ b) he11).trans (Wrt.ofExt (B := fun b => b < w4.heap.size ∨ w5.heap.size ≤ b) he12)).trans (Wrt.ofExt (B := fun b => b < w4.heap.size ∨ w5.heap.size ≤ b) he13)).trans (Wrt.ofExt (B := fun b => b < w4.heap.size ∨ w5.heap.size ≤ b) he14)).trans (Wrt.ofExt (B := fun b => b < w4.heap.size ∨ w5.heap.size ≤ b) he15)).trans (Wrt.ofExt (B := fun b => b < w4.heap.size ∨ w5.heap.size ≤ b) he16)).trans (Wrt.mono (B' := fun b => b < w4.heap.size ∨ w5.heap.size ≤ b) hW17 (fun b hb => by omega))).trans (Wrt.mono (B' := fun b => b < w4.heap.size ∨ w5.heap.size ≤ b) hW18 (fun b hb => by omega))).same (fun b hb => hb))
  replace mg0R := mg0R.same (((((((((Wrt.ofExt (B := fun b => b < w9.heap.size ∨ w10.heap.size ≤ b) he11).trans (Wrt.ofExt (B := fun b => b < w9.heap.size ∨ w10.heap.size ≤ b) he12)).trans (Wrt.ofExt (B := fun b => b < w9.heap.size ∨ w10.heap.size ≤ b) he13)).trans (Wrt.ofExt (B := fun b => b < w9.heap.size ∨ w10.heap.size ≤ b) he14)).trans (Wrt.ofExt (B := fun b => b < w9.heap.size ∨ w10.heap.size ≤ b) he15)).trans (Wrt.ofExt (B := fun b => b < w9.heap.size ∨ w10.heap.size ≤ b) he16)).trans (Wrt.mono (B' := fun b => b < w9.heap.size ∨ w10.heap.size ≤ b) hW17 (fun b hb => by omega))).trans (Wrt.mono (B' := fun b => b < w9.heap.size ∨ w10.heap.size ≤ b) hW18 (fun b hb => by omega))).same (fun b hb => hb))
  refine go ?_
  refine rc (eqInt64SS_ok (xss := rs0) (yss := rs0) hrx0 (by omega)) (next := fun v19 w19 hq19 => ?_)
  obtain ⟨t19, rfl, ht19, he19⟩ := hq19
  have hz19 : w18.heap.size ≤ w19.heap.size := he19.size
  have hx0_19 : Ext w w19 := hx0_18.trans he19
  clear hx0_18
  have hx1_19 : Ext w1 w19 := hx1_18.trans he19
  clear hx1_18
  refine go ?_
  refine sp (fun h => ?_) (fun _ => ?_)
  · rw [ht19.2 rfl] at h; cases h
  refine go ?_
  refine c_if (fun h => ?_) (fun _ => ?_)
  · exact absurd rfl h
  replace mog0 := mog0.wr (((((((((Wrt.ofExt (B := fun b => b < w9.heap.size ∨ w10.heap.size ≤ b) he11).trans (Wrt.ofExt (B := fun b => b < w9.heap.size ∨ w10.heap.size ≤ b) he12)).trans (Wrt.ofExt (B := fun b => b < w9.heap.size ∨ w10.heap.size ≤ b) he13)).trans (Wrt.ofExt (B := fun b => b < w9.heap.size ∨ w10.heap.size ≤ b) he14)).trans (Wrt.ofExt (B := fun b => b < w9.heap.size ∨ w10.heap.size ≤ b) he15)).trans (Wrt.ofExt (B := fun b => b < w9.heap.size ∨ w10.heap.size ≤ b) he16)).trans (Wrt.mono (B' := fun b => b < w9.heap.size ∨ w10.heap.size ≤ b) hW17 (fun b hb => by omega))).trans (Wrt.mono (B' := fun b => b < w9.heap.size ∨ w10.heap.size ≤ b) hW18 (fun b hb => by omega))).trans (Wrt.ofExt (B := fun b => b < w9.heap.size ∨ w10.heap.size ≤ b) he19)) (fun b hb => hb)
  refine go ?_
  have htg0 : tot (rsg0.map (·.2)) = tot rs0 := by rw [← hrsg0]
  refine rc (markInt64SS_ok (k := (1 : Int)) (pre := []) (post := []) (by simpa using mog0.own) mog0.sp (fun b hb => .inl hb) ?_ ?_) (next := fun v20 w20 hq20 => ?_)
  · omega
  · rw [htg0]; omega
  obtain ⟨rfl, hO20, hV20⟩ := hq20
  rw [htg0]
  have hW20 : Wrt (fun b => w9.heap.size ≤ b ∧ b < w10.heap.size) w19 w20 := hV20.mono fun b hb => ⟨(mog0.own.blk hb).1, mog0.lt b hb⟩
  have hz20 : w19.heap.size ≤ w20.heap.size := hW20.size
  have hx0_20 : Ext w w20 := hW20.ext hx0_19 (fun b hb => by omega)
  clear hx0_19
  have hx1_20 : Ext w1 w20 := hW20.ext hx1_19 (fun b hb => by omega)
  clear hx1_19
  have hK20 : Pc.Rows 0 w20.heap.size w20 ug0 (rsg0.map (·.1)) (markL (1 : Int) rs0) := by
    have hO : RowsO w9.heap.size w20 (mkR (1 : Int) rsg0) := by simpa using hO20
    have h := hO.rows (v := ug0) (by rw [mkR_fst]; exact (mog0.sp.wr hV20 (fun b hb => .inl hb)).sl)
    rw [mkR_fst, mkR_snd, ← hrsg0] at h
    exact h
  clear mog0 mg0R
  refine go ?_
  refine rc (heldInt64SS_ok (k := (1 : Int)) (yss := rs0) (xss := markL (1 : Int) rs0) rfl ?_ ?_) (next := fun v21 w21 hq21 => ?_)
  · omega
  · omega
  obtain ⟨rfl, he21⟩ := hq21
  have hz21 : w20.heap.size ≤ w21.heap.size := he21.size
  have hx0_21 : Ext w w21 := hx0_20.trans he21
  clear hx0_20
  have hx1_21 : Ext w1 w21 := hx1_20.trans he21
  clear hx1_20
  refine go ?_
  refine c_if (fun h => ?_) (fun _ => ?_)
  · omega
  refine go ?_
  refine c_if (fun h => ?_) (fun _ => ?_)
  · exact absurd rfl h
  refine go ?_
  refine rc (toPresentation_ok (p := p0) hs0) (next := fun v22 w22 hq22 => ?_)
  obtain ⟨he22, hF22⟩ := hq22
  have hz22 : w21.heap.size ≤ w22.heap.size := he22.size
  have hx0_22 : Ext w w22 := hx0_21.trans he22
  clear hx0_21
  have hx1_22 : Ext w1 w22 := hx1_21.trans he22
  clear hx1_21
  have hR22 := hF22
  refine go ?_
  refine rc (toInt64S_ok (xs := xs1) hxl1) (next := fun v23 w23 hq23 => ?_)
  obtain ⟨he23, hFr23⟩ := hq23
  have hz23 : w22.heap.size ≤ w23.heap.size := he23.size
  have hx0_23 : Ext w w23 := hx0_22.trans he23
  clear hx0_22
  have hx1_23 : Ext w1 w23 := hx1_22.trans he23
  clear hx1_22
  have hF23 := VecO.ofFr hFr23
  have hR23 := hF23.ints
  clear hFr23
  clear hF23
  replace hR22 := hR22.same ((Wrt.ofExt (B := fun b => b < w21.heap.size ∨ w22.heap.size ≤ b) he23).same (fun b hb => hb))
  refine go ?_
  refine rc (impl_ConjugacyClass_ok (p := p0) (xs := xs1) (by omega)) (next := fun v24 w24 hq24 => ?_)
  obtain ⟨uh0, rh0, rh1, rfl, hah, he24, mh0⟩ := hq24
  have hz24 : w23.heap.size ≤ w24.heap.size := he24.size
  have hx0_24 : Ext w w24 := hx0_23.trans he24
  clear hx0_23
  have hx1_24 : Ext w1 w24 := hx1_23.trans he24
  clear hx1_23
  obtain ⟨rsh0, hrsh0, moh0⟩ := mh0
  have mh0R := moh0.rows
  rw [← hrsh0] at mh0R
  clear hR22
  clear hR23
  obtain ⟨rfl, rfl⟩ : rs0 = rh0 ∧ rs1 = rh1 := has.same hah fun _ => CcV.uniq
  replace ms0 := ms0.same (((((((Wrt.ofExt (B := fun b => b < w4.heap.size ∨ w5.heap.size ≤ b) he19).trans (Wrt.mono (B' := fun b => b < w4.heap.size ∨ w5.heap.size ≤ b) hW20 (fun b hb => by omega))).trans (Wrt.ofExt (B := fun b => b < w4.heap.size ∨ w5.heap.size ≤ b) he21)).trans (Wrt.ofExt (B := fun b => b < w4.heap.size ∨ w5.heap.size ≤ b) he22)).trans (Wrt.ofExt (B := fun b => b < w4.heap.size ∨ w5.heap.size ≤ b) he23)).trans (Wrt.ofExt (B := fun b => b < w4.heap.size ∨ w5.heap.size ≤ b) he24)).same (fun b hb => hb))
  refine go ?_
  refine rc (eqInt64SS_ok (xss := rs0) (yss := rs0) hrx0 (by omega)) (next := fun v25 w25 hq25 => ?_)
  obtain ⟨t25, rfl, ht25, he25⟩ := hq25
  have hz25 : w24.heap.size ≤ w25.heap.size := he25.size
  have hx0_25 : Ext w w25 := hx0_24.trans he25
  clear hx0_24
  have hx1_25 : Ext w1 w25 := hx1_24.trans he25
  clear hx1_24
  refine go ?_
  refine sp (fun h => ?_) (fun _ => ?_)
  · rw [ht25.2 rfl] at h; cases h
  refine go ?_
  refine c_if (fun h => ?_) (fun _ => ?_)
  · exact absurd rfl h
  replace hK20 := hK20.same ((((((Wrt.ofExt (B := fun b => b < 0 ∨ w20.heap.size ≤ b) he21).trans (Wrt.ofExt (B := fun b => b < 0 ∨ w20.heap.size ≤ b) he22)).trans (Wrt.ofExt (B := fun b => b < 0 ∨ w20.heap.size ≤ b) he23)).trans (Wrt.ofExt (B := fun b => b < 0 ∨ w20.heap.size ≤ b) he24)).trans (Wrt.ofExt (B := fun b => b < 0 ∨ w20.heap.size ≤ b) he25)).same (fun b hb => hb))
  refine go ?_
  refine rc (heldInt64SS_ok (k := (1 : Int)) (yss := rs0) (xss := markL (1 : Int) rs0) rfl ?_ ?_) (next := fun v26 w26 hq26 => ?_)
  · omega
  · omega
  obtain ⟨rfl, he26⟩ := hq26
  have hz26 : w25.heap.size ≤ w26.heap.size := he26.size
  have hx0_26 : Ext w w26 := hx0_25.trans he26
  clear hx0_25
  have hx1_26 : Ext w1 w26 := hx1_25.trans he26
  clear hx1_25
  refine go ?_
  refine c_if (fun h => ?_) (fun _ => ?_)
  · omega
  refine go ?_
  refine c_if (fun h => ?_) (fun _ => ?_)
  · exact absurd rfl h
  refine go ?_
  exact ret1 ⟨rfl, hx0_26⟩
end Go.Proofs.Ytjljbfcdpdckeaa
