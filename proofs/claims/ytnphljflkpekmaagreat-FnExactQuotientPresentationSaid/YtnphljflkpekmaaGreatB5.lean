/-
  Texts of one proof, put together by program: W39, W41, I03, I08d, I08e, I12e, I13, I14, I16, I17, I15, I18, I35, I40, I41, I43, L01, L02, L03, L04, L05, Open, W42, Grs, W40, I42.
  Conditions: those told at each part.
-/
import Derived.Test.YtnphljflkpekmaaGreatB4
import Derived.Deep.Slices
set_option linter.unusedVariables false
set_option linter.unusedSimpArgs false
set_option linter.unusedSectionVars false
set_option linter.constructorNameAsVariable false
set_option linter.unnecessarySimpa false
set_option linter.deprecated false
/-
  Walks: the reference's presentation of a quotient (l15Quo), SubgroupPresentation, QuotientPresentation.
  Conditions: stated at each theorem.
-/
namespace Go.Proofs.YtnphljflkpekmaaGreat
open Go Go.Pc
set_option maxHeartbeats 8000000 in
theorem l15Quo_ok {p : Pr} [hc : ConAll p] {ys : List (El p)} (hse : SeqEl ys) {w : World} {vp vu : Value} {us : List Value} {xss : List (List Int)} {lo hi lo1 hi1 : Nat} [hp : Pres lo hi w vp p] [hu : Pc.Rows lo1 hi1 w vu us xss] (hus : xss = vecs ys) :
    Calls Tryz.prog 58 #[vp, vu] w (Ret fun v w' => Ext w w' ∧ PresO w.heap.size w'.heap.size w' v (quoPr ys)) := by
  have hs := hse.ok
  have hv := hc.valid
  have hn6 := hv.n6
  have hol : p.ord.length = p.n := rfl
  replace hu := hu.wide
  have hfn := frN_le ys
  have hil : (ints (freeL p ys p.n)).length = frN p ys := by simp [frN]
  obtain ⟨vo, vpw, vc, ps, cs, css, rfl, h1, h2, h3⟩ := hp.ex
  replace h1 := h1.wide
  replace h2 := h2.wide
  replace h3 := h3.wide
  refine enter (args := [.agg #[vo, vpw, vc], vu]) (l := [.cell 4 29]) Tryz.func58 rfl rfl Tryz.ntmps58 (by simp) ?_
  refine go ?_
  refine st_box3 (by ((try simp only [ev_tmp, ev_const, ev_func, get_put, get_args, get_putL, get_putL_nil, Nat.reduceEqDiff, reduceIte, List.getD_cons_zero, List.getD_cons_succ, List.getD_nil]); first | done | with_reducible rfl)) (by first | exact True.intro | exact ⟨_, rfl, by ((try simp only [ev_tmp, ev_const, ev_func, get_put, get_args, get_putL, get_putL_nil, Nat.reduceEqDiff, reduceIte, List.getD_cons_zero, List.getD_cons_succ, List.getD_nil, Bool.not_true, Bool.not_false]); first | done | with_reducible rfl)⟩) fun w1 b he1 hb1 hs1 hc0 hc1 hc2 => ?_
  refine go ?_
  refine st_alloc (by first | exact True.intro | exact ⟨_, rfl, by ((try simp only [ev_tmp, ev_const, ev_func, get_put, get_args, get_putL, get_putL_nil, Nat.reduceEqDiff, reduceIte, List.getD_cons_zero, List.getD_cons_succ, List.getD_nil, Bool.not_true, Bool.not_false]); first | done | with_reducible rfl)⟩) fun w2 br he2 hbr hs2 hbk2 => ?_
  have hz1 := he1.size
  have hz2 := he2.size
  refine go ?_
  refine rc (l14Free_ok (p := p) hs hus) (next := fun v3 w3 h4 => ?_)
  obtain ⟨he3, hf3⟩ := h4
  have hz3 := he3.size
  refine go ?_
  refine ra (v := .agg #[nilv, nilv, nilv]) (h := rd_build (by rfl) (fun _ => by kernel_rfl)) (next := ?_)
  refine st_alloc (by first | exact True.intro | exact ⟨_, rfl, by ((try simp only [ev_tmp, ev_const, ev_func, get_put, get_args, get_putL, get_putL_nil, Nat.reduceEqDiff, reduceIte, List.getD_cons_zero, List.getD_cons_succ, List.getD_nil, Bool.not_true, Bool.not_false]); first | done | with_reducible rfl)⟩) fun w4 bo he4 hbo hs4 hbk4 => ?_
  refine st_store_agg (vs := [nilv, nilv, nilv]) (cs := _) (hb := hbk4) (by ((try simp only [ev_tmp, ev_const, ev_func, get_put, get_args, get_putL, get_putL_nil, Nat.reduceEqDiff, reduceIte, List.getD_cons_zero, List.getD_cons_succ, List.getD_nil]); first | done | with_reducible rfl)) (by ((try simp only [ev_tmp, ev_const, ev_func, get_put, get_args, get_putL, get_putL_nil, Nat.reduceEqDiff, reduceIte, List.getD_cons_zero, List.getD_cons_succ, List.getD_nil]); first | done | with_reducible rfl)) rfl ?_ ?_ (by first | exact True.intro | exact ⟨_, rfl, by ((try simp only [ev_tmp, ev_const, ev_func, get_put, get_args, get_putL, get_putL_nil, Nat.reduceEqDiff, reduceIte, List.getD_cons_zero, List.getD_cons_succ, List.getD_nil, Bool.not_true, Bool.not_false]); first | done | with_reducible rfl)⟩) fun w5 hc5 hs5 hbk5 => ?_
  · rfl
  · rfl
  have hz4 := he4.size
  have hE35 : Ext w3 w5 := hc5.ext he4 (by omega)
  have hE3 := (he1.trans he2).trans he3
  have hz5 := hE35.size
  have hfr : Ints 0 w3.heap.size w3 v3 (ints (freeL p ys p.n)) := hf3.ints.wide
  refine go ?_
  refine r_for (frN p ys) (fun i ρ w' => ∃ vo', Has ρ [(1, vu), (2, .pointer (some ⟨b, 0, none⟩)), (4, .pointer (some ⟨br, 0, none⟩)), (5, .int .i64 p.ord.length), (6, v3), (7, .pointer (some ⟨bo, 0, none⟩)), (8, .int .i64 i)] ∧ Ext w3 w' ∧ Blk w' bo [vo', nilv, nilv] ∧ Tri 2 22 23 22 w5.heap.size w' vo' ((List.range i).map fun i => p.o (frA p ys i)) nilv [] nilv []) ?_ ?_
  · refine ⟨nilv, ?_, hE35, hbk5, Tri.nil _ _ _ _ _ _ (Nat.le_refl _)⟩
    exact hasP
  clear hbk4 hbk5
  · rintro i ρ w6 hi ⟨vo6, hH, he6, hb6, hT6⟩
    refine rwp_has hH fun ρ0 => ?_
    have hz6 := he6.size
    have hfr6 : Ints 0 w3.heap.size w6 v3 (ints (freeL p ys p.n)) := hfr.same (he6.same _ _)
    refine go ?_
    refine c_if (fun h4 => ?_) (fun h4 => ?_)
    · have hin : i < frN p ys := by omega
      have hda := frA_lt hin
      have hdo : p.ord.getD (frA p ys i) 0 = p.o (frA p ys i) := rfl
      obtain ⟨b', hb', hvb'⟩ := own_some' vo6 w5.heap.size w6.heap.size hT6.lo (fun g h => (hT6.o.lt g h).1)
      have ap1 : Apart 0 w.heap.size b' := ⟨.inr (by omega)⟩
      have ap2 : Apart b (b + 1) b' := ⟨.inr (by omega)⟩
      have ap3 : Apart bo (bo + 1) b' := ⟨.inr (by omega)⟩
      have ap4 : Apart 0 w3.heap.size b' := ⟨.inr (by omega)⟩
      have k0 : Cell w6 bo 0 vo6 := hb6.cell rfl
      refine go ?_
      refine z_order b' (List.range 14) (h := fun w7 he7 hs7 => ?_)
      refine zgo ?_
      rw [frA_ints hin]
      refine zgo ?_
      rw [hdo]
      refine z_growi (GrowI.mk (@OwnN.ext _ _ _ _ _ _ he7 hT6.o)) (by have := hT6.lo; omega) (by rw [List.length_map, List.length_range]; omega) hvb' (next := fun v10 v11 w11 hG11 hx11 hz11 hst11 => ?_)
      have hb11 : Blk w11 bo [vo6, nilv, nilv] := Blk.gstep (@Blk.ext _ _ _ _ he7 hb6) hst11 (hT6.ob (by omega))
      refine zgo ?_
      refine z_stfld (bo := bo) (m := 0) (cs := [vo6, nilv, nilv]) hb11 hG11.own.toSl.one (by simp) (next := fun w12 hc12 hs12 hb12 => ?_)
      have hT12 := hT6.fieldO he7 hG11 hst11 hc12 (by omega)
      have hE12 : Ext w3 w12 := hc12.ext (hx11 w3 (he6.trans he7) (by omega)) (by omega)
      refine go ?_
      refine forQ_normal (by omega) ⟨v11, ?_, hE12, hb12, ?_⟩
      · exact hasP
      · rw [List.range_succ, List.map_append]; exact hT12
    obtain rfl : i = frN p ys := by omega
    clear hH
    refine go ?_
    refine r_for (frN p ys) (fun i ρ w' => ∃ vp vc rp gs, Has ρ [(1, vu), (2, .pointer (some ⟨b, 0, none⟩)), (4, .pointer (some ⟨br, 0, none⟩)), (5, .int .i64 p.ord.length), (6, v3), (7, .pointer (some ⟨bo, 0, none⟩)), (9, .int .i64 i)] ∧ Ext w3 w' ∧ Blk w' bo [vo6, vp, vc] ∧ Tri 2 22 23 22 w5.heap.size w' vo6 ((List.range (frN p ys)).map fun i => p.o (frA p ys i)) vp rp vc gs ∧ rp.map (·.2) = (List.range i).map (quoPow ys) ∧ (gs.map fun q => q.2.map (·.2)) = (List.range i).map fun i => (List.range (frN p ys - (i + 1))).map fun k => quoCnj ys i (i + 1 + k)) ?_ ?_
    · refine ⟨nilv, nilv, [], [], ?_, he6, hb6, hT6, rfl, rfl⟩
      exact hasP
    clear hb6 hT6 hfr6 he6 hz6
    rintro i ρ w6 hi ⟨vp6, vc6, rp, gs, hH, he6, hb6, hT6, hrp, hgs⟩
    refine rwp_has hH fun ρ0 => ?_
    have hz6 := he6.size
    have hlo6 := hT6.lo
    have hrl : rp.length = i := by have := congrArg List.length hrp; simpa using this
    have hgl : gs.length = i := by have := congrArg List.length hgs; simpa using this
    have hfr6 : Ints 0 w3.heap.size w6 v3 (ints (freeL p ys p.n)) := hfr.same (he6.same _ _)
    refine go ?_
    refine c_if (fun h4 => ?_) (fun h4 => ?_)
    · have hin : i < frN p ys := by omega
      have hda := frA_lt hin
      have hdo : p.ord.getD (frA p ys i) 0 = p.o (frA p ys i) := rfl
      have hob := hv.opos hda
      have hgd := gOf_val hda
      refine go ?_
      rw [frA_ints hin]
      refine rc (l07Unit_ok (n := p.n) (i := frA p ys i) rfl rfl (by omega) hda) (next := fun v8 w8 h8 => ?_)
      obtain ⟨he8, hf8⟩ := h8
      have hz8 := he8.size
      have hT8 := hT6.ext he8
      have hb8 : Blk w8 bo [vo6, vp6, vc6] := @Blk.ext _ _ _ _ he8 hb6
      have hfr8 : Ints 0 w3.heap.size w8 v3 (ints (freeL p ys p.n)) := hfr6.same (he8.same _ _)
      have hE8 := he6.trans he8
      have hg8 : Ints w6.heap.size w8.heap.size w8 v8 (gOf p 0 (frA p ys i) : El p).v := by
        have h := hf8.ints
        rw [gOf_val hda]; exact h
      obtain ⟨b', hb', hvb'⟩ : ∃ b', w5.heap.size ≤ b' ∧ (b' < w6.heap.size ∨ w8.heap.size ≤ b') ∧ ∀ g, vp6.ownBlock = some g → g = b' := by
        cases e : vp6.ownBlock with
        | none => exact ⟨w8.heap.size, by omega, .inr (Nat.le_refl _), fun g h => by cases h⟩
        | some g => have := hT6.p.own.lt g e; exact ⟨g, by omega, .inl (by omega), fun g' h => by injection h with h; exact h.symm⟩
      obtain ⟨hbb, hvb'⟩ := hvb'
      have ap1 : Apart 0 w.heap.size b' := ⟨.inr (by omega)⟩
      have ap2 : Apart b (b + 1) b' := ⟨.inr (by omega)⟩
      have ap3 : Apart bo (bo + 1) b' := ⟨.inr (by omega)⟩
      have ap4 : Apart 0 w3.heap.size b' := ⟨.inr (by omega)⟩
      have ap5 : Apart w6.heap.size w8.heap.size b' := ⟨by omega⟩
      have k1 : Cell w8 bo 1 vp6 := hb8.cell rfl
      clear hfr6 hb6 hT6 hf8
      refine go ?_
      refine z_order b' (List.range 20) (h := fun w9 he9 hs9 => ?_)
      refine zgo ?_
      rw [frA_ints hin]
      refine zgo ?_
      rw [hdo]
      refine zc (l10Pow_ok (p := p) (x := gOf p 0 (frA p ys i)) rfl ?_) (next := fun v10 w10 h10 => ?_)
      · omega
      obtain ⟨he10, hf10⟩ := h10
      have hi10 := hf10.ints
      refine zc (l15Project_ok (p := p) (x := Grp.pwz (gOf p 0 (frA p ys i)) (p.o (frA p ys i))) hs hus rfl) (next := fun v11 w11 h11 => ?_)
      obtain ⟨he11, y11, hrep11, hf11⟩ := h11
      rw [hrep11.prj hse] at hf11
      have hx811 := (he9.trans he10).trans he11
      have hz11 := hx811.size
      have hf11' := hf11.mono (lo' := w8.heap.size) (by have := he9.size; have := he10.size; omega)
      refine z_grow (hT8.p.grow hT8.lo) hx811 hf11' hT8.lo (by omega) hvb' (next := fun v12 v13 w13 hG13 hx13 hz13 hst13 => ?_)
      have hb13 : Blk w13 bo [vo6, vp6, vc6] := Blk.gstep (@Blk.ext _ _ _ _ hx811 hb8) hst13 (hT8.pb (by omega))
      refine zgo ?_
      refine z_stfld (bo := bo) (m := 1) (cs := [vo6, vp6, vc6]) hb13 hG13.lst.own.toSl.one (by simp) (next := fun w14 hc14 hs14 hb14 => ?_)
      have hT14 := hT8.fieldP hx811 hf11' hG13 hst13 hc14 (by omega)
      have hE14 : Ext w3 w14 := hc14.ext (hx13 w3 (hE8.trans hx811) (by omega)) (by omega)
      have hg14 : Ints w6.heap.size w8.heap.size w14 v8 (gOf p 0 (frA p ys i) : El p).v := by
        have k1 := hst13.wrt
        refine ((hg8.same (hx811.same _ _)).same (k1.same fun g hg => ?_)).same (hc14.same (.inl (by omega)))
        have := hvb' g hg
        omega
      clear hT8 hb8 hb13 k1 hG13 hx13 hst13 hf10 hf11 hf11' hi10 hg8 hfr8
      have hz14 := hE14.size
      have hfr14 : Ints 0 w3.heap.size w14 v3 (ints (freeL p ys p.n)) := hfr.same (hE14.same _ _)
      refine go ?_
      refine st_slice0 (by first | exact True.intro | exact ⟨_, rfl, by ((try simp only [ev_tmp, ev_const, ev_func, get_put, get_args, get_putL, get_putL_nil, Nat.reduceEqDiff, reduceIte, List.getD_cons_zero, List.getD_cons_succ, List.getD_nil, Bool.not_true, Bool.not_false]); first | done | with_reducible rfl)⟩) fun w15 v15 he15 hs15 ho15 => ?_
      refine go ?_
      refine r_for (frN p ys - (i + 1)) (fun k ρ w' => ∃ vl rs, Has ρ [(1, vu), (2, .pointer (some ⟨b, 0, none⟩)), (4, .pointer (some ⟨br, 0, none⟩)), (5, .int .i64 p.ord.length), (6, v3), (7, .pointer (some ⟨bo, 0, none⟩)), (9, .int .i64 i), (10, v8), (11, vl), (12, .int .i64 ((i + 1 + k : Nat) : Int))] ∧ Ext w14 w' ∧ GrowL 22 w14.heap.size w' vl rs ∧ rs.map (·.2) = (List.range k).map fun k => quoCnj ys i (i + 1 + k)) ?_ ?_
      · refine ⟨v15, [], ?_, he15, GrowL.start ho15 (Nat.le_refl _), rfl⟩
        exact hasP
      clear ho15
      rintro k ρ w16 hk ⟨vl, rs, hH, he16, hG16, hrs16⟩
      refine rwp_has hH fun ρ0 => ?_
      have hz16 := he16.size
      have hE16 := hE14.trans he16
      have hrsl : rs.length = k := by have := congrArg List.length hrs16; simpa using this
      have hfr16 : Ints 0 w3.heap.size w16 v3 (ints (freeL p ys p.n)) := hfr14.same (he16.same _ _)
      have hg16 : Ints w6.heap.size w8.heap.size w16 v8 (gOf p 0 (frA p ys i) : El p).v := hg14.same (he16.same _ _)
      refine go ?_
      refine c_if (fun h5 => ?_) (fun h5 => ?_)
      · have hkn : k < frN p ys - (i + 1) := by omega
        have hin2 : i + 1 + k < frN p ys := by omega
        have hda2 := frA_lt hin2
        have hw8 : w8.heap.size ≤ w14.heap.size := by have := hx811.size; omega
        obtain ⟨b2, hb2, hvb2⟩ := own_some' vl w14.heap.size w16.heap.size hz16 (fun g h => (hG16.lst.lt h).1)
        have ap1 : Apart 0 w.heap.size b2 := ⟨.inr (by omega)⟩
        have ap2 : Apart b (b + 1) b2 := ⟨.inr (by omega)⟩
        have ap4 : Apart 0 w3.heap.size b2 := ⟨.inr (by omega)⟩
        have ap5 : Apart w6.heap.size w8.heap.size b2 := ⟨.inr (by omega)⟩
        refine go ?_
        refine z_order b2 [0, 1, 2, 3, 4, 5, 6, 7, 8, 10, 9, 11, 12, 13, 14, 15] (h := fun w17 he17 _ => ?_)
        refine zgo ?_
        rw [frA_ints hin2]
        refine zgo ?_
        refine zc (l07Unit_ok (n := p.n) (i := frA p ys (i + 1 + k)) rfl rfl (by omega) hda2) (next := fun v18 w18 h18 => ?_)
        obtain ⟨he18, hf18⟩ := h18
        have hg18 : Ints w17.heap.size w18.heap.size w18 v18 (gOf p 0 (frA p ys (i + 1 + k)) : El p).v := by
          have h := hf18.ints
          rw [gOf_val hda2]; exact h
        clear hf18
        refine zc (l10Conj_ok (p := p) (x := gOf p 0 (frA p ys (i + 1 + k))) (y := gOf p 0 (frA p ys i)) rfl rfl) (next := fun v19 w19 h19 => ?_)
        obtain ⟨he19, hf19⟩ := h19
        have hi19 := hf19.ints
        refine zc (l15Project_ok (p := p) (x := Grp.cj (gOf p 0 (frA p ys (i + 1 + k))) (gOf p 0 (frA p ys i))) hs hus rfl) (next := fun v20 w20 h20 => ?_)
        obtain ⟨he20, y20, hrep20, hf20⟩ := h20
        rw [hrep20.prj hse] at hf20
        have hx := ((he17.trans he18).trans he19).trans he20
        refine z_grow hG16 hx (hf20.mono (by have := he17.size; have := he18.size; have := he19.size; omega)) hz16 (by omega) hvb2 (next := fun v21 v22 w22 hG22 hx22 hz22 hst22 => ?_)
        refine zgo ?_
        refine z_end ?_
        refine go ?_
        refine forQ_normal (by omega) ⟨v22, _, ?_, hx22 w14 (he16.trans hx) (Nat.le_refl _), hG22, ?_⟩
        · exact hasP
        · rw [List.range_succ, List.map_append, List.map_append, hrs16]; rfl
      · obtain rfl : k = frN p ys - (i + 1) := by omega
        have hT16 := hT14.ext he16
        have hb16 : Blk w16 bo [vo6, v13, vc6] := @Blk.ext _ _ _ _ he16 hb14
        have k2 : Cell w16 bo 2 vc6 := hb16.cell rfl
        have hL := GrL.of hG16
        refine go ?_
        refine st_growu (sb := w5.heap.size) hT16.c.own hG16.lst.own.toSl.cells hG16.lst.own.toSl.one hT16.lo (by rw [List.length_map]; omega) (next := fun v17 v18 w18 hO18 hx18 hz18 hst18 => ?_)
        have hb18 : Blk w18 bo [vo6, v13, vc6] := Blk.gstep hb16 hst18 (hT16.cb (by omega))
        clear k2
        refine go ?_
        refine st_store_fld (h := hb18) (by ((try simp only [ev_tmp, ev_const, ev_func, get_put, get_args, get_putL, get_putL_nil, Nat.reduceEqDiff, reduceIte, List.getD_cons_zero, List.getD_cons_succ, List.getD_nil]); first | done | with_reducible rfl)) (by ((try simp only [ev_tmp, ev_const, ev_func, get_put, get_args, get_putL, get_putL_nil, Nat.reduceEqDiff, reduceIte, List.getD_cons_zero, List.getD_cons_succ, List.getD_nil]); first | done | with_reducible rfl)) ?_ ?_ (by first | exact True.intro | exact ⟨_, rfl, by ((try simp only [ev_tmp, ev_const, ev_func, get_put, get_args, get_putL, get_putL_nil, Nat.reduceEqDiff, reduceIte, List.getD_cons_zero, List.getD_cons_succ, List.getD_nil, Bool.not_true, Bool.not_false]); first | done | with_reducible rfl)⟩) fun w19 hc19 hs19 hb19 => ?_
        · exact hO18.toSl.one
        · simp
        have hT19 := hT14.fieldC he16 hL hO18 hst18 hc19 (by omega)
        have hE19 : Ext w3 w19 := hc19.ext (hx18 w3 hE16 (by omega)) (by omega)
        refine go ?_
        refine forQ_normal (by omega) ⟨v13, v18, _, _, ?_, hE19, hb19, hT19, ?_, ?_⟩
        · exact hasP
        · rw [List.range_succ, List.map_append, List.map_append, hrp]; rfl
        · rw [List.range_succ, List.map_append, List.map_append, hgs]
          simp only [List.map_cons, List.map_nil, hrs16]
    · obtain rfl : i = frN p ys := by omega
      have hbr6 : Blk w6 br _ := @Blk.ext _ _ _ _ (he3.trans he6) hbk2
      have hP := hT6.pres
      rw [hrp, hgs] at hP
      have o3 := hP.pres.one3
      refine go ?_
      refine ra (v := .agg #[vo6, vp6, vc6]) (h := rd_load_blk (hb := hb6) (by ((try simp only [ev_tmp, ev_const, ev_func, get_put, get_args, get_putL, get_putL_nil, Nat.reduceEqDiff, reduceIte, List.getD_cons_zero, List.getD_cons_succ, List.getD_nil]); first | done | with_reducible rfl)) rfl) (next := ?_)
      refine st_store_agg (vs := [vo6, vp6, vc6]) (cs := _) (hb := hbr6) (by ((try simp only [ev_tmp, ev_const, ev_func, get_put, get_args, get_putL, get_putL_nil, Nat.reduceEqDiff, reduceIte, List.getD_cons_zero, List.getD_cons_succ, List.getD_nil]); first | done | with_reducible rfl)) (by ((try simp only [ev_tmp, ev_const, ev_func, get_put, get_args, get_putL, get_putL_nil, Nat.reduceEqDiff, reduceIte, List.getD_cons_zero, List.getD_cons_succ, List.getD_nil]); first | done | with_reducible rfl)) rfl ?_ ?_ (by first | exact True.intro | exact ⟨_, rfl, by ((try simp only [ev_tmp, ev_const, ev_func, get_put, get_args, get_putL, get_putL_nil, Nat.reduceEqDiff, reduceIte, List.getD_cons_zero, List.getD_cons_succ, List.getD_nil, Bool.not_true, Bool.not_false]); first | done | with_reducible rfl)⟩) fun w7 hc7 hs7 hb7 => ?_
      · rfl
      · simp [o3.1, o3.2.1, o3.2.2]
      refine go ?_
      have hE7 : Ext w w7 := hc7.ext (hE3.trans he6) (by omega)
      refine retc (b := br) (hb := hb7) ⟨hE7, ?_⟩ rfl
      have hP7 := hP.wr (.one (B := fun g => g = br) rfl hc7) (fun g hg => .inl (by omega))
      rw [hs7]
      exact hP7.sub (by omega) (Nat.le_refl _)
end Go.Proofs.YtnphljflkpekmaaGreat

/-
  Walks: the reference's LiftElement.
  Conditions: stated at each theorem.
-/
namespace Go.Proofs.YtnphljflkpekmaaGreat
open Go Go.Pc
set_option maxHeartbeats 2000000 in
theorem l15Lift_ok {p : Pr} [hc : ConAll p] {ys : List (El p)} (hs : SeqOk ys) {w : World} {vp vu vx : Value} {us : List Value} {xss : List (List Int)} {y : List Int} {lo hi lo1 hi1 lo2 hi2 : Nat} [hp : Pres lo hi w vp p] [hu : Pc.Rows lo1 hi1 w vu us xss] [hx : Ints lo2 hi2 w vx y] (hus : xss = vecs ys) (hyl : y.length = frN p ys) :
    Calls Tryz.prog 84 #[vp, vu, vx] w (Ret fun v w' => Ext w w' ∧ Fr w.heap.size w' v (liftL p ys y)) := by
  have hv := hc.valid
  have hn6 := hv.n6
  have hfn := frN_le ys
  have hil : (ints (freeL p ys p.n)).length = frN p ys := by simp [frN]
  replace hx := hx.wide
  obtain ⟨vo, vpw, vc, ps, cs, css, rfl, h1, h2, h3⟩ := hp.ex
  refine enter (args := [.agg #[vo, vpw, vc], vu, vx]) (l := [.tmp 6]) Tryz.func84 rfl rfl Tryz.ntmps84 (by simp) ?_
  refine go ?_
  refine st_box3 (by ((try simp only [ev_tmp, ev_const, ev_func, get_put, get_args, get_putL, get_putL_nil, Nat.reduceEqDiff, reduceIte, List.getD_cons_zero, List.getD_cons_succ, List.getD_nil]); first | done | with_reducible rfl)) (by first | exact True.intro | exact ⟨_, rfl, by ((try simp only [ev_tmp, ev_const, ev_func, get_put, get_args, get_putL, get_putL_nil, Nat.reduceEqDiff, reduceIte, List.getD_cons_zero, List.getD_cons_succ, List.getD_nil, Bool.not_true, Bool.not_false]); first | done | with_reducible rfl)⟩) fun w1 b he1 hb1 hs1 hc0 hc1 hc2 => ?_
  have hz1 := he1.size
  refine go ?_
  refine rc (l14Free_ok (p := p) hs hus) (next := fun v2 w2 h4 => ?_)
  obtain ⟨he2, hf2⟩ := h4
  have hfr : Ints 0 w2.heap.size w2 v2 (ints (freeL p ys p.n)) := hf2.ints.wide
  have hz2 := he2.size
  refine go ?_
  refine rc (l10One_ok (p := p)) (next := fun v3 w3 h5 => ?_)
  obtain ⟨he3, hf3⟩ := h5
  have hE2 := he1.trans he2
  refine go ?_
  refine r_for (frN p ys) (fun k ρ w' => Has ρ [(2, vx), (7, v2), (8, v3), (9, .int .i64 k)] ∧ Ext w2 w' ∧ Fr w2.heap.size w' v3 (liftK p ys y k)) ?_ ?_
  · refine ⟨?_, he3, hf3⟩
    exact hasP
  clear hf3 hf2
  rintro k ρ w4 hk ⟨hH, he4, hf4⟩
  refine rwp_has hH fun ρ0 => ?_
  have hz4 := he4.size
  have hfr4 : Ints 0 w2.heap.size w4 v2 (ints (freeL p ys p.n)) := hfr.same (he4.same _ _)
  refine go ?_
  refine c_if (fun h6 => ?_) (fun h6 => ?_)
  · have hkn : k < frN p ys := by omega
    have hda := frA_lt hkn
    have hll := liftK_len (p := p) (ys := ys) y k
    obtain ⟨e4, b4, hb4, ho4⟩ := hf4.own (by intro e; rw [e] at hll; simp at hll; omega)
    have ap1 : Apart 0 w.heap.size b4 := ⟨.inr (by omega)⟩
    have ap2 : Apart 0 w2.heap.size b4 := ⟨.inr (by omega)⟩
    clear hf4
    refine go ?_
    refine z_order b4 (List.range 11) (h := fun w5 he5 _ => ?_)
    refine zgo ?_
    rw [frA_ints hkn]
    refine zgo ?_
    have ho5 : OwnI e4 b4 w5 v3 (liftK p ys y k) := OwnI.ext (h := ho4)
    refine z_store_int (h := ho5) (hx := (by ((try simp only [ev_tmp, ev_const, ev_func, get_put, get_args, get_putL, get_putL_nil, Nat.reduceEqDiff, reduceIte, List.getD_cons_zero, List.getD_cons_succ, List.getD_nil]); first | done | with_reducible rfl))) (hy := (by ((try simp only [ev_tmp, ev_const, ev_func, get_put, get_args, get_putL, get_putL_nil, Nat.reduceEqDiff, reduceIte, List.getD_cons_zero, List.getD_cons_succ, List.getD_nil]); first | done | with_reducible rfl))) (hm := ?_) (next := fun w6 hc6 hs6 ho6 => ?_)
    · omega
    refine z_end ?_
    refine go ?_
    refine forQ_normal (by omega) ⟨?_, hc6.ext (he4.trans he5) hb4, ho6.toFr hb4⟩
    exact hasP
  · obtain rfl : k = frN p ys := by omega
    refine go ?_
    exact ret1 ⟨hE2.trans he4, hf4.mono hE2.size⟩
set_option maxHeartbeats 2000000 in
theorem spec_LiftElement_ok {p : Pr} {w : World} {vp vu vx : Value} {us : List Value} {xss : List (List Int)} {y : List Int} {lo hi lo1 hi1 lo2 hi2 : Nat} [hp : Pres lo hi w vp p] [hu : Pc.Rows lo1 hi1 w vu us xss] [hx : Ints lo2 hi2 w vx y] (hl : p.ord.length ≤ 2000000) :
    Calls Tryz.prog 37 #[vp, vu, vx] w (Ret fun v w' => ∃ (u : Value) (k : List Int) (e : Int), v = .tuple #[u, .int .i64 e] ∧ Ans (IsSubP p xss) (LeV p xss y) [] k e ∧ Ext w w' ∧ Ints w.heap.size w'.heap.size w' u k) := by
  replace hu := hu.wide
  replace hx := hx.wide
  obtain ⟨vo, vpw, vc, ps, cs, css, rfl, h1, h2, h3⟩ := hp.ex
  refine enter (args := [.agg #[vo, vpw, vc], vu, vx]) (l := [.tmp 6, .tmp 7]) Tryz.func37 rfl rfl Tryz.ntmps37 (by simp) ?_
  refine go ?_
  refine st_box3 (by ((try simp only [ev_tmp, ev_const, ev_func, get_put, get_args, get_putL, get_putL_nil, Nat.reduceEqDiff, reduceIte, List.getD_cons_zero, List.getD_cons_succ, List.getD_nil]); first | done | with_reducible rfl)) (by first | exact True.intro | exact ⟨_, rfl, by ((try simp only [ev_tmp, ev_const, ev_func, get_put, get_args, get_putL, get_putL_nil, Nat.reduceEqDiff, reduceIte, List.getD_cons_zero, List.getD_cons_succ, List.getD_nil, Bool.not_true, Bool.not_false]); first | done | with_reducible rfl)⟩) fun w1 b he1 hb1 hs1 hc0 hc1 hc2 => ?_
  refine go ?_
  refine rc (l15Code_ok (p := p) (xss := xss) hl) (next := fun v5 w5 h5 => ?_)
  obtain ⟨e5, rfl, hcode, he5⟩ := h5
  have hE5 := he1.trans he5
  refine go ?_
  refine c_if (fun h7 => ?_) (fun h7 => ?_)
  · refine go ?_
    rcases hcode with ⟨h8, rfl⟩ | ⟨h8, h9, rfl⟩ | ⟨h8, h9, rfl⟩
    · exact ret2 ⟨nilv, [], 1, rfl, .inr ⟨h8, rfl, rfl⟩, hE5, (Fr.nilR _ _).ints⟩
    · exact ret2 ⟨nilv, [], 5, rfl, .inl ⟨h8, .inl ⟨h9, rfl, rfl⟩⟩, hE5, (Fr.nilR _ _).ints⟩
    · exact absurd rfl h7
  obtain ⟨hS, hN⟩ : IsSubP p xss ∧ NormP p xss := by
    rcases hcode with ⟨_, rfl⟩ | ⟨_, _, rfl⟩ | ⟨h8, h9, _⟩
    · exact absurd (by decide) h7
    · exact absurd (by decide) h7
    · exact ⟨h8, h9⟩
  have hS' := hS
  obtain ⟨hG, hq⟩ := hS'
  haveI : ConAll p := ⟨hG.con⟩
  obtain ⟨ys, hys, hse⟩ := isSeq_iff.1 hq
  refine go ?_
  refine rc (l15Quo_ok (p := p) hse hys) (next := fun v6 w6 h6 => ?_)
  obtain ⟨he6, hP6⟩ := h6
  have hP := hP6.pres
  have hE6 := hE5.trans he6
  refine go ?_
  refine rc (l10Element_ok (p := quoPr ys) (xs := y) (quo_valid hse)) (next := fun v7 w7 h7 => ?_)
  obtain ⟨b7, rfl, hb7, he7⟩ := h7
  have hE7 := hE6.trans he7
  refine go ?_
  refine c_b (fun e7 => ?_) (fun e7 => ?_)
  · refine go ?_
    refine ret2 ⟨nilv, [], 2, rfl, .inl ⟨hS, .inr ⟨hN, inferInstance, ys, hys, .inl ⟨fun h => ?_, rfl, rfl⟩⟩⟩, hE7, (Fr.nilR _ _).ints⟩
    rw [hb7.2 h] at e7; cases e7
  have hI := hb7.1 (by simpa using e7)
  have hIl : y.length = frN p ys := by rw [hI.len, quo_n]
  refine go ?_
  refine rc (l15Lift_ok (p := p) (y := y) hse.ok hys hIl) (next := fun v8 w8 h8 => ?_)
  obtain ⟨he8, hf8⟩ := h8
  refine go ?_
  exact ret2 ⟨v8, _, 0, rfl, .inl ⟨hS, .inr ⟨hN, inferInstance, ys, hys, .inr ⟨hI, rfl, rfl⟩⟩⟩, hE7.trans he8, (hf8.mono hE7.size).ints⟩
end Go.Proofs.YtnphljflkpekmaaGreat

/-
  Walk: the program's check of a presentation (IsPresentation).
  Conditions: stated at each theorem.
-/
namespace Go.Proofs.YtnphljflkpekmaaGreat
open Go Go.Pc
theorem foldl_mono : ∀ (l : List Int) (a : Int), (∀ o ∈ l, 1 ≤ o) → 1 ≤ a → a ≤ l.foldl (· * ·) a :=
  fun l a h ha => (capMul_foldl l a h ha).2.1
theorem prod_take {l : List Int} {k : Nat} (h : ∀ o ∈ l, 1 ≤ o) : 1 ≤ (l.take k).foldl (· * ·) 1 ∧ (l.take k).foldl (· * ·) 1 ≤ l.foldl (· * ·) 1 := by
  have h1 := foldl_mono (l.take k) 1 (fun o ho => h o (List.mem_of_mem_take ho)) (by omega)
  have h2 := foldl_mono (l.drop k) ((l.take k).foldl (· * ·) 1) (fun o ho => h o (List.mem_of_mem_drop ho)) h1
  rw [← List.foldl_append, List.take_append_drop] at h2
  exact ⟨h1, h2⟩
set_option maxHeartbeats 2000000 in
theorem impl_IsPresentation_ok {w : World} {v : Value} {p : Pr} {lo hi : Nat} [hp : Pres lo hi w v p] (hl : p.ord.length ≤ 2000000) :
    Calls Tryz.prog 155 #[v] w (Ret fun v' w' => ∃ b, v' = .bool b ∧ (b = true ↔ Valid p) ∧ Ext w w') := by
  have hol : p.ord.length = p.n := rfl
  obtain ⟨vo, vpw, vc, ps, cs, css, rfl, h1, h2, h3⟩ := hp.ex
  refine enter (args := [.agg #[vo, vpw, vc]]) (l := [.tmp 2]) Tryz.func155 rfl rfl Tryz.ntmps155 (by simp) ?_
  refine go ?_
  refine st_box3 (by ((try simp only [ev_tmp, ev_const, ev_func, get_put, get_args, get_putL, get_putL_nil, Nat.reduceEqDiff, reduceIte, List.getD_cons_zero, List.getD_cons_succ, List.getD_nil]); first | done | with_reducible rfl)) (by first | exact True.intro | exact ⟨_, rfl, by ((try simp only [ev_tmp, ev_const, ev_func, get_put, get_args, get_putL, get_putL_nil, Nat.reduceEqDiff, reduceIte, List.getD_cons_zero, List.getD_cons_succ, List.getD_nil, Bool.not_true, Bool.not_false]); first | done | with_reducible rfl)⟩) fun w1 b he1 hb1 hs1 hc0 hc1 hc2 => ?_
  have no : ∀ {w' : World}, ¬ Valid p → Ext w w' → ∃ b, Value.bool false = .bool b ∧ (b = true ↔ Valid p) ∧ Ext w w' := fun h he => ⟨_, rfl, by simp [h], he⟩
  have hpp := hp.boxed he1 hc0 hc1 hc2
  refine go ?_
  refine spd (fun hn => ?_) (fun hn => ?_)
  · refine go ?_
    exact ret1 (no (fun h => by have := h.n6; omega) he1)
  refine go ?_
  refine spd (fun hn2 => ?_) (fun hn2 => ?_)
  · refine go ?_
    exact ret1 (no (fun h => by have := h.lenw; omega) he1)
  refine go ?_
  refine c_if (fun hn3 => ?_) (fun hn3 => ?_)
  · refine go ?_
    exact ret1 (no (fun h => by have := h.lenc; omega) he1)
  refine go ?_
  refine r_for p.n (fun k ρ w' => Has ρ [(1, .pointer (some ⟨b, 0, none⟩)), (3, .int .i64 p.n), (4, .int .i64 ((p.ord.take k).foldl (· * ·) 1)), (30, vo), (31, .int .i64 p.n), (32, .int .i64 k)] ∧ Ext w1 w' ∧
    (p.ord.take k).foldl (· * ·) 1 ≤ 729 ∧ ∀ i, i < k → p.ord.getD i 0 = 2 ∨ p.ord.getD i 0 = 3 ∨ p.ord.getD i 0 = 5 ∨ p.ord.getD i 0 = 7) ?_ ?_
  · refine ⟨?_, Ext.refl _, by simp, fun i hi => by omega⟩
    exact hasP
  rintro k ρ w2 hk ⟨hH, he2, hpr, hpre⟩
  refine rwp_has hH fun ρ0 => ?_
  refine go ?_
  refine c_if (fun hk1 => ?_) (fun hk1 => ?_)
  · have hkn : k < p.n := by omega
    have hps : (p.ord.take (k + 1)).foldl (· * ·) 1 = (p.ord.take k).foldl (· * ·) 1 * p.ord.getD k 0 := foldl_take_succ _ _ _ _ _ hkn
    refine go ?_
    refine rc IsGroupPrime_ok (next := fun v3 w3 h3 => ?_)
    obtain ⟨b3, rfl, hb3, he3⟩ := h3
    refine go ?_
    refine sp (fun h4 => ?_) (fun h4 => ?_)
    · refine go ?_
      refine ret1 (no (fun h => ?_) ((he1.trans he2).trans he3))
      have := hb3.2 (h.prime k (by omega))
      rw [this] at h4; cases h4
    · have h5 := hb3.1 (by simpa using h4)
      have hone : 1 ≤ (p.ord.take k).foldl (· * ·) 1 := by
        refine foldl_mono _ 1 (fun o ho => ?_) (by omega)
        obtain ⟨i, hi, rfl⟩ := List.getElem_of_mem ho
        rw [List.length_take] at hi
        have := hpre i (by omega)
        simp only [List.getElem_take]
        have e : p.ord.getD i 0 = p.ord[i] := by simp [show i < p.ord.length by omega]
        rw [e] at this; omega
      have hm1 : 0 ≤ (p.ord.take k).foldl (· * ·) 1 * p.ord.getD k 0 := Int.mul_nonneg (by omega) (by omega)
      have hm2 : (p.ord.take k).foldl (· * ·) 1 * p.ord.getD k 0 ≤ 729 * 7 := Int.mul_le_mul hpr (by omega) (by omega) (by omega)
      have hmr : -9223372036854775808 ≤ (p.ord.take k).foldl (· * ·) 1 * p.ord.getD k 0 ∧ (p.ord.take k).foldl (· * ·) 1 * p.ord.getD k 0 ≤ 9223372036854775807 := by omega
      refine go ?_
      refine ra (h := rd_mul (by ((try simp only [ev_tmp, ev_const, ev_func, get_put, get_args, get_putL, get_putL_nil, Nat.reduceEqDiff, reduceIte, List.getD_cons_zero, List.getD_cons_succ, List.getD_nil]); first | done | with_reducible rfl)) (by ((try simp only [ev_tmp, ev_const, ev_func, get_put, get_args, get_putL, get_putL_nil, Nat.reduceEqDiff, reduceIte, List.getD_cons_zero, List.getD_cons_succ, List.getD_nil]); first | done | with_reducible rfl)) hmr) (next := ?_)
      refine go ?_
      refine c_if (fun h6 => ?_) (fun h6 => ?_)
      · refine go ?_
        refine ret1 (no (fun h => ?_) ((he1.trans he2).trans he3))
        have := (prod_take (k := k + 1) (fun o ho => (primes_bd h.prime o ho).1)).2
        have h8 := h.prod
        rw [hps] at this
        omega
      · refine go ?_
        refine ra (h := rd_mul (by ((try simp only [ev_tmp, ev_const, ev_func, get_put, get_args, get_putL, get_putL_nil, Nat.reduceEqDiff, reduceIte, List.getD_cons_zero, List.getD_cons_succ, List.getD_nil]); first | done | with_reducible rfl)) (by ((try simp only [ev_tmp, ev_const, ev_func, get_put, get_args, get_putL, get_putL_nil, Nat.reduceEqDiff, reduceIte, List.getD_cons_zero, List.getD_cons_succ, List.getD_nil]); first | done | with_reducible rfl)) hmr) (next := ?_)
        refine go ?_
        refine forQ_normal (by omega) ⟨?_, he2.trans he3, by rw [hps]; omega, fun i hi => ?_⟩
        · rw [hps]; exact hasP
        · by_cases e : i = k
          · subst e; exact h5
          · exact hpre i (by omega)
  · have hkn : k = p.n := by omega
    subst hkn
    have hprod : p.ord.foldl (· * ·) 1 ≤ 729 := by
      rw [← hol, List.take_length] at hpr; exact hpr
    have hbd : ∀ i, i < p.n → 2 ≤ p.o i ∧ p.o i ≤ 7 := fun i hi => by have := hpre i hi; unfold Pr.o; omega
    refine go ?_
    refine r_for p.n (fun k ρ w' => Has ρ [(1, .pointer (some ⟨b, 0, none⟩)), (3, .int .i64 p.n), (49, .int .i64 p.n), (50, .int .i64 k)] ∧ Ext w1 w' ∧ ∀ q, q < k → RowOk p q) ?_ ?_
    · refine ⟨?_, he2, fun i hi => by omega⟩
      exact hasP
    clear he2
    rintro k ρ w4 hk ⟨hH, he4, hrow⟩
    refine rwp_has hH fun ρ1 => ?_
    refine go ?_
    refine c_if (fun hk2 => ?_) (fun hk2 => ?_)
    · have hkn : k < p.n := by omega
      refine go ?_
      refine rc (tailVector_ok (p := p) (xs := p.pow.getD k []) rfl hkn hbd (by omega)) (next := fun v6 w6 h6 => ?_)
      obtain ⟨b6, rfl, hb6, he6⟩ := h6
      refine go ?_
      refine sp (fun h7 => ?_) (fun h7 => ?_)
      · refine go ?_
        refine ret1 (no (fun h => ?_) ((he1.trans he4).trans he6))
        have := hb6.2 ⟨h.w_in k hkn, h.w_zu k hkn⟩
        rw [this] at h7; cases h7
      · have h8 := exp_iff.2 (hb6.1 (by simpa using h7))
        refine go ?_
        refine c_if (fun h9 => ?_) (fun h9 => ?_)
        · refine go ?_
          refine ret1 (no (fun h => ?_) ((he1.trans he4).trans he6))
          have := ((valid_iff.1 h).2.2.2.2.2 k (by omega)).2.1
          omega
        · refine go ?_
          refine r_for (p.cnj.getD k []).length (fun m ρ w' => Has ρ [(1, .pointer (some ⟨b, 0, none⟩)), (3, .int .i64 p.n), (49, .int .i64 p.n), (50, .int .i64 k), (7, .int .i64 k), (78, Pc.rowAt vc cs k), (79, .int .i64 (p.cnj.getD k []).length), (80, .int .i64 m)] ∧ Ext w1 w' ∧ ∀ j, j < m → ExpP p.ord ((p.cnj.getD k []).getD j []) k) ?_ ?_
          · refine ⟨?_, he4.trans he6, fun i hi => by omega⟩
            exact hasP
          clear he4 he6
          rintro m ρ w7 hm ⟨hH, he7, hin⟩
          refine rwp_has hH fun ρ2 => ?_
          refine go ?_
          refine c_if (fun hm2 => ?_) (fun hm2 => ?_)
          · refine go ?_
            refine rc (tailVector_ok (p := p) (xs := (p.cnj.getD k []).getD m []) rfl hkn hbd (by omega)) (next := fun v9 w9 h9 => ?_)
            obtain ⟨b9, rfl, hb9, he9⟩ := h9
            refine go ?_
            refine c_b (fun h10 => ?_) (fun h10 => ?_)
            · refine go ?_
              refine ret1 (no (fun h => ?_) ((he1.trans he7).trans he9))
              have := hb9.2 (exp_iff.1 (((valid_iff.1 h).2.2.2.2.2 k (by omega)).2.2 m (by omega)))
              rw [this] at h10; cases h10
            · have h11 := exp_iff.2 (hb9.1 (by simpa using h10))
              refine go ?_
              refine forQ_normal (by omega) ⟨?_, he7.trans he9, fun j hj => ?_⟩
              · exact hasP
              · by_cases e : j = m
                · subst e; exact h11
                · exact hin j (by omega)
          · refine go ?_
            refine forQ_normal (by omega) ⟨?_, he7, fun q hq => ?_⟩
            · exact hasP
            · by_cases e : q = k
              · subst e
                exact ⟨h8, by omega, fun j hj => hin j (by omega)⟩
              · exact hrow q (by omega)
    · refine go ?_
      refine ret1 ⟨_, rfl, ?_, he1.trans he4⟩
      simp only [true_iff]
      exact valid_iff.2 ⟨by omega, by omega, by omega, hpre, hprod, fun q hq => hrow q (by omega)⟩
end Go.Proofs.YtnphljflkpekmaaGreat

/-
  Walks: the program's consistency (levelFault, consistentFrom, IsConsistent).
  Conditions: stated at each theorem.
-/
namespace Go.Proofs.YtnphljflkpekmaaGreat
open Go Go.Pc
def QC (p : Pr) (i : Nat) [h : Con p (i + 1)] (j k : Nat) : Prop := ∀ (hj : i < j ∧ j < p.n) (hk : i < k ∧ k < p.n), j < k → (Grp.cj (Tc h.valid hk) (Tc h.valid hj)).v = img p i (p.c j k)
def QI (p : Pr) (i : Nat) [h : Con p (i + 1)] (hi : i < p.n) (j : Nat) : Prop := ∀ (hj : i + 1 ≤ j ∧ j < p.n), rep (p.o i).toNat (img p i) (unitv p j 1) = (Grp.cj (gen h.valid (i + 1) j hj) (Tw h.valid hi)).v
theorem chk_iff2 {p : Pr} {i : Nat} [h : Con p (i + 1)] (hi : i < p.n) : Chk p i hi ↔ (∀ j, LP p i j) ∧ (∀ j k, QC p i j k) ∧ img p i (p.w i) = p.w i ∧ ∀ j, QI p i hi j := by
  constructor
  · intro hc
    refine ⟨fun j hj => congrArg T.v (hc.P j hj), fun j k hj hk hjk => congrArg T.v (hc.C j k hj hk hjk), congrArg T.v hc.F, fun j hj => ?_⟩
    have := congrArg T.v (hc.I j hj)
    rw [rep_Timg] at this
    exact this
  · rintro ⟨h1, h2, h3, h4⟩
    refine ⟨fun j hj => T.ext (h1 j hj), fun j k hj hk hjk => T.ext (h2 j k hj hk hjk), T.ext h3, fun j hj => T.ext ?_⟩
    rw [rep_Timg]
    exact h4 j hj
set_option maxHeartbeats 8000000 in
theorem levelFault_ok {p : Pr} {i : Nat} [hc : Con p (i + 1)] (hi : i < p.n) {w : World} {vp : Value} {ki : Int} {lo hi' : Nat} [hp : PresP lo hi' w vp p] (hki : ki = i) :
    Calls Tryz.prog 186 #[vp, .int .i64 ki] w (Ret fun v w' => ∃ k l f s : Int, v = faultV k l f s ∧ (k = 0 ↔ Chk p i hi) ∧ (k ≠ 0 → l = i) ∧ (k = 0 → l = 0 ∧ f = 0 ∧ s = 0) ∧ Ext w w') := by
  subst hki
  have hv := hc.valid
  have hn6 := hv.n6
  have hol : p.ord.length = p.n := rfl
  have hwl : p.pow.length = p.n := hv.lenw
  have hcl : p.cnj.length = p.n := hv.lenc
  have hci : (p.cnj.getD i []).length = p.n - 1 - i := hv.lenci i hi
  have hoi := hv.opos hi
  have hoe : p.o i = p.ord.getD i 0 := rfl
  obtain ⟨b, og, vo, vpw, vc, ps, cs, css, rfl, hb1, hb2, hc0, hc1, hc2, h1, h2, h3⟩ := hp.ex
  refine enter (args := [.pointer (some ⟨b, og, none⟩), .int .i64 i]) (l := [.cell 4 151]) Tryz.func186 rfl rfl Tryz.ntmps186 (by simp) ?_
  refine go ?_
  refine st_alloc (by first | exact True.intro | exact ⟨_, rfl, by ((try simp only [ev_tmp, ev_const, ev_func, get_put, get_args, get_putL, get_putL_nil, Nat.reduceEqDiff, reduceIte, List.getD_cons_zero, List.getD_cons_succ, List.getD_nil, Bool.not_true, Bool.not_false]); first | done | with_reducible rfl)⟩) fun w2 bf he2 hbf hs2 hbk => ?_
  have bad : ∀ {w3 : World} {k f s : Int}, Ext w w3 → k ≠ 0 → ¬ Chk p i hi → ∃ k' l' f' s' : Int, faultV k i f s = faultV k' l' f' s' ∧ (k' = 0 ↔ Chk p i hi) ∧ (k' ≠ 0 → l' = i) ∧ (k' = 0 → l' = 0 ∧ f' = 0 ∧ s' = 0) ∧ Ext w w3 :=
    fun he hk hn => ⟨_, _, _, _, rfl, ⟨fun h => absurd h hk, fun h => absurd h hn⟩, fun _ => rfl, fun h => absurd h hk, he⟩
  have hTcv : ∀ j (hj : i < j ∧ j < p.n), (p.cnj.getD i []).getD (j - i - 1) [] = (Tc hv hj).v := fun j hj => rfl
  refine go ?_
  refine r_for (p.n - (i + 1)) (fun k ρ w' => Has ρ [(0, .pointer (some ⟨b, og, none⟩)), (1, .int .i64 i), (4, .pointer (some ⟨bf, 0, none⟩)), (5, .int .i64 p.n), (6, .int .i64 i), (7, .int .i64 (i + 1 + k : Nat))] ∧ Ext w2 w' ∧ ∀ j, j < i + 1 + k → LP p i j) ?_ ?_
  · refine ⟨?_, Ext.refl _, fun j hj hj' => by omega⟩
    exact hasP
  rintro k ρ w3 hk ⟨hH, he3, hP⟩
  refine rwp_has hH fun ρ0 => ?_
  refine go ?_
  refine c_if (fun hj => ?_) (fun hj => ?_)
  · have hjn : i < i + 1 + k ∧ i + 1 + k < p.n := ⟨by omega, by omega⟩
    have hoj : 2 ≤ p.ord.getD (i + 1 + k) 0 ∧ p.ord.getD (i + 1 + k) 0 ≤ 7 := hv.opos hjn.2
    have hcv : (p.cnj.getD i []).getD (i + 1 + k - i - 1) [] = (Tc hv hjn).v := rfl
    refine go ?_
    refine d_order [0, 1, 2, 3, 4, 5, 6, 7, 8, 9, 10, 11, 12, 13, 14, 15, 16, 17, 18, 19, 20, 22, 23, 24, 25, 26, 27, 28, 29, 30, 21, 31, 32, 33] (h := fun w4 he4 _ => ?_)
    refine dgo ?_
    refine dce (power_ok (x := Tc hv hjn) (by omega) hcv ?_) (next := fun v5 w5 h5 => ?_)
    · omega
    obtain ⟨he5, hf5⟩ := h5
    refine dce (imageBy_ok hi (xs := p.w (i + 1 + k)) ?_ (hv.w_in _ hjn.2)) (next := fun v7 w7 h7 => ?_)
    · rfl
    obtain ⟨he7, hf7⟩ := h7
    have hlen := (Grp.pw (Tc hv hjn) (p.ord.getD (i + 1 + k) 0).toNat).inr.len
    refine dce (equalI_ok (xs := (Grp.pw (Tc hv hjn) (p.ord.getD (i + 1 + k) 0).toNat).v) (ys := img p i (p.w (i + 1 + k))) ?_) (next := fun v8 w8 h8 => ?_)
    · omega
    obtain ⟨b8, rfl, hb8, he8⟩ := h8
    have hE8 : Ext w2 w8 := (((he3.trans he4).trans he5).trans he7).trans he8
    refine dgo ?_
    refine d_end (h := ?_)
    refine go ?_
    refine c_b (fun h9 => ?_) (fun h9 => ?_)
    · refine go ?_
      refine ra (v := faultV 1 i (i + 1 + k : Nat) 0) (h := rd_build (by simp only [ev_tmp, ev_const, ev_func, get_put, get_args, get_putL, get_putL_nil, Nat.reduceEqDiff, reduceIte, List.getD_cons_zero, List.getD_cons_succ, List.getD_nil, List.map_toArray, List.map_cons, List.map_nil]; rfl) (fun _ => by kernel_rfl)) (next := ?_)
      refine st_store_agg (vs := [.int .i64 1, .int .i64 i, .int .i64 (i + 1 + k : Nat), .int .i64 0]) (cs := _) (by ((try simp only [ev_tmp, ev_const, ev_func, get_put, get_args, get_putL, get_putL_nil, Nat.reduceEqDiff, reduceIte, List.getD_cons_zero, List.getD_cons_succ, List.getD_nil]); first | done | with_reducible rfl)) (by ((try simp only [ev_tmp, ev_const, ev_func, get_put, get_args, get_putL, get_putL_nil, Nat.reduceEqDiff, reduceIte, List.getD_cons_zero, List.getD_cons_succ, List.getD_nil]); first | done | with_reducible rfl)) rfl ?_ rfl (by first | exact True.intro | exact ⟨_, rfl, by ((try simp only [ev_tmp, ev_const, ev_func, get_put, get_args, get_putL, get_putL_nil, Nat.reduceEqDiff, reduceIte, List.getD_cons_zero, List.getD_cons_succ, List.getD_nil, Bool.not_true, Bool.not_false]); first | done | with_reducible rfl)⟩) fun w9 hc9 hs9 hb9 => ?_
      · rfl
      refine go ?_
      refine retc (bad (k := 1) (f := (i + 1 + k : Nat)) (s := 0) (hc9.ext (he2.trans hE8) (by omega)) (by decide) fun h => ?_) rfl
      have := hb8.2 (((chk_iff2 hi).1 h).1 _ hjn)
      rw [this] at h9; cases h9
    · have h10 := hb8.1 (by simpa using h9)
      refine go ?_
      refine forQ_normal (by omega) ⟨?_, hE8, fun j hj => ?_⟩
      · exact hasP
      · by_cases e : j = i + 1 + k
        · subst e; exact fun _ => h10
        · exact hP j (by omega)
  refine go ?_
  have hP' : ∀ j, LP p i j := fun j => by
    by_cases e : j < i + 1 + k
    · exact hP j e
    · exact fun h => by omega
  clear hP hH hk hj
  refine r_for (p.n - (i + 1)) (fun k ρ w' => Has ρ [(0, .pointer (some ⟨b, og, none⟩)), (1, .int .i64 i), (4, .pointer (some ⟨bf, 0, none⟩)), (5, .int .i64 p.n), (6, .int .i64 i), (8, .int .i64 (i + 1 + k : Nat))] ∧ Ext w2 w' ∧ ∀ j k', j < i + 1 + k → QC p i j k') ?_ ?_
  · refine ⟨?_, he3, fun j k' hj hj' => by omega⟩
    exact hasP
  clear he3 ρ0 k
  rintro k ρ w4 hk ⟨hH, he4, hC⟩
  refine rwp_has hH fun ρ1 => ?_
  refine go ?_
  refine c_if (fun hj => ?_) (fun hj => ?_)
  · have hjn : i < i + 1 + k ∧ i + 1 + k < p.n := ⟨by omega, by omega⟩
    refine go ?_
    refine r_for (p.n - (i + 1 + k + 1)) (fun l ρ w' => Has ρ [(0, .pointer (some ⟨b, og, none⟩)), (1, .int .i64 i), (4, .pointer (some ⟨bf, 0, none⟩)), (5, .int .i64 p.n), (6, .int .i64 i), (8, .int .i64 (i + 1 + k : Nat)), (9, .int .i64 (i + 1 + k + 1 + l : Nat))] ∧ Ext w2 w' ∧ ∀ k', k' < i + 1 + k + 1 + l → QC p i (i + 1 + k) k') ?_ ?_
    · refine ⟨?_, he4, fun k' hk' h1 h2 h3 => by omega⟩
      exact hasP
    clear he4
    rintro l ρ w5 hl ⟨hH5, he5, hC5⟩
    refine rwp_has hH5 fun ρ2 => ?_
    refine go ?_
    refine c_if (fun hk2 => ?_) (fun hk2 => ?_)
    · have hkn : i < i + 1 + k + 1 + l ∧ i + 1 + k + 1 + l < p.n := ⟨by omega, by omega⟩
      have hjk : i + 1 + k < i + 1 + k + 1 + l := by omega
      have hcj := hv.lenci (i + 1 + k) hjn.2
      have hcv1 : (p.cnj.getD i []).getD (i + 1 + k - i - 1) [] = (Tc hv hjn).v := rfl
      have hcv2 : (p.cnj.getD i []).getD (i + 1 + k + 1 + l - i - 1) [] = (Tc hv hkn).v := rfl
      refine go ?_
      refine d_order [0, 1, 2, 3, 4, 5, 6, 7, 8, 9, 10, 11, 12, 13, 14, 15, 16, 17, 18, 19, 20, 21, 22, 23, 24, 25, 26, 28, 29, 30, 31, 32, 33, 34, 35, 36, 37, 38, 39, 40, 41, 42, 27, 43, 44, 45] (h := fun w6 he6 _ => ?_)
      refine dgo ?_
      refine dce (conjugate_ok (x := Tc hv hkn) (y := Tc hv hjn) (by omega) hcv2 hcv1) (next := fun v7 w7 h7 => ?_)
      obtain ⟨he7, hf7⟩ := h7
      refine dce (imageBy_ok hi (xs := p.c (i + 1 + k) (i + 1 + k + 1 + l)) ?_ (hv.c_in _ _ hjk hkn.2)) (next := fun v8 w8 h8 => ?_)
      · rfl
      obtain ⟨he8, hf8⟩ := h8
      have hlen := (Grp.cj (Tc hv hkn) (Tc hv hjn)).inr.len
      refine dce (equalI_ok (xs := (Grp.cj (Tc hv hkn) (Tc hv hjn)).v) (ys := img p i (p.c (i + 1 + k) (i + 1 + k + 1 + l))) ?_) (next := fun v9 w9 h9 => ?_)
      · omega
      obtain ⟨b9, rfl, hb9, he9⟩ := h9
      have hE9 : Ext w2 w9 := (((he5.trans he6).trans he7).trans he8).trans he9
      refine dgo ?_
      refine d_end (h := ?_)
      refine go ?_
      refine c_b (fun h10 => ?_) (fun h10 => ?_)
      · refine go ?_
        refine ra (v := faultV 2 i (i + 1 + k : Nat) (i + 1 + k + 1 + l : Nat)) (h := rd_build (by simp only [ev_tmp, ev_const, ev_func, get_put, get_args, get_putL, get_putL_nil, Nat.reduceEqDiff, reduceIte, List.getD_cons_zero, List.getD_cons_succ, List.getD_nil, List.map_toArray, List.map_cons, List.map_nil]; rfl) (fun _ => by kernel_rfl)) (next := ?_)
        refine st_store_agg (vs := [.int .i64 2, .int .i64 i, .int .i64 (i + 1 + k : Nat), .int .i64 (i + 1 + k + 1 + l : Nat)]) (cs := _) (by ((try simp only [ev_tmp, ev_const, ev_func, get_put, get_args, get_putL, get_putL_nil, Nat.reduceEqDiff, reduceIte, List.getD_cons_zero, List.getD_cons_succ, List.getD_nil]); first | done | with_reducible rfl)) (by ((try simp only [ev_tmp, ev_const, ev_func, get_put, get_args, get_putL, get_putL_nil, Nat.reduceEqDiff, reduceIte, List.getD_cons_zero, List.getD_cons_succ, List.getD_nil]); first | done | with_reducible rfl)) rfl ?_ rfl (by first | exact True.intro | exact ⟨_, rfl, by ((try simp only [ev_tmp, ev_const, ev_func, get_put, get_args, get_putL, get_putL_nil, Nat.reduceEqDiff, reduceIte, List.getD_cons_zero, List.getD_cons_succ, List.getD_nil, Bool.not_true, Bool.not_false]); first | done | with_reducible rfl)⟩) fun w10 hc10 hs10 hb10 => ?_
        · rfl
        refine go ?_
        refine retc (bad (k := 2) (f := (i + 1 + k : Nat)) (s := (i + 1 + k + 1 + l : Nat)) (hc10.ext (he2.trans hE9) (by omega)) (by decide) fun h => ?_) rfl
        have := hb9.2 (((chk_iff2 hi).1 h).2.1 _ _ hjn hkn hjk)
        rw [this] at h10; cases h10
      · have h11 := hb9.1 (by simpa using h10)
        refine go ?_
        refine forQ_normal (by omega) ⟨?_, hE9, fun k' hk' => ?_⟩
        · exact hasP
        · by_cases e : k' = i + 1 + k + 1 + l
          · subst e; exact fun _ _ _ => h11
          · exact hC5 k' (by omega)
    · refine go ?_
      refine forQ_normal (by omega) ⟨?_, he5, fun j k' hj2 => ?_⟩
      · exact hasP
      · by_cases e : j = i + 1 + k
        · subst e
          by_cases e2 : k' < i + 1 + k + 1 + l
          · exact hC5 k' e2
          · exact fun _ _ _ => by omega
        · exact hC j k' (by omega)
  refine go ?_
  have hC' : ∀ j k', QC p i j k' := fun j k' => by
    by_cases e : j < i + 1 + k
    · exact hC j k' e
    · exact fun h _ _ => by omega
  clear hC hH hk hj
  refine rc (imageBy_ok hi (xs := p.w i) ?_ (hv.w_in _ hi)) (next := fun v5 w5 h5 => ?_)
  · rfl
  obtain ⟨he5, hf5⟩ := h5
  have hlen := (img_in hv i (p.w i)).1.len
  refine go ?_
  refine rc (equalI_ok (xs := img p i (p.w i)) (ys := p.w i) ?_) (next := fun v6 w6 h6 => ?_)
  · omega
  obtain ⟨b6, rfl, hb6, he6⟩ := h6
  have hE6 : Ext w2 w6 := (he4.trans he5).trans he6
  clear he4 he5 he6 hf5
  refine go ?_
  refine c_b (fun h7 => ?_) (fun h7 => ?_)
  · refine go ?_
    refine ra (v := faultV 3 i 0 0) (h := rd_build (by simp only [ev_tmp, ev_const, ev_func, get_put, get_args, get_putL, get_putL_nil, Nat.reduceEqDiff, reduceIte, List.getD_cons_zero, List.getD_cons_succ, List.getD_nil, List.map_toArray, List.map_cons, List.map_nil]; rfl) (fun _ => by kernel_rfl)) (next := ?_)
    refine st_store_agg (vs := [.int .i64 3, .int .i64 i, .int .i64 0, .int .i64 0]) (cs := _) (by ((try simp only [ev_tmp, ev_const, ev_func, get_put, get_args, get_putL, get_putL_nil, Nat.reduceEqDiff, reduceIte, List.getD_cons_zero, List.getD_cons_succ, List.getD_nil]); first | done | with_reducible rfl)) (by ((try simp only [ev_tmp, ev_const, ev_func, get_put, get_args, get_putL, get_putL_nil, Nat.reduceEqDiff, reduceIte, List.getD_cons_zero, List.getD_cons_succ, List.getD_nil]); first | done | with_reducible rfl)) rfl ?_ rfl (by first | exact True.intro | exact ⟨_, rfl, by ((try simp only [ev_tmp, ev_const, ev_func, get_put, get_args, get_putL, get_putL_nil, Nat.reduceEqDiff, reduceIte, List.getD_cons_zero, List.getD_cons_succ, List.getD_nil, Bool.not_true, Bool.not_false]); first | done | with_reducible rfl)⟩) fun w9 hc9 hs9 hb9 => ?_
    · rfl
    refine go ?_
    refine retc (bad (k := 3) (f := 0) (s := 0) (hc9.ext (he2.trans hE6) (by omega)) (by decide) fun h => ?_) rfl
    have := hb6.2 ((chk_iff2 hi).1 h).2.2.1
    rw [this] at h7; cases h7
  have hF := hb6.1 (by simpa using h7)
  clear h7
  refine go ?_
  refine r_for (p.n - (i + 1)) (fun k ρ w' => Has ρ [(0, .pointer (some ⟨b, og, none⟩)), (1, .int .i64 i), (4, .pointer (some ⟨bf, 0, none⟩)), (5, .int .i64 p.n), (6, .int .i64 i), (10, Pc.rowAt vpw ps i), (11, .int .i64 (i + 1 + k : Nat))] ∧ Ext w2 w' ∧ ∀ j, j < i + 1 + k → QI p i hi j) ?_ ?_
  · refine ⟨?_, hE6, fun j hj h1 => by omega⟩
    exact hasP
  clear hE6
  rintro l ρ w8 hk ⟨hH, he8, hI⟩
  refine rwp_has hH fun ρ2 => ?_
  refine go ?_
  refine c_if (fun hj => ?_) (fun hj => ?_)
  · have hjn : i + 1 ≤ i + 1 + l ∧ i + 1 + l < p.n := ⟨by omega, by omega⟩
    refine go ?_
    refine rc (unitVector_ok (n := p.n) (i := i + 1 + l) rfl rfl ?_ hjn.2) (next := fun v9 w9 h9 => ?_)
    · omega
    obtain ⟨he9, hf9⟩ := h9
    have hg0 : (zeros p.n).set (i + 1 + l) 1 = unitv p (i + 1 + l) 1 := rfl
    rw [hg0] at hf9
    have hz8 := he8.size
    refine go ?_
    refine r_for (p.o i).toNat (fun q ρ w' => ∃ vx, Has ρ [(0, .pointer (some ⟨b, og, none⟩)), (1, .int .i64 i), (4, .pointer (some ⟨bf, 0, none⟩)), (5, .int .i64 p.n), (6, .int .i64 i), (10, Pc.rowAt vpw ps i), (11, .int .i64 (i + 1 + l : Nat)), (12, vx), (159, .int .i64 (p.ord.getD i 0)), (160, .int .i64 q)] ∧ Ext w8 w' ∧ Fr w8.heap.size w' vx (rep q (img p i) (unitv p (i + 1 + l) 1))) ?_ ?_
    · refine ⟨v9, ?_, he9, hf9⟩
      exact hasP
    clear he9 hf9
    rintro q ρ w10 hq ⟨vx, hH, he10, hf10⟩
    refine rwp_has hH fun ρ3 => ?_
    have hin : InR p (rep q (img p i) (unitv p (i + 1 + l) 1)) ∧ ZU (i + 1) (rep q (img p i) (unitv p (i + 1 + l) 1)) := by
      refine rep_inv (fun v => InR p v ∧ ZU (i + 1) v) (fun x _ => img_in hv i x) ⟨?_, unitv_zu p hjn.1 1⟩ q
      exact unitv_in hv (by omega) (fun h => by have := hv.opos h; omega)
    have hxi := hf10.ints
    refine go ?_
    refine c_if (fun hq2 => ?_) (fun hq2 => ?_)
    · refine go ?_
      refine rc (imageBy_ok hi (xs := rep q (img p i) (unitv p (i + 1 + l) 1)) ?_ hin.1) (next := fun v11 w11 h11 => ?_)
      · rfl
      obtain ⟨he11, hf11⟩ := h11
      refine go ?_
      refine forQ_normal (by omega) ⟨v11, ?_, he10.trans he11, hf11.mono he10.size⟩
      exact hasP
    · have hqe : q = (p.o i).toNat := by omega
      subst hqe
      refine go ?_
      refine rc (unitVector_ok (n := p.n) (i := i + 1 + l) rfl rfl ?_ hjn.2) (next := fun v11 w11 h11 => ?_)
      · omega
      obtain ⟨he11, hf11⟩ := h11
      refine go ?_
      refine rc (conjugate_ok (x := gen hv (i + 1) (i + 1 + l) hjn) (y := Tw hv hi) (xs := (zeros p.n).set (i + 1 + l) 1) (ys := p.w i) (by omega) rfl rfl) (next := fun v12 w12 h12 => ?_)
      obtain ⟨he12, hf12⟩ := h12
      have hlen2 := hin.1.len
      refine go ?_
      refine rc (equalI_ok (xs := rep (p.o i).toNat (img p i) (unitv p (i + 1 + l) 1)) (ys := (Grp.cj (gen hv (i + 1) (i + 1 + l) hjn) (Tw hv hi)).v) ?_) (next := fun v13 w13 h13 => ?_)
      · omega
      obtain ⟨b13, rfl, hb13, he13⟩ := h13
      have hE13 : Ext w2 w13 := (((he8.trans he10).trans he11).trans he12).trans he13
      refine go ?_
      refine c_b (fun h14 => ?_) (fun h14 => ?_)
      · refine go ?_
        refine ra (v := faultV 4 i (i + 1 + l : Nat) 0) (h := rd_build (by simp only [ev_tmp, ev_const, ev_func, get_put, get_args, get_putL, get_putL_nil, Nat.reduceEqDiff, reduceIte, List.getD_cons_zero, List.getD_cons_succ, List.getD_nil, List.map_toArray, List.map_cons, List.map_nil]; rfl) (fun _ => by kernel_rfl)) (next := ?_)
        refine st_store_agg (vs := [.int .i64 4, .int .i64 i, .int .i64 (i + 1 + l : Nat), .int .i64 0]) (cs := _) (by ((try simp only [ev_tmp, ev_const, ev_func, get_put, get_args, get_putL, get_putL_nil, Nat.reduceEqDiff, reduceIte, List.getD_cons_zero, List.getD_cons_succ, List.getD_nil]); first | done | with_reducible rfl)) (by ((try simp only [ev_tmp, ev_const, ev_func, get_put, get_args, get_putL, get_putL_nil, Nat.reduceEqDiff, reduceIte, List.getD_cons_zero, List.getD_cons_succ, List.getD_nil]); first | done | with_reducible rfl)) rfl ?_ rfl (by first | exact True.intro | exact ⟨_, rfl, by ((try simp only [ev_tmp, ev_const, ev_func, get_put, get_args, get_putL, get_putL_nil, Nat.reduceEqDiff, reduceIte, List.getD_cons_zero, List.getD_cons_succ, List.getD_nil, Bool.not_true, Bool.not_false]); first | done | with_reducible rfl)⟩) fun w15 hc15 hs15 hb15 => ?_
        · rfl
        refine go ?_
        refine retc (bad (k := 4) (f := (i + 1 + l : Nat)) (s := 0) (hc15.ext (he2.trans hE13) (by omega)) (by decide) fun h => ?_) rfl
        have := hb13.2 (((chk_iff2 hi).1 h).2.2.2 (i + 1 + l) hjn)
        rw [this] at h14; cases h14
      · have h15 := hb13.1 (by simpa using h14)
        refine go ?_
        refine forQ_normal (by omega) ⟨?_, hE13, fun j hj2 => ?_⟩
        · exact hasP
        · by_cases e : j = i + 1 + l
          · subst e; exact fun _ => h15
          · exact hI j (by omega)
  · refine go ?_
    refine ra (v := faultV 0 0 0 0) (h := rd_build (by rfl) (fun _ => by kernel_rfl)) (next := ?_)
    refine st_store_agg (vs := [.int .i64 0, .int .i64 0, .int .i64 0, .int .i64 0]) (cs := _) (by ((try simp only [ev_tmp, ev_const, ev_func, get_put, get_args, get_putL, get_putL_nil, Nat.reduceEqDiff, reduceIte, List.getD_cons_zero, List.getD_cons_succ, List.getD_nil]); first | done | with_reducible rfl)) (by ((try simp only [ev_tmp, ev_const, ev_func, get_put, get_args, get_putL, get_putL_nil, Nat.reduceEqDiff, reduceIte, List.getD_cons_zero, List.getD_cons_succ, List.getD_nil]); first | done | with_reducible rfl)) rfl ?_ rfl (by first | exact True.intro | exact ⟨_, rfl, by ((try simp only [ev_tmp, ev_const, ev_func, get_put, get_args, get_putL, get_putL_nil, Nat.reduceEqDiff, reduceIte, List.getD_cons_zero, List.getD_cons_succ, List.getD_nil, Bool.not_true, Bool.not_false]); first | done | with_reducible rfl)⟩) fun w15 hc15 hs15 hb15 => ?_
    · rfl
    refine go ?_
    exact retc ⟨0, 0, 0, 0, rfl, ⟨fun _ => (chk_iff2 hi).2 ⟨hP', hC', hF, fun j h1 => hI j (by omega) h1⟩, fun _ => rfl⟩, fun h => absurd rfl h, fun _ => ⟨rfl, rfl, rfl⟩, hc15.ext (he2.trans he8) (by omega)⟩ rfl
end Go.Proofs.YtnphljflkpekmaaGreat

/-
  Walks: the program's consistency of a presentation (consistentFrom, IsConsistent).
  Conditions: stated at each theorem.
-/
namespace Go.Proofs.YtnphljflkpekmaaGreat
open Go Go.Pc
theorem fault_guard : (Tryz.prog.eqGuardType Tryz.prog.depth 151) = false := by kernel_rfl
theorem fault_held : (Tryz.prog.stoodInHeld 151) = false := by kernel_rfl
theorem fault_fields : Tryz.prog.underlying 151 = some (.struct (Tryz.prog.fieldsOf 151)) := by simp [Program.fieldsOf, Tryz.underlying151]
theorem rd_eqFault {ρ : Env} {w : World} {ty : TypeId} {x y : Operand} {k l f s : Int} (h : ev ρ x = faultV k l f s) (h' : ev ρ y = faultV 0 0 0 0) :
    Rd Tryz.prog (.binOp .eql 151 x y 151) ty ρ w (.bool (decide (k = 0 ∧ l = 0 ∧ f = 0 ∧ s = 0))) := by
  constructor; intro _ _ _ _
  have h2 := fun d a b w => run_equalIn_int (P := Tryz.prog) w d 2 .i64 .i64 a b Tryz.underlying2
  simp [execOp, h, h', run_eqGuard_agg _ _ _ _ _ _ _ fault_guard, run_eql_struct, run_equalIn_agg _ _ _ _ _ fault_fields fault_held, Program.fieldsOf, Tryz.underlying151, Op.eqFields, h2, go_sem]
  by_cases hk : k = 0 <;> by_cases hl : l = 0 <;> by_cases hf : f = 0 <;> by_cases hs : s = 0 <;> simp [hk, hl, hf, hs]
set_option maxHeartbeats 1000000 in
theorem consistentFrom_ok {p : Pr} (hv : Valid p) {w : World} {vp : Value} {lo hi' : Nat} [hp : PresP lo hi' w vp p] :
    Calls Tryz.prog 156 #[vp] w (Ret fun v w' => ∃ i : Nat, v = .int .i64 i ∧ i ≤ p.n ∧ Levs p i ∧ (i ≠ 0 → ¬ Lev p (i - 1)) ∧ Ext w w') := by
  have hn6 := hv.n6
  have hol : p.ord.length = p.n := rfl
  obtain ⟨b, og, vo, vpw, vc, ps, cs, css, rfl, hb1, hb2, hc0, hc1, hc2, h1, h2, h3⟩ := hp.ex
  refine enter (args := [.pointer (some ⟨b, og, none⟩)]) (l := [.tmp 2]) Tryz.func156 rfl rfl Tryz.ntmps156 (by simp) ?_
  refine go ?_
  refine r_for p.n (fun k ρ w' => Has ρ [(0, .pointer (some ⟨b, og, none⟩)), (3, .int .i64 (p.n - k : Nat))] ∧ Ext w w' ∧ Levs p (p.n - k)) ?_ ?_
  · refine ⟨?_, Ext.refl _, fun j h h' => by omega⟩
    exact hasP
  rintro k ρ w3 hk ⟨hH, he3, hL⟩
  refine rwp_has hH fun ρ0 => ?_
  refine go ?_
  refine spd (fun h4 => ?_) (fun h4 => ?_)
  · obtain ⟨i, hie⟩ : ∃ i : Nat, p.n - k = i + 1 := ⟨p.n - k - 1, by omega⟩
    have hi : i < p.n := by omega
    rw [hie] at hL h4 ⊢
    have hc : Con p (i + 1) := Levs.con hv hL
    refine go ?_
    refine rc (levelFault_ok (p := p) (i := i) hi ?_) (next := fun v5 w5 h5 => ?_)
    · omega
    obtain ⟨k5, l5, f5, s5, rfl, hz, hl5, h05, he5⟩ := h5
    refine go ?_
    refine ra (v := faultV 0 0 0 0) (h := rd_build (by rfl) (fun _ => by kernel_rfl)) (next := ?_)
    refine go ?_
    refine ra (h := rd_eqFault (k := k5) (l := l5) (f := f5) (s := s5) (by ((try simp only [ev_tmp, ev_const, ev_func, get_put, get_args, get_putL, get_putL_nil, Nat.reduceEqDiff, reduceIte, List.getD_cons_zero, List.getD_cons_succ, List.getD_nil]); first | done | with_reducible rfl)) (by ((try simp only [ev_tmp, ev_const, ev_func, get_put, get_args, get_putL, get_putL_nil, Nat.reduceEqDiff, reduceIte, List.getD_cons_zero, List.getD_cons_succ, List.getD_nil]); first | done | with_reducible rfl))) (next := ?_)
    refine go ?_
    refine c_if (fun h8 => ?_) (fun h8 => ?_)
    · refine go ?_
      refine forQ_normal (by omega) ⟨?_, he3.trans he5, fun j hj hjn => ?_⟩
      · exact hasP
      · by_cases e : j = i
        · subst e; exact ⟨hc, hi, hz.1 h8.1⟩
        · exact hL j (by omega) hjn
    · refine go ?_
      refine ret1 ⟨i + 1, rfl, by omega, hL, fun _ => ?_, he3.trans he5⟩
      rintro ⟨_, _, h9⟩
      have h0 := hz.2 h9
      exact h8 ⟨h0, h05 h0⟩
  · refine go ?_
    have hkn : p.n - k = 0 := by omega
    rw [hkn] at hL ⊢
    exact ret1 ⟨0, rfl, by omega, hL, fun h => absurd rfl h, he3⟩
set_option maxHeartbeats 1000000 in
theorem impl_IsConsistent_ok {w : World} {vp : Value} {p : Pr} {lo hi' : Nat} [hp : Pres lo hi' w vp p] (hl : p.ord.length ≤ 2000000) :
    Calls Tryz.prog 113 #[vp] w (Ret fun v w' => ∃ b, v = .bool b ∧ (b = true ↔ IsGrp p) ∧ Ext w w') := by
  obtain ⟨vo, vpw, vc, ps, cs, css, rfl, h1, h2, h3⟩ := hp.ex
  refine enter (args := [.agg #[vo, vpw, vc]]) (l := [.tmp 2]) Tryz.func113 rfl rfl Tryz.ntmps113 (by simp) ?_
  refine go ?_
  refine st_box3 (by ((try simp only [ev_tmp, ev_const, ev_func, get_put, get_args, get_putL, get_putL_nil, Nat.reduceEqDiff, reduceIte, List.getD_cons_zero, List.getD_cons_succ, List.getD_nil]); first | done | with_reducible rfl)) (by first | exact True.intro | exact ⟨_, rfl, by ((try simp only [ev_tmp, ev_const, ev_func, get_put, get_args, get_putL, get_putL_nil, Nat.reduceEqDiff, reduceIte, List.getD_cons_zero, List.getD_cons_succ, List.getD_nil, Bool.not_true, Bool.not_false]); first | done | with_reducible rfl)⟩) fun w1 b he1 hb1 hs1 hc0 hc1 hc2 => ?_
  have hpp := hp.boxed he1 hc0 hc1 hc2
  refine go ?_
  refine rc (impl_IsPresentation_ok hl) (next := fun v5 w5 h5 => ?_)
  obtain ⟨b5, rfl, hb5, he5⟩ := h5
  refine go ?_
  refine sp (fun e5 => ?_) (fun e5 => ?_)
  · have hv := hb5.1 e5
    refine go ?_
    refine rc (consistentFrom_ok hv) (next := fun v6 w6 h6 => ?_)
    obtain ⟨i, rfl, hi, hL, hno, he6⟩ := h6
    refine go ?_
    refine ret1 ⟨_, rfl, ?_, (he1.trans he5).trans he6⟩
    rw [decide_eq_true_eq]
    constructor
    · intro h
      have : i = 0 := by omega
      subst this
      exact ⟨hv, hL⟩
    · intro h
      by_cases e : i = 0
      · omega
      · exact absurd (h.levs (i - 1) (by omega) (by omega)) (hno e)
  · refine go ?_
    refine ret1 ⟨_, rfl, ?_, he1.trans he5⟩
    simp only [Bool.false_eq_true, false_iff]
    intro h
    have := hb5.2 h.valid
    rw [e5] at this; cases this
end Go.Proofs.YtnphljflkpekmaaGreat

/-
  Walks: the program's test of subgroups (areSubgroups, IsSubgroup).
  Conditions: stated at each theorem.
-/
namespace Go.Proofs.YtnphljflkpekmaaGreat
open Go Go.Pc
theorem PresP.val {lo hi b : Nat} {w : World} {p : Pr} {vo vp vc : Value} {ps cs : List Value} {css : List (List Value)} (h1 : Ints lo hi w vo p.ord) (h2 : Pc.Rows lo hi w vp ps p.pow) (h3 : Rowss lo hi w vc cs css p.cnj) : Pres lo hi w (.agg #[vo, vp, vc]) p := ⟨⟨vo, vp, vc, ps, cs, css, rfl, h1, h2, h3⟩⟩
set_option maxHeartbeats 2000000 in
theorem areSubgroups_ok {p : Pr} {w : World} {vp vl : Value} {us : List Value} {uss : List (List Value)} {xsss : List (List (List Int))} {lo hi lo1 hi1 : Nat} [hp : PresP lo hi w vp p] [hl : Rowss lo1 hi1 w vl us uss xsss] (hol : p.ord.length ≤ 2000000) (hxl : xsss.length ≤ 2000000) :
    Calls Tryz.prog 69 #[vp, vl] w (Ret fun v w' => ∃ b, v = .bool b ∧ (b = true ↔ ∃ h : IsGrp p, ∀ i, i < xsss.length → @IsSeq p ⟨h.con⟩ (xsss.getD i [])) ∧ Ext w w') := by
  have hoe : p.ord.length = p.n := rfl
  obtain ⟨g, og, vo, vpw, vc, ps, cs, css, rfl, hg1, hg2, hc0, hc1, hc2, h1, h2, h3⟩ := hp.ex
  have hpv := PresP.val (b := g) h1 h2 h3
  refine enter (args := [.pointer (some ⟨g, og, none⟩), vl]) (l := [.tmp 4]) Tryz.func69 rfl rfl Tryz.ntmps69 (by simp) ?_
  refine go ?_
  refine rc (impl_IsConsistent_ok (p := p) hol) (next := fun v1 w1 h4 => ?_)
  obtain ⟨b1, rfl, hb1, he1⟩ := h4
  refine go ?_
  refine c_b (fun e1 => ?_) (fun e1 => ?_)
  · refine go ?_
    refine ret1 ⟨_, rfl, ?_, he1⟩
    simp only [Bool.false_eq_true, false_iff]
    rintro ⟨h, _⟩
    have := hb1.2 h
    rw [this] at e1; cases e1
  have hG := hb1.1 (by simpa using e1)
  haveI hcon : ConAll p := ⟨hG.con⟩
  have hv := hG.valid
  have hn6 := hv.n6
  have hno : ∀ {b : Bool} {w' : World} (i : Nat), i < xsss.length → ¬ IsSeq p (xsss.getD i []) → Ext w w' → ∃ b, Value.bool false = .bool b ∧ (b = true ↔ ∃ h : IsGrp p, ∀ i, i < xsss.length → @IsSeq p ⟨h.con⟩ (xsss.getD i [])) ∧ Ext w w' := by
    intro b w' i hi hn he
    refine ⟨_, rfl, ?_, he⟩
    simp only [Bool.false_eq_true, false_iff]
    rintro ⟨h, h5⟩
    exact hn (h5 i hi)
  refine go ?_
  refine r_for xsss.length (fun k ρ w' => Has ρ [(0, .pointer (some ⟨g, og, none⟩)), (14, vl), (15, .int .i64 xsss.length), (16, .int .i64 k)] ∧ Ext w w' ∧ ∀ i, i < k → IsSeq p (xsss.getD i [])) ?_ ?_
  · refine ⟨?_, he1, fun i hi => by omega⟩
    exact hasP
  clear he1
  rintro k ρ w2 hk ⟨hH, he2, hI⟩
  refine rwp_has hH fun ρ0 => ?_
  refine go ?_
  refine c_if (fun h4 => ?_) (fun h4 => ?_)
  · have hkn : k < xsss.length := by omega
    refine go ?_
    refine c_if (fun h5 => ?_) (fun h5 => ?_)
    · refine go ?_
      refine ret1 (hno (b := false) k hkn (fun h => ?_) he2)
      have := h.len; omega
    refine go ?_
    refine r_for (xsss.getD k []).length (fun q ρ w' => Has ρ [(0, .pointer (some ⟨g, og, none⟩)), (6, Pc.rowAt vl us k), (14, vl), (15, .int .i64 xsss.length), (16, .int .i64 k), (28, Pc.rowAt vl us k), (29, .int .i64 (xsss.getD k []).length), (30, .int .i64 q)] ∧ Ext w w' ∧ ∀ i, i < q → InR p ((xsss.getD k []).getD i [])) ?_ ?_
    · refine ⟨?_, he2, fun i hi => by omega⟩
      exact hasP
    clear he2
    rintro q ρ w3 hq ⟨hH3, he3, hQ⟩
    refine rwp_has hH3 fun ρ1 => ?_
    refine go ?_
    refine c_if (fun h6 => ?_) (fun h6 => ?_)
    · refine go ?_
      refine rc (isExponents_ok (p := p) (xs := (xsss.getD k []).getD q []) (fun i hi => hv.opos hi) (by omega)) (next := fun v4 w4 h7 => ?_)
      obtain ⟨b4, rfl, hb4, he4⟩ := h7
      refine go ?_
      refine c_b (fun h8 => ?_) (fun h8 => ?_)
      · refine go ?_
        refine ret1 (hno (b := false) k hkn (fun h => ?_) (he3.trans he4))
        obtain ⟨ys, hys, _⟩ := h
        have : InR p ((xsss.getD k []).getD q []) := by rw [hys]; exact vecs_in (by rw [← hys]; omega)
        rw [hb4.2 this] at h8; cases h8
      · have h9 := hb4.1 (by simpa using h8)
        refine go ?_
        refine forQ_normal (by omega) ⟨?_, he3.trans he4, fun i hi => ?_⟩
        · exact hasP
        · by_cases e : i = q
          · subst e; exact h9
          · exact hQ i (by omega)
    · obtain ⟨ys, hys⟩ := els_of (xss := xsss.getD k []) (fun i hi => hQ i (by omega))
      have hyl : (xsss.getD k []).length = ys.length := by rw [hys]; simp
      refine go ?_
      refine rc (generated_ok (p := p) (ys := ys) hys ?_) (next := fun v4 w4 h7 => ?_)
      · omega
      obtain ⟨he4, us4, hL4⟩ := h7
      have hr4 := hL4.toRows
      have hcl := canTo_len (Gen (fun a : El p => a ∈ ys)) p.n
      rw [canTo_end] at hcl
      refine go ?_
      refine rc (sameRows_ok (xss := canon (Gen (fun a : El p => a ∈ ys))) (yss := xsss.getD k []) ?_ ?_) (next := fun v5 w5 h8 => ?_)
      · intro i
        have := canon_row (Gen (fun a : El p => a ∈ ys)) i
        omega
      · omega
      obtain ⟨b5, rfl, hb5, he5⟩ := h8
      refine go ?_
      refine c_b (fun h9 => ?_) (fun h9 => ?_)
      · refine go ?_
        refine ret1 (hno (b := false) k hkn (fun h => ?_) ((he3.trans he4).trans he5))
        obtain ⟨zs, hzs, h10⟩ := h
        obtain rfl : ys = zs := vecs_inj (hys.symm.trans hzs)
        rw [hb5.2 h10] at h9; cases h9
      · have h10 := hb5.1 (by simpa using h9)
        refine go ?_
        refine forQ_normal (by omega) ⟨?_, (he3.trans he4).trans he5, fun i hi => ?_⟩
        · exact hasP
        · by_cases e : i = k
          · subst e; exact ⟨ys, hys, h10⟩
          · exact hI i (by omega)
  · refine go ?_
    refine ret1 ⟨_, rfl, ?_, he2⟩
    simp only [true_iff]
    exact ⟨hG, fun i hi => hI i (by omega)⟩
end Go.Proofs.YtnphljflkpekmaaGreat

/-
  Walks: the program's order of a subgroup (sizeOf, SubgroupOrder).
  Conditions: stated at each theorem.
-/
namespace Go.Proofs.YtnphljflkpekmaaGreat
open Go Go.Pc
end Go.Proofs.YtnphljflkpekmaaGreat

/-
  Walks: the program's IsMember and IsSubset.
  Conditions: what the arguments read as.
-/
namespace Go.Proofs.YtnphljflkpekmaaGreat
open Go Go.Pc
theorem rows_none (w : World) (hi : Nat) : Pc.Rows 0 hi w nilv [] [] :=
  ⟨⟨⟨none, 0, rfl, Nat.le_refl _, by omega, fun k u hu => by simp at hu⟩⟩, rfl, fun j => by simpa using (Ints.nil_ w).mono (Nat.le_refl 0) (Nat.zero_le _)⟩
theorem rowss_one {w : World} {v u : Value} {us : List Value} {xss : List (List Int)} {lo hi lo1 hi1 : Nat} (hs : Sl lo hi w v [u]) (hu : Pc.Rows lo1 hi1 w u us xss) : Rowss 0 w.heap.size w v [u] [us] [xss] := by
  refine ⟨hs.wide, rfl, rfl, fun i => ?_⟩
  cases i with
  | zero => exact hu.wide
  | succ i => exact rows_none w _
theorem rowss_two {w : World} {v u t : Value} {us ts : List Value} {xss yss : List (List Int)} {lo hi lo1 hi1 lo2 hi2 : Nat} (hs : Sl lo hi w v [u, t]) (hu : Pc.Rows lo1 hi1 w u us xss) (ht : Pc.Rows lo2 hi2 w t ts yss) : Rowss 0 w.heap.size w v [u, t] [us, ts] [xss, yss] := by
  refine ⟨hs.wide, rfl, rfl, fun i => ?_⟩
  match i with
  | 0 => exact hu.wide
  | 1 => exact ht.wide
  | i + 2 => exact rows_none w _
theorem areSub1 {p : Pr} {xss : List (List Int)} : (∃ h : IsGrp p, ∀ i, i < [xss].length → @IsSeq p ⟨h.con⟩ ([xss].getD i [])) ↔ IsSubP p xss :=
  ⟨fun ⟨h, h5⟩ => ⟨h, h5 0 (by simp)⟩, fun ⟨h, h5⟩ => ⟨h, fun i hi => by
    have : i = 0 := by simpa using hi
    subst this
    exact h5⟩⟩
theorem areSub2 {p : Pr} {xss yss : List (List Int)} : (∃ h : IsGrp p, ∀ i, i < [xss, yss].length → @IsSeq p ⟨h.con⟩ ([xss, yss].getD i [])) ↔ IsSubP p xss ∧ IsSubP p yss :=
  ⟨fun ⟨h, h5⟩ => ⟨⟨h, h5 0 (by simp)⟩, ⟨h, h5 1 (by simp)⟩⟩, fun ⟨⟨h, h5⟩, ⟨_, h6⟩⟩ => ⟨h, fun i hi => by
    match i, hi with
    | 0, _ => exact h5
    | 1, _ => exact h6⟩⟩
theorem isMember_ok {p : Pr} [hc : ConAll p] {ys : List (El p)} (hs : SeqEl ys) {w : World} {vp vu vx : Value} {us : List Value} {xss : List (List Int)} {x : El p} {xs : List Int} {lo hi lo1 hi1 lo2 hi2 : Nat} [hp : PresP lo hi w vp p] [hu : Pc.Rows lo1 hi1 w vu us xss] [hx : Ints lo2 hi2 w vx xs] (hus : xss = vecs ys) (hxe : xs = x.v) :
    Calls Tryz.prog 131 #[vp, vu, vx] w (Ret fun v w' => ∃ b, v = .bool b ∧ (b = true ↔ Gen (fun a : El p => a ∈ ys) x) ∧ Ext w w') := by
  have hn6 := hc.valid.n6
  have hyl := hs.len
  refine enter (args := [vp, vu, vx]) (l := [.tmp 6]) Tryz.func131 rfl rfl Tryz.ntmps131 (by simp) ?_
  refine go ?_
  refine rc (representative_ok (p := p) (x := x) hs.ok hus hxe (by omega)) (next := fun v2 w2 h4 => ?_)
  obtain ⟨he2, r, hf2, hr⟩ := h4
  have hrl := r.inr.len
  refine go ?_
  refine rc (isZero_ok (xs := r.v) ?_) (next := fun v3 w3 h5 => ?_)
  · omega
  obtain ⟨b3, rfl, hb3, he3⟩ := h5
  refine go ?_
  refine ret1 ⟨b3, rfl, ?_, he2.trans he3⟩
  rw [hb3, ← el_one_iff, hr.one_iff hs]
end Go.Proofs.YtnphljflkpekmaaGreat

/-
  Walks: the program's generators, conjugates, conjugate subgroup, test of normality, test of elements.
  Conditions: stated at each theorem.
-/
namespace Go.Proofs.YtnphljflkpekmaaGreat
open Go Go.Pc
set_option maxHeartbeats 1000000 in
theorem generators_ok {p : Pr} [hc : ConAll p] {w : World} {vp : Value} {lo hi : Nat} [hp : PresP lo hi w vp p] :
    Calls Tryz.prog 63 #[vp] w (Ret fun v w' => Ext w w' ∧ ∃ rs, vecs (gensL p) = rs.map (·.2) ∧ MatO w.heap.size w'.heap.size w' v rs) := by
  have hn6 := hc.valid.n6
  have hol : p.ord.length = p.n := rfl
  obtain ⟨g, og, vo, vpw, vc, ps, cs, css, rfl, hg1, hg2, hc0, hc1, hc2, h1, h2, h3⟩ := hp.ex
  refine enter (args := [.pointer (some ⟨g, og, none⟩)]) (l := [.tmp 2]) Tryz.func63 rfl rfl Tryz.ntmps63 (by simp) ?_
  refine go ?_
  refine r_for p.n (fun k ρ w' => ∃ vl rs, Has ρ [(0, .pointer (some ⟨g, og, none⟩)), (3, vl), (9, .int .i64 p.n), (10, .int .i64 k)] ∧ Ext w w' ∧ GrowL 22 w.heap.size w' vl rs ∧ rs.map (·.2) = (List.range k).map fun i => (zeros p.n).set i 1) ?_ ?_
  · refine ⟨nilv, [], ?_, Ext.refl _, GrowL.nil _ _ _ (Nat.le_refl _), by simp⟩
    exact hasP
  rintro k ρ w3 hk ⟨vl, rs, hH, he3, hG, hrs⟩
  refine rwp_has hH fun ρ0 => ?_
  have hz3 := he3.size
  have hrl : rs.length = k := by have := congrArg List.length hrs; simp at this; omega
  refine go ?_
  refine c_if (fun h4 => ?_) (fun h4 => ?_)
  · refine go ?_
    refine rc (unitVector_ok (n := p.n) (i := k) ?_ ?_ (by omega) (by omega)) (next := fun v4 w4 h5 => ?_)
    · omega
    · rfl
    obtain ⟨he4, hf4⟩ := h5
    refine go ?_
    refine st_grow hG he4 hf4 hz3 (by omega) (next := fun v6 v7 w7 hG7 hx7 hz7 hgs7 => ?_)
    refine go ?_
    refine forQ_normal (by omega) ⟨v7, _, ?_, hx7 w (he3.trans he4) (Nat.le_refl _), hG7, ?_⟩
    · exact hasP
    · rw [List.range_succ, List.map_append, List.map_append, hrs]; simp
  · obtain rfl : k = p.n := by omega
    refine go ?_
    refine ret1 ⟨he3, rs, ?_, hG.mat⟩
    rw [hrs]
    unfold vecs gensL
    rw [List.map_map]
    exact List.map_congr_left fun i hi => gOf_val (List.mem_range.1 hi)
set_option maxHeartbeats 1000000 in
theorem isNormal_ok {p : Pr} [hc : ConAll p] {ys : List (El p)} (hs : SeqEl ys) {w : World} {vp vu : Value} {us : List Value} {xss : List (List Int)} {lo hi lo1 hi1 : Nat} [hp : PresP lo hi w vp p] [hu : Pc.Rows lo1 hi1 w vu us xss] (hus : xss = vecs ys) :
    Calls Tryz.prog 81 #[vp, vu] w (Ret fun v w' => ∃ b, v = .bool b ∧ (b = true ↔ NormP p xss) ∧ Ext w w') := by
  subst hus
  have hn6 := hc.valid.n6
  have hyl := hs.len
  have hvl : (vecs ys).length = ys.length := by simp
  have hgl := gensL_len p
  have hgvl : (vecs (gensL p)).length = p.n := by simp [hgl]
  rw [show (NormP p (vecs ys)) = (∀ y, y ∈ ys → ∀ g, g ∈ gensL p → Gen (fun a : El p => a ∈ ys) (Grp.cj y g)) from propext normP_iff]
  refine enter (args := [vp, vu]) (l := [.tmp 4]) Tryz.func81 rfl rfl Tryz.ntmps81 (by simp) ?_
  refine go ?_
  refine rc (generators_ok (p := p)) (next := fun v1 w1 h1 => ?_)
  obtain ⟨he1, rs1, hrs1, hM1⟩ := h1
  have hR1 := hM1.rows
  rw [← hrs1] at hR1
  refine go ?_
  refine r_for p.n (fun i ρ w' => Has ρ [(0, vp), (1, vu), (10, v1), (11, .int .i64 (vecs (gensL p)).length), (12, .int .i64 i)] ∧ Ext w1 w' ∧ ∀ i' (h : i' < (gensL p).length), i' < i → ∀ y, y ∈ ys → Gen (fun a : El p => a ∈ ys) (Grp.cj y (gensL p)[i'])) ?_ ?_
  · refine ⟨?_, Ext.refl _, fun i' _ h => absurd h (Nat.not_lt_zero _)⟩
    exact hasP
  rintro i ρ w2 hi ⟨hH, he2, hI⟩
  refine rwp_has hH fun ρ0 => ?_
  refine go ?_
  refine c_if (fun h4 => ?_) (fun h4 => ?_)
  · have hin : i < (gensL p).length := by omega
    have hg2 := vecs_getD (gensL p) hin
    refine go ?_
    refine r_for ys.length (fun j ρ w' => Has ρ [(0, vp), (1, vu), (6, Pc.rowAt v1 (rs1.map (·.1)) i), (10, v1), (11, .int .i64 (vecs (gensL p)).length), (12, .int .i64 i), (16, vu), (17, .int .i64 (vecs ys).length), (18, .int .i64 j)] ∧ Ext w1 w' ∧ ∀ j' (h : j' < ys.length), j' < j → Gen (fun a : El p => a ∈ ys) (Grp.cj ys[j'] (gensL p)[i])) ?_ ?_
    · refine ⟨?_, he2, fun j' _ h => absurd h (Nat.not_lt_zero _)⟩
      exact hasP
    clear he2
    rintro j ρ w3 hj ⟨hH3, he3, hJ⟩
    refine rwp_has hH3 fun ρ1 => ?_
    refine go ?_
    refine c_if (fun h5 => ?_) (fun h5 => ?_)
    · have hjn : j < ys.length := by omega
      have hg1 := vecs_getD ys hjn
      refine go ?_
      refine rc (conjugate_ok (p := p) (x := ys[j]) (y := (gensL p)[i]) (Nat.zero_le _) hg1 hg2) (next := fun v5 w5 h5 => ?_)
      obtain ⟨he5, hf5⟩ := h5
      refine go ?_
      refine rc (isMember_ok (p := p) (x := Grp.cj ys[j] (gensL p)[i]) hs (xss := vecs ys) rfl rfl) (next := fun v6 w6 h6 => ?_)
      obtain ⟨b6, rfl, hb6, he6⟩ := h6
      have hE := (he3.trans he5).trans he6
      refine go ?_
      refine c_b (fun h7 => ?_) (fun h7 => ?_)
      · refine go ?_
        refine ret1 ⟨_, rfl, ?_, he1.trans hE⟩
        simp only [Bool.false_eq_true, false_iff]
        intro h
        rw [hb6.2 (h _ (List.getElem_mem hjn) _ (List.getElem_mem hin))] at h7; cases h7
      · refine go ?_
        refine forQ_normal (by omega) ⟨?_, hE, fun j' h h8 => ?_⟩
        · exact hasP
        · by_cases e : j' = j
          · subst e; exact hb6.1 (by simpa using h7)
          · exact hJ j' h (by omega)
    · refine go ?_
      refine forQ_normal (by omega) ⟨?_, he3, fun i' h h8 y hy => ?_⟩
      · exact hasP
      · by_cases e : i' = i
        · subst e
          obtain ⟨j', hj', rfl⟩ := List.getElem_of_mem hy
          exact hJ j' hj' (by omega)
        · exact hI i' h (by omega) y hy
  · refine go ?_
    refine ret1 ⟨_, rfl, ?_, he1.trans he2⟩
    simp only [true_iff]
    intro y hy g hg
    obtain ⟨i', hi', rfl⟩ := List.getElem_of_mem hg
    exact hI i' hi' (by omega) y hy
set_option maxHeartbeats 1000000 in
theorem areElements_ok {p : Pr} {w : World} {vp vl : Value} {us : List Value} {xss : List (List Int)} {lo hi lo1 hi1 : Nat} [hp : PresP lo hi w vp p] [hl : Pc.Rows lo1 hi1 w vl us xss] (hol : p.ord.length ≤ 2000000) (hxl : xss.length ≤ 2000000) :
    Calls Tryz.prog 120 #[vp, vl] w (Ret fun v w' => ∃ b, v = .bool b ∧ (b = true ↔ GrpL p xss) ∧ Ext w w') := by
  obtain ⟨g, og, vo, vpw, vc, ps, cs, css, rfl, hg1, hg2, hc0, hc1, hc2, h1, h2, h3⟩ := hp.ex
  have hpv := PresP.val (b := g) h1 h2 h3
  refine enter (args := [.pointer (some ⟨g, og, none⟩), vl]) (l := [.tmp 4]) Tryz.func120 rfl rfl Tryz.ntmps120 (by simp) ?_
  refine go ?_
  refine rc (impl_IsConsistent_ok (p := p) hol) (next := fun v1 w1 h4 => ?_)
  obtain ⟨b1, rfl, hb1, he1⟩ := h4
  refine go ?_
  refine c_b (fun e1 => ?_) (fun e1 => ?_)
  · refine go ?_
    refine ret1 ⟨_, rfl, ?_, he1⟩
    simp only [Bool.false_eq_true, false_iff]
    rintro ⟨h, _⟩
    rw [hb1.2 h] at e1; cases e1
  have hG := hb1.1 (by simpa using e1)
  have hv := hG.valid
  refine go ?_
  refine r_for xss.length (fun q ρ w' => Has ρ [(0, .pointer (some ⟨g, og, none⟩)), (12, vl), (13, .int .i64 xss.length), (14, .int .i64 q)] ∧ Ext w w' ∧ ∀ i, i < q → InR p (xss.getD i [])) ?_ ?_
  · refine ⟨?_, he1, fun i hi => by omega⟩
    exact hasP
  clear he1
  rintro q ρ w3 hq ⟨hH3, he3, hQ⟩
  refine rwp_has hH3 fun ρ1 => ?_
  refine go ?_
  refine c_if (fun h6 => ?_) (fun h6 => ?_)
  · refine go ?_
    refine rc (isExponents_ok (p := p) (xs := xss.getD q []) (fun i hi => hv.opos hi) hol) (next := fun v4 w4 h7 => ?_)
    obtain ⟨b4, rfl, hb4, he4⟩ := h7
    refine go ?_
    refine c_b (fun h8 => ?_) (fun h8 => ?_)
    · refine go ?_
      refine ret1 ⟨_, rfl, ?_, he3.trans he4⟩
      simp only [Bool.false_eq_true, false_iff]
      rintro ⟨_, h⟩
      rw [hb4.2 (h q (by omega))] at h8; cases h8
    · have h9 := hb4.1 (by simpa using h8)
      refine go ?_
      refine forQ_normal (by omega) ⟨?_, he3.trans he4, fun i hi => ?_⟩
      · exact hasP
      · by_cases e : i = q
        · subst e; exact h9
        · exact hQ i (by omega)
  · refine go ?_
    refine ret1 ⟨_, rfl, ?_, he3⟩
    simp only [true_iff]
    exact ⟨hG, fun i hi => hQ i (by omega)⟩
end Go.Proofs.YtnphljflkpekmaaGreat

/-
  Walks: the program's GeneratedSubgroup, ConjugateSubgroup, IsNormalSubgroup, SubgroupIndex, SubgroupDepths.
  Conditions: what the arguments read as.
-/
namespace Go.Proofs.YtnphljflkpekmaaGreat
open Go Go.Pc
end Go.Proofs.YtnphljflkpekmaaGreat

/-
  Walks: the program's CosetRepresentative.
  Conditions: what the arguments read as.
-/
namespace Go.Proofs.YtnphljflkpekmaaGreat
open Go Go.Pc
end Go.Proofs.YtnphljflkpekmaaGreat

/-
  Walks: the program's CosetNumber, MemberElement, MemberExponents.
  Conditions: what the arguments read as.
-/
namespace Go.Proofs.YtnphljflkpekmaaGreat
open Go Go.Pc
set_option maxHeartbeats 400000 in
theorem sliceIndex_ok {w : World} {v : Value} {xs : List Int} {k : Int} {lo hi : Nat} [hx : Ints lo hi w v xs] (hl : xs.length ≤ 2000000) :
    Calls Tryz.prog 179 #[v, .int .i64 k] w (Ret fun v w' => ∃ j : Int, v = .int .i64 j ∧ (0 ≤ j ↔ k ∈ xs) ∧ Ext w w') := by
  refine enter (args := [v, .int .i64 k]) (l := [.tmp 4]) Tryz.func179 rfl rfl Tryz.ntmps179 (by simp) ?_
  refine go ?_
  refine r_for xs.length (fun i ρ w' => Has ρ [(0, v), (1, .int .i64 k), (7, .int .i64 xs.length), (8, .int .i64 i)] ∧ Ext w w' ∧ ∀ j, j < i → xs.getD j 0 ≠ k) ?_ ?_
  · refine ⟨?_, Ext.refl _, fun j hj => by omega⟩
    exact hasP
  rintro i ρ w2 hi ⟨hH, he2, hI⟩
  refine rwp_has hH fun ρ0 => ?_
  refine go ?_
  refine c_if (fun h4 => ?_) (fun h4 => ?_)
  · have hin : i < xs.length := by omega
    refine go ?_
    refine c_if (fun h5 => ?_) (fun h5 => ?_)
    · refine go ?_
      refine ret1 ⟨i, rfl, ?_, he2⟩
      refine ⟨fun _ => ?_, fun _ => by omega⟩
      rw [h5]
      simp [hin]
    · refine go ?_
      refine forQ_normal (by omega) ⟨?_, he2, fun j hj => ?_⟩
      · exact hasP
      · by_cases e : j = i
        · subst e; exact fun e => h5 e.symm
        · exact hI j (by omega)
  · refine go ?_
    refine ret1 ⟨-1, rfl, ?_, he2⟩
    refine ⟨fun h => by omega, fun h => ?_⟩
    obtain ⟨j, hj, e⟩ := List.getElem_of_mem h
    exact absurd (by simp [hj, e]) (hI j (by omega))
theorem sliceContains_ok {w : World} {v : Value} {xs : List Int} {k : Int} {lo hi : Nat} [hx : Ints lo hi w v xs] (hl : xs.length ≤ 2000000) :
    Calls Tryz.prog 149 #[v, .int .i64 k] w (Ret fun v w' => ∃ b, v = .bool b ∧ (b = true ↔ k ∈ xs) ∧ Ext w w') := by
  refine enter (args := [v, .int .i64 k]) (l := [.tmp 4]) Tryz.func149 rfl rfl Tryz.ntmps149 (by simp) ?_
  refine go ?_
  refine rc (sliceIndex_ok (xs := xs) (k := k) hl) (next := fun v1 w1 h1 => ?_)
  obtain ⟨j, rfl, hj, he1⟩ := h1
  refine go ?_
  refine ret1 ⟨_, rfl, ?_, he1⟩
  rw [decide_eq_true_iff]; exact hj
set_option maxHeartbeats 1000000 in
theorem otherIndices_ok {p : Pr} [hc : ConAll p] {ys : List (El p)} (hs : SeqOk ys) (hyl : ys.length ≤ 1000) {w : World} {vp vu : Value} {us : List Value} {xss : List (List Int)} {lo hi lo1 hi1 : Nat} [hp : PresP lo hi w vp p] [hu : Pc.Rows lo1 hi1 w vu us xss] (hus : xss = vecs ys) :
    Calls Tryz.prog 105 #[vp, vu] w (Ret fun v w' => Ext w w' ∧ Fr w.heap.size w' v (ints (freeL p ys p.n))) := by
  subst hus
  have hv := hc.valid
  have hn6 := hv.n6
  have hol : p.ord.length = p.n := rfl
  have hvl : (vecs ys).length = ys.length := by simp
  obtain ⟨g, og, vo, vpw, vc, ps, cs, css, rfl, hg1, hg2, hc0, hc1, hc2, h1, h2, h3⟩ := hp.ex
  refine enter (args := [.pointer (some ⟨g, og, none⟩), vu]) (l := [.tmp 4]) Tryz.func105 rfl rfl Tryz.ntmps105 (by simp) ?_
  refine go ?_
  refine rc (pivots_ok (xss := vecs ys) ?_ ?_) (next := fun v1 w1 h5 => ?_)
  · omega
  · intro i hi
    rw [vecs_getD ys (by omega), (ys[i]'(by omega)).inr.len]
    exact ⟨(hs.lead1 _ (List.getElem_mem _)).1, by omega⟩
  obtain ⟨he1, hf1⟩ := h5
  have hpi := hf1.ints
  have hpl : ((vecs ys).map fun x => (lead x : Int)).length = ys.length := by simp
  have hmem : ∀ k : Nat, (k : Int) ∈ ((vecs ys).map fun x => (lead x : Int)) ↔ ∃ y, y ∈ ys ∧ lead y.v = k := fun k => by
    simp only [vecs, List.map_map, List.mem_map, Function.comp]
    exact ⟨fun ⟨y, h1, h2⟩ => ⟨y, h1, by omega⟩, fun ⟨y, h1, h2⟩ => ⟨y, h1, by omega⟩⟩
  have hz1 := he1.size
  refine go ?_
  refine r_for p.n (fun k ρ w' => ∃ vl, Has ρ [(0, .pointer (some ⟨g, og, none⟩)), (5, v1), (6, vl), (14, .int .i64 p.n), (15, .int .i64 k)] ∧ Ext w1 w' ∧ GrowI 3 w1.heap.size w' vl (ints (freeL p ys k))) ?_ ?_
  · refine ⟨nilv, ?_, Ext.refl _, by simpa [freeL] using GrowI.nil _ _ _⟩
    exact hasP
  rintro k ρ w4 hk ⟨vl, hH, he4, hg4⟩
  refine rwp_has hH fun ρ0 => ?_
  have hz4 := he4.size
  have hfl := freeL_len p ys k
  have hfl2 : (ints (freeL p ys k)).length = (freeL p ys k).length := by simp
  refine go ?_
  refine c_if (fun h4 => ?_) (fun h4 => ?_)
  · have hkn : k < p.n := by omega
    refine go ?_
    refine rc (sliceContains_ok (xs := (vecs ys).map fun x => (lead x : Int)) (k := (k : Int)) ?_) (next := fun v5 w5 h6 => ?_)
    · omega
    obtain ⟨b5, rfl, hb5, he5⟩ := h6
    rw [hmem] at hb5
    refine go ?_
    refine c_b (fun h7 => ?_) (fun h7 => ?_)
    · refine go ?_
      refine st_growi (@GrowI.ext _ _ _ _ _ _ he5 hg4) (by have := he5.size; omega) (by omega) (next := fun v10 v11 w11 hg11 hx11 hz11 hgs11 => ?_)
      refine go ?_
      refine forQ_normal (by omega) ⟨v11, ?_, hx11 w1 (he4.trans he5) (Nat.le_refl _), ?_⟩
      · exact hasP
      · rw [freeL_yes fun y hy e => by rw [hb5.2 ⟨y, hy, e⟩] at h7; cases h7]
        simpa using hg11
    · obtain ⟨y, hy, hyl⟩ := hb5.1 (by simpa using h7)
      refine go ?_
      refine forQ_normal (by omega) ⟨vl, ?_, he4.trans he5, ?_⟩
      · exact hasP
      · rw [freeL_no hy hyl]; exact @GrowI.ext _ _ _ _ _ _ he5 hg4
  · obtain rfl : k = p.n := by omega
    refine go ?_
    exact ret1 ⟨he1.trans he4, hg4.fr.mono hz1⟩
end Go.Proofs.YtnphljflkpekmaaGreat

/-
  Walks: the program's ProjectElement.
  Conditions: stated at each theorem.
-/
namespace Go.Proofs.YtnphljflkpekmaaGreat
open Go Go.Pc
set_option maxHeartbeats 2000000 in
theorem project_ok {p : Pr} [hc : ConAll p] {ys : List (El p)} (hs : SeqOk ys) (hyl : ys.length ≤ 1000) {x : El p} {w : World} {vp vu vx : Value} {us : List Value} {xss : List (List Int)} {xs : List Int} {lo hi lo1 hi1 lo2 hi2 : Nat} [hp : PresP lo hi w vp p] [hu : Pc.Rows lo1 hi1 w vu us xss] [hx : Ints lo2 hi2 w vx xs] (hus : xss = vecs ys) (hxe : xs = x.v) :
    Calls Tryz.prog 64 #[vp, vu, vx] w (Ret fun v w' => Ext w w' ∧ ∃ y : El p, RepOf ys x y ∧ Fr w.heap.size w' v (prjL p ys y)) := by
  have hv := hc.valid
  have hn6 := hv.n6
  have hlt : ∀ d, d ∈ freeL p ys p.n → d < p.n := fun d hd => freeL_lt hd
  have hfl : (freeL p ys p.n).length ≤ p.n := by
    have h1 : (freeL p ys p.n).length ≤ (List.range p.n).length := List.length_filter_le _ _
    rwa [List.length_range] at h1
  have hil : (ints (freeL p ys p.n)).length = (freeL p ys p.n).length := by simp
  refine enter (args := [vp, vu, vx]) (l := [.tmp 6]) Tryz.func64 rfl rfl Tryz.ntmps64 (by simp) ?_
  refine go ?_
  refine rc (representative_ok (p := p) (x := x) hs hus hxe (by omega)) (next := fun v2 w2 h4 => ?_)
  obtain ⟨he2, r, hf2, hrep⟩ := h4
  have hi2 := hf2.ints
  have hrl := r.inr.len
  have hz2 := he2.size
  refine go ?_
  refine st_slice0 (by first | exact True.intro | exact ⟨_, rfl, by ((try simp only [ev_tmp, ev_const, ev_func, get_put, get_args, get_putL, get_putL_nil, Nat.reduceEqDiff, reduceIte, List.getD_cons_zero, List.getD_cons_succ, List.getD_nil, Bool.not_true, Bool.not_false]); first | done | with_reducible rfl)⟩) fun w4 v4 he4 hs4 ho4 => ?_
  have hG4 : GrowI 2 w2.heap.size w4 v4 [] := GrowI.start ho4 (Nat.le_refl _)
  refine go ?_
  refine rc (otherIndices_ok (p := p) hs hyl hus) (next := fun v3 w3 h5 => ?_)
  obtain ⟨he3, hf3⟩ := h5
  have hi3 := hf3.ints
  have hE4 := he2.trans he4
  refine go ?_
  refine r_for (freeL p ys p.n).length (fun k ρ w' => ∃ vl, Has ρ [(7, v2), (8, vl), (18, v3), (19, .int .i64 (freeL p ys p.n).length), (20, .int .i64 k)] ∧ Ext w2 w' ∧ IntsAp (fun g => vl.ownBlock = some g) w' v3 (ints (freeL p ys p.n)) ∧ GrowI 2 w2.heap.size w' vl (((freeL p ys p.n).take k).map fun d => co r d)) ?_ ?_
  · refine ⟨v4, ?_, he4.trans he3, IntsAp.ofFr hf3 (fun g hg => (hG4.own.lt g hg).2), @GrowI.ext _ _ _ _ _ _ he3 hG4⟩
    exact hasP
  clear ho4 hG4
  rintro k ρ w5 hk ⟨vl, hH, he5, hI5, hG5⟩
  have hIa := hI5
  refine rwp_has hH fun ρ0 => ?_
  have hz5 := he5.size
  obtain ⟨lo5, hi5', hi5, _, _⟩ := hI5
  refine go ?_
  refine c_if (fun h6 => ?_) (fun h6 => ?_)
  · have hkn : k < (freeL p ys p.n).length := by omega
    obtain ⟨d, hd⟩ : ∃ d, (freeL p ys p.n)[k] = d := ⟨_, rfl⟩
    have hdn : d < p.n := by rw [← hd]; exact hlt _ (List.getElem_mem hkn)
    have hfk : (ints (freeL p ys p.n)).getD k 0 = (d : Int) := by simp [hkn, hd]
    refine go ?_
    rw [hfk]
    refine go ?_
    refine st_growi hG5 hz5 (by rw [List.length_map, List.length_take]; omega) (next := fun v6 v7 w7 hG7 hx7 hz7 hgs7 => ?_)
    refine go ?_
    refine forQ_normal (by omega) ⟨v7, ?_, hx7 w2 he5 (Nat.le_refl _), hIa.gstep hgs7, ?_⟩
    · exact hasP
    · rw [List.take_succ_eq_append_getElem hkn, List.map_append, hd]
      exact hG7
  · obtain rfl : k = (freeL p ys p.n).length := by omega
    rw [List.take_length] at hG5
    refine go ?_
    exact ret1 ⟨he2.trans he5, r, hrep, hG5.fr.mono he2.size⟩
end Go.Proofs.YtnphljflkpekmaaGreat

/-
  Walks: the program's presentations of subgroups and quotients (subgroupPresentation, quotientPresentation).
  Conditions: stated at each theorem.
-/
namespace Go.Proofs.YtnphljflkpekmaaGreat
open Go Go.Pc
end Go.Proofs.YtnphljflkpekmaaGreat

/-
  Walks: the program's presentation of a quotient (quotientPresentation), normalCode.
  Conditions: stated at each theorem.
-/
namespace Go.Proofs.YtnphljflkpekmaaGreat
open Go Go.Pc
set_option maxHeartbeats 1000000 in
theorem normalCode_ok {p : Pr} {w : World} {vp vu : Value} {us : List Value} {xss : List (List Int)} {lo hi lo1 hi1 : Nat} [hp : PresP lo hi w vp p] [hu : Pc.Rows lo1 hi1 w vu us xss] (hl : p.ord.length ≤ 2000000) :
    Calls Tryz.prog 60 #[vp, vu] w (Ret fun v w' => ∃ e : Int, v = .int .i64 e ∧ ((¬ IsSubP p xss ∧ e = 1) ∨ (IsSubP p xss ∧ ¬ NormP p xss ∧ e = 5) ∨ (IsSubP p xss ∧ NormP p xss ∧ e = 0)) ∧ Ext w w') := by
  refine enter (args := [vp, vu]) (l := [.tmp 4]) Tryz.func60 rfl rfl Tryz.ntmps60 (by simp) ?_
  refine go ?_
  refine st_slice1 (u := vu) (by ((try simp only [ev_tmp, ev_const, ev_func, get_put, get_args, get_putL, get_putL_nil, Nat.reduceEqDiff, reduceIte, List.getD_cons_zero, List.getD_cons_succ, List.getD_nil]); first | done | with_reducible rfl)) hu.sl.cells rfl (by first | exact True.intro | exact ⟨_, rfl, by ((try simp only [ev_tmp, ev_const, ev_func, get_put, get_args, get_putL, get_putL_nil, Nat.reduceEqDiff, reduceIte, List.getD_cons_zero, List.getD_cons_succ, List.getD_nil, Bool.not_true, Bool.not_false]); first | done | with_reducible rfl)⟩) fun w2 v2 he2 hs2 ho2 => ?_
  have hR := rowss_one (xss := xss) ho2 (hu.same (he2.same _ _)).wide
  refine go ?_
  refine rc (areSubgroups_ok (p := p) (xsss := [xss]) hl (by simp)) (next := fun v5 w5 h5 => ?_)
  obtain ⟨b5, rfl, hb5, he5⟩ := h5
  rw [areSub1] at hb5
  have hE5 := he2.trans he5
  refine go ?_
  refine c_b (fun e5 => ?_) (fun e5 => ?_)
  · refine go ?_
    refine ret1 ⟨1, rfl, .inl ⟨fun h => ?_, rfl⟩, hE5⟩
    rw [hb5.2 h] at e5; cases e5
  have hS := hb5.1 (by simpa using e5)
  have hS' := hS
  obtain ⟨hG, hq⟩ := hS'
  haveI : ConAll p := ⟨hG.con⟩
  obtain ⟨ys, hys, hse⟩ := isSeq_iff.1 hq
  refine go ?_
  refine rc (isNormal_ok (p := p) hse hys) (next := fun v6 w6 h6 => ?_)
  obtain ⟨b6, rfl, hb6, he6⟩ := h6
  have hE6 := hE5.trans he6
  refine go ?_
  refine c_b (fun e6 => ?_) (fun e6 => ?_)
  · refine go ?_
    refine ret1 ⟨5, rfl, .inr (.inl ⟨hS, fun h => ?_, rfl⟩), hE6⟩
    rw [hb6.2 h] at e6; cases e6
  · refine go ?_
    exact ret1 ⟨0, rfl, .inr (.inr ⟨hS, hb6.1 (by simpa using e6), rfl⟩), hE6⟩
set_option maxHeartbeats 8000000 in
theorem quotientPresentation_ok {p : Pr} [hc : ConAll p] {ys : List (El p)} (hse : SeqEl ys) {w : World} {vp vu : Value} {us : List Value} {xss : List (List Int)} {lo hi lo1 hi1 : Nat} [hp : PresP lo hi w vp p] [hu : Pc.Rows lo1 hi1 w vu us xss] (hus : xss = vecs ys) :
    Calls Tryz.prog 62 #[vp, vu] w (Ret fun v w' => Ext w w' ∧ PresO w.heap.size w'.heap.size w' v (quoPr ys)) := by
  have hs := hse.ok
  have hyl := hse.len
  have hv := hc.valid
  have hn6 := hv.n6
  have hol : p.ord.length = p.n := rfl
  replace hu := hu.wide
  replace hp := hp.wide
  have hfn := frN_le ys
  have hil : (ints (freeL p ys p.n)).length = frN p ys := by simp [frN]
  obtain ⟨gP, oP, uo, upw, uc, ups, ucs, ucss, rfl, hgP, hgP2, kc0, kc1, kc2, kh1, kh2, kh3⟩ := hp.ex
  refine enter (args := [.pointer (some ⟨gP, oP, none⟩), vu]) (l := [.cell 4 29]) Tryz.func62 rfl rfl Tryz.ntmps62 (by simp) ?_
  refine go ?_
  refine st_alloc (by first | exact True.intro | exact ⟨_, rfl, by ((try simp only [ev_tmp, ev_const, ev_func, get_put, get_args, get_putL, get_putL_nil, Nat.reduceEqDiff, reduceIte, List.getD_cons_zero, List.getD_cons_succ, List.getD_nil, Bool.not_true, Bool.not_false]); first | done | with_reducible rfl)⟩) fun w1 br he1 hbr hs1 hbk1 => ?_
  have hz1 := he1.size
  refine go ?_
  refine ra (v := .agg #[nilv, nilv, nilv]) (h := rd_build (by rfl) (fun _ => by kernel_rfl)) (next := ?_)
  refine st_alloc (by first | exact True.intro | exact ⟨_, rfl, by ((try simp only [ev_tmp, ev_const, ev_func, get_put, get_args, get_putL, get_putL_nil, Nat.reduceEqDiff, reduceIte, List.getD_cons_zero, List.getD_cons_succ, List.getD_nil, Bool.not_true, Bool.not_false]); first | done | with_reducible rfl)⟩) fun w4 bo he4 hbo hs4 hbk4 => ?_
  refine st_store_agg (vs := [nilv, nilv, nilv]) (cs := _) (hb := hbk4) (by ((try simp only [ev_tmp, ev_const, ev_func, get_put, get_args, get_putL, get_putL_nil, Nat.reduceEqDiff, reduceIte, List.getD_cons_zero, List.getD_cons_succ, List.getD_nil]); first | done | with_reducible rfl)) (by ((try simp only [ev_tmp, ev_const, ev_func, get_put, get_args, get_putL, get_putL_nil, Nat.reduceEqDiff, reduceIte, List.getD_cons_zero, List.getD_cons_succ, List.getD_nil]); first | done | with_reducible rfl)) rfl ?_ ?_ (by first | exact True.intro | exact ⟨_, rfl, by ((try simp only [ev_tmp, ev_const, ev_func, get_put, get_args, get_putL, get_putL_nil, Nat.reduceEqDiff, reduceIte, List.getD_cons_zero, List.getD_cons_succ, List.getD_nil, Bool.not_true, Bool.not_false]); first | done | with_reducible rfl)⟩) fun w5 hc5 hs5 hbk5 => ?_
  · rfl
  · rfl
  have hz4 := he4.size
  have hE15 : Ext w1 w5 := hc5.ext he4 (by omega)
  have hE5 := he1.trans hE15
  have hz5 := hE5.size
  refine go ?_
  refine rc (otherIndices_ok (p := p) hs (by omega) hus) (next := fun v3 w3 h4 => ?_)
  obtain ⟨he3, hf3⟩ := h4
  have hz3 := he3.size
  have hE13 := hE15.trans he3
  have hE3 := hE5.trans he3
  have hb3 : Blk w3 bo [nilv, nilv, nilv] := @Blk.ext _ _ _ _ he3 hbk5
  have hT3 : Tri 2 22 23 22 w3.heap.size w3 nilv [] nilv [] nilv [] := Tri.nil _ _ _ _ _ _ (Nat.le_refl _)
  have hd3 : Ints w5.heap.size w3.heap.size w3 v3 (ints (freeL p ys p.n)) := hf3.ints
  refine go ?_
  refine r_for (frN p ys) (fun i ρ w' => ∃ vo vq vc rp gs, Has ρ [(0, .pointer (some ⟨gP, oP, none⟩)), (1, vu), (4, .pointer (some ⟨br, 0, none⟩)), (5, .pointer (some ⟨bo, 0, none⟩)), (6, .int .i64 p.ord.length), (7, v3), (23, v3), (24, .int .i64 (ints (freeL p ys p.n)).length), (25, .int .i64 i)] ∧ Ext w1 w' ∧ Ints w5.heap.size w3.heap.size w' v3 (ints (freeL p ys p.n)) ∧ Blk w' bo [vo, vq, vc] ∧ Tri 2 22 23 22 w3.heap.size w' vo ((List.range i).map fun i => p.o (frA p ys i)) vq rp vc gs ∧ rp.map (·.2) = (List.range i).map (quoPow ys) ∧ (gs.map fun q => q.2.map (·.2)) = (List.range i).map fun i => (List.range (frN p ys - (i + 1))).map fun k => quoCnj ys i (i + 1 + k)) ?_ ?_
  · refine ⟨nilv, nilv, nilv, [], [], ?_, hE13, hd3, hb3, hT3, rfl, rfl⟩
    exact hasP
  clear hbk4 hbk5 hb3 hT3 hd3 hf3
  rintro i ρ w6 hi ⟨vo6, vp6, vc6, rp, gs, hH, he6, hd6, hb6, hT6, hrp, hgs⟩
  refine rwp_has hH fun ρ0 => ?_
  have hz6 := he6.size
  have hlo6 := hT6.lo
  have hrl : rp.length = i := by have := congrArg List.length hrp; simpa using this
  have hgl : gs.length = i := by have := congrArg List.length hgs; simpa using this
  refine go ?_
  refine c_if (fun h4 => ?_) (fun h4 => ?_)
  · have hin : i < frN p ys := by omega
    have hda := frA_lt hin
    have hdo' : p.ord.getD (frA p ys i) 0 = p.o (frA p ys i) := rfl
    have hdo : p.ord.getD ((frA p ys i : Nat) : Int).toNat 0 = p.o (frA p ys i) := by rw [Int.toNat_natCast]; rfl
    have hob := hv.opos hda
    refine go ?_
    rw [frA_ints hin]
    refine go ?_
    refine rc (unitVector_ok (n := p.n) (i := frA p ys i) rfl rfl (by omega) hda) (next := fun v8 w8 h8 => ?_)
    obtain ⟨he8, hf8⟩ := h8
    have hz8 := he8.size
    have hT8 := hT6.ext he8
    have hb8 : Blk w8 bo [vo6, vp6, vc6] := @Blk.ext _ _ _ _ he8 hb6
    have hd8 : Ints w5.heap.size w3.heap.size w8 v3 (ints (freeL p ys p.n)) := hd6.same (he8.same _ _)
    have hE8 := he6.trans he8
    have hg8 : Ints w6.heap.size w8.heap.size w8 v8 (gOf p 0 (frA p ys i) : El p).v := by
      have h := hf8.ints
      rw [gOf_val hda]; exact h
    obtain ⟨b', hb', hbb, hvb'⟩ : ∃ b', w3.heap.size ≤ b' ∧ (b' < w6.heap.size ∨ w8.heap.size ≤ b') ∧ ∀ g, vo6.ownBlock = some g → g = b' := by
      cases e : vo6.ownBlock with
      | none => exact ⟨w8.heap.size, by omega, .inr (Nat.le_refl _), fun g h => by cases h⟩
      | some g => have := hT6.o.lt g e; exact ⟨g, by omega, .inl (by omega), fun g' h => by injection h with h; exact h.symm⟩
    have hop : ∀ g, vo6.ownBlock = some g → g < w6.heap.size := fun g h => (hT6.o.lt g h).2
    have hpp : ∀ g, vp6.ownBlock = some g → w3.heap.size ≤ g ∧ g < w6.heap.size := fun g h => hT6.p.own.lt g h
    have ap1 : Apart 0 w.heap.size b' := ⟨.inr (by omega)⟩
    have ap3 : Apart bo (bo + 1) b' := ⟨.inr (by omega)⟩
    have ap2 : Apart gP (gP + 1) b' := ⟨.inr (by omega)⟩
    have k0 : Cell w8 bo 0 vo6 := hb8.cell rfl
    clear hd6 hb6 hT6 hf8
    -- the order
    refine go ?_
    refine z_order b' (List.range 13) (h := fun w9 he9 hs9 => ?_)
    refine zgo ?_
    first | rw [hdo] | rw [hdo']
    refine z_growi (GrowI.mk (@OwnN.ext _ _ _ _ _ _ he9 hT8.o)) (by have := hT8.lo; omega) (by rw [List.length_map, List.length_range]; omega) hvb' (next := fun v10 v11 w11 hG11 hx11 hz11 hst11 => ?_)
    have hb11 : Blk w11 bo [vo6, vp6, vc6] := Blk.gstep (@Blk.ext _ _ _ _ he9 hb8) hst11 (hT8.ob (by omega))
    refine zgo ?_
    refine z_stfld (bo := bo) (m := 0) (cs := [vo6, vp6, vc6]) hb11 hG11.own.toSl.one (by simp) (next := fun w12 hc12 hs12 hb12 => ?_)
    have hT12 := hT8.fieldO he9 hG11 hst11 hc12 (by omega)
    have hE12 : Ext w1 w12 := hc12.ext (hx11 w1 (hE8.trans he9) (by omega)) (by omega)
    have hd12 : Ints w5.heap.size w3.heap.size w12 v3 (ints (freeL p ys p.n)) := ((hd8.same (he9.same _ _)).same (hst11.wrt.same fun g hg => .inr (hT8.o.lt g hg).1)).same (hc12.same (.inl (by omega)))
    have hg12 : Ints w6.heap.size w8.heap.size w12 v8 (gOf p 0 (frA p ys i) : El p).v := ((hg8.same (he9.same _ _)).same (hst11.wrt.same fun g hg => .inl (hop g hg))).same (hc12.same (.inl (by omega)))
    have hb12' : Blk w12 bo [v11, vp6, vc6] := hb12
    have hzz12 : w8.heap.size ≤ w12.heap.size := by have := he9.size; omega
    clear hT8 hb8 hb11 k0 hG11 hx11 hst11 hd8 hg8 hb12 hvb' hbb ap1 ap2 ap3 hb'
    -- the power
    obtain ⟨b', hb', hbb, hvb'⟩ : ∃ b', w3.heap.size ≤ b' ∧ (b' < w6.heap.size ∨ w8.heap.size ≤ b') ∧ ∀ g, vp6.ownBlock = some g → g = b' := by
      cases e : vp6.ownBlock with
      | none => exact ⟨w8.heap.size, by omega, .inr (Nat.le_refl _), fun g h => by cases h⟩
      | some g => have := hpp g e; exact ⟨g, by omega, .inl (by omega), fun g' h => by injection h with h; exact h.symm⟩
    have ap1 : Apart 0 w.heap.size b' := ⟨.inr (by omega)⟩
    have ap3 : Apart bo (bo + 1) b' := ⟨.inr (by omega)⟩
    have ap2 : Apart gP (gP + 1) b' := ⟨.inr (by omega)⟩
    have ap5 : Apart w6.heap.size w8.heap.size b' := ⟨by omega⟩
    have k1 : Cell w12 bo 1 vp6 := hb12'.cell rfl
    have hz12 := hE12.size
    refine go ?_
    refine z_order b' (List.range 19) (h := fun w13 he13 hs13 => ?_)
    refine zgo ?_
    first | rw [hdo] | rw [hdo']
    refine zc (power_ok (p := p) (x := gOf p 0 (frA p ys i)) (k := p.o (frA p ys i)) (Nat.zero_le _) rfl (by omega)) (next := fun v14 w14 h14 => ?_)
    obtain ⟨he14, hf14⟩ := h14
    have hi14 := hf14.ints
    refine zc (project_ok (p := p) (x := Grp.pw (gOf p 0 (frA p ys i)) (p.o (frA p ys i)).toNat) hs (by omega) hus rfl) (next := fun v15 w15 h15 => ?_)
    obtain ⟨he15, y15, hrep15, hf15⟩ := h15
    rw [hrep15.prj hse, ← Grp.pwz_of (gOf p 0 (frA p ys i)) (show 0 ≤ p.o (frA p ys i) by omega)] at hf15
    have hx15 := (he13.trans he14).trans he15
    have hf15' := hf15.mono (lo' := w12.heap.size) (by have := he13.size; have := he14.size; omega)
    refine z_grow (hT12.p.grow hT12.lo) hx15 hf15' hT12.lo (by omega) hvb' (next := fun v16 v17 w17 hG17 hx17 hz17 hst17 => ?_)
    have hb17 : Blk w17 bo [v11, vp6, vc6] := Blk.gstep (@Blk.ext _ _ _ _ hx15 hb12') hst17 (hT12.pb (by omega))
    refine zgo ?_
    refine z_stfld (bo := bo) (m := 1) (cs := [v11, vp6, vc6]) hb17 hG17.lst.own.toSl.one (by simp) (next := fun w18 hc18 hs18 hb18 => ?_)
    have hT18 := hT12.fieldP hx15 hf15' hG17 hst17 hc18 (by omega)
    have hE18 : Ext w1 w18 := hc18.ext (hx17 w1 (hE12.trans hx15) (by omega)) (by omega)
    have hd18 : Ints w5.heap.size w3.heap.size w18 v3 (ints (freeL p ys p.n)) := ((hd12.same (hx15.same _ _)).same (hst17.wrt.same fun g hg => .inr (hT12.p.own.lt g hg).1)).same (hc18.same (.inl (by omega)))
    have hg18 : Ints w6.heap.size w8.heap.size w18 v8 (gOf p 0 (frA p ys i) : El p).v := ((hg12.same (hx15.same _ _)).same (hst17.wrt.same fun g hg => .inl (hpp g hg).2)).same (hc18.same (.inl (by omega)))
    have hb18' : Blk w18 bo [v11, v17, vc6] := hb18
    have hzz18 : w8.heap.size ≤ w18.heap.size := by have := hx15.size; omega
    clear hT12 hb12' hb17 k1 hG17 hx17 hst17 hd12 hg12 hb18 hf14 hf15 hf15' hi14 hvb' hbb ap1 ap2 ap3 ap5 hb'
    have hz18 := hE18.size
    -- the conjugates
    have hcut := hd18.cut (l := i + 1) (k := (ints (freeL p ys p.n)).length) (by omega) (by omega)
    have hcl : (((ints (freeL p ys p.n)).take (ints (freeL p ys p.n)).length).drop (i + 1)).length = frN p ys - (i + 1) := by simp [hil]
    have hcg : ∀ k, i + 1 + k < frN p ys → (((ints (freeL p ys p.n)).take (ints (freeL p ys p.n)).length).drop (i + 1)).getD k 0 = (frA p ys (i + 1 + k) : Nat) := fun k hk => by
      rw [getD_cut _ _ _ (by omega), frA_ints hk]
    generalize ((ints (freeL p ys p.n)).take (ints (freeL p ys p.n)).length).drop (i + 1) = rest at hcut hcl hcg
    refine go ?_
    refine r_for (frN p ys - (i + 1)) (fun k ρ w' => ∃ vl rs, Has ρ [(0, .pointer (some ⟨gP, oP, none⟩)), (1, vu), (4, .pointer (some ⟨br, 0, none⟩)), (5, .pointer (some ⟨bo, 0, none⟩)), (6, .int .i64 p.ord.length), (7, v3), (10, v8), (11, vl), (23, v3), (24, .int .i64 (ints (freeL p ys p.n)).length), (25, .int .i64 i), (66, Pc.cut v3 (i + 1) (ints (freeL p ys p.n)).length), (67, .int .i64 rest.length), (68, .int .i64 k)] ∧ Ext w18 w' ∧ GrowL 22 w18.heap.size w' vl rs ∧ rs.map (·.2) = (List.range k).map fun k => quoCnj ys i (i + 1 + k)) ?_ ?_
    · refine ⟨nilv, [], ?_, Ext.refl _, GrowL.nil _ _ _ (Nat.le_refl _), rfl⟩
      exact hasP
    rintro k ρ w19 hk ⟨vl, rs, hH, he19, hG19, hrs19⟩
    refine rwp_has hH fun ρ0 => ?_
    have hz19 := he19.size
    have hE19 := hE18.trans he19
    have hrsl : rs.length = k := by have := congrArg List.length hrs19; simpa using this
    have hd19 : Ints w5.heap.size w3.heap.size w19 v3 (ints (freeL p ys p.n)) := hd18.same (he19.same _ _)
    have hg19 : Ints w6.heap.size w8.heap.size w19 v8 (gOf p 0 (frA p ys i) : El p).v := hg18.same (he19.same _ _)
    have hcut19 := hcut.same (he19.same _ _)
    refine go ?_
    refine c_if (fun h5 => ?_) (fun h5 => ?_)
    · have hin2 : i + 1 + k < frN p ys := by omega
      have hda2 := frA_lt hin2
      have hck := hcg k hin2
      refine go ?_
      rw [hck]
      refine go ?_
      refine rc (unitVector_ok (n := p.n) (i := frA p ys (i + 1 + k)) rfl rfl (by omega) hda2) (next := fun v21 w21 h21 => ?_)
      obtain ⟨he21, hf21⟩ := h21
      have hg21 : Ints w19.heap.size w21.heap.size w21 v21 (gOf p 0 (frA p ys (i + 1 + k)) : El p).v := by
        have h := hf21.ints
        rw [gOf_val hda2]; exact h
      clear hf21
      refine go ?_
      refine rc (conjugate_ok (p := p) (x := gOf p 0 (frA p ys (i + 1 + k))) (y := gOf p 0 (frA p ys i)) (Nat.zero_le _) rfl rfl) (next := fun v22 w22 h22 => ?_)
      obtain ⟨he22, hf22⟩ := h22
      have hi22 := hf22.ints
      refine go ?_
      refine rc (project_ok (p := p) (x := Grp.cj (gOf p 0 (frA p ys (i + 1 + k))) (gOf p 0 (frA p ys i))) hs (by omega) hus rfl) (next := fun v23 w23 h23 => ?_)
      obtain ⟨he23, y23, hrep23, hf23⟩ := h23
      rw [hrep23.prj hse] at hf23
      have hx := (he21.trans he22).trans he23
      refine go ?_
      refine st_grow hG19 hx (hf23.mono (by have := he21.size; have := he22.size; omega)) hz19 (by omega) (next := fun v24 v25 w25 hG25 hx25 hz25 hst25 => ?_)
      refine go ?_
      refine forQ_normal (by omega) ⟨v25, _, ?_, hx25 w18 (he19.trans hx) (Nat.le_refl _), hG25, ?_⟩
      · exact hasP
      · rw [List.range_succ, List.map_append, List.map_append, hrs19]; rfl
    · obtain rfl : k = frN p ys - (i + 1) := by omega
      have hT19 := hT18.ext he19
      have hb19 : Blk w19 bo [v11, v17, vc6] := @Blk.ext _ _ _ _ he19 hb18'
      have k2 : Cell w19 bo 2 vc6 := hb19.cell rfl
      have hL := GrL.of hG19
      refine go ?_
      refine st_growu (sb := w3.heap.size) hT19.c.own hG19.lst.own.toSl.cells hG19.lst.own.toSl.one hT19.lo (by rw [List.length_map]; omega) (next := fun v20 v21 w21 hO21 hx21 hz21 hst21 => ?_)
      have hb21 : Blk w21 bo [v11, v17, vc6] := Blk.gstep hb19 hst21 (hT19.cb (by omega))
      clear k2
      refine go ?_
      refine st_store_fld (h := hb21) (by ((try simp only [ev_tmp, ev_const, ev_func, get_put, get_args, get_putL, get_putL_nil, Nat.reduceEqDiff, reduceIte, List.getD_cons_zero, List.getD_cons_succ, List.getD_nil]); first | done | with_reducible rfl)) (by ((try simp only [ev_tmp, ev_const, ev_func, get_put, get_args, get_putL, get_putL_nil, Nat.reduceEqDiff, reduceIte, List.getD_cons_zero, List.getD_cons_succ, List.getD_nil]); first | done | with_reducible rfl)) ?_ ?_ (by first | exact True.intro | exact ⟨_, rfl, by ((try simp only [ev_tmp, ev_const, ev_func, get_put, get_args, get_putL, get_putL_nil, Nat.reduceEqDiff, reduceIte, List.getD_cons_zero, List.getD_cons_succ, List.getD_nil, Bool.not_true, Bool.not_false]); first | done | with_reducible rfl)⟩) fun w22 hc22 hs22 hb22 => ?_
      · exact hO21.toSl.one
      · simp
      have hT22 := hT18.fieldC he19 hL hO21 hst21 hc22 (by omega)
      have hE22 : Ext w1 w22 := hc22.ext (hx21 w1 hE19 (by omega)) (by omega)
      have hd22 : Ints w5.heap.size w3.heap.size w22 v3 (ints (freeL p ys p.n)) := (hd19.same (hst21.wrt.same fun g hg => .inr (hT19.c.own.lt g hg).1)).same (hc22.same (.inl (by omega)))
      have hro : (List.range (i + 1)).map (fun i => p.o (frA p ys i)) = (List.range i).map (fun i => p.o (frA p ys i)) ++ [p.o (frA p ys i)] := by rw [List.range_succ, List.map_append]; rfl
      rw [← hro] at hT22
      refine go ?_
      refine forQ_normal (by omega) ⟨v11, v17, v21, _, _, ?_, hE22, hd22, hb22, hT22, ?_, ?_⟩
      · exact hasP
      · rw [List.range_succ, List.map_append, List.map_append, hrp]; rfl
      · rw [List.range_succ, List.map_append, List.map_append, hgs]
        simp only [List.map_cons, List.map_nil, hrs19]
  · obtain rfl : i = frN p ys := by omega
    have hbr6 : Blk w6 br _ := @Blk.ext _ _ _ _ he6 hbk1
    have hP := hT6.pres
    rw [hrp, hgs] at hP
    have o3 := hP.pres.one3
    refine go ?_
    refine ra (v := .agg #[vo6, vp6, vc6]) (h := rd_load_blk (hb := hb6) (by ((try simp only [ev_tmp, ev_const, ev_func, get_put, get_args, get_putL, get_putL_nil, Nat.reduceEqDiff, reduceIte, List.getD_cons_zero, List.getD_cons_succ, List.getD_nil]); first | done | with_reducible rfl)) rfl) (next := ?_)
    refine st_store_agg (vs := [vo6, vp6, vc6]) (cs := _) (hb := hbr6) (by ((try simp only [ev_tmp, ev_const, ev_func, get_put, get_args, get_putL, get_putL_nil, Nat.reduceEqDiff, reduceIte, List.getD_cons_zero, List.getD_cons_succ, List.getD_nil]); first | done | with_reducible rfl)) (by ((try simp only [ev_tmp, ev_const, ev_func, get_put, get_args, get_putL, get_putL_nil, Nat.reduceEqDiff, reduceIte, List.getD_cons_zero, List.getD_cons_succ, List.getD_nil]); first | done | with_reducible rfl)) rfl ?_ ?_ (by first | exact True.intro | exact ⟨_, rfl, by ((try simp only [ev_tmp, ev_const, ev_func, get_put, get_args, get_putL, get_putL_nil, Nat.reduceEqDiff, reduceIte, List.getD_cons_zero, List.getD_cons_succ, List.getD_nil, Bool.not_true, Bool.not_false]); first | done | with_reducible rfl)⟩) fun w7 hc7 hs7 hb7 => ?_
    · rfl
    · simp [o3.1, o3.2.1, o3.2.2]
    refine go ?_
    have hE7 : Ext w w7 := hc7.ext (he1.trans he6) (by omega)
    refine retc (b := br) (hb := hb7) ⟨hE7, ?_⟩ rfl
    have hP7 := hP.wr (.one (B := fun g => g = br) rfl hc7) (fun g hg => .inl (by omega))
    rw [hs7]
    exact hP7.sub (by omega) (Nat.le_refl _)
end Go.Proofs.YtnphljflkpekmaaGreat

/-
  Walks: the program's LiftElement.
  Conditions: stated at each theorem.
-/
namespace Go.Proofs.YtnphljflkpekmaaGreat
open Go Go.Pc
set_option maxHeartbeats 2000000 in
theorem lift_ok {p : Pr} [hc : ConAll p] {ys : List (El p)} (hs : SeqOk ys) (hyl : ys.length ≤ 1000) {w : World} {vp vu vx : Value} {us : List Value} {xss : List (List Int)} {y : List Int} {lo hi lo1 hi1 lo2 hi2 : Nat} [hp : PresP lo hi w vp p] [hu : Pc.Rows lo1 hi1 w vu us xss] [hx : Ints lo2 hi2 w vx y] (hus : xss = vecs ys) (hyn : y.length = frN p ys) :
    Calls Tryz.prog 86 #[vp, vu, vx] w (Ret fun v w' => Ext w w' ∧ Fr w.heap.size w' v (liftL p ys y)) := by
  have hv := hc.valid
  have hn6 := hv.n6
  have hol : p.ord.length = p.n := rfl
  have hfn := frN_le ys
  have hil : (ints (freeL p ys p.n)).length = frN p ys := by simp [frN]
  replace hx := hx.wide
  replace hp := hp.wide
  obtain ⟨gP, oP, uo, upw, uc, ups, ucs, ucss, rfl, hgP, hgP2, kc0, kc1, kc2, kh1, kh2, kh3⟩ := hp.ex
  refine enter (args := [.pointer (some ⟨gP, oP, none⟩), vu, vx]) (l := [.tmp 6]) Tryz.func86 rfl rfl Tryz.ntmps86 (by simp) ?_
  refine go ?_
  refine st_make_int (by ((try simp only [ev_tmp, ev_const, ev_func, get_put, get_args, get_putL, get_putL_nil, Nat.reduceEqDiff, reduceIte, List.getD_cons_zero, List.getD_cons_succ, List.getD_nil]); first | done | with_reducible rfl)) (by ((try simp only [ev_tmp, ev_const, ev_func, get_put, get_args, get_putL, get_putL_nil, Nat.reduceEqDiff, reduceIte, List.getD_cons_zero, List.getD_cons_succ, List.getD_nil]); first | done | with_reducible rfl)) (by omega) (by omega) (by first | exact True.intro | exact ⟨_, rfl, by ((try simp only [ev_tmp, ev_const, ev_func, get_put, get_args, get_putL, get_putL_nil, Nat.reduceEqDiff, reduceIte, List.getD_cons_zero, List.getD_cons_succ, List.getD_nil, Bool.not_true, Bool.not_false]); first | done | with_reducible rfl)⟩) fun w2 v2 he2 hs2 ho2 => ?_
  have hz2 := he2.size
  have hl2 := ho2.lt
  refine go ?_
  refine rc (otherIndices_ok (p := p) hs hyl hus) (next := fun v3 w3 h4 => ?_)
  obtain ⟨he3, hf3⟩ := h4
  have hfr : Ints w2.heap.size w3.heap.size w3 v3 (ints (freeL p ys p.n)) := hf3.ints
  have hz3 := he3.size
  have hE3 := he2.trans he3
  have hb3 : ∃ e3, OwnI e3 w.heap.size w3 v2 (liftK p ys y 0) := ⟨_, @OwnI.ext _ _ _ _ _ _ he3 ho2⟩
  obtain ⟨e3, ho3⟩ := hb3
  clear ho2
  refine go ?_
  refine r_for (frN p ys) (fun k ρ w' => Has ρ [(2, vx), (7, v2), (18, v3), (19, .int .i64 (ints (freeL p ys p.n)).length), (20, .int .i64 k)] ∧ Ext w w' ∧ Ints w2.heap.size w3.heap.size w' v3 (ints (freeL p ys p.n)) ∧ OwnI e3 w.heap.size w' v2 (liftK p ys y k)) ?_ ?_
  · refine ⟨?_, hE3, hfr, ho3⟩
    exact hasP
  clear ho3 hfr hf3
  rintro k ρ w4 hk ⟨hH, he4, hfr4, ho4⟩
  refine rwp_has hH fun ρ0 => ?_
  have hz4 := he4.size
  have hll := liftK_len (p := p) (ys := ys) y k
  refine go ?_
  refine c_if (fun h6 => ?_) (fun h6 => ?_)
  · have hkn : k < frN p ys := by omega
    have hda := frA_lt hkn
    refine go ?_
    rw [frA_ints hkn]
    refine go ?_
    refine st_store_int (h := ho4) (by ((try simp only [ev_tmp, ev_const, ev_func, get_put, get_args, get_putL, get_putL_nil, Nat.reduceEqDiff, reduceIte, List.getD_cons_zero, List.getD_cons_succ, List.getD_nil]); first | done | with_reducible rfl)) (by ((try simp only [ev_tmp, ev_const, ev_func, get_put, get_args, get_putL, get_putL_nil, Nat.reduceEqDiff, reduceIte, List.getD_cons_zero, List.getD_cons_succ, List.getD_nil]); first | done | with_reducible rfl)) ?_ (by first | exact True.intro | exact ⟨_, rfl, by ((try simp only [ev_tmp, ev_const, ev_func, get_put, get_args, get_putL, get_putL_nil, Nat.reduceEqDiff, reduceIte, List.getD_cons_zero, List.getD_cons_succ, List.getD_nil, Bool.not_true, Bool.not_false]); first | done | with_reducible rfl)⟩) fun w6 hc6 hs6 ho6 => ?_
    · omega
    have hfr6 : Ints w2.heap.size w3.heap.size w6 v3 (ints (freeL p ys p.n)) := hfr4.same (hc6.same (.inl (by omega)))
    have hE6 : Ext w w6 := hc6.ext he4 (Nat.le_refl _)
    clear hc6 hfr4 ho4
    refine go ?_
    refine forQ_normal (by omega) ⟨?_, hE6, hfr6, ho6⟩
    exact hasP
  · obtain rfl : k = frN p ys := by omega
    refine go ?_
    exact ret1 ⟨he4, ho4.toFr (Nat.le_refl _)⟩
set_option maxHeartbeats 2000000 in
theorem impl_LiftElement_ok {p : Pr} {w : World} {vp vu vx : Value} {us : List Value} {xss : List (List Int)} {y : List Int} {lo hi lo1 hi1 lo2 hi2 : Nat} [hp : Pres lo hi w vp p] [hu : Pc.Rows lo1 hi1 w vu us xss] [hx : Ints lo2 hi2 w vx y] (hl : p.ord.length ≤ 2000000) :
    Calls Tryz.prog 39 #[vp, vu, vx] w (Ret fun v w' => ∃ (u : Value) (k : List Int) (e : Int), v = .tuple #[u, .int .i64 e] ∧ Ans (IsSubP p xss) (LeV p xss y) [] k e ∧ Ext w w' ∧ Fr w.heap.size w' u k) := by
  replace hp := hp.wide
  replace hu := hu.wide
  replace hx := hx.wide
  obtain ⟨vo, vpw, vc, ps, cs, css, rfl, h1, h2, h3⟩ := hp.ex
  refine enter (args := [.agg #[vo, vpw, vc], vu, vx]) (l := [.tmp 6, .tmp 7]) Tryz.func39 rfl rfl Tryz.ntmps39 (by simp) ?_
  refine go ?_
  refine st_box3 (by ((try simp only [ev_tmp, ev_const, ev_func, get_put, get_args, get_putL, get_putL_nil, Nat.reduceEqDiff, reduceIte, List.getD_cons_zero, List.getD_cons_succ, List.getD_nil]); first | done | with_reducible rfl)) (by first | exact True.intro | exact ⟨_, rfl, by ((try simp only [ev_tmp, ev_const, ev_func, get_put, get_args, get_putL, get_putL_nil, Nat.reduceEqDiff, reduceIte, List.getD_cons_zero, List.getD_cons_succ, List.getD_nil, Bool.not_true, Bool.not_false]); first | done | with_reducible rfl)⟩) fun w1 b he1 hb1 hs1 hc0 hc1 hc2 => ?_
  have hpp := hp.boxed he1 hc0 hc1 hc2
  have hz1 := he1.size
  refine go ?_
  refine rc (normalCode_ok (p := p) (xss := xss) hl) (next := fun v5 w5 h5 => ?_)
  obtain ⟨e5, rfl, hcode, he5⟩ := h5
  have hE5 := he1.trans he5
  refine go ?_
  refine c_if (fun h7 => ?_) (fun h7 => ?_)
  · refine go ?_
    rcases hcode with ⟨h8, rfl⟩ | ⟨h8, h9, rfl⟩ | ⟨h8, h9, rfl⟩
    · exact ret2 ⟨nilv, [], 1, rfl, .inr ⟨h8, rfl, rfl⟩, hE5, Fr.nilR _ _⟩
    · exact ret2 ⟨nilv, [], 5, rfl, .inl ⟨h8, .inl ⟨h9, rfl, rfl⟩⟩, hE5, Fr.nilR _ _⟩
    · exact absurd rfl h7
  obtain ⟨hS, hN⟩ : IsSubP p xss ∧ NormP p xss := by
    rcases hcode with ⟨_, rfl⟩ | ⟨_, _, rfl⟩ | ⟨h8, h9, _⟩
    · exact absurd (by decide) h7
    · exact absurd (by decide) h7
    · exact ⟨h8, h9⟩
  have hS' := hS
  obtain ⟨hG, hq⟩ := hS'
  haveI : ConAll p := ⟨hG.con⟩
  have hv := hG.valid
  have hn6 := hv.n6
  obtain ⟨ys, hys, hse⟩ := isSeq_iff.1 hq
  have hyl := hse.len
  have hfn := frN_le ys
  refine go ?_
  refine rc (quotientPresentation_ok (p := p) hse hys) (next := fun v6 w6 h6 => ?_)
  obtain ⟨he6, hP6⟩ := h6
  obtain ⟨u0, u1, u2, _, _, rfl, _⟩ := hP6.ex
  have o3 := hP6.pres.one3
  have hE6 := hE5.trans he6
  have hz6 := he6.size
  have hz5 := hE5.size
  have hz55 := he5.size
  refine go ?_
  refine st_alloc (by first | exact True.intro | exact ⟨_, rfl, by ((try simp only [ev_tmp, ev_const, ev_func, get_put, get_args, get_putL, get_putL_nil, Nat.reduceEqDiff, reduceIte, List.getD_cons_zero, List.getD_cons_succ, List.getD_nil, Bool.not_true, Bool.not_false]); first | done | with_reducible rfl)⟩) fun w7 bq he7 hbq hs7 hbk7 => ?_
  have hE7 := hE6.trans he7
  have hz7 := he7.size
  have hP7 := hP6.wr (.ofExt (B := fun b => b < w5.heap.size ∨ w6.heap.size ≤ b) he7) (fun b hb => hb)
  refine go ?_
  refine st_store_agg (vs := [u0, u1, u2]) (cs := _) (hb := hbk7) (by ((try simp only [ev_tmp, ev_const, ev_func, get_put, get_args, get_putL, get_putL_nil, Nat.reduceEqDiff, reduceIte, List.getD_cons_zero, List.getD_cons_succ, List.getD_nil]); first | done | with_reducible rfl)) (by ((try simp only [ev_tmp, ev_const, ev_func, get_put, get_args, get_putL, get_putL_nil, Nat.reduceEqDiff, reduceIte, List.getD_cons_zero, List.getD_cons_succ, List.getD_nil]); first | done | with_reducible rfl)) rfl ?_ ?_ (by first | exact True.intro | exact ⟨_, rfl, by ((try simp only [ev_tmp, ev_const, ev_func, get_put, get_args, get_putL, get_putL_nil, Nat.reduceEqDiff, reduceIte, List.getD_cons_zero, List.getD_cons_succ, List.getD_nil, Bool.not_true, Bool.not_false]); first | done | with_reducible rfl)⟩) fun w8 hc8 hs8 hb8 => ?_
  · rfl
  · simp [o3.1, o3.2.1, o3.2.2]
  have hE8 : Ext w w8 := hc8.ext hE7 (by omega)
  have hP8 := (hP7.wr (.one (B := fun g => g = bq) rfl hc8) (fun g hg => .inr (by omega))).pres
  have hQ := hP8.boxed (Ext.refl w8) (hb8.cell rfl) (hb8.cell rfl) (hb8.cell rfl)
  have hpp8 := PresP.same hpp (Ext.same (hc8.ext (he5.trans (he6.trans he7)) (by omega)) _ _) (by omega)
  refine go ?_
  refine rc (isExponents_ok (p := quoPr ys) (xs := y) (fun i hi => (quo_valid hse).opos hi) (by rw [quo_n]; omega)) (next := fun v9 w9 h9 => ?_)
  obtain ⟨b9, rfl, hb9, he9⟩ := h9
  have hE9 := hE8.trans he9
  refine go ?_
  refine c_b (fun e9 => ?_) (fun e9 => ?_)
  · refine go ?_
    refine ret2 ⟨nilv, [], 2, rfl, .inl ⟨hS, .inr ⟨hN, inferInstance, ys, hys, .inl ⟨fun h => ?_, rfl, rfl⟩⟩⟩, hE9, Fr.nilR _ _⟩
    rw [hb9.2 h] at e9; cases e9
  have hI := hb9.1 (by simpa using e9)
  have hIl : y.length = frN p ys := by rw [hI.len, quo_n]
  refine go ?_
  refine rc (lift_ok (p := p) (y := y) hse.ok (by omega) hys hIl) (next := fun v10 w10 h10 => ?_)
  obtain ⟨he10, hf10⟩ := h10
  refine go ?_
  exact ret2 ⟨v10, _, 0, rfl, .inl ⟨hS, .inr ⟨hN, inferInstance, ys, hys, .inr ⟨hI, rfl, rfl⟩⟩⟩, hE9.trans he10, hf10.mono hE9.size⟩
end Go.Proofs.YtnphljflkpekmaaGreat

/-
  Walks: the statement's own helpers on lists: sizes, copies, comparisons (szInt64S, .., toInt64S, .., eqInt64SSS).
  Conditions: stated at each theorem.
-/
namespace Go.Proofs.YtnphljflkpekmaaGreat
open Go Go.Pc
theorem szInt64S_ok {w : World} {v : Value} {xs : List Int} {k : Int} {lo hi : Nat} [hx : Ints lo hi w v xs] (hk : 0 ≤ k ∧ k ≤ 2000000) :
    Calls Tryz.prog 52 #[v, .int .i64 k] w (Ret fun v w' => ∃ j : Int, v = .int .i64 j ∧ (j < 0 ∨ 0 ≤ j ∧ j ≤ k ∧ (xs.length : Int) ≤ k) ∧ Ext w w') := by
  have hl : xs.length ≤ 9223372036854775807 := by
    obtain ⟨A, c, _, hc, hm, _⟩ := hx.sl.ex
    simp at hc; omega
  refine enter (args := [v, .int .i64 k]) (l := [.tmp 4]) Tryz.func52 rfl rfl Tryz.ntmps52 (by simp) ?_
  refine go ?_
  refine c_if (fun h4 => ?_) (fun h4 => ?_)
  · refine go ?_
    exact ret1 ⟨-1, rfl, .inl (by omega), Ext.refl _⟩
  · refine go ?_
    exact ret1 ⟨k - xs.length, rfl, .inr ⟨by omega, by omega, by omega⟩, Ext.refl _⟩
theorem sl_len {lo hi : Nat} {w : World} {v : Value} {us : List Value} (h : Sl lo hi w v us) : us.length ≤ 9223372036854775807 := by
  obtain ⟨A, c, _, hc, hm, _⟩ := h.ex
  omega
set_option maxHeartbeats 1000000 in
theorem szInt64SS_ok {w : World} {v : Value} {us : List Value} {xss : List (List Int)} {k : Int} {lo hi : Nat} [hx : Pc.Rows lo hi w v us xss] (hk : 0 ≤ k ∧ k ≤ 2000000) :
    Calls Tryz.prog 14 #[v, .int .i64 k] w (Ret fun v w' => ∃ j : Int, v = .int .i64 j ∧ (j < 0 ∨ 0 ≤ j ∧ j ≤ k ∧ (xss.length : Int) ≤ k ∧ ∀ i, ((xss.getD i []).length : Int) ≤ k) ∧ Ext w w') := by
  have hl := sl_len hx.sl
  have hul := hx.vals.len
  refine enter (args := [v, .int .i64 k]) (l := [.tmp 4]) Tryz.func14 rfl rfl Tryz.ntmps14 (by simp) ?_
  refine go ?_
  refine c_if (fun h4 => ?_) (fun h4 => ?_)
  · refine go ?_
    exact ret1 ⟨-1, rfl, .inl (by omega), Ext.refl _⟩
  refine go ?_
  refine r_for xss.length (fun q ρ w' => ∃ j : Int, Has ρ [(0, v), (1, .int .i64 j), (5, .int .i64 q)] ∧ Ext w w' ∧ 0 ≤ j ∧ j ≤ k ∧ ∀ i, i < q → ((xss.getD i []).length : Int) ≤ k) ?_ ?_
  · refine ⟨k - xss.length, ?_, Ext.refl _, by omega, by omega, fun i hi => by omega⟩
    exact hasP
  rintro q ρ w2 hq ⟨j, hH, he2, hj0, hjk, hI⟩
  refine rwp_has hH fun ρ0 => ?_
  refine go ?_
  refine c_if (fun h5 => ?_) (fun h5 => ?_)
  · refine go ?_
    refine rc (szInt64S_ok (xs := xss.getD q []) (k := j) ?_) (next := fun v3 w3 h3 => ?_)
    · omega
    obtain ⟨j3, rfl, hj3, he3⟩ := h3
    refine go ?_
    refine c_if (fun h6 => ?_) (fun h6 => ?_)
    · refine go ?_
      exact ret1 ⟨-1, rfl, .inl (by omega), he2.trans he3⟩
    · have h7 : 0 ≤ j3 ∧ j3 ≤ j ∧ ((xss.getD q []).length : Int) ≤ j := by
        rcases hj3 with h | h
        · omega
        · exact h
      refine go ?_
      refine forQ_normal (by omega) ⟨j3, ?_, he2.trans he3, by omega, by omega, fun i hi => ?_⟩
      · exact hasP
      · by_cases e : i = q
        · subst e; omega
        · exact hI i (by omega)
  · refine go ?_
    refine ret1 ⟨j, rfl, .inr ⟨hj0, hjk, by omega, fun i => ?_⟩, he2⟩
    by_cases hi : i < xss.length
    · exact hI i (by omega)
    · rw [List.getD_eq_getElem?_getD, List.getElem?_eq_none (by omega)]; simp; omega
set_option maxHeartbeats 1000000 in
theorem szInt64SSS_ok {w : World} {v : Value} {us : List Value} {uss : List (List Value)} {xsss : List (List (List Int))} {k : Int} {lo hi : Nat} [hx : Rowss lo hi w v us uss xsss] (hk : 0 ≤ k ∧ k ≤ 2000000) :
    Calls Tryz.prog 53 #[v, .int .i64 k] w (Ret fun v w' => ∃ j : Int, v = .int .i64 j ∧ (j < 0 ∨ 0 ≤ j ∧ j ≤ k ∧ (xsss.length : Int) ≤ k ∧ ∀ i, ((xsss.getD i []).length : Int) ≤ k ∧ ∀ h, (((xsss.getD i []).getD h []).length : Int) ≤ k) ∧ Ext w w') := by
  have hl := sl_len hx.sl
  have hul := hx.vals.len
  refine enter (args := [v, .int .i64 k]) (l := [.tmp 4]) Tryz.func53 rfl rfl Tryz.ntmps53 (by simp) ?_
  refine go ?_
  refine c_if (fun h4 => ?_) (fun h4 => ?_)
  · refine go ?_
    exact ret1 ⟨-1, rfl, .inl (by omega), Ext.refl _⟩
  refine go ?_
  refine r_for xsss.length (fun q ρ w' => ∃ j : Int, Has ρ [(0, v), (1, .int .i64 j), (5, .int .i64 q)] ∧ Ext w w' ∧ 0 ≤ j ∧ j ≤ k ∧ ∀ i, i < q → ((xsss.getD i []).length : Int) ≤ k ∧ ∀ h, (((xsss.getD i []).getD h []).length : Int) ≤ k) ?_ ?_
  · refine ⟨k - xsss.length, ?_, Ext.refl _, by omega, by omega, fun i hi => by omega⟩
    exact hasP
  rintro q ρ w2 hq ⟨j, hH, he2, hj0, hjk, hI⟩
  refine rwp_has hH fun ρ0 => ?_
  refine go ?_
  refine c_if (fun h5 => ?_) (fun h5 => ?_)
  · refine go ?_
    refine rc (szInt64SS_ok (xss := xsss.getD q []) (k := j) ?_) (next := fun v3 w3 h3 => ?_)
    · omega
    obtain ⟨j3, rfl, hj3, he3⟩ := h3
    refine go ?_
    refine c_if (fun h6 => ?_) (fun h6 => ?_)
    · refine go ?_
      exact ret1 ⟨-1, rfl, .inl (by omega), he2.trans he3⟩
    · have h7 : 0 ≤ j3 ∧ j3 ≤ j ∧ ((xsss.getD q []).length : Int) ≤ j ∧ ∀ i, (((xsss.getD q []).getD i []).length : Int) ≤ j := by
        rcases hj3 with h | h
        · omega
        · exact h
      refine go ?_
      refine forQ_normal (by omega) ⟨j3, ?_, he2.trans he3, by omega, by omega, fun i hi => ?_⟩
      · exact hasP
      · by_cases e : i = q
        · subst e; exact ⟨by omega, fun h => by have := h7.2.2.2 h; omega⟩
        · exact hI i (by omega)
  · refine go ?_
    refine ret1 ⟨j, rfl, .inr ⟨hj0, hjk, by omega, fun i => ?_⟩, he2⟩
    by_cases hi : i < xsss.length
    · exact hI i (by omega)
    · rw [List.getD_eq_getElem?_getD, List.getElem?_eq_none (by omega)]; simp; omega
set_option maxHeartbeats 1000000 in
theorem toInt64S_ok {w : World} {v : Value} {xs : List Int} {lo hi : Nat} [hx : Ints lo hi w v xs] (hl : xs.length ≤ 2000000) :
    Calls Tryz.prog 38 #[v] w (Ret fun v' w' => Ext w w' ∧ Fr w.heap.size w' v' xs) := by
  refine enter (args := [v]) (l := [.tmp 2]) Tryz.func38 rfl rfl Tryz.ntmps38 (by simp) ?_
  refine go ?_
  refine st_make_int (by ((try simp only [ev_tmp, ev_const, ev_func, get_put, get_args, get_putL, get_putL_nil, Nat.reduceEqDiff, reduceIte, List.getD_cons_zero, List.getD_cons_succ, List.getD_nil]); first | done | with_reducible rfl)) (by ((try simp only [ev_tmp, ev_const, ev_func, get_put, get_args, get_putL, get_putL_nil, Nat.reduceEqDiff, reduceIte, List.getD_cons_zero, List.getD_cons_succ, List.getD_nil]); first | done | with_reducible rfl)) (by omega) (by omega) (by first | exact True.intro | exact ⟨_, rfl, by ((try simp only [ev_tmp, ev_const, ev_func, get_put, get_args, get_putL, get_putL_nil, Nat.reduceEqDiff, reduceIte, List.getD_cons_zero, List.getD_cons_succ, List.getD_nil, Bool.not_true, Bool.not_false]); first | done | with_reducible rfl)⟩) fun w1 v1 he1 hs1 ho1 => ?_
  replace hx := hx.wide
  have ap : Apart 0 w.heap.size w.heap.size := ⟨.inr (Nat.le_refl _)⟩
  refine go ?_
  refine r_for xs.length (fun k ρ w' => ∃ ys, Has ρ [(0, v), (3, v1), (4, .int .i64 k)] ∧ Chg w.heap.size w1 w' ∧ OwnI 2 w.heap.size w' v1 ys ∧ ys.length = xs.length ∧ ∀ i, i < k → ys.getD i 0 = xs.getD i 0) ?_ ?_
  · refine ⟨_, ?_, Chg.refl _ _, ho1, by simp, fun i hi => by omega⟩
    exact hasP
  clear ho1
  rintro k ρ w2 hk ⟨ys, hH, hc2, ho2, hl2, hI⟩
  refine rwp_has hH fun ρ0 => ?_
  refine go ?_
  refine c_if (fun h4 => ?_) (fun h4 => ?_)
  · refine go ?_
    refine st_store_int (by ((try simp only [ev_tmp, ev_const, ev_func, get_put, get_args, get_putL, get_putL_nil, Nat.reduceEqDiff, reduceIte, List.getD_cons_zero, List.getD_cons_succ, List.getD_nil]); first | done | with_reducible rfl)) (by ((try simp only [ev_tmp, ev_const, ev_func, get_put, get_args, get_putL, get_putL_nil, Nat.reduceEqDiff, reduceIte, List.getD_cons_zero, List.getD_cons_succ, List.getD_nil]); first | done | with_reducible rfl)) ?_ (by first | exact True.intro | exact ⟨_, rfl, by ((try simp only [ev_tmp, ev_const, ev_func, get_put, get_args, get_putL, get_putL_nil, Nat.reduceEqDiff, reduceIte, List.getD_cons_zero, List.getD_cons_succ, List.getD_nil, Bool.not_true, Bool.not_false]); first | done | with_reducible rfl)⟩) fun w3 hc3 hs3 ho3 => ?_
    · omega
    refine go ?_
    refine forQ_normal (by omega) ⟨_, ?_, hc2.trans hc3, ho3, by simp [hl2], fun i hi => ?_⟩
    · exact hasP
    · by_cases e : k = i
      · subst e; rw [Pc.getD_set_eq _ _ _ (by omega)]
      · rw [Pc.getD_set_ne _ _ _ _ e]; exact hI i (by omega)
  · refine go ?_
    have hy : ys = xs := list_ext0 hl2 fun i hi => hI i (by omega)
    subst hy
    exact ret1 ⟨hc2.ext he1 (Nat.le_refl _), ho2.toFr (Nat.le_refl _)⟩
theorem set_nils {α : Type} (l : List α) (z u : α) (m : Nat) : (l ++ List.replicate (m + 1) z).set l.length u = (l ++ [u]) ++ List.replicate m z := by
  simp [List.replicate_succ]
set_option maxHeartbeats 1000000 in
theorem toInt64SSO_ok {w : World} {v : Value} {us : List Value} {xss : List (List Int)} {lo hi : Nat} [hx : Pc.Rows lo hi w v us xss] (hl : xss.length ≤ 2000000) (hr : ∀ i, (xss.getD i []).length ≤ 2000000) :
    Calls Tryz.prog 17 #[v] w (Ret fun v' w' => Ext w w' ∧ ∃ rs, Lst 22 w.heap.size (· < w.heap.size) w' v' (rs.map (·.1)) xss ∧ xss = rs.map (·.2) ∧ RowsO w.heap.size w' rs) := by
  refine enter (args := [v]) (l := [.tmp 2]) Tryz.func17 rfl rfl Tryz.ntmps17 (by simp) ?_
  refine go ?_
  refine st_make_nil (by ((try simp only [ev_tmp, ev_const, ev_func, get_put, get_args, get_putL, get_putL_nil, Nat.reduceEqDiff, reduceIte, List.getD_cons_zero, List.getD_cons_succ, List.getD_nil]); first | done | with_reducible rfl)) (by ((try simp only [ev_tmp, ev_const, ev_func, get_put, get_args, get_putL, get_putL_nil, Nat.reduceEqDiff, reduceIte, List.getD_cons_zero, List.getD_cons_succ, List.getD_nil]); first | done | with_reducible rfl)) (by omega) (by omega) (by first | exact True.intro | exact ⟨_, rfl, by ((try simp only [ev_tmp, ev_const, ev_func, get_put, get_args, get_putL, get_putL_nil, Nat.reduceEqDiff, reduceIte, List.getD_cons_zero, List.getD_cons_succ, List.getD_nil, Bool.not_true, Bool.not_false]); first | done | with_reducible rfl)⟩) fun w1 v1 he1 hs1 ho1 => ?_
  have hvb := ho1.toN_block
  have hL1 : Lst 22 w.heap.size (· < w.heap.size) w1 v1 _ _ := Lst.ofNils ho1 (Nat.le_refl _) (by omega) (fun g hg => by omega)
  refine go ?_
  refine r_for xss.length (fun k ρ w' => ∃ rs : List (Value × List Int), Has ρ [(0, v), (3, v1), (4, .int .i64 k)] ∧ Ext w w' ∧ Lst 22 w.heap.size (· < w.heap.size) w' v1 (rs.map (·.1) ++ List.replicate (xss.length - k) nilv) (rs.map (·.2) ++ List.replicate (xss.length - k) []) ∧ rs.length = k ∧ rs.map (·.2) = xss.take k ∧ RowsO (w.heap.size + 1) w' rs ∧ w.heap.size + 1 ≤ w'.heap.size) ?_ ?_
  · refine ⟨[], ?_, he1, by simpa using hL1, rfl, by simp, RowsO.nil _ _, by omega⟩
    exact hasP
  clear hL1 ho1
  rintro k ρ w2 hk ⟨rs, hH, he2, hL2, hl2, hI, hO2, hsz2⟩
  refine rwp_has hH fun ρ0 => ?_
  have hLr := hL2.toRows
  refine go ?_
  refine c_if (fun h4 => ?_) (fun h4 => ?_)
  · refine go ?_
    refine rc (toInt64S_ok (xs := xss.getD k []) (hr k)) (next := fun v3 w3 h3 => ?_)
    obtain ⟨he3, hf3⟩ := h3
    have hL3 := hL2.ext he3
    have hO3 := hL3.toOwn hvb
    have hz2 := he2.size
    have hul : (rs.map (·.1) ++ List.replicate (xss.length - k) nilv).length = xss.length := by simp; omega
    have hul2 : (rs.map (·.2) ++ List.replicate (xss.length - k) ([] : List Int)).length = xss.length := by simp; omega
    refine go ?_
    refine st_store_val (h := hO3) (by ((try simp only [ev_tmp, ev_const, ev_func, get_put, get_args, get_putL, get_putL_nil, Nat.reduceEqDiff, reduceIte, List.getD_cons_zero, List.getD_cons_succ, List.getD_nil]); first | done | with_reducible rfl)) (by ((try simp only [ev_tmp, ev_const, ev_func, get_put, get_args, get_putL, get_putL_nil, Nat.reduceEqDiff, reduceIte, List.getD_cons_zero, List.getD_cons_succ, List.getD_nil]); first | done | with_reducible rfl)) ?_ ?_ (by first | exact True.intro | exact ⟨_, rfl, by ((try simp only [ev_tmp, ev_const, ev_func, get_put, get_args, get_putL, get_putL_nil, Nat.reduceEqDiff, reduceIte, List.getD_cons_zero, List.getD_cons_succ, List.getD_nil, Bool.not_true, Bool.not_false]); first | done | with_reducible rfl)⟩) fun w4 hc4 hs4 ho4 => ?_
    · exact hf3.ints.sl.one
    · omega
    have hL4 := hL3.set hvb (IntsAp.ofFr hf3 (fun g hg => by
      rcases hg with hg | hg
      · omega
      · exact (hL2.lt hg).2)) hc4 ho4 (by omega)
    have hkn : k < xss.length := by omega
    have e0 : xss.length - k = (xss.length - (k + 1)) + 1 := by omega
    have e1 := set_nils (rs.map (·.1)) nilv v3 (xss.length - (k + 1))
    have e2 := set_nils (rs.map (·.2)) [] (xss.getD k []) (xss.length - (k + 1))
    rw [List.length_map, hl2, ← e0] at e1 e2
    rw [e1, e2] at hL4
    have hO4 := hO2.push he3 hsz2 hf3
    have hO5 := hO4.wr (.one (B := fun b => b = w.heap.size) rfl hc4) fun b hb e => by have := (hO4.blk hb).1; omega
    have hz3 := he3.size
    refine go ?_
    refine forQ_normal (by omega) ⟨rs ++ [(v3, xss.getD k [])], ?_, hc4.ext (he2.trans he3) (Nat.le_refl _), by simpa using hL4, by simp [hl2], ?_, hO5, by omega⟩
    · exact hasP
    · rw [List.take_succ_eq_append_getElem hkn, List.map_append, hI]; simp [hkn]
  · refine go ?_
    obtain rfl : k = xss.length := by omega
    rw [List.take_length] at hI
    refine ret1 ⟨he2, rs, ?_, hI.symm, hO2.mono (by omega)⟩
    simpa [hI] using hL2
theorem toInt64SS_ok {w : World} {v : Value} {us : List Value} {xss : List (List Int)} {lo hi : Nat} [hx : Pc.Rows lo hi w v us xss] (hl : xss.length ≤ 2000000) (hr : ∀ i, (xss.getD i []).length ≤ 2000000) :
    Calls Tryz.prog 17 #[v] w (Ret fun v' w' => Ext w w' ∧ ∃ us', Lst 22 w.heap.size (· < w.heap.size) w' v' us' xss) :=
  Pc.Calls.ret_mono (toInt64SSO_ok hl hr) fun _ _ ⟨h1, _, h2, _⟩ => ⟨h1, _, h2⟩
end Go.Proofs.YtnphljflkpekmaaGreat

/-
  Walks: the statement's own helpers on presentations: sizes, copies, comparisons (toInt64SSS, szPresentation, toPresentation, eqInt64SSS, eqPresentation).
  Conditions: stated at each theorem.
-/
namespace Go.Proofs.YtnphljflkpekmaaGreat
open Go Go.Pc
set_option maxHeartbeats 1000000 in
theorem toInt64SSS_ok {w : World} {v : Value} {us : List Value} {uss : List (List Value)} {xsss : List (List (List Int))} {lo hi : Nat} [hx : Rowss lo hi w v us uss xsss] (hl : xsss.length ≤ 2000000) (hr : ∀ i, (xsss.getD i []).length ≤ 2000000 ∧ ∀ j, ((xsss.getD i []).getD j []).length ≤ 2000000) :
    Calls Tryz.prog 59 #[v] w (Ret fun v' w' => Ext w w' ∧ ∃ us' uss', Rowss w.heap.size w'.heap.size w' v' us' uss' xsss) := by
  refine enter (args := [v]) (l := [.tmp 2]) Tryz.func59 rfl rfl Tryz.ntmps59 (by simp) ?_
  refine go ?_
  refine st_make_nil (by ((try simp only [ev_tmp, ev_const, ev_func, get_put, get_args, get_putL, get_putL_nil, Nat.reduceEqDiff, reduceIte, List.getD_cons_zero, List.getD_cons_succ, List.getD_nil]); first | done | with_reducible rfl)) (by ((try simp only [ev_tmp, ev_const, ev_func, get_put, get_args, get_putL, get_putL_nil, Nat.reduceEqDiff, reduceIte, List.getD_cons_zero, List.getD_cons_succ, List.getD_nil]); first | done | with_reducible rfl)) (by omega) (by omega) (by first | exact True.intro | exact ⟨_, rfl, by ((try simp only [ev_tmp, ev_const, ev_func, get_put, get_args, get_putL, get_putL_nil, Nat.reduceEqDiff, reduceIte, List.getD_cons_zero, List.getD_cons_succ, List.getD_nil, Bool.not_true, Bool.not_false]); first | done | with_reducible rfl)⟩) fun w1 v1 he1 hs1 ho1 => ?_
  refine go ?_
  refine r_for xsss.length (fun k ρ w' => ∃ (us' : List Value) (uss' : List (List Value)) (ysss : List (List (List Int))), Has ρ [(0, v), (3, v1), (4, .int .i64 k)] ∧ Ext w w' ∧ Own 23 w.heap.size w' v1 us' ∧ us'.length = xsss.length ∧ uss'.length = xsss.length ∧ ysss.length = xsss.length ∧
    (∀ i, Pc.Rows (w.heap.size + 1) w'.heap.size w' (us'.getD i nilv) (uss'.getD i []) (ysss.getD i [])) ∧ ∀ i, i < k → ysss.getD i [] = xsss.getD i []) ?_ ?_
  · refine ⟨_, List.replicate xsss.length [], List.replicate xsss.length [], ?_, he1, ho1, by simp, by simp, by simp, fun i => ?_, fun i hi => by omega⟩
    · exact hasP
    · have e1 : (List.replicate xsss.length nilv).getD i nilv = nilv := by
        rw [List.getD_eq_getElem?_getD, List.getElem?_replicate]; split <;> rfl
      have e2 : (List.replicate xsss.length ([] : List Value)).getD i [] = [] := by
        rw [List.getD_eq_getElem?_getD, List.getElem?_replicate]; split <;> rfl
      have e3 : (List.replicate xsss.length ([] : List (List Int))).getD i [] = [] := by
        rw [List.getD_eq_getElem?_getD, List.getElem?_replicate]; split <;> rfl
      rw [e1, e2, e3]
      refine ⟨⟨⟨none, 0, rfl, Nat.le_refl _, by omega, fun k u hu => by simp at hu⟩⟩, rfl, fun i => ?_⟩
      exact ⟨⟨none, 0, by simp, by simp, by omega, fun k u hu => by simp at hu⟩⟩
  clear ho1
  rintro k ρ w2 hk ⟨us', uss', ysss, hH, he2, ho2, hl1, hl2, hl3, hR, hI⟩
  refine rwp_has hH fun ρ0 => ?_
  have hsl := ho2.toSl
  refine go ?_
  refine c_if (fun h4 => ?_) (fun h4 => ?_)
  · refine go ?_
    refine rc (toInt64SS_ok (xss := xsss.getD k []) (hr k).1 (hr k).2) (next := fun v3 w3 h3 => ?_)
    obtain ⟨he3, us3, hL3⟩ := h3
    have hN3 := hL3.newRows
    have ho3 : Own 23 w.heap.size w3 v1 us' := Own.ext (h := ho2)
    have hsl3 := ho3.toSl
    have hlen3 := hsl3.toLen
    have hz2 := he2.size
    have hz3 := he3.size
    have hol := ho2.lt
    refine go ?_
    refine st_store_val (h := ho3) (by ((try simp only [ev_tmp, ev_const, ev_func, get_put, get_args, get_putL, get_putL_nil, Nat.reduceEqDiff, reduceIte, List.getD_cons_zero, List.getD_cons_succ, List.getD_nil]); first | done | with_reducible rfl)) (by ((try simp only [ev_tmp, ev_const, ev_func, get_put, get_args, get_putL, get_putL_nil, Nat.reduceEqDiff, reduceIte, List.getD_cons_zero, List.getD_cons_succ, List.getD_nil]); first | done | with_reducible rfl)) ?_ ?_ (by first | exact True.intro | exact ⟨_, rfl, by ((try simp only [ev_tmp, ev_const, ev_func, get_put, get_args, get_putL, get_putL_nil, Nat.reduceEqDiff, reduceIte, List.getD_cons_zero, List.getD_cons_succ, List.getD_nil, Bool.not_true, Bool.not_false]); first | done | with_reducible rfl)⟩) fun w4 hc4 hs4 ho4 => ?_
    · exact hN3.sl.one
    · omega
    refine go ?_
    refine forQ_normal (by omega) ⟨us'.set k v3, uss'.set k us3, ysss.set k (xsss.getD k []), ?_, hc4.ext (he2.trans he3) (Nat.le_refl _), ho4, by simp [hl1], by simp [hl2], by simp [hl3], fun i => ?_, fun i hi => ?_⟩
    · exact hasP
    · by_cases e : k = i
      · subst e
        have e1 : (us'.set k v3).getD k nilv = v3 := by simp [show k < us'.length by omega]
        have e2 : (uss'.set k us3).getD k [] = us3 := by simp [show k < uss'.length by omega]
        have e3 : (ysss.set k (xsss.getD k [])).getD k [] = xsss.getD k [] := by simp [show k < ysss.length by omega]
        rw [e1, e2, e3]
        exact (hN3.same (hc4.same (.inl (by omega)))).mono (by omega) (by omega)
      · have e1 : (us'.set k v3).getD i nilv = us'.getD i nilv := by simp [List.getElem?_set_ne e]
        have e2 : (uss'.set k us3).getD i [] = uss'.getD i [] := by simp [List.getElem?_set_ne e]
        have e3 : (ysss.set k (xsss.getD k [])).getD i [] = ysss.getD i [] := by simp [List.getElem?_set_ne e]
        rw [e1, e2, e3]
        exact (((hR i).same (he3.same _ _)).same (hc4.same (.inl (by omega)))).mono (Nat.le_refl _) (by omega)
    · by_cases e : k = i
      · subst e; simp [show k < ysss.length by omega]
      · have : (ysss.set k (xsss.getD k [])).getD i [] = ysss.getD i [] := by simp [List.getElem?_set_ne e]
        rw [this]; exact hI i (by omega)
  · refine go ?_
    refine ret1 ⟨he2, us', uss', ?_⟩
    have hy : ysss = xsss := by
      apply List.ext_getElem hl3
      intro i h1 h2
      have := hI i (by omega)
      simpa [h1, h2] using this
    subst hy
    exact ⟨hsl.mono (Nat.le_refl _) (by have := ho2.lt; omega), hl1, hl2, fun i => (hR i).mono (by omega) (Nat.le_refl _)⟩
theorem rowss_mono {lo hi lo' hi' : Nat} {w : World} {v : Value} {us : List Value} {uss : List (List Value)} {xsss : List (List (List Int))} (h : Rowss lo hi w v us uss xsss) (h1 : lo' ≤ lo) (h2 : hi ≤ hi') : Rowss lo' hi' w v us uss xsss :=
  ⟨h.sl.mono h1 h2, h.vals.len, h.vals.len', fun i => (h.vals.at_ i).mono h1 h2⟩
/-- The sizes of a presentation, none above k. -/
structure SizeP (p : Pr) (k : Int) : Prop where
  ord : (p.ord.length : Int) ≤ k
  pow : (p.pow.length : Int) ≤ k
  powi : ∀ i, ((p.pow.getD i []).length : Int) ≤ k
  cnj : (p.cnj.length : Int) ≤ k
  cnji : ∀ i, ((p.cnj.getD i []).length : Int) ≤ k
  cnjij : ∀ i j, (((p.cnj.getD i []).getD j []).length : Int) ≤ k
set_option maxHeartbeats 1000000 in
theorem szPresentation_ok {w : World} {v : Value} {p : Pr} {k : Int} {lo hi : Nat} [hp : Pres lo hi w v p] (hk : 0 ≤ k ∧ k ≤ 2000000) :
    Calls Tryz.prog 13 #[v, .int .i64 k] w (Ret fun v w' => ∃ j : Int, v = .int .i64 j ∧ (j < 0 ∨ 0 ≤ j ∧ j ≤ k ∧ SizeP p k) ∧ Ext w w') := by
  obtain ⟨vo, vpw, vc, ps, cs, css, rfl, h1, h2, h3⟩ := hp.ex
  refine enter (args := [.agg #[vo, vpw, vc], .int .i64 k]) (l := [.tmp 4]) Tryz.func13 rfl rfl Tryz.ntmps13 (by simp) ?_
  refine go ?_
  refine st_box3 (by ((try simp only [ev_tmp, ev_const, ev_func, get_put, get_args, get_putL, get_putL_nil, Nat.reduceEqDiff, reduceIte, List.getD_cons_zero, List.getD_cons_succ, List.getD_nil]); first | done | with_reducible rfl)) (by first | exact True.intro | exact ⟨_, rfl, by ((try simp only [ev_tmp, ev_const, ev_func, get_put, get_args, get_putL, get_putL_nil, Nat.reduceEqDiff, reduceIte, List.getD_cons_zero, List.getD_cons_succ, List.getD_nil, Bool.not_true, Bool.not_false]); first | done | with_reducible rfl)⟩) fun w1 b he1 hb1 hs1 hc0 hc1 hc2 => ?_
  refine go ?_
  refine rc (szInt64S_ok (xs := p.ord) hk) (next := fun v2 w2 h4 => ?_)
  obtain ⟨j2, rfl, hj2, he2⟩ := h4
  refine go ?_
  refine c_if (fun h5 => ?_) (fun h5 => ?_)
  · refine go ?_
    exact ret1 ⟨-1, rfl, .inl (by omega), he1.trans he2⟩
  have h6 : 0 ≤ j2 ∧ j2 ≤ k ∧ (p.ord.length : Int) ≤ k := by
    rcases hj2 with h | h
    · omega
    · exact h
  refine go ?_
  refine rc (szInt64SS_ok (xss := p.pow) (k := j2) ?_) (next := fun v3 w3 h7 => ?_)
  · omega
  obtain ⟨j3, rfl, hj3, he3⟩ := h7
  refine go ?_
  refine c_if (fun h8 => ?_) (fun h8 => ?_)
  · refine go ?_
    exact ret1 ⟨-1, rfl, .inl (by omega), (he1.trans he2).trans he3⟩
  have h9 : 0 ≤ j3 ∧ j3 ≤ j2 ∧ (p.pow.length : Int) ≤ j2 ∧ ∀ i, ((p.pow.getD i []).length : Int) ≤ j2 := by
    rcases hj3 with h | h
    · omega
    · exact h
  refine go ?_
  refine rc (szInt64SSS_ok (xsss := p.cnj) (k := j3) ?_) (next := fun v4 w4 h10 => ?_)
  · omega
  obtain ⟨j4, rfl, hj4, he4⟩ := h10
  refine go ?_
  refine c_if (fun h11 => ?_) (fun h11 => ?_)
  · refine go ?_
    exact ret1 ⟨-1, rfl, .inl (by omega), ((he1.trans he2).trans he3).trans he4⟩
  have h12 : 0 ≤ j4 ∧ j4 ≤ j3 ∧ (p.cnj.length : Int) ≤ j3 ∧ ∀ i, ((p.cnj.getD i []).length : Int) ≤ j3 ∧ ∀ h, (((p.cnj.getD i []).getD h []).length : Int) ≤ j3 := by
    rcases hj4 with h | h
    · omega
    · exact h
  refine go ?_
  refine ret1 ⟨j4, rfl, .inr ⟨h12.1, by omega, ⟨h6.2.2, by omega, fun i => by have := h9.2.2.2 i; omega, by omega, fun i => by have := (h12.2.2.2 i).1; omega, fun i j => by have := (h12.2.2.2 i).2 j; omega⟩⟩, ((he1.trans he2).trans he3).trans he4⟩
set_option maxHeartbeats 1000000 in
theorem toPresentation_ok {w : World} {v : Value} {p : Pr} {lo hi : Nat} [hp : Pres lo hi w v p] (hs : SizeP p 2000000) :
    Calls Tryz.prog 16 #[v] w (Ret fun v w' => Ext w w' ∧ Pres w.heap.size w'.heap.size w' v p) := by
  have hs1 := hs.ord
  have hs2 := hs.pow
  have hs3 := hs.cnj
  obtain ⟨vo, vpw, vc, ps, cs, css, rfl, h1, h2, h3⟩ := hp.ex
  refine enter (args := [.agg #[vo, vpw, vc]]) (l := [.cell 2 29]) Tryz.func16 rfl rfl Tryz.ntmps16 (by simp) ?_
  refine go ?_
  refine st_box3 (by ((try simp only [ev_tmp, ev_const, ev_func, get_put, get_args, get_putL, get_putL_nil, Nat.reduceEqDiff, reduceIte, List.getD_cons_zero, List.getD_cons_succ, List.getD_nil]); first | done | with_reducible rfl)) (by first | exact True.intro | exact ⟨_, rfl, by ((try simp only [ev_tmp, ev_const, ev_func, get_put, get_args, get_putL, get_putL_nil, Nat.reduceEqDiff, reduceIte, List.getD_cons_zero, List.getD_cons_succ, List.getD_nil, Bool.not_true, Bool.not_false]); first | done | with_reducible rfl)⟩) fun w1 b he1 hb1 hsz1 hc0 hc1 hc2 => ?_
  refine go ?_
  refine st_alloc (by first | exact True.intro | exact ⟨_, rfl, by ((try simp only [ev_tmp, ev_const, ev_func, get_put, get_args, get_putL, get_putL_nil, Nat.reduceEqDiff, reduceIte, List.getD_cons_zero, List.getD_cons_succ, List.getD_nil, Bool.not_true, Bool.not_false]); first | done | with_reducible rfl)⟩) fun w2 br he2 hbr hsz2 hbk2 => ?_
  refine go ?_
  refine st_alloc (by first | exact True.intro | exact ⟨_, rfl, by ((try simp only [ev_tmp, ev_const, ev_func, get_put, get_args, get_putL, get_putL_nil, Nat.reduceEqDiff, reduceIte, List.getD_cons_zero, List.getD_cons_succ, List.getD_nil, Bool.not_true, Bool.not_false]); first | done | with_reducible rfl)⟩) fun w3 bo he3 hbo hsz3 hbk3 => ?_
  have hE3 := (he1.trans he2).trans he3
  refine go ?_
  refine rc (toInt64S_ok (xs := p.ord) (by omega)) (next := fun v4 w4 h4 => ?_)
  obtain ⟨he4, hf4⟩ := h4
  have hb4 : Blk w4 bo _ := Blk.ext (h := hbk3)
  have hz4 := he4.size
  refine go ?_
  refine st_store_fld (h := hb4) (by ((try simp only [ev_tmp, ev_const, ev_func, get_put, get_args, get_putL, get_putL_nil, Nat.reduceEqDiff, reduceIte, List.getD_cons_zero, List.getD_cons_succ, List.getD_nil]); first | done | with_reducible rfl)) (by ((try simp only [ev_tmp, ev_const, ev_func, get_put, get_args, get_putL, get_putL_nil, Nat.reduceEqDiff, reduceIte, List.getD_cons_zero, List.getD_cons_succ, List.getD_nil]); first | done | with_reducible rfl)) ?_ ?_ (by first | exact True.intro | exact ⟨_, rfl, by ((try simp only [ev_tmp, ev_const, ev_func, get_put, get_args, get_putL, get_putL_nil, Nat.reduceEqDiff, reduceIte, List.getD_cons_zero, List.getD_cons_succ, List.getD_nil, Bool.not_true, Bool.not_false]); first | done | with_reducible rfl)⟩) fun w5 hc5 hs5 hb5 => ?_
  · exact hf4.ints.sl.one
  · simp
  have hE15 : Ext w1 w5 := hc5.ext ((he2.trans he3).trans he4) (by have := he2.size; omega)
  have hz15 := hE15.size
  have hz2 := he2.size
  have hi5 : Ints w3.heap.size w4.heap.size w5 v4 p.ord := hf4.ints.same (hc5.same (.inl (by omega)))
  have hr5 : Blk w5 br _ := (Blk.ext (x := he3.trans he4) (h := hbk2)).chg' hc5 (by omega)
  refine go ?_
  refine rc (toInt64SS_ok (xss := p.pow) (by omega) (fun i => by have := hs.powi i; omega)) (next := fun v6 w6 h6 => ?_)
  obtain ⟨he6, us6, hL6⟩ := h6
  have hN6 := hL6.newRows
  have hb6 : Blk w6 bo _ := Blk.ext (h := hb5)
  have hz6 := he6.size
  refine go ?_
  refine st_store_fld (h := hb6) (by ((try simp only [ev_tmp, ev_const, ev_func, get_put, get_args, get_putL, get_putL_nil, Nat.reduceEqDiff, reduceIte, List.getD_cons_zero, List.getD_cons_succ, List.getD_nil]); first | done | with_reducible rfl)) (by ((try simp only [ev_tmp, ev_const, ev_func, get_put, get_args, get_putL, get_putL_nil, Nat.reduceEqDiff, reduceIte, List.getD_cons_zero, List.getD_cons_succ, List.getD_nil]); first | done | with_reducible rfl)) ?_ ?_ (by first | exact True.intro | exact ⟨_, rfl, by ((try simp only [ev_tmp, ev_const, ev_func, get_put, get_args, get_putL, get_putL_nil, Nat.reduceEqDiff, reduceIte, List.getD_cons_zero, List.getD_cons_succ, List.getD_nil, Bool.not_true, Bool.not_false]); first | done | with_reducible rfl)⟩) fun w7 hc7 hs7 hb7 => ?_
  · exact hN6.sl.one
  · simp
  have hE17 : Ext w1 w7 := hc7.ext (hE15.trans he6) (by omega)
  have hi7 : Ints w3.heap.size w4.heap.size w7 v4 p.ord := (hi5.same (he6.same _ _)).same (hc7.same (.inl (by omega)))
  have hp7 : Pc.Rows w5.heap.size w6.heap.size w7 v6 us6 p.pow := hN6.same (hc7.same (.inl (by omega)))
  have hr7 : Blk w7 br _ := (Blk.ext (x := he6) (h := hr5)).chg' hc7 (by omega)
  refine go ?_
  refine rc (toInt64SSS_ok (xsss := p.cnj) (by omega) (fun i => ⟨by have := hs.cnji i; omega, fun j => by have := hs.cnjij i j; omega⟩)) (next := fun v8 w8 h8 => ?_)
  obtain ⟨he8, us8, uss8, hR8⟩ := h8
  have hb8 : Blk w8 bo _ := Blk.ext (h := hb7)
  have hz8 := he8.size
  refine go ?_
  refine st_store_fld (h := hb8) (by ((try simp only [ev_tmp, ev_const, ev_func, get_put, get_args, get_putL, get_putL_nil, Nat.reduceEqDiff, reduceIte, List.getD_cons_zero, List.getD_cons_succ, List.getD_nil]); first | done | with_reducible rfl)) (by ((try simp only [ev_tmp, ev_const, ev_func, get_put, get_args, get_putL, get_putL_nil, Nat.reduceEqDiff, reduceIte, List.getD_cons_zero, List.getD_cons_succ, List.getD_nil]); first | done | with_reducible rfl)) ?_ ?_ (by first | exact True.intro | exact ⟨_, rfl, by ((try simp only [ev_tmp, ev_const, ev_func, get_put, get_args, get_putL, get_putL_nil, Nat.reduceEqDiff, reduceIte, List.getD_cons_zero, List.getD_cons_succ, List.getD_nil, Bool.not_true, Bool.not_false]); first | done | with_reducible rfl)⟩) fun w9 hc9 hs9 hb9 => ?_
  · exact hR8.sl.one
  · simp
  have hE19 : Ext w1 w9 := hc9.ext (hE17.trans he8) (by omega)
  have hi9 : Ints w3.heap.size w4.heap.size w9 v4 p.ord := (hi7.same (he8.same _ _)).same (hc9.same (.inl (by omega)))
  have hp9 : Pc.Rows w5.heap.size w6.heap.size w9 v6 us6 p.pow := (hp7.same (he8.same _ _)).same (hc9.same (.inl (by omega)))
  have hq9 : Rowss w7.heap.size w8.heap.size w9 v8 us8 uss8 p.cnj := hR8.same (hc9.same (.inl (by omega)))
  have hr9 : Blk w9 br _ := (Blk.ext (x := he8) (h := hr7)).chg' hc9 (by omega)
  refine go ?_
  have hb9' : Blk w9 bo [v4, v6, v8] := hb9
  refine ra (v := .agg #[v4, v6, v8]) (h := rd_load_blk (hb := hb9') (by ((try simp only [ev_tmp, ev_const, ev_func, get_put, get_args, get_putL, get_putL_nil, Nat.reduceEqDiff, reduceIte, List.getD_cons_zero, List.getD_cons_succ, List.getD_nil]); first | done | with_reducible rfl)) rfl) (next := ?_)
  refine st_store_agg (vs := [v4, v6, v8]) (cs := _) (hb := hr9) (by ((try simp only [ev_tmp, ev_const, ev_func, get_put, get_args, get_putL, get_putL_nil, Nat.reduceEqDiff, reduceIte, List.getD_cons_zero, List.getD_cons_succ, List.getD_nil]); first | done | with_reducible rfl)) (by ((try simp only [ev_tmp, ev_const, ev_func, get_put, get_args, get_putL, get_putL_nil, Nat.reduceEqDiff, reduceIte, List.getD_cons_zero, List.getD_cons_succ, List.getD_nil]); first | done | with_reducible rfl)) rfl ?_ ?_ (by first | exact True.intro | exact ⟨_, rfl, by ((try simp only [ev_tmp, ev_const, ev_func, get_put, get_args, get_putL, get_putL_nil, Nat.reduceEqDiff, reduceIte, List.getD_cons_zero, List.getD_cons_succ, List.getD_nil, Bool.not_true, Bool.not_false]); first | done | with_reducible rfl)⟩) fun w10 hc10 hs10 hb10 => ?_
  · rfl
  · have e1 := hi9.sl.one
    have e2 := hp9.sl.one
    have e3 := hq9.sl.one
    simp [e1, e2, e3]
  refine go ?_
  refine retc (b := br) (hb := hb10) ⟨hc10.ext (he1.trans hE19) (by omega), ?_⟩ rfl
  have hi10 := (hi9.same (hc10.same (.inl (by omega)))).mono (lo' := w.heap.size) (hi' := w10.heap.size) (by omega) (by omega)
  have hp10 := (hp9.same (hc10.same (.inl (by omega)))).mono (lo' := w.heap.size) (hi' := w10.heap.size) (by omega) (by omega)
  have hq10 := rowss_mono (lo' := w.heap.size) (hi' := w10.heap.size) (hq9.same (hc10.same (.inl (by omega)))) (by omega) (by omega)
  exact ⟨⟨v4, v6, v8, us6, us8, uss8, rfl, hi10, hp10, hq10⟩⟩
set_option maxHeartbeats 1000000 in
theorem eqInt64SSS_ok {w : World} {va vb : Value} {us vs : List Value} {uss vss : List (List Value)} {xsss ysss : List (List (List Int))} {lo hi lo1 hi1 : Nat} [hx : Rowss lo hi w va us uss xsss] [hy : Rowss lo1 hi1 w vb vs vss ysss] (hm : ∀ i, (xsss.getD i []).length ≤ 2000000 ∧ ∀ j, ((xsss.getD i []).getD j []).length ≤ 2000000) (hl : xsss.length ≤ 10000000) :
    Calls Tryz.prog 65 #[va, vb] w (Ret fun v w' => ∃ b, v = .bool b ∧ (b = true ↔ xsss = ysss) ∧ Ext w w') := by
  have hul := hx.vals.len
  have hvl := hy.vals.len
  refine enter (args := [va, vb]) (l := [.tmp 4]) Tryz.func65 rfl rfl Tryz.ntmps65 (by simp) ?_
  refine go ?_
  refine c_if (fun h1 => ?_) (fun h1 => ?_)
  · refine go ?_
    refine ret1 ⟨_, rfl, ?_, Ext.refl _⟩
    simp only [Bool.false_eq_true, false_iff]
    rintro rfl
    omega
  · have hxy : xsss.length = ysss.length := by omega
    refine go ?_
    refine r_for xsss.length (fun k ρ w' => Has ρ [(0, va), (1, vb), (5, .int .i64 k)] ∧ Ext w w' ∧ ∀ i, i < k → xsss.getD i [] = ysss.getD i []) ?_ ?_
    · refine ⟨?_, Ext.refl _, fun i hi => by omega⟩
      exact hasP
    rintro k ρ w1 hk ⟨hH, he1, hI⟩
    refine rwp_has hH fun ρ0 => ?_
    refine go ?_
    refine c_if (fun h4 => ?_) (fun h4 => ?_)
    · refine go ?_
      refine d_region fun w2 he2 _ => ?_
      refine dgo ?_
      refine dce (eqInt64SS_ok (xss := xsss.getD k []) (yss := ysss.getD k []) (hm k).2 (by have := (hm k).1; omega)) (next := fun v3 w3 h3 => ?_)
      obtain ⟨b3, rfl, hb3, he3⟩ := h3
      refine dgo ?_
      refine d_end (h := ?_)
      refine go ?_
      refine c_b (fun h5 => ?_) (fun h5 => ?_)
      · refine go ?_
        refine ret1 ⟨_, rfl, ?_, (he1.trans he2).trans he3⟩
        simp only [Bool.false_eq_true, false_iff]
        rintro rfl
        have := hb3.2 rfl
        rw [this] at h5; cases h5
      · have h6 := hb3.1 (by simpa using h5)
        refine go ?_
        refine forQ_normal (by omega) ⟨?_, (he1.trans he2).trans he3, fun i hi => ?_⟩
        · exact hasP
        · by_cases e : i = k
          · subst e; exact h6
          · exact hI i (by omega)
    · refine go ?_
      refine ret1 ⟨_, rfl, ?_, he1⟩
      simp only [true_iff]
      apply List.ext_getElem hxy
      intro i h1 h2
      have := hI i (by omega)
      simpa [h1, h2] using this
theorem pr_ext {p q : Pr} (h1 : p.ord = q.ord) (h2 : p.pow = q.pow) (h3 : p.cnj = q.cnj) : p = q := by cases p; cases q; simp_all
set_option maxHeartbeats 1000000 in
theorem eqPresentation_ok {w : World} {va vb : Value} {p q : Pr} {lo hi lo1 hi1 : Nat} [hp : Pres lo hi w va p] [hq : Pres lo1 hi1 w vb q] (hs : SizeP p 2000000) :
    Calls Tryz.prog 20 #[va, vb] w (Ret fun v w' => ∃ b, v = .bool b ∧ (b = true ↔ p = q) ∧ Ext w w') := by
  have hs1 := hs.ord
  have hs2 := hs.pow
  have hs3 := hs.cnj
  obtain ⟨vo, vpw, vc, ps, cs, css, rfl, h1, h2, h3⟩ := hp.ex
  obtain ⟨vo', vpw', vc', ps', cs', css', rfl, h1', h2', h3'⟩ := hq.ex
  refine enter (args := [.agg #[vo, vpw, vc], .agg #[vo', vpw', vc']]) (l := [.tmp 4]) Tryz.func20 rfl rfl Tryz.ntmps20 (by simp) ?_
  refine go ?_
  refine st_box3 (by ((try simp only [ev_tmp, ev_const, ev_func, get_put, get_args, get_putL, get_putL_nil, Nat.reduceEqDiff, reduceIte, List.getD_cons_zero, List.getD_cons_succ, List.getD_nil]); first | done | with_reducible rfl)) (by first | exact True.intro | exact ⟨_, rfl, by ((try simp only [ev_tmp, ev_const, ev_func, get_put, get_args, get_putL, get_putL_nil, Nat.reduceEqDiff, reduceIte, List.getD_cons_zero, List.getD_cons_succ, List.getD_nil, Bool.not_true, Bool.not_false]); first | done | with_reducible rfl)⟩) fun w1 b he1 hb1 hsz1 hc0 hc1 hc2 => ?_
  refine go ?_
  refine st_box3 (by ((try simp only [ev_tmp, ev_const, ev_func, get_put, get_args, get_putL, get_putL_nil, Nat.reduceEqDiff, reduceIte, List.getD_cons_zero, List.getD_cons_succ, List.getD_nil]); first | done | with_reducible rfl)) (by first | exact True.intro | exact ⟨_, rfl, by ((try simp only [ev_tmp, ev_const, ev_func, get_put, get_args, get_putL, get_putL_nil, Nat.reduceEqDiff, reduceIte, List.getD_cons_zero, List.getD_cons_succ, List.getD_nil, Bool.not_true, Bool.not_false]); first | done | with_reducible rfl)⟩) fun w2 b' he2 hb2 hsz2 hc0' hc1' hc2' => ?_
  have hE2 := he1.trans he2
  have no : ∀ {w' : World}, p ≠ q → Ext w w' → ∃ b, Value.bool false = .bool b ∧ (b = true ↔ p = q) ∧ Ext w w' := fun h he => ⟨_, rfl, by simp [h], he⟩
  refine go ?_
  refine rc (eqInt64S_ok (xs := p.ord) (ys := q.ord) (by omega)) (next := fun v3 w3 h4 => ?_)
  obtain ⟨b3, rfl, hb3, he3⟩ := h4
  refine go ?_
  refine c_b (fun h5 => ?_) (fun h5 => ?_)
  · refine go ?_
    refine ret1 (no (fun e => ?_) (hE2.trans he3))
    rw [hb3.2 (by rw [e])] at h5; cases h5
  have e1 := hb3.1 (by simpa using h5)
  refine go ?_
  refine rc (eqInt64SS_ok (xss := p.pow) (yss := q.pow) (fun i => by have := hs.powi i; omega) (by omega)) (next := fun v4 w4 h6 => ?_)
  obtain ⟨b4, rfl, hb4, he4⟩ := h6
  refine go ?_
  refine c_b (fun h7 => ?_) (fun h7 => ?_)
  · refine go ?_
    refine ret1 (no (fun e => ?_) ((hE2.trans he3).trans he4))
    rw [hb4.2 (by rw [e])] at h7; cases h7
  have e2 := hb4.1 (by simpa using h7)
  refine go ?_
  refine rc (eqInt64SSS_ok (xsss := p.cnj) (ysss := q.cnj) (fun i => ⟨by have := hs.cnji i; omega, fun j => by have := hs.cnjij i j; omega⟩) (by omega)) (next := fun v5 w5 h8 => ?_)
  obtain ⟨b5, rfl, hb5, he5⟩ := h8
  refine go ?_
  refine c_b (fun h9 => ?_) (fun h9 => ?_)
  · refine go ?_
    refine ret1 (no (fun e => ?_) (((hE2.trans he3).trans he4).trans he5))
    rw [hb5.2 (by rw [e])] at h9; cases h9
  have e3 := hb5.1 (by simpa using h9)
  refine go ?_
  exact ret1 ⟨_, rfl, ⟨fun _ => pr_ext e1 e2 e3, fun _ => rfl⟩, ((hE2.trans he3).trans he4).trans he5⟩
end Go.Proofs.YtnphljflkpekmaaGreat

/-
  Walks: the statement's own helpers that mark memory and read the marks (markInt64S, markInt64SS, heldInt64S, heldInt64SS).
  Conditions: stated at each theorem.
-/
namespace Go.Proofs.YtnphljflkpekmaaGreat
open Go Go.Pc
set_option maxHeartbeats 1000000 in
theorem markInt64S_ok {s : Nat} {w : World} {v : Value} {xs : List Int} {k : Int} (hf : Fr s w v xs) (hk : 0 ≤ k) (hb : k + xs.length ≤ 9000000000000000000) :
    Calls Tryz.prog 41 #[v, .int .i64 k] w (Ret fun v' w' => v' = .int .i64 (k + xs.length) ∧ Fr s w' v (marks k xs.length) ∧ Wrt (fun b => xs ≠ [] ∧ v.ownBlock = some b) w w') := by
  by_cases hn : xs = []
  · subst hn
    have hx := hf.ints
    refine enter (args := [v, .int .i64 k]) (l := [.tmp 4]) Tryz.func41 rfl rfl Tryz.ntmps41 (by simp) ?_
    refine go ?_
    refine r_for 0 (fun i ρ w' => Has ρ [(0, v), (1, .int .i64 k), (5, .int .i64 i)] ∧ w' = w) ?_ ?_
    · refine ⟨?_, rfl⟩
      exact hasP
    rintro i ρ w2 hi ⟨hH, rfl⟩
    refine rwp_has hH fun ρ0 => ?_
    refine go ?_
    refine c_if (fun h4 => ?_) (fun h4 => ?_)
    · simp at h4; omega
    · refine go ?_
      exact ret1 (v := .int .i64 k) ⟨by simp, hf, .refl _⟩
  obtain ⟨e, b, hsb, ho⟩ := hf.own hn
  have hl := sl_len ho.own.toSl
  simp only [List.length_map] at hl
  refine enter (args := [v, .int .i64 k]) (l := [.tmp 4]) Tryz.func41 rfl rfl Tryz.ntmps41 (by simp) ?_
  refine go ?_
  refine r_for xs.length (fun i ρ w' => ∃ ys, Has ρ [(0, v), (1, .int .i64 (k + i)), (5, .int .i64 i)] ∧ Chg b w w' ∧ OwnI e b w' v ys ∧ ys.length = xs.length ∧ ∀ j : Nat, j < i → ys.getD j 0 = k + j) ?_ ?_
  · refine ⟨xs, ?_, Chg.refl _ _, ho, rfl, fun j hj => by omega⟩
    exact hasP
  have hblk := ho.block
  clear ho hf
  rintro i ρ w2 hi ⟨ys, hH, hc2, ho2, hl2, hI⟩
  refine rwp_has hH fun ρ0 => ?_
  refine go ?_
  refine c_if (fun h4 => ?_) (fun h4 => ?_)
  · refine go ?_
    refine st_store_int (by ((try simp only [ev_tmp, ev_const, ev_func, get_put, get_args, get_putL, get_putL_nil, Nat.reduceEqDiff, reduceIte, List.getD_cons_zero, List.getD_cons_succ, List.getD_nil]); first | done | with_reducible rfl)) (by ((try simp only [ev_tmp, ev_const, ev_func, get_put, get_args, get_putL, get_putL_nil, Nat.reduceEqDiff, reduceIte, List.getD_cons_zero, List.getD_cons_succ, List.getD_nil]); first | done | with_reducible rfl)) ?_ (by first | exact True.intro | exact ⟨_, rfl, by ((try simp only [ev_tmp, ev_const, ev_func, get_put, get_args, get_putL, get_putL_nil, Nat.reduceEqDiff, reduceIte, List.getD_cons_zero, List.getD_cons_succ, List.getD_nil, Bool.not_true, Bool.not_false]); first | done | with_reducible rfl)⟩) fun w3 hc3 hs3 ho3 => ?_
    · omega
    refine go ?_
    refine forQ_normal (by omega) ⟨_, ?_, hc2.trans hc3, ho3, by simp [hl2], fun j hj => ?_⟩
    · exact hasP
    · by_cases ee : i = j
      · subst ee; rw [Pc.getD_set_eq _ _ _ (by omega)]
      · rw [Pc.getD_set_ne _ _ _ _ ee]; exact hI j (by omega)
  · refine go ?_
    obtain rfl : i = xs.length := by omega
    have hy : ys = marks k xs.length := list_ext0 (by rw [marks_len]; exact hl2) fun j hj => by rw [hI j (by omega), marks_getD _ (by omega)]
    refine ret1 ⟨rfl, ?_, .one ⟨hn, hblk⟩ hc2⟩
    rw [← hy]
    exact ho2.toFr hsb
set_option maxHeartbeats 1000000 in
theorem heldInt64S_ok {w : World} {v : Value} {k : Int} {n lo hi : Nat} {xs : List Int} [hx : Ints lo hi w v xs] (hxs : xs = marks k n) (hk : 0 ≤ k) (hb : k + n ≤ 9000000000000000000) :
    Calls Tryz.prog 42 #[v, .int .i64 k] w (Ret fun v' w' => v' = .int .i64 (k + n) ∧ Ext w w') := by
  have hl : xs.length = n := by rw [hxs, marks_len]
  have hg : ∀ i, i < n → xs.getD i 0 = k + i := fun i hi => by rw [hxs, marks_getD _ hi]
  have hm : n ≤ 9223372036854775807 := by have := sl_len hx.sl; simp at this; omega
  refine enter (args := [v, .int .i64 k]) (l := [.tmp 4]) Tryz.func42 rfl rfl Tryz.ntmps42 (by simp) ?_
  refine go ?_
  refine r_for n (fun i ρ w' => Has ρ [(0, v), (1, .int .i64 (k + i)), (5, .int .i64 i)] ∧ Ext w w') ?_ ?_
  · refine ⟨?_, Ext.refl _⟩
    exact hasP
  rintro i ρ w2 hi ⟨hH, he2⟩
  refine rwp_has hH fun ρ0 => ?_
  refine go ?_
  refine c_if (fun h4 => ?_) (fun h4 => ?_)
  · have hgi := hg i (by omega)
    refine go ?_
    refine c_if (fun h5 => ?_) (fun h5 => ?_)
    · exact absurd hgi h5
    · refine go ?_
      refine forQ_normal (by omega) ⟨?_, he2⟩
      exact hasP
  · refine go ?_
    obtain rfl : i = n := by omega
    exact ret1 ⟨rfl, he2⟩
set_option maxHeartbeats 1000000 in
theorem heldInt64SS_ok {w : World} {v : Value} {k : Int} {lo hi : Nat} {us : List Value} {xss yss : List (List Int)} [hx : Pc.Rows lo hi w v us xss] (hxs : xss = markL k yss) (hk : 0 ≤ k) (hb : k + tot yss ≤ 9000000000000000000) :
    Calls Tryz.prog 34 #[v, .int .i64 k] w (Ret fun v' w' => v' = .int .i64 (k + tot yss) ∧ Ext w w') := by
  have hl : xss.length = yss.length := by rw [hxs, markL_len]
  have hul := hx.vals.len
  have hm := sl_len hx.sl
  have hg : ∀ i, i < yss.length → xss.getD i [] = marks (k + tot (yss.take i)) (yss.getD i []).length := fun i hi => by rw [hxs, markL_getD _ _ _ hi]
  refine enter (args := [v, .int .i64 k]) (l := [.tmp 4]) Tryz.func34 rfl rfl Tryz.ntmps34 (by simp) ?_
  refine go ?_
  refine r_for yss.length (fun i ρ w' => Has ρ [(0, v), (1, .int .i64 (k + tot (yss.take i))), (5, .int .i64 i)] ∧ Ext w w') ?_ ?_
  · refine ⟨?_, Ext.refl _⟩
    simp only [List.take_zero, tot]
    exact hasP
  rintro i ρ w2 hi ⟨hH, he2⟩
  refine rwp_has hH fun ρ0 => ?_
  have ht := tot_take_le yss i
  refine go ?_
  refine c_if (fun h4 => ?_) (fun h4 => ?_)
  · have hin : i < yss.length := by omega
    have hts := tot_take_succ yss hin
    have ht2 := tot_take_le yss (i + 1)
    refine go ?_
    refine rc (heldInt64S_ok (xs := xss.getD i []) (hg i hin) ?_ ?_) (next := fun v3 w3 h3 => ?_)
    · omega
    · omega
    obtain ⟨rfl, he3⟩ := h3
    refine go ?_
    refine c_if (fun h5 => ?_) (fun h5 => ?_)
    · omega
    · refine go ?_
      refine forQ_normal (by omega) ⟨?_, he2.trans he3⟩
      exact hasP
  · refine go ?_
    obtain rfl : i = yss.length := by omega
    refine ret1 ⟨?_, he2⟩
    rw [List.take_length]
set_option maxHeartbeats 2000000 in
theorem markInt64SS_ok {A : Nat → Prop} {s : Nat} {w : World} {v : Value} {k : Int} {pre rs post : List (Value × List Int)} (hO : RowsO s w (pre ++ rs ++ post)) (hS : SpA A w v (rs.map (·.1))) (hA : ∀ b, BlkOf rs b → A b) (hk : 0 ≤ k) (hb : k + tot (rs.map (·.2)) ≤ 9000000000000000000) :
    Calls Tryz.prog 23 #[v, .int .i64 k] w (Ret fun v' w' => v' = .int .i64 (k + tot (rs.map (·.2))) ∧ RowsO s w' (pre ++ mkR k rs ++ post) ∧ Wrt (BlkOf rs) w w') := by
  have hm := sl_len hS.sl
  simp only [List.length_map] at hm
  have hsl := hS.sl
  have hlen := hsl.toLen
  refine enter (args := [v, .int .i64 k]) (l := [.tmp 4]) Tryz.func23 rfl rfl Tryz.ntmps23 (by simp) ?_
  refine go ?_
  refine r_for rs.length (fun i ρ w' => Has ρ [(0, v), (1, .int .i64 (k + tot ((rs.take i).map (·.2)))), (5, .int .i64 i)] ∧ RowsO s w' (pre ++ (mkR k (rs.take i) ++ rs.drop i) ++ post) ∧ Wrt (BlkOf rs) w w') ?_ ?_
  · refine ⟨?_, by simpa [mkR] using hO, .refl _⟩
    simp only [List.take_zero, List.map_nil, tot]
    exact hasP
  clear hO hsl hlen
  rintro i ρ w2 hi ⟨hH, hO2, hW2⟩
  refine rwp_has hH fun ρ0 => ?_
  have hS2 := hS.wr hW2 hA
  have hsl2 := hS2.sl
  have hlen2 := hsl2.toLen
  have hll : (rs.map (·.1)).length = rs.length := by simp
  have ht : tot ((rs.take i).map (·.2)) ≤ tot (rs.map (·.2)) := by rw [List.map_take]; exact tot_take_le _ _
  refine go ?_
  refine c_if (fun h4 => ?_) (fun h4 => ?_)
  · have hin : i < rs.length := by simp at h4; omega
    have e1 : Pc.rowAt v (rs.map (·.1)) i = rs[i].1 := by simp [Pc.rowAt, hin]
    have e2 : rs.drop i = rs[i] :: rs.drop (i + 1) := (List.getElem_cons_drop (h := hin)).symm
    have e3 : rs.take (i + 1) = rs.take i ++ [rs[i]] := List.take_succ_eq_append_getElem hin
    have hts : tot ((rs.take (i + 1)).map (·.2)) = tot ((rs.take i).map (·.2)) + (rs[i]).2.length := by rw [e3, List.map_append, tot_append]; simp [tot]
    have ht2 : tot ((rs.take (i + 1)).map (·.2)) ≤ tot (rs.map (·.2)) := by rw [List.map_take]; exact tot_take_le _ _
    have hO3 : RowsO s w2 ((pre ++ mkR k (rs.take i)) ++ rs[i] :: (rs.drop (i + 1) ++ post)) := by
      rw [e2] at hO2
      simpa only [List.append_assoc, List.cons_append] using hO2
    have hfr := hO3.fr rs[i] (by simp)
    refine go ?_
    refine ra (v := Pc.rowAt v (rs.map fun x : Value × List Int => x.1) i) (h := rd_load_sl (us := rs.map fun x : Value × List Int => x.1) (by ((try simp only [ev_tmp, ev_const, ev_func, get_put, get_args, get_putL, get_putL_nil, Nat.reduceEqDiff, reduceIte, List.getD_cons_zero, List.getD_cons_succ, List.getD_nil]); first | done | with_reducible rfl)) (by omega)) (next := ?_)
    rw [e1]
    refine go ?_
    refine rc (markInt64S_ok hfr ?_ ?_) (next := fun v3 w3 h3 => ?_)
    · omega
    · omega
    obtain ⟨rfl, hf3, hW3⟩ := h3
    have hO4 := hO3.upd hW3 hf3 marks_ne.1
    refine go ?_
    refine forQ_normal (by omega) ⟨?_, ?_, hW2.trans (hW3.mono fun b ⟨hn, e⟩ => ⟨_, List.getElem_mem hin, hn, e⟩)⟩
    · exact hasP
    · rw [e3, mkR_append]
      simpa only [mkR, List.append_assoc, List.cons_append, List.nil_append] using hO4
  · refine go ?_
    obtain rfl : i = rs.length := by simp at h4; omega
    rw [List.take_length] at hO2 ⊢
    exact ret1 ⟨rfl, by simpa using hO2, hW2⟩
end Go.Proofs.YtnphljflkpekmaaGreat

/-
  Walks: copies that are the call's own (toInt64SSS, toPresentation), marks of presentations (markInt64SSS, markPresentation).
  Conditions: stated at each theorem.
-/
namespace Go.Proofs.YtnphljflkpekmaaGreat
open Go Go.Pc
theorem toInt64SSM_ok {w : World} {v : Value} {us : List Value} {xss : List (List Int)} {lo hi : Nat} [hx : Pc.Rows lo hi w v us xss] (hl : xss.length ≤ 2000000) (hr : ∀ i, (xss.getD i []).length ≤ 2000000) :
    Calls Tryz.prog 17 #[v] w (Ret fun v' w' => Ext w w' ∧ ∃ rs, xss = rs.map (·.2) ∧ MatO w.heap.size w'.heap.size w' v' rs) :=
  Pc.Calls.ret_mono (toInt64SSO_ok hl hr) fun _ _ ⟨h1, rs, h2, h3, h4⟩ => by subst h3; exact ⟨h1, rs, rfl, MatO.ofLst h2 h4 h2.newRows⟩
theorem rowss_of_cub {A : Nat → Prop} {s : Nat} {w : World} {v : Value} {gs : List (Value × List (Value × List Int))} {lo hi : Nat} (hs : Sl lo hi w v (gs.map (·.1))) (hlo : lo ≤ hi) (h : ∀ q, q ∈ gs → Pc.Rows lo hi w q.1 (q.2.map (·.1)) (q.2.map (·.2))) :
    Rowss lo hi w v (gs.map (·.1)) (gs.map fun q => q.2.map (·.1)) (gs.map fun q => q.2.map (·.2)) := by
  refine ⟨hs, by simp, by simp, fun i => ?_⟩
  by_cases hi' : i < gs.length
  · have := h gs[i] (List.getElem_mem hi')
    simpa [hi'] using this
  · have e1 : (gs.map (·.1)).getD i nilv = nilv := by rw [List.getD_eq_getElem?_getD, List.getElem?_eq_none (by simp; omega)]; rfl
    have e2 : (gs.map fun q => q.2.map (·.1)).getD i [] = [] := by rw [List.getD_eq_getElem?_getD, List.getElem?_eq_none (by simp; omega)]; rfl
    have e3 : (gs.map fun q => q.2.map (·.2)).getD i [] = [] := by rw [List.getD_eq_getElem?_getD, List.getElem?_eq_none (by simp; omega)]; rfl
    rw [e1, e2, e3]
    exact ⟨⟨⟨none, 0, rfl, Nat.le_refl _, by omega, fun k u hu => by simp at hu⟩⟩, rfl, fun i => ⟨⟨none, 0, by simp, by simp, by omega, fun k u hu => by simp at hu⟩⟩⟩
set_option maxHeartbeats 2000000 in
theorem toInt64SSSO_ok {w : World} {v : Value} {us : List Value} {uss : List (List Value)} {xsss : List (List (List Int))} {lo hi : Nat} [hx : Rowss lo hi w v us uss xsss] (hl : xsss.length ≤ 2000000) (hr : ∀ i, (xsss.getD i []).length ≤ 2000000 ∧ ∀ j, ((xsss.getD i []).getD j []).length ≤ 2000000) :
    Calls Tryz.prog 59 #[v] w (Ret fun v' w' => Ext w w' ∧ ∃ gs, xsss = gs.map (fun q => q.2.map (·.2)) ∧ RowsO w.heap.size w' (flat gs) ∧ CubO (fun b => BlkOf (flat gs) b ∨ b < w.heap.size) w' v' gs ∧ Rowss w.heap.size w'.heap.size w' v' (gs.map (·.1)) (gs.map fun q => q.2.map (·.1)) xsss) := by
  refine enter (args := [v]) (l := [.tmp 2]) Tryz.func59 rfl rfl Tryz.ntmps59 (by simp) ?_
  refine go ?_
  refine st_make_nil (by ((try simp only [ev_tmp, ev_const, ev_func, get_put, get_args, get_putL, get_putL_nil, Nat.reduceEqDiff, reduceIte, List.getD_cons_zero, List.getD_cons_succ, List.getD_nil]); first | done | with_reducible rfl)) (by ((try simp only [ev_tmp, ev_const, ev_func, get_put, get_args, get_putL, get_putL_nil, Nat.reduceEqDiff, reduceIte, List.getD_cons_zero, List.getD_cons_succ, List.getD_nil]); first | done | with_reducible rfl)) (by omega) (by omega) (by first | exact True.intro | exact ⟨_, rfl, by ((try simp only [ev_tmp, ev_const, ev_func, get_put, get_args, get_putL, get_putL_nil, Nat.reduceEqDiff, reduceIte, List.getD_cons_zero, List.getD_cons_succ, List.getD_nil, Bool.not_true, Bool.not_false]); first | done | with_reducible rfl)⟩) fun w1 v1 he1 hs1 ho1 => ?_
  refine go ?_
  refine r_for xsss.length (fun k ρ w' => ∃ gs : List (Value × List (Value × List Int)), Has ρ [(0, v), (3, v1), (4, .int .i64 k)] ∧ Ext w w' ∧ w.heap.size + 1 ≤ w'.heap.size ∧ Own 23 w.heap.size w' v1 (gs.map (·.1) ++ List.replicate (xsss.length - k) nilv) ∧ gs.length = k ∧ gs.map (fun q => q.2.map (·.2)) = xsss.take k ∧
    RowsO (w.heap.size + 1) w' (flat gs) ∧ (∀ q, q ∈ gs → SpA (fun b => BlkOf (flat gs) b ∨ b < w.heap.size + 1) w' q.1 (q.2.map (·.1))) ∧ ∀ q, q ∈ gs → Pc.Rows (w.heap.size + 1) w'.heap.size w' q.1 (q.2.map (·.1)) (q.2.map (·.2))) ?_ ?_
  · refine ⟨[], ?_, he1, by omega, by simpa using ho1, rfl, by simp, RowsO.nil _ _, fun q hq => (by cases hq), fun q hq => (by cases hq)⟩
    exact hasP
  clear ho1
  rintro k ρ w2 hk ⟨gs, hH, he2, hz2, ho2, hgl, hI, hO2, hS2, hR2⟩
  refine rwp_has hH fun ρ0 => ?_
  have hsl := ho2.toSl
  have hul : (gs.map (·.1) ++ List.replicate (xsss.length - k) nilv).length = xsss.length := by simp; omega
  refine go ?_
  refine c_if (fun h4 => ?_) (fun h4 => ?_)
  · have hkn : k < xsss.length := by omega
    refine go ?_
    refine rc (toInt64SSM_ok (xss := xsss.getD k []) (hr k).1 (hr k).2) (next := fun v3 w3 h3 => ?_)
    obtain ⟨he3, rs, hrs, hM3⟩ := h3
    have ho3 : Own 23 w.heap.size w3 v1 _ := Own.ext (h := ho2)
    have hsl3 := ho3.toSl
    have hlen3 := hsl3.toLen
    have hz3 := he3.size
    have hol := ho2.lt
    refine go ?_
    refine st_store_val (h := ho3) (by ((try simp only [ev_tmp, ev_const, ev_func, get_put, get_args, get_putL, get_putL_nil, Nat.reduceEqDiff, reduceIte, List.getD_cons_zero, List.getD_cons_succ, List.getD_nil]); first | done | with_reducible rfl)) (by ((try simp only [ev_tmp, ev_const, ev_func, get_put, get_args, get_putL, get_putL_nil, Nat.reduceEqDiff, reduceIte, List.getD_cons_zero, List.getD_cons_succ, List.getD_nil]); first | done | with_reducible rfl)) ?_ ?_ (by first | exact True.intro | exact ⟨_, rfl, by ((try simp only [ev_tmp, ev_const, ev_func, get_put, get_args, get_putL, get_putL_nil, Nat.reduceEqDiff, reduceIte, List.getD_cons_zero, List.getD_cons_succ, List.getD_nil, Bool.not_true, Bool.not_false]); first | done | with_reducible rfl)⟩) fun w4 hc4 hs4 ho4 => ?_
    · exact hM3.rows.sl.one
    · omega
    refine go ?_
    have e0 : xsss.length - k = (xsss.length - (k + 1)) + 1 := by omega
    have e1 := set_nils (gs.map (·.1)) nilv v3 (xsss.length - (k + 1))
    rw [List.length_map, hgl, ← e0] at e1
    rw [e1] at ho4
    have hW4 : Wrt (fun b => b = w.heap.size) w3 w4 := .one rfl hc4
    have hM4 := hM3.wr hW4 (fun b hb => .inl (by omega))
    have hf : flat (gs ++ [(v3, rs)]) = flat gs ++ rs := by rw [flat_append, flat_one]
    have hO3 := hO2.append he3 (by omega) hM3.own
    have hO4 := hO3.wr hW4 (fun b hb e => by have := (hO3.blk hb).1; omega)
    refine forQ_normal (by omega) ⟨gs ++ [(v3, rs)], ?_, hc4.ext (he2.trans he3) (Nat.le_refl _), by omega, by simpa using ho4, by simp [hgl], ?_, ?_, fun q hq => ?_, fun q hq => ?_⟩
    · exact hasP
    · rw [List.take_succ_eq_append_getElem hkn, List.map_append, hI]
      simp only [List.map_cons, List.map_nil, ← hrs]
      simp [hkn]
    · rw [hf]; exact hO4
    · rw [hf]
      rcases List.mem_append.1 hq with hq | hq
      · have h5 := (hS2 q hq).grow he3 (A' := fun b => BlkOf (flat gs ++ rs) b ∨ b < w.heap.size + 1) (fun b hb => by
          rcases hb with hb | hb
          · rcases blkOf_append'.1 hb with hb | hb
            · exact .inl (.inl hb)
            · exact .inr (hM3.own.blk hb).1
          · exact .inl (.inr hb))
        exact h5.wr hW4 (fun b hb => .inr (by omega))
      · obtain rfl := List.mem_singleton.1 hq
        refine SpA.weak hM4.sp fun b hb => ?_
        rcases hb with hb | hb
        · rcases blkOf_append'.1 hb with hb | hb
          · exact .inr (hO2.blk hb).2
          · exact .inl hb
        · exact .inr (by omega)
    · rcases List.mem_append.1 hq with hq | hq
      · exact (((hR2 q hq).same (he3.same _ _)).same (hc4.same (.inl (by omega)))).mono (Nat.le_refl _) (by omega)
      · obtain rfl := List.mem_singleton.1 hq
        exact hM4.rows.mono (by omega) (by omega)
  · refine go ?_
    obtain rfl : k = xsss.length := by omega
    rw [List.take_length] at hI
    rw [Nat.sub_self, List.replicate_zero, List.append_nil] at ho2
    have hol := ho2.lt
    refine ret1 ⟨he2, gs, hI.symm, hO2.mono (by omega), ⟨⟨_, _, ho2.toSl, fun b hb => ?_⟩, fun q hq => (hS2 q hq).weak fun b hb => hb.imp id (by omega)⟩, ?_⟩
    · rcases hb with hb | hb
      · have := (hO2.blk hb).1; omega
      · omega
    · rw [← hI]
      exact rowss_of_cub (A := fun _ => True) (s := 0) (ho2.toSl.mono (Nat.le_refl _) (by omega)) (by omega) fun q hq => (hR2 q hq).mono (by omega) (Nat.le_refl _)
theorem flat_blk {gs : List (Value × List (Value × List Int))} {q : Value × List (Value × List Int)} (hq : q ∈ gs) {b : Nat} (h : BlkOf q.2 b) : BlkOf (flat gs) b := by
  obtain ⟨r, hr, h1, h2⟩ := h
  refine ⟨r, ?_, h1, h2⟩
  unfold flat
  rw [List.mem_flatten]
  exact ⟨q.2, List.mem_map.2 ⟨q, hq, rfl⟩, hr⟩
theorem flat_tot (gs : List (Value × List (Value × List Int))) : (flat gs).map (·.2) = (gs.map fun q => q.2.map (·.2)).flatten := by
  unfold flat
  rw [List.map_flatten, List.map_map]; rfl
set_option maxHeartbeats 2000000 in
theorem markInt64SSS_ok {A : Nat → Prop} {s : Nat} {w : World} {v : Value} {k : Int} {gs : List (Value × List (Value × List Int))} {pre post : List (Value × List Int)} (hO : RowsO s w (pre ++ flat gs ++ post)) (hS : CubO A w v gs) (hA : ∀ b, BlkOf (flat gs) b → A b) (hk : 0 ≤ k) (hb : k + tot ((flat gs).map (·.2)) ≤ 9000000000000000000) :
    Calls Tryz.prog 66 #[v, .int .i64 k] w (Ret fun v' w' => v' = .int .i64 (k + tot ((flat gs).map (·.2))) ∧ RowsO s w' (pre ++ mkR k (flat gs) ++ post) ∧ Wrt (BlkOf (flat gs)) w w') := by
  have hm := sl_len hS.sp0.sl
  simp only [List.length_map] at hm
  have hsl := hS.sp0.sl
  have hlen := hsl.toLen
  refine enter (args := [v, .int .i64 k]) (l := [.tmp 4]) Tryz.func66 rfl rfl Tryz.ntmps66 (by simp) ?_
  refine go ?_
  refine r_for gs.length (fun i ρ w' => Has ρ [(0, v), (1, .int .i64 (k + tot ((flat (gs.take i)).map (·.2)))), (5, .int .i64 i)] ∧ RowsO s w' (pre ++ (mkR k (flat (gs.take i)) ++ flat (gs.drop i)) ++ post) ∧ Wrt (BlkOf (flat gs)) w w') ?_ ?_
  · refine ⟨?_, by simpa [mkR, flat] using hO, .refl _⟩
    have e : ((flat (gs.take 0)).map (·.2)) = [] := rfl
    rw [e]
    simp only [tot]
    exact hasP
  clear hO hsl hlen
  rintro i ρ w2 hi ⟨hH, hO2, hW2⟩
  refine rwp_has hH fun ρ0 => ?_
  have hS2 := hS.wr hW2 hA
  have hsl2 := hS2.sp0.sl
  have hlen2 := hsl2.toLen
  have hll : (gs.map (·.1)).length = gs.length := by simp
  have ht0 : ∀ j, tot ((flat (gs.take j)).map (·.2)) ≤ tot ((flat gs).map (·.2)) := fun j => by
    have e : flat gs = flat (gs.take j) ++ flat (gs.drop j) := by rw [← flat_append, List.take_append_drop]
    rw [e, List.map_append, tot_append]; omega
  have ht := ht0 i
  refine go ?_
  refine c_if (fun h4 => ?_) (fun h4 => ?_)
  · have hin : i < gs.length := by simp at h4; omega
    have e1 : Pc.rowAt v (gs.map (·.1)) i = gs[i].1 := by simp [Pc.rowAt, hin]
    have e2 : flat (gs.drop i) = gs[i].2 ++ flat (gs.drop (i + 1)) := by
      have e : gs.drop i = [gs[i]] ++ gs.drop (i + 1) := (List.getElem_cons_drop (h := hin)).symm
      rw [e, flat_append, flat_one]
    have e3 : flat (gs.take (i + 1)) = flat (gs.take i) ++ gs[i].2 := by rw [List.take_succ_eq_append_getElem hin, flat_append, flat_one]
    have hts : tot ((flat (gs.take (i + 1))).map (·.2)) = tot ((flat (gs.take i)).map (·.2)) + tot ((gs[i]).2.map (·.2)) := by rw [e3, List.map_append, tot_append]
    have ht2 := ht0 (i + 1)
    have hmem := List.getElem_mem hin
    have hO3 : RowsO s w2 ((pre ++ mkR k (flat (gs.take i))) ++ gs[i].2 ++ (flat (gs.drop (i + 1)) ++ post)) := by
      rw [e2] at hO2
      simpa only [List.append_assoc] using hO2
    refine go ?_
    refine ra (v := Pc.rowAt v (gs.map fun x : Value × List (Value × List Int) => x.1) i) (h := rd_load_sl (us := gs.map fun x : Value × List (Value × List Int) => x.1) (by ((try simp only [ev_tmp, ev_const, ev_func, get_put, get_args, get_putL, get_putL_nil, Nat.reduceEqDiff, reduceIte, List.getD_cons_zero, List.getD_cons_succ, List.getD_nil]); first | done | with_reducible rfl)) (by omega)) (next := ?_)
    rw [e1]
    refine go ?_
    refine rc (markInt64SS_ok hO3 (hS2.sp _ hmem) (fun b hb => hA b (flat_blk hmem hb)) ?_ ?_) (next := fun v3 w3 h3 => ?_)
    · omega
    · omega
    obtain ⟨rfl, hO4, hW3⟩ := h3
    refine go ?_
    refine forQ_normal (by omega) ⟨?_, ?_, hW2.trans (hW3.mono fun b hb => flat_blk hmem hb)⟩
    · exact hasP
    · rw [e3, mkR_append]
      simpa only [List.append_assoc] using hO4
  · refine go ?_
    obtain rfl : i = gs.length := by simp at h4; omega
    rw [List.take_length] at hO2 ⊢
    exact ret1 ⟨rfl, by simpa [flat] using hO2, hW2⟩
set_option maxHeartbeats 1000000 in
/-- Marks on a presentation that is the call's own. -/
theorem markPresentation_ok {s t : Nat} {w : World} {v : Value} {p : Pr} {k : Int} (hP : PresO s t w v p) (hk : 0 ≤ k) (hb : k + totP p ≤ 9000000000000000000) :
    Calls Tryz.prog 22 #[v, .int .i64 k] w (Ret fun v' w' => v' = .int .i64 (k + totP p) ∧ Wrt (fun b => s ≤ b ∧ b < t) w w') := by
  obtain ⟨vo, vp, vc, rp, gs, rfl, hO, hlt, hsp, hcub, hpow, hcnj, _, _, _⟩ := hP.ex
  have hA : ∀ b, BlkOf ((vo, p.ord) :: (rp ++ flat gs)) b → s ≤ b ∧ b < t := fun b hb => ⟨(hO.blk hb).1, hlt b hb⟩
  have e1 : totP p = p.ord.length + (tot (rp.map (·.2)) + tot ((flat gs).map (·.2))) := by rw [flat_tot, ← hpow, ← hcnj]; rfl
  refine enter (args := [.agg #[vo, vp, vc], .int .i64 k]) (l := [.tmp 4]) Tryz.func22 rfl rfl Tryz.ntmps22 (by simp) ?_
  refine go ?_
  refine st_box3 (by ((try simp only [ev_tmp, ev_const, ev_func, get_put, get_args, get_putL, get_putL_nil, Nat.reduceEqDiff, reduceIte, List.getD_cons_zero, List.getD_cons_succ, List.getD_nil]); first | done | with_reducible rfl)) (by first | exact True.intro | exact ⟨_, rfl, by ((try simp only [ev_tmp, ev_const, ev_func, get_put, get_args, get_putL, get_putL_nil, Nat.reduceEqDiff, reduceIte, List.getD_cons_zero, List.getD_cons_succ, List.getD_nil, Bool.not_true, Bool.not_false]); first | done | with_reducible rfl)⟩) fun w1 b he1 hb1 hs1 hc0 hc1 hc2 => ?_
  have hO1 := hO.ext he1
  have hB1 : ∀ g, BlkOf ((vo, p.ord) :: (rp ++ flat gs)) g → g ≠ b := fun g hg e => by have := (hO.blk hg).2; omega
  have hcell : ∀ {w2 : World} {j : Nat} {u : Value}, Cell w1 b j u → Wrt (BlkOf ((vo, p.ord) :: (rp ++ flat gs))) w1 w2 → Cell w2 b j u := fun h k => h.same (k.same fun g hg => by have := hB1 g hg; omega) k.size
  have hfr : Fr s w1 vo p.ord := hO1.fr _ List.mem_cons_self
  refine go ?_
  refine rc (markInt64S_ok hfr hk ?_) (next := fun v2 w2 h2 => ?_)
  · omega
  obtain ⟨rfl, hf2, hW2⟩ := h2
  have hW2' : Wrt (BlkOf ((vo, p.ord) :: (rp ++ flat gs))) w1 w2 := hW2.mono fun g ⟨hn, e⟩ => ⟨_, List.mem_cons_self, hn, e⟩
  have hO2 : RowsO s w2 ([] ++ (vo, marks k p.ord.length) :: (rp ++ flat gs)) := RowsO.upd (pre := []) (by simpa using hO1) hW2 hf2 marks_ne.1
  have hc0' := hcell hc0 hW2'
  have hc1' := hcell hc1 hW2'
  have hc2' := hcell hc2 hW2'
  have hO2' : RowsO s w2 (([(vo, marks k p.ord.length)]) ++ rp ++ flat gs) := by simpa using hO2
  have hsp2 := (SpA.grow hsp he1 (fun g hg => .inl hg)).wr hW2' (fun g hg => hg)
  refine go ?_
  refine rc (markInt64SS_ok hO2' hsp2 (fun g hg => ?_) ?_ ?_) (next := fun v3 w3 h3 => ?_)
  · obtain ⟨r, h1, h2⟩ := hg
    exact ⟨r, List.mem_cons_of_mem _ (List.mem_append_left _ h1), h2⟩
  · omega
  · omega
  obtain ⟨rfl, hO3, hW3⟩ := h3
  have hW3' : Wrt (BlkOf ((vo, p.ord) :: (rp ++ flat gs))) w2 w3 := hW3.mono fun g ⟨r, h1, h2⟩ => ⟨r, List.mem_cons_of_mem _ (List.mem_append_left _ h1), h2⟩
  have hc2'' := hcell hc2 (hW2'.trans hW3')
  have hO3' : RowsO s w3 (([(vo, marks k p.ord.length)] ++ mkR (k + p.ord.length) rp) ++ flat gs ++ []) := by simpa using hO3
  have hcub3 : CubO (BlkOf ((vo, p.ord) :: (rp ++ flat gs))) w3 vc gs := CubO.wr ⟨(SpA.grow hcub.sp0 he1 (fun g hg => .inl hg)).wr hW2' (fun g hg => hg), fun q hq => (SpA.grow (hcub.sp q hq) he1 (fun g hg => .inl hg)).wr hW2' (fun g hg => hg)⟩ hW3' (fun g hg => hg)
  clear hc0' hc1' hc2'
  refine go ?_
  refine rc (markInt64SSS_ok hO3' hcub3 (fun g hg => ?_) ?_ ?_) (next := fun v4 w4 h4 => ?_)
  · obtain ⟨r, h1, h2⟩ := hg
    exact ⟨r, List.mem_cons_of_mem _ (List.mem_append_right _ h1), h2⟩
  · omega
  · omega
  obtain ⟨rfl, hO4, hW4⟩ := h4
  refine go ?_
  refine ret1 ⟨?_, ?_⟩
  · rw [e1]
    exact int_congr (by omega)
  · refine (Wrt.ofExt he1).trans ((hW2'.mono hA).trans ((hW3'.mono hA).trans (hW4.mono fun g hg => hA g ?_)))
    obtain ⟨r, h1, h2⟩ := hg
    exact ⟨r, List.mem_cons_of_mem _ (List.mem_append_right _ h1), h2⟩
end Go.Proofs.YtnphljflkpekmaaGreat

/-
  Walk: a copy of a presentation that is the call's own (toPresentation).
  Conditions: stated at the theorem.
-/
namespace Go.Proofs.YtnphljflkpekmaaGreat
open Go Go.Pc
set_option maxHeartbeats 2000000 in
theorem toPresentationO_ok {w : World} {v : Value} {p : Pr} {lo hi : Nat} [hp : Pres lo hi w v p] (hs : SizeP p 2000000) :
    Calls Tryz.prog 16 #[v] w (Ret fun v w' => Ext w w' ∧ PresO w.heap.size w'.heap.size w' v p) := by
  have hs1 := hs.ord
  have hs2 := hs.pow
  have hs3 := hs.cnj
  obtain ⟨vo, vpw, vc, ps, cs, css, rfl, h1, h2, h3⟩ := hp.ex
  refine enter (args := [.agg #[vo, vpw, vc]]) (l := [.cell 2 29]) Tryz.func16 rfl rfl Tryz.ntmps16 (by simp) ?_
  refine go ?_
  refine st_box3 (by ((try simp only [ev_tmp, ev_const, ev_func, get_put, get_args, get_putL, get_putL_nil, Nat.reduceEqDiff, reduceIte, List.getD_cons_zero, List.getD_cons_succ, List.getD_nil]); first | done | with_reducible rfl)) (by first | exact True.intro | exact ⟨_, rfl, by ((try simp only [ev_tmp, ev_const, ev_func, get_put, get_args, get_putL, get_putL_nil, Nat.reduceEqDiff, reduceIte, List.getD_cons_zero, List.getD_cons_succ, List.getD_nil, Bool.not_true, Bool.not_false]); first | done | with_reducible rfl)⟩) fun w1 b he1 hb1 hsz1 hc0 hc1 hc2 => ?_
  refine go ?_
  refine st_alloc (by first | exact True.intro | exact ⟨_, rfl, by ((try simp only [ev_tmp, ev_const, ev_func, get_put, get_args, get_putL, get_putL_nil, Nat.reduceEqDiff, reduceIte, List.getD_cons_zero, List.getD_cons_succ, List.getD_nil, Bool.not_true, Bool.not_false]); first | done | with_reducible rfl)⟩) fun w2 br he2 hbr hsz2 hbk2 => ?_
  refine go ?_
  refine st_alloc (by first | exact True.intro | exact ⟨_, rfl, by ((try simp only [ev_tmp, ev_const, ev_func, get_put, get_args, get_putL, get_putL_nil, Nat.reduceEqDiff, reduceIte, List.getD_cons_zero, List.getD_cons_succ, List.getD_nil, Bool.not_true, Bool.not_false]); first | done | with_reducible rfl)⟩) fun w3 bo he3 hbo hsz3 hbk3 => ?_
  have hE3 := (he1.trans he2).trans he3
  refine go ?_
  refine rc (toInt64S_ok (xs := p.ord) (by omega)) (next := fun v4 w4 h4 => ?_)
  obtain ⟨he4, hf4⟩ := h4
  have hb4 : Blk w4 bo _ := Blk.ext (h := hbk3)
  have hz4 := he4.size
  refine go ?_
  refine st_store_fld (h := hb4) (by ((try simp only [ev_tmp, ev_const, ev_func, get_put, get_args, get_putL, get_putL_nil, Nat.reduceEqDiff, reduceIte, List.getD_cons_zero, List.getD_cons_succ, List.getD_nil]); first | done | with_reducible rfl)) (by ((try simp only [ev_tmp, ev_const, ev_func, get_put, get_args, get_putL, get_putL_nil, Nat.reduceEqDiff, reduceIte, List.getD_cons_zero, List.getD_cons_succ, List.getD_nil]); first | done | with_reducible rfl)) ?_ ?_ (by first | exact True.intro | exact ⟨_, rfl, by ((try simp only [ev_tmp, ev_const, ev_func, get_put, get_args, get_putL, get_putL_nil, Nat.reduceEqDiff, reduceIte, List.getD_cons_zero, List.getD_cons_succ, List.getD_nil, Bool.not_true, Bool.not_false]); first | done | with_reducible rfl)⟩) fun w5 hc5 hs5 hb5 => ?_
  · exact hf4.ints.sl.one
  · simp
  have hE15 : Ext w1 w5 := hc5.ext ((he2.trans he3).trans he4) (by have := he2.size; omega)
  have hz15 := hE15.size
  have hz2 := he2.size
  have hi5 : Ints w3.heap.size w4.heap.size w5 v4 p.ord := hf4.ints.same (hc5.same (.inl (by omega)))
  have hr5 : Blk w5 br _ := (Blk.ext (x := he3.trans he4) (h := hbk2)).chg' hc5 (by omega)
  have hO4 : RowsO w3.heap.size w4 [(v4, p.ord)] := (RowsO.nil w3.heap.size w3).push he4 (Nat.le_refl _) hf4
  have hO5 : RowsO w3.heap.size w5 [(v4, p.ord)] := hO4.wr (.one (B := fun g => g = bo) rfl hc5) (fun g hg e => by have := (hO4.blk hg).1; omega)
  refine go ?_
  refine rc (toInt64SSM_ok (xss := p.pow) (by omega) (fun i => by have := hs.powi i; omega)) (next := fun v6 w6 h6 => ?_)
  obtain ⟨he6, rp, hrp, hM6⟩ := h6
  have hN6 := hM6.rows
  have hb6 : Blk w6 bo _ := Blk.ext (h := hb5)
  have hz6 := he6.size
  refine go ?_
  refine st_store_fld (h := hb6) (by ((try simp only [ev_tmp, ev_const, ev_func, get_put, get_args, get_putL, get_putL_nil, Nat.reduceEqDiff, reduceIte, List.getD_cons_zero, List.getD_cons_succ, List.getD_nil]); first | done | with_reducible rfl)) (by ((try simp only [ev_tmp, ev_const, ev_func, get_put, get_args, get_putL, get_putL_nil, Nat.reduceEqDiff, reduceIte, List.getD_cons_zero, List.getD_cons_succ, List.getD_nil]); first | done | with_reducible rfl)) ?_ ?_ (by first | exact True.intro | exact ⟨_, rfl, by ((try simp only [ev_tmp, ev_const, ev_func, get_put, get_args, get_putL, get_putL_nil, Nat.reduceEqDiff, reduceIte, List.getD_cons_zero, List.getD_cons_succ, List.getD_nil, Bool.not_true, Bool.not_false]); first | done | with_reducible rfl)⟩) fun w7 hc7 hs7 hb7 => ?_
  · exact hN6.sl.one
  · simp
  have hE17 : Ext w1 w7 := hc7.ext (hE15.trans he6) (by omega)
  have hi7 : Ints w3.heap.size w4.heap.size w7 v4 p.ord := (hi5.same (he6.same _ _)).same (hc7.same (.inl (by omega)))
  have hM7 := hM6.wr (.one (B := fun g => g = bo) rfl hc7) (fun g hg => .inl (by omega))
  have hp7 := hM7.rows
  have hr7 : Blk w7 br _ := (Blk.ext (x := he6) (h := hr5)).chg' hc7 (by omega)
  have hO6 := hO5.append he6 (by omega) hM6.own
  have hO7 := hO6.wr (.one (B := fun g => g = bo) rfl hc7) (fun g hg e => by have := (hO6.blk hg).1; omega)
  refine go ?_
  refine rc (toInt64SSSO_ok (xsss := p.cnj) (by omega) (fun i => ⟨by have := hs.cnji i; omega, fun j => by have := hs.cnjij i j; omega⟩)) (next := fun v8 w8 h8 => ?_)
  obtain ⟨he8, gs, hgs, hOg, hCu, hR8⟩ := h8
  have hb8 : Blk w8 bo _ := Blk.ext (h := hb7)
  have hz8 := he8.size
  have hO8 := hO7.append he8 (by omega) hOg
  have hAll : ∀ g, BlkOf ([(v4, p.ord)] ++ rp ++ flat gs) g → (w3.heap.size ≤ g ∧ g < w5.heap.size) ∨ BlkOf rp g ∨ w7.heap.size ≤ g := fun g hg => by
    rcases blkOf_append'.1 hg with hg | hg
    · rcases blkOf_append'.1 hg with hg | hg
      · exact .inl (hO5.blk hg)
      · exact .inr (.inl hg)
    · exact .inr (.inr (hOg.blk hg).1)
  have hsp8 : SpA (fun g => BlkOf ([(v4, p.ord)] ++ rp ++ flat gs) g ∨ g < w3.heap.size) w8 v6 (rp.map (·.1)) := hM7.sp.grow he8 fun g hg => by
    rcases hg with hg | hg
    · rcases hAll g hg with h | h | h
      · exact .inl (.inr h.2)
      · exact .inl (.inl h)
      · exact .inr h
    · exact .inl (.inr (by omega))
  have hcu8 : CubO (fun g => BlkOf ([(v4, p.ord)] ++ rp ++ flat gs) g ∨ g < w3.heap.size) w8 v8 gs := by
    have hA : ∀ g, (BlkOf ([(v4, p.ord)] ++ rp ++ flat gs) g ∨ g < w3.heap.size) → BlkOf (flat gs) g ∨ g < w7.heap.size := fun g hg => by
      rcases hg with hg | hg
      · rcases blkOf_append'.1 hg with hg | hg
        · have := (hO7.blk hg).2; exact .inr this
        · exact .inl hg
      · exact .inr (by omega)
    exact ⟨hCu.sp0.weak hA, fun q hq => (hCu.sp q hq).weak hA⟩
  refine go ?_
  refine st_store_fld (h := hb8) (by ((try simp only [ev_tmp, ev_const, ev_func, get_put, get_args, get_putL, get_putL_nil, Nat.reduceEqDiff, reduceIte, List.getD_cons_zero, List.getD_cons_succ, List.getD_nil]); first | done | with_reducible rfl)) (by ((try simp only [ev_tmp, ev_const, ev_func, get_put, get_args, get_putL, get_putL_nil, Nat.reduceEqDiff, reduceIte, List.getD_cons_zero, List.getD_cons_succ, List.getD_nil]); first | done | with_reducible rfl)) ?_ ?_ (by first | exact True.intro | exact ⟨_, rfl, by ((try simp only [ev_tmp, ev_const, ev_func, get_put, get_args, get_putL, get_putL_nil, Nat.reduceEqDiff, reduceIte, List.getD_cons_zero, List.getD_cons_succ, List.getD_nil, Bool.not_true, Bool.not_false]); first | done | with_reducible rfl)⟩) fun w9 hc9 hs9 hb9 => ?_
  · exact hR8.sl.one
  · simp
  have hE19 : Ext w1 w9 := hc9.ext (hE17.trans he8) (by omega)
  have hi9 : Ints w3.heap.size w4.heap.size w9 v4 p.ord := (hi7.same (he8.same _ _)).same (hc9.same (.inl (by omega)))
  have hp9 := (hp7.same (he8.same _ _)).same (hc9.same (.inl (by omega)))
  have hq9 := hR8.same (hc9.same (.inl (by omega)))
  have hr9 : Blk w9 br _ := (Blk.ext (x := he8) (h := hr7)).chg' hc9 (by omega)
  refine go ?_
  have hb9' : Blk w9 bo [v4, v6, v8] := hb9
  refine ra (v := .agg #[v4, v6, v8]) (h := rd_load_blk (hb := hb9') (by ((try simp only [ev_tmp, ev_const, ev_func, get_put, get_args, get_putL, get_putL_nil, Nat.reduceEqDiff, reduceIte, List.getD_cons_zero, List.getD_cons_succ, List.getD_nil]); first | done | with_reducible rfl)) rfl) (next := ?_)
  refine st_store_agg (vs := [v4, v6, v8]) (cs := _) (hb := hr9) (by ((try simp only [ev_tmp, ev_const, ev_func, get_put, get_args, get_putL, get_putL_nil, Nat.reduceEqDiff, reduceIte, List.getD_cons_zero, List.getD_cons_succ, List.getD_nil]); first | done | with_reducible rfl)) (by ((try simp only [ev_tmp, ev_const, ev_func, get_put, get_args, get_putL, get_putL_nil, Nat.reduceEqDiff, reduceIte, List.getD_cons_zero, List.getD_cons_succ, List.getD_nil]); first | done | with_reducible rfl)) rfl ?_ ?_ (by first | exact True.intro | exact ⟨_, rfl, by ((try simp only [ev_tmp, ev_const, ev_func, get_put, get_args, get_putL, get_putL_nil, Nat.reduceEqDiff, reduceIte, List.getD_cons_zero, List.getD_cons_succ, List.getD_nil, Bool.not_true, Bool.not_false]); first | done | with_reducible rfl)⟩) fun w10 hc10 hs10 hb10 => ?_
  · rfl
  · have e1 := hi9.sl.one
    have e2 := hp9.sl.one
    have e3 := hq9.sl.one
    simp [e1, e2, e3]
  have hW10 : Wrt (fun g => g = bo ∨ g = br) w8 w10 := (Wrt.one (.inl rfl) hc9).trans (.one (.inr rfl) hc10)
  have hO10 := hO8.wr hW10 (fun g hg e => by have := (hO8.blk hg).1; omega)
  have hlow : ∀ g, (g = bo ∨ g = br) → BlkOf ([(v4, p.ord)] ++ rp ++ flat gs) g ∨ g < w3.heap.size := fun g hg => .inr (by omega)
  refine go ?_
  refine retc (b := br) (hb := hb10) ⟨hc10.ext (he1.trans hE19) (by omega), ?_⟩ rfl
  have hi10 := (hi9.same (hc10.same (.inl (by omega)))).mono (lo' := w.heap.size) (hi' := w10.heap.size) (by omega) (by omega)
  have hp10 := (hp9.same (hc10.same (.inl (by omega)))).mono (lo' := w.heap.size) (hi' := w10.heap.size) (by omega) (by omega)
  have hq10 := rowss_mono (lo' := w.heap.size) (hi' := w10.heap.size) (hq9.same (hc10.same (.inl (by omega)))) (by omega) (by omega)
  have e : (v4, p.ord) :: (rp ++ flat gs) = [(v4, p.ord)] ++ rp ++ flat gs := by simp
  rw [hgs] at hq10
  refine ⟨v4, v6, v8, rp, gs, rfl, ?_, ?_, ?_, ?_, hrp, hgs, hi10, hp10, hq10⟩ <;> rw [e]
  · exact hO10.mono (by omega)
  · exact fun g hg => (hO10.blk hg).2
  · exact (hsp8.wr hW10 hlow).weak fun g hg => .inl hg
  · exact ⟨(hcu8.sp0.wr hW10 hlow).weak fun g hg => .inl hg, fun q hq => ((hcu8.sp q hq).wr hW10 hlow).weak fun g hg => .inl hg⟩
/-- The number of integers of a presentation of bounded sizes. -/
theorem totP_le {p : Pr} (hs : SizeP p 1048576) : totP p ≤ 1048576 + (1048576 * 1048576 + 1048576 * (1048576 * 1048576)) := by
  have h1 := hs.ord
  have h2 := hs.pow
  have h3 := hs.cnj
  have e2 : tot p.pow ≤ p.pow.length * 1048576 := tot_le _ fun x hx => by
    obtain ⟨i, hi, rfl⟩ := List.getElem_of_mem hx
    have := hs.powi i
    simp only [List.getD_eq_getElem?_getD, List.getElem?_eq_getElem hi, Option.getD_some] at this
    omega
  have e3 : tot p.cnj.flatten ≤ p.cnj.length * (1048576 * 1048576) := tot_flatten _ fun x hx => by
    obtain ⟨i, hi, rfl⟩ := List.getElem_of_mem hx
    have h4 := hs.cnji i
    simp only [List.getD_eq_getElem?_getD, List.getElem?_eq_getElem hi, Option.getD_some] at h4
    refine ⟨by omega, fun y hy => ?_⟩
    obtain ⟨j, hj, rfl⟩ := List.getElem_of_mem hy
    have h5 := hs.cnjij i j
    simp only [List.getD_eq_getElem?_getD, List.getElem?_eq_getElem hi, Option.getD_some, List.getElem?_eq_getElem hj] at h5
    omega
  unfold totP
  omega
theorem SizeP.mono {p : Pr} {k j : Int} (h : SizeP p k) (hkj : k ≤ j) : SizeP p j :=
  ⟨by have := h.ord; omega, by have := h.pow; omega, fun i => by have := h.powi i; omega, by have := h.cnj; omega, fun i => by have := h.cnji i; omega, fun i j => by have := h.cnjij i j; omega⟩
theorem tot_rows_le {xss : List (List Int)} {n : Nat} (hl : xss.length ≤ n) (hr : ∀ i, (xss.getD i []).length ≤ n) : tot xss ≤ n * n :=
  Nat.le_trans (tot_le xss fun x hx => by
    obtain ⟨i, hi, rfl⟩ := List.getElem_of_mem hx
    have := hr i
    simpa [hi] using this) (Nat.mul_le_mul_right _ hl)
end Go.Proofs.YtnphljflkpekmaaGreat

/-
  Arguments that read as slices of integers, slices of slices, slices of slices of slices: what the calculus knows of them.
  Conditions: none; nothing of the program stands here.
-/
namespace Go.Pc
open Go Go.RowKit Go.Deep Go.ChangeShapes Go.WideShapes
section
variable {H : Type} {enc : TypeId × Value → H} {P : Program} {w : World} {base : Nat} {held : Bool} {fuel : Nat} {v : Value} {x : DataW H × List MemPlace}
theorem ints_of_trod {t e : TypeId} (ht : P.underlying t = some (.slice e)) (he : P.underlying e = some (.int .i64)) (hc : P.cellsOf e = 1) (h : DataW.trod enc P w base (fun _ => true) held fuel t [v] = some x) : ∃ xs, Ints 0 w.heap.size w v xs := by
  rcases open_ints ht he hc h with ⟨hcs, _⟩ | ⟨a, len, cap, zs, hcs, _, hl, hm, hz, _, hcell, _⟩
  · have : v = nilv := by simpa using hcs
    subst this
    exact ⟨[], (Ints.nil_ w).mono (Nat.le_refl 0) (Nat.zero_le _)⟩
  · have : v = .slice (some a) len cap := by simpa using hcs
    subst this
    simp only [if_true] at hz
    have hlen : (zs.take len).length = len := by rw [List.length_take]; omega
    refine ⟨zs.take len, ⟨⟨some a, cap, by rw [List.length_map, hlen], by rw [List.length_map, hlen]; omega, by simp only [maxLen] at hm; omega, fun k u hu => ?_⟩⟩⟩
    rw [List.getElem?_map, List.getElem?_take] at hu
    split at hu
    · have hk : k < zs.length := by omega
      have hck := hcell k hk
      rw [List.getElem?_eq_getElem hk] at hu
      simp only [Option.map_some, Option.some.injEq] at hu
      have e : zs.getD k 0 = zs[k] := by simp [hk]
      rw [e, hu] at hck
      exact ⟨a, rfl, Nat.zero_le _, by have := block_lt hck; rwa [add_block] at this, hck⟩
    · cases hu
theorem sl_of {a : Addr} {len cap m : Nat} {V : Nat → Value} (hl : len ≤ cap) (hm : cap ≤ maxLen) (hlm : len ≤ m) (hx : ∀ i, i < m → w.cell? (a.add i) = some (V i)) : Sl 0 w.heap.size w (.slice (some a) len cap) ((List.range len).map V) := by
  refine ⟨⟨some a, cap, by simp, by simpa using hl, by simp only [maxLen] at hm; omega, fun k u hu => ?_⟩⟩
  rw [List.getElem?_map] at hu
  by_cases hk : k < len
  · rw [List.getElem?_range hk] at hu
    simp only [Option.map_some, Option.some.injEq] at hu
    have hck := hx k (by omega)
    rw [hu] at hck
    exact ⟨a, rfl, Nat.zero_le _, by have := block_lt hck; rwa [add_block] at this, hck⟩
  · rw [List.getElem?_eq_none (by simp; omega)] at hu; cases hu
theorem getD_map_range {α : Type} {n i : Nat} {f : Nat → α} {d : α} (h : i < n) : ((List.range n).map f).getD i d = f i := by simp [h]
theorem getD_map_range' {α : Type} {n i : Nat} {f : Nat → α} {d : α} (h : ¬ i < n) : ((List.range n).map f).getD i d = d := by
  rw [List.getD_eq_getElem?_getD, List.getElem?_eq_none (by simp; omega)]; rfl
theorem Rows.nil_ (w : World) : Rows 0 w.heap.size w nilv [] [] :=
  ⟨⟨⟨none, 0, rfl, Nat.le_refl _, by omega, fun k u hu => by simp at hu⟩⟩, rfl, fun i => by simpa using (Ints.nil_ w).mono (Nat.le_refl 0) (Nat.zero_le _)⟩
theorem rows_of_trod {t e q : TypeId} (ht : P.underlying t = some (.slice e)) (he : P.underlying e = some (.slice q)) (hq : P.underlying q = some (.int .i64)) (ce : P.cellsOf e = 1) (cq : P.cellsOf q = 1)
    (h : DataW.trod enc P w base (fun _ => true) held fuel t [v] = some x) : ∃ us xss, Rows 0 w.heap.size w v us xss := by
  rcases open_slice1 ht ce h with ⟨hcs, _⟩ | ⟨a, len, cap, m, n, V, D, Pl, hcs, _, hl, hm, hmm, _, hx⟩
  · have : v = nilv := by simpa using hcs
    subst this
    exact ⟨[], [], Rows.nil_ w⟩
  · have : v = .slice (some a) len cap := by simpa using hcs
    subst this
    simp only [if_true] at hmm
    have hlm : len ≤ m := by omega
    obtain ⟨X, hX⟩ := choose_lt (α := List Int) (n := len) (p := fun i xs => Ints 0 w.heap.size w (V i) xs) fun i hi => ints_of_trod he hq cq (hx i (by omega)).2
    refine ⟨(List.range len).map V, (List.range len).map X, sl_of hl hm hlm fun i hi => (hx i hi).1, by simp, fun i => ?_⟩
    by_cases hi : i < len
    · rw [getD_map_range hi, getD_map_range hi]; exact hX i hi
    · rw [getD_map_range' hi, getD_map_range' hi]; exact (Ints.nil_ w).mono (Nat.le_refl 0) (Nat.zero_le _)
theorem rowss_of_trod {t e q r : TypeId} (ht : P.underlying t = some (.slice e)) (he : P.underlying e = some (.slice q)) (hq : P.underlying q = some (.slice r)) (hr : P.underlying r = some (.int .i64)) (ce : P.cellsOf e = 1) (cq : P.cellsOf q = 1) (cr : P.cellsOf r = 1)
    (h : DataW.trod enc P w base (fun _ => true) held fuel t [v] = some x) : ∃ us uss xsss, Rowss 0 w.heap.size w v us uss xsss := by
  rcases open_slice1 ht ce h with ⟨hcs, _⟩ | ⟨a, len, cap, m, n, V, D, Pl, hcs, _, hl, hm, hmm, _, hx⟩
  · have : v = nilv := by simpa using hcs
    subst this
    exact ⟨[], [], [], ⟨⟨none, 0, rfl, Nat.le_refl _, by omega, fun k u hu => by simp at hu⟩⟩, rfl, rfl, fun i => by simpa using Rows.nil_ w⟩
  · have : v = .slice (some a) len cap := by simpa using hcs
    subst this
    simp only [if_true] at hmm
    have hlm : len ≤ m := by omega
    obtain ⟨X, hX⟩ := choose_lt (α := List Value × List (List Int)) (n := len) (p := fun i y => Rows 0 w.heap.size w (V i) y.1 y.2) fun i hi => by
      obtain ⟨us, xss, hR⟩ := rows_of_trod he hq hr cq cr (hx i (by omega)).2
      exact ⟨(us, xss), hR⟩
    refine ⟨(List.range len).map V, (List.range len).map fun i => (X i).1, (List.range len).map fun i => (X i).2, sl_of hl hm hlm fun i hi => (hx i hi).1, by simp, by simp, fun i => ?_⟩
    by_cases hi : i < len
    · rw [getD_map_range hi, getD_map_range hi, getD_map_range hi]; exact hX i hi
    · rw [getD_map_range' hi, getD_map_range' hi, getD_map_range' hi]; exact Rows.nil_ w
end
end Go.Pc

/-
  Walks: the reference's ProjectSubgroup, LiftSubgroup.
  Conditions: stated at each theorem.
-/
namespace Go.Proofs.YtnphljflkpekmaaGreat
open Go Go.Pc
set_option maxHeartbeats 4000000 in
theorem spec_ProjectSubgroup_ok {p : Pr} {w : World} {vp vu vx : Value} {us vs : List Value} {xss yss : List (List Int)} {lo hi lo1 hi1 lo2 hi2 : Nat} [hp : Pres lo hi w vp p] [hu : Pc.Rows lo1 hi1 w vu us xss] [hx : Pc.Rows lo2 hi2 w vx vs yss] (hl : p.ord.length ≤ 2000000) :
    Calls Tryz.prog 32 #[vp, vu, vx] w (Ret fun v w' => ∃ (u : Value) (k : List (List Int)) (e : Int), v = .tuple #[u, .int .i64 e] ∧ Ans (IsSubP p xss ∧ IsSubP p yss) (PgV p xss yss) [] k e ∧ Ext w w' ∧ ∃ us', Pc.Rows w.heap.size w'.heap.size w' u us' k) := by
  replace hu := hu.wide
  replace hx := hx.wide
  obtain ⟨vo, vpw, vc, ps, cs, css, rfl, h1, h2, h3⟩ := hp.ex
  refine enter (args := [.agg #[vo, vpw, vc], vu, vx]) (l := [.tmp 6, .tmp 7]) Tryz.func32 rfl rfl Tryz.ntmps32 (by simp) ?_
  refine go ?_
  refine st_box3 (by ((try simp only [ev_tmp, ev_const, ev_func, get_put, get_args, get_putL, get_putL_nil, Nat.reduceEqDiff, reduceIte, List.getD_cons_zero, List.getD_cons_succ, List.getD_nil]); first | done | with_reducible rfl)) (by first | exact True.intro | exact ⟨_, rfl, by ((try simp only [ev_tmp, ev_const, ev_func, get_put, get_args, get_putL, get_putL_nil, Nat.reduceEqDiff, reduceIte, List.getD_cons_zero, List.getD_cons_succ, List.getD_nil, Bool.not_true, Bool.not_false]); first | done | with_reducible rfl)⟩) fun w1 b he1 hb1 hs1 hc0 hc1 hc2 => ?_
  refine go ?_
  refine rc (l13Two_ok (p := p) (xss := xss) (yss := yss) hl) (next := fun v5 w5 h5 => ?_)
  obtain ⟨b5, rfl, hb5, he5⟩ := h5
  have hE5 := he1.trans he5
  refine go ?_
  refine c_b (fun e5 => ?_) (fun e5 => ?_)
  · refine go ?_
    refine ret2 ⟨nilv, [], 1, rfl, .inr ⟨fun h => ?_, rfl, rfl⟩, hE5, [], Rows.nilR _ _ _⟩
    rw [hb5.2 h] at e5; cases e5
  have hS := hb5.1 (by simpa using e5)
  obtain ⟨⟨hG, hq⟩, ⟨_, hI⟩⟩ := hS
  haveI : ConAll p := ⟨hG.con⟩
  have hv := hG.valid
  have hn6 := hv.n6
  obtain ⟨ys, hys, hse⟩ := isSeq_iff.1 hq
  obtain ⟨zs, hzs, hsz⟩ := isSeq_iff.1 hI
  have hyl := hse.len
  have hzl := hsz.len
  have hE6 := hE5
  refine go ?_
  refine rc (l13Normal_ok (p := p) hse hys) (next := fun v6 w6 h6 => ?_)
  obtain ⟨b6, rfl, hb6, he6⟩ := h6
  have hE7 := hE6.trans he6
  refine go ?_
  refine c_b (fun e6 => ?_) (fun e6 => ?_)
  · refine go ?_
    refine ret2 ⟨nilv, [], 5, rfl, .inl ⟨⟨⟨hG, hq⟩, ⟨hG, hI⟩⟩, .inl ⟨fun h => ?_, rfl, rfl⟩⟩, hE7, [], Rows.nilR _ _ _⟩
    rw [hb6.2 h] at e6; cases e6
  have hN := hb6.1 (by simpa using e6)
  have hGq := quo_grp hse (norm_of hys hN)
  haveI hcq : ConAll (quoPr ys) := ⟨hGq.con⟩
  have hul : yss.length = zs.length := by rw [hzs]; simp
  have hzz1 := he1.size
  have hzz7 := hE7.size
  have hzb : b < w6.heap.size := by
    have := hE5.size
    have := he5.size
    have := he6.size
    omega
  refine go ?_
  refine st_slice0 (by first | exact True.intro | exact ⟨_, rfl, by ((try simp only [ev_tmp, ev_const, ev_func, get_put, get_args, get_putL, get_putL_nil, Nat.reduceEqDiff, reduceIte, List.getD_cons_zero, List.getD_cons_succ, List.getD_nil, Bool.not_true, Bool.not_false]); first | done | with_reducible rfl)⟩) fun w7 v7 he7 hs7 ho7 => ?_
  refine go ?_
  refine r_for zs.length (fun i ρ w' => ∃ vl rs, Has ρ [(1, vu), (2, vx), (3, .pointer (some ⟨b, 0, none⟩)), (8, vl), (9, .int .i64 i)] ∧ Ext w6 w' ∧ GrowL 22 w6.heap.size w' vl rs ∧ rs.map (·.2) = vecs ((zs.take i).map (prjQ ys))) ?_ ?_
  · refine ⟨v7, [], ?_, he7, GrowL.start ho7 (Nat.le_refl _), rfl⟩
    exact hasP
  clear ho7
  rintro i ρ w3 hi ⟨vl, rs, hH, he3, hG3, hrs3⟩
  refine rwp_has hH fun ρ0 => ?_
  have hz3 := he3.size
  have hE3 := hE7.trans he3
  have hrl : rs.length = i := by have := congrArg List.length hrs3; simp at this; omega
  refine go ?_
  refine c_if (fun h4 => ?_) (fun h4 => ?_)
  · have hin : i < zs.length := by omega
    have hgi : yss.getD i [] = (zs[i]).v := by rw [hzs]; exact vecs_getD zs hin
    obtain ⟨b', hb', hvb'⟩ := own_some' vl w6.heap.size w3.heap.size hz3 (fun g h => (hG3.lst.lt h).1)
    have ap1 : Apart 0 w.heap.size b' := ⟨.inr (by omega)⟩
    have ap2 : Apart b (b + 1) b' := ⟨.inr (by omega)⟩
    refine go ?_
    refine z_order b' (List.range 11) (h := fun w4 he4 _ => ?_)
    refine zgo ?_
    refine zc (l15Project_ok (p := p) (x := zs[i]) hse.ok hys hgi) (next := fun v5 w5 h6 => ?_)
    obtain ⟨he5', y5, hrep5, hf5⟩ := h6
    rw [hrep5.prj hse] at hf5
    refine z_grow (hG3.ext he4) he5' hf5 (by have := he4.size; omega) (by omega) hvb' (next := fun v6 v7 w7 hG7 hx7 hz7 hgs7 => ?_)
    refine zgo ?_
    refine z_end ?_
    refine go ?_
    refine forQ_normal (by omega) ⟨v7, _, ?_, hx7 w6 ((he3.trans he4).trans he5') (Nat.le_refl _), hG7, ?_⟩
    · exact hasP
    · rw [List.take_succ_eq_append_getElem hin]
      simp only [List.map_append, List.map_cons, List.map_nil, hrs3, vecs]
      rfl
  · obtain rfl : i = zs.length := by omega
    rw [List.take_length] at hrs3
    have hR := hG3.rows
    rw [hrs3] at hR
    refine go ?_
    refine rc (l15Quo_ok (p := p) hse hys) (next := fun v8 w8 h8 => ?_)
    obtain ⟨he8, hP8⟩ := h8
    have hP := hP8.pres
    refine go ?_
    refine rc (l12Close_ok (p := quoPr ys) (ys := zs.map (prjQ ys)) rfl (by rw [List.length_map]; omega)) (next := fun v9 w9 h9 => ?_)
    obtain ⟨he9, us9, hL9⟩ := h9
    have hE8 := hE3.trans he8
    refine go ?_
    exact ret2 ⟨v9, _, 0, rfl, .inl ⟨⟨⟨hG, hq⟩, ⟨hG, hI⟩⟩, .inr ⟨hN, ⟨inferInstance, ys, zs, hcq, hys, hzs, rfl⟩, rfl⟩⟩, hE8.trans he9, us9, hL9.newRows.mono hE8.size (Nat.le_refl _)⟩
set_option maxHeartbeats 4000000 in
theorem spec_LiftSubgroup_ok {p : Pr} {w : World} {vp vu vx : Value} {us vs : List Value} {xss wss : List (List Int)} {lo hi lo1 hi1 lo2 hi2 : Nat} [hp : Pres lo hi w vp p] [hu : Pc.Rows lo1 hi1 w vu us xss] [hx : Pc.Rows lo2 hi2 w vx vs wss] (hl : p.ord.length ≤ 2000000) :
    Calls Tryz.prog 46 #[vp, vu, vx] w (Ret fun v w' => ∃ (u : Value) (k : List (List Int)) (e : Int), v = .tuple #[u, .int .i64 e] ∧ Ans (IsSubP p xss) (LsV p xss wss) [] k e ∧ Ext w w' ∧ ∃ us', Pc.Rows w.heap.size w'.heap.size w' u us' k) := by
  replace hu := hu.wide
  replace hx := hx.wide
  obtain ⟨vo, vpw, vc, ps, cs, css, rfl, h1, h2, h3⟩ := hp.ex
  refine enter (args := [.agg #[vo, vpw, vc], vu, vx]) (l := [.tmp 6, .tmp 7]) Tryz.func46 rfl rfl Tryz.ntmps46 (by simp) ?_
  refine go ?_
  refine st_box3 (by ((try simp only [ev_tmp, ev_const, ev_func, get_put, get_args, get_putL, get_putL_nil, Nat.reduceEqDiff, reduceIte, List.getD_cons_zero, List.getD_cons_succ, List.getD_nil]); first | done | with_reducible rfl)) (by first | exact True.intro | exact ⟨_, rfl, by ((try simp only [ev_tmp, ev_const, ev_func, get_put, get_args, get_putL, get_putL_nil, Nat.reduceEqDiff, reduceIte, List.getD_cons_zero, List.getD_cons_succ, List.getD_nil, Bool.not_true, Bool.not_false]); first | done | with_reducible rfl)⟩) fun w1 b he1 hb1 hs1 hc0 hc1 hc2 => ?_
  refine go ?_
  refine rc (l15Code_ok (p := p) (xss := xss) hl) (next := fun v5 w5 h5 => ?_)
  obtain ⟨e5, rfl, hcode, he5⟩ := h5
  have hE5 := he1.trans he5
  refine go ?_
  refine c_if (fun h7 => ?_) (fun h7 => ?_)
  · refine go ?_
    rcases hcode with ⟨h8, rfl⟩ | ⟨h8, h9, rfl⟩ | ⟨h8, h9, rfl⟩
    · exact ret2 ⟨nilv, [], 1, rfl, .inr ⟨h8, rfl, rfl⟩, hE5, [], Rows.nilR _ _ _⟩
    · exact ret2 ⟨nilv, [], 5, rfl, .inl ⟨h8, .inl ⟨h9, rfl, rfl⟩⟩, hE5, [], Rows.nilR _ _ _⟩
    · exact absurd rfl h7
  obtain ⟨hS, hN⟩ : IsSubP p xss ∧ NormP p xss := by
    rcases hcode with ⟨_, rfl⟩ | ⟨_, _, rfl⟩ | ⟨h8, h9, _⟩
    · exact absurd (by decide) h7
    · exact absurd (by decide) h7
    · exact ⟨h8, h9⟩
  have hS' := hS
  obtain ⟨hG, hq⟩ := hS'
  haveI : ConAll p := ⟨hG.con⟩
  have hn6 := hG.valid.n6
  obtain ⟨ys, hys, hse⟩ := isSeq_iff.1 hq
  have hyl := hse.len
  have hxl : xss.length = ys.length := by rw [hys]; simp
  have hGq := quo_grp hse (norm_of hys hN)
  haveI hcq : ConAll (quoPr ys) := ⟨hGq.con⟩
  refine go ?_
  refine rc (l15Quo_ok (p := p) hse hys) (next := fun v6 w6 h6 => ?_)
  obtain ⟨he6, hP6⟩ := h6
  have hP := hP6.pres
  have hE6 := hE5.trans he6
  refine go ?_
  refine rc (l12Is_ok (p := quoPr ys) (xss := wss)) (next := fun v7 w7 h7 => ?_)
  obtain ⟨b7, rfl, hb7, he7⟩ := h7
  have hE7 := hE6.trans he7
  refine go ?_
  refine c_b (fun e7 => ?_) (fun e7 => ?_)
  · refine go ?_
    refine ret2 ⟨nilv, [], 2, rfl, .inl ⟨hS, .inr ⟨hN, inferInstance, ys, hys, .inl ⟨fun h => ?_, rfl, rfl⟩⟩⟩, hE7, [], Rows.nilR _ _ _⟩
    obtain ⟨_, h⟩ := h
    rw [hb7.2 h] at e7; cases e7
  have hW := hb7.1 (by simpa using e7)
  obtain ⟨zs, hzs, hsz⟩ := isSeq_iff.1 hW
  have hzl := hsz.len
  have hq6 := hGq.valid.n6
  have hul : wss.length = zs.length := by rw [hzs]; simp
  have hzz1 := he1.size
  have hzz7 := hE7.size
  have hzb : b < w7.heap.size := by
    have := hE5.size
    have := he5.size
    have := he6.size
    have := he7.size
    omega
  clear hP
  refine go ?_
  refine rc (l01Own2G_ok (xss := xss) (fun i => ?_) ?_) (next := fun v8 w8 h8 => ?_)
  · rw [hys]; have := vecs_len ys i; omega
  · omega
  obtain ⟨he8, rs8, hG8, hrs8⟩ := h8
  refine go ?_
  refine r_for zs.length (fun i ρ w' => ∃ vl rs, Has ρ [(1, vu), (2, vx), (3, .pointer (some ⟨b, 0, none⟩)), (9, vl), (10, .int .i64 i)] ∧ Ext w7 w' ∧ GrowL 22 w7.heap.size w' vl rs ∧ rs.map (·.2) = vecs (ys ++ (zs.take i).map liftQ)) ?_ ?_
  · refine ⟨v8, rs8, ?_, he8, hG8, by rw [hrs8, hys]; simp⟩
    exact hasP
  clear hG8 hrs8
  rintro i ρ w3 hi ⟨vl, rs, hH, he3, hG3, hrs3⟩
  refine rwp_has hH fun ρ0 => ?_
  have hz3 := he3.size
  have hE3 := hE7.trans he3
  have hrl : rs.length = ys.length + i := by have := congrArg List.length hrs3; simp at this; omega
  refine go ?_
  refine c_if (fun h4 => ?_) (fun h4 => ?_)
  · have hin : i < zs.length := by omega
    have hgi : wss.getD i [] = (zs[i]).v := by rw [hzs]; exact vecs_getD zs hin
    have hil : ((zs[i]).v).length = frN p ys := by rw [(zs[i]).inr.len, quo_n]
    obtain ⟨b', hb', hvb'⟩ := own_some' vl w7.heap.size w3.heap.size hz3 (fun g h => (hG3.lst.lt h).1)
    have ap1 : Apart 0 w.heap.size b' := ⟨.inr (by omega)⟩
    have ap2 : Apart b (b + 1) b' := ⟨.inr (by omega)⟩
    refine go ?_
    refine z_order b' (List.range 11) (h := fun w4 he4 _ => ?_)
    refine zgo ?_
    refine zc (l15Lift_ok (p := p) (y := wss.getD i []) hse.ok hys (by rw [hgi]; exact hil)) (next := fun v5 w5 h6 => ?_)
    obtain ⟨he5', hf5⟩ := h6
    rw [hgi] at hf5
    refine z_grow (hG3.ext he4) he5' hf5 (by have := he4.size; omega) (by omega) hvb' (next := fun v6 v7 w7' hG7 hx7 hz7 hgs7 => ?_)
    refine zgo ?_
    refine z_end ?_
    refine go ?_
    refine forQ_normal (by omega) ⟨v7, _, ?_, hx7 w7 ((he3.trans he4).trans he5') (Nat.le_refl _), hG7, ?_⟩
    · exact hasP
    · rw [List.take_succ_eq_append_getElem hin]
      simp only [List.map_append, List.map_cons, List.map_nil, hrs3, vecs, List.append_assoc]
      rfl
  · obtain rfl : i = zs.length := by omega
    rw [List.take_length] at hrs3
    have hR := hG3.rows
    rw [hrs3] at hR
    refine go ?_
    refine rc (l12Close_ok (p := p) (ys := ys ++ zs.map liftQ) rfl (by rw [List.length_append, List.length_map]; omega)) (next := fun v9 w9 h9 => ?_)
    obtain ⟨he9, us9, hL9⟩ := h9
    refine go ?_
    exact ret2 ⟨v9, _, 0, rfl, .inl ⟨hS, .inr ⟨hN, inferInstance, ys, hys, .inr ⟨⟨hGq, hW⟩, zs, hzs, rfl, rfl⟩⟩⟩, hE3.trans he9, us9, hL9.newRows.mono hE3.size (Nat.le_refl _)⟩
end Go.Proofs.YtnphljflkpekmaaGreat

/-
  A list that began as a copy of another one and grows by rows of the call's own.
  Conditions: none; nothing of the program stands here.
-/
namespace Go.Pc
open Go Go.RowKit
section
variable {e s lo hi : Nat} {w w' w0 w1 w3 : World} {v v' u vu : Value} {us : List Value} {xs : List Int} {xss : List (List Int)} {ls : List (Value × List Int)}
structure GrS (e s : Nat) (w : World) (v : Value) (us : List Value) (ls : List (Value × List Int)) : Prop where
  own : OwnN e s w v (us ++ ls.map (·.1))
  rows : RowsO s w ls
  off : ∀ b, v.ownBlock = some b → ¬ BlkOf ls b
theorem Rows.ones (h : Rows lo hi w v us xss) : ∀ u ∈ us, u.oneCell' = true := by
  intro u hu
  obtain ⟨i, hi, rfl⟩ := List.getElem_of_mem hu
  have := (h.vals.at_ i).sl.one
  rwa [show us.getD i nilv = us[i] by simp [hi]] at this
theorem GrS.start (h : OwnN e s w v us) : GrS e s w v us [] := ⟨by simpa using h, RowsO.nil _ _, fun b _ => blkOf_nil b⟩
theorem GrS.ext (h : GrS e s w v us ls) (x : Ext w w') : GrS e s w' v us ls := ⟨@OwnN.ext _ _ _ _ _ _ x h.own, h.rows.ext x, h.off⟩
theorem GrS.push (h : GrS e s w0 v us ls) (x : Ext w0 w1) (hs : s ≤ w0.heap.size) (hu : Fr w0.heap.size w1 u xs) (ho : OwnN e s w3 v' ((us ++ ls.map (·.1)) ++ [u])) (hst : GStep w1 w3 v v') : GrS e s w3 v' us (ls ++ [(u, xs)]) := by
  have k1 := hst.wrt
  have hR := h.rows.push x hs hu
  have z1 := x.size
  have hB : ∀ b, BlkOf (ls ++ [(u, xs)]) b → v.ownBlock ≠ some b := fun b hb e => by
    rcases blkOf_append'.1 hb with hb | ⟨r, hr, hn, hb⟩
    · exact h.off b e hb
    · obtain rfl := List.mem_singleton.1 hr
      have h1 := (h.own.lt b e).2
      obtain ⟨g, e1, h2, _⟩ := hu.block hn
      rw [hb] at e1; injection e1 with e1; omega
  refine ⟨by simpa using ho, hR.wr k1 hB, fun b hb hB' => ?_⟩
  rcases hst.new hb with hb | hb
  · exact hB b hB' hb
  · have := (hR.blk hB').2; omega
theorem GrS.toRows (h : GrS e s w v us ls) (hs : s ≤ w.heap.size) (hu : Rows lo hi w vu us xss) : Rows 0 w.heap.size w v (us ++ ls.map (·.1)) (xss ++ ls.map (·.2)) := by
  have hu' := hu.wide
  have hl := hu.vals.len
  have hL := h.rows.vals hs
  refine ⟨h.own.toSl.wide, by simp [hl], fun i => ?_⟩
  by_cases hi : i < us.length
  · have e1 : (us ++ ls.map (·.1)).getD i nilv = us.getD i nilv := by simp [hi, List.getElem?_append_left]
    have e2 : (xss ++ ls.map (·.2)).getD i [] = xss.getD i [] := by simp [show i < xss.length by omega, List.getElem?_append_left]
    rw [e1, e2]
    exact hu'.vals.at_ i
  · have e1 : (us ++ ls.map (·.1)).getD i nilv = (ls.map (·.1)).getD (i - us.length) nilv := by
      rw [List.getD_eq_getElem?_getD, List.getElem?_append_right (by omega), ← List.getD_eq_getElem?_getD]
    have e2 : (xss ++ ls.map (·.2)).getD i [] = (ls.map (·.2)).getD (i - us.length) [] := by
      rw [List.getD_eq_getElem?_getD, List.getElem?_append_right (by omega), ← List.getD_eq_getElem?_getD, show i - xss.length = i - us.length by omega]
    rw [e1, e2]
    exact (hL.at_ _).wide
end
end Go.Pc

/-
  Walks: the reference's SubgroupPresentation, QuotientPresentation.
  Conditions: stated at each theorem.
-/
namespace Go.Proofs.YtnphljflkpekmaaGreat
open Go Go.Pc
theorem presO_nil {s : Nat} {w : World} (h : s ≤ w.heap.size) : PresO s w.heap.size w (.agg #[nilv, nilv, nilv]) noP := (Tri.nil 0 0 0 0 s w h).pres
theorem presO_nilA {s : Nat} {w : World} (h : s ≤ w.heap.size) : PresO s w.heap.size w (.agg [nilv, nilv, nilv].toArray) noP := presO_nil h
set_option maxHeartbeats 2000000 in
theorem spec_QuotientPresentation_ok {p : Pr} {w : World} {vp vu : Value} {us : List Value} {xss : List (List Int)} {lo hi lo1 hi1 : Nat} [hp : Pres lo hi w vp p] [hu : Pc.Rows lo1 hi1 w vu us xss] (hl : p.ord.length ≤ 2000000) :
    Calls Tryz.prog 43 #[vp, vu] w (Ret fun v w' => ∃ (u : Value) (k : Pr) (e : Int), v = .tuple #[u, .int .i64 e] ∧ Ans (IsSubP p xss) (QpV p xss) noP k e ∧ Ext w w' ∧ Pres w.heap.size w'.heap.size w' u k) := by
  obtain ⟨vo, vpw, vc, ps, cs, css, rfl, h1, h2, h3⟩ := hp.ex
  refine enter (args := [.agg #[vo, vpw, vc], vu]) (l := [.cell 4 29, .tmp 5]) Tryz.func43 rfl rfl Tryz.ntmps43 (by simp) ?_
  refine go ?_
  refine st_box3 (by ((try simp only [ev_tmp, ev_const, ev_func, get_put, get_args, get_putL, get_putL_nil, Nat.reduceEqDiff, reduceIte, List.getD_cons_zero, List.getD_cons_succ, List.getD_nil]); first | done | with_reducible rfl)) (by first | exact True.intro | exact ⟨_, rfl, by ((try simp only [ev_tmp, ev_const, ev_func, get_put, get_args, get_putL, get_putL_nil, Nat.reduceEqDiff, reduceIte, List.getD_cons_zero, List.getD_cons_succ, List.getD_nil, Bool.not_true, Bool.not_false]); first | done | with_reducible rfl)⟩) fun w1 b he1 hb1 hs1 hc0 hc1 hc2 => ?_
  refine go ?_
  refine st_alloc (by first | exact True.intro | exact ⟨_, rfl, by ((try simp only [ev_tmp, ev_const, ev_func, get_put, get_args, get_putL, get_putL_nil, Nat.reduceEqDiff, reduceIte, List.getD_cons_zero, List.getD_cons_succ, List.getD_nil, Bool.not_true, Bool.not_false]); first | done | with_reducible rfl)⟩) fun w2 br he2 hbr hs2 hbk2 => ?_
  have hz1 := he1.size
  refine go ?_
  refine rc (l15Code_ok (p := p) (xss := xss) hl) (next := fun v5 w5 h5 => ?_)
  obtain ⟨e5, rfl, hcode, he5⟩ := h5
  have hE5 := (he1.trans he2).trans he5
  have hz5 := hE5.size
  have hz52 := he5.size
  refine go ?_
  refine c_if (fun h7 => ?_) (fun h7 => ?_)
  · have hb5' : Blk w5 br _ := @Blk.ext _ _ _ _ he5 hbk2
    refine go ?_
    refine ra (v := .agg #[nilv, nilv, nilv]) (h := rd_build (by rfl) (fun _ => by kernel_rfl)) (next := ?_)
    refine go ?_
    refine st_store_agg (vs := [nilv, nilv, nilv]) (cs := _) (hb := hb5') (by ((try simp only [ev_tmp, ev_const, ev_func, get_put, get_args, get_putL, get_putL_nil, Nat.reduceEqDiff, reduceIte, List.getD_cons_zero, List.getD_cons_succ, List.getD_nil]); first | done | with_reducible rfl)) (by ((try simp only [ev_tmp, ev_const, ev_func, get_put, get_args, get_putL, get_putL_nil, Nat.reduceEqDiff, reduceIte, List.getD_cons_zero, List.getD_cons_succ, List.getD_nil]); first | done | with_reducible rfl)) rfl ?_ ?_ (by first | exact True.intro | exact ⟨_, rfl, by ((try simp only [ev_tmp, ev_const, ev_func, get_put, get_args, get_putL, get_putL_nil, Nat.reduceEqDiff, reduceIte, List.getD_cons_zero, List.getD_cons_succ, List.getD_nil, Bool.not_true, Bool.not_false]); first | done | with_reducible rfl)⟩) fun w6 hc6 hs6 hb6 => ?_
    · rfl
    · rfl
    have hE6 : Ext w w6 := hc6.ext hE5 (by omega)
    refine go ?_
    rcases hcode with ⟨h8, rfl⟩ | ⟨h8, h9, rfl⟩ | ⟨h8, h9, rfl⟩
    · exact retc2 (b := br) (hb := hb6) ⟨_, noP, 1, rfl, .inr ⟨h8, rfl, rfl⟩, hE6, (presO_nilA hE6.size).pres⟩ rfl
    · exact retc2 (b := br) (hb := hb6) ⟨_, noP, 5, rfl, .inl ⟨h8, .inl ⟨h9, rfl, rfl⟩⟩, hE6, (presO_nilA hE6.size).pres⟩ rfl
    · exact absurd rfl h7
  obtain ⟨hS, hN⟩ : IsSubP p xss ∧ NormP p xss := by
    rcases hcode with ⟨_, rfl⟩ | ⟨_, _, rfl⟩ | ⟨h8, h9, _⟩
    · exact absurd (by decide) h7
    · exact absurd (by decide) h7
    · exact ⟨h8, h9⟩
  have hS' := hS
  obtain ⟨hG, hq⟩ := hS'
  haveI : ConAll p := ⟨hG.con⟩
  obtain ⟨ys, hys, hse⟩ := isSeq_iff.1 hq
  refine go ?_
  refine rc (l15Quo_ok (p := p) hse hys) (next := fun v6 w6 h6 => ?_)
  obtain ⟨he6, hP6⟩ := h6
  obtain ⟨u0, u1, u2, _, _, rfl, _⟩ := hP6.ex
  have o3 := hP6.pres.one3
  have hb6 : Blk w6 br _ := @Blk.ext _ _ _ _ (he5.trans he6) hbk2
  refine go ?_
  refine st_store_agg (vs := [u0, u1, u2]) (cs := _) (hb := hb6) (by ((try simp only [ev_tmp, ev_const, ev_func, get_put, get_args, get_putL, get_putL_nil, Nat.reduceEqDiff, reduceIte, List.getD_cons_zero, List.getD_cons_succ, List.getD_nil]); first | done | with_reducible rfl)) (by ((try simp only [ev_tmp, ev_const, ev_func, get_put, get_args, get_putL, get_putL_nil, Nat.reduceEqDiff, reduceIte, List.getD_cons_zero, List.getD_cons_succ, List.getD_nil]); first | done | with_reducible rfl)) rfl ?_ ?_ (by first | exact True.intro | exact ⟨_, rfl, by ((try simp only [ev_tmp, ev_const, ev_func, get_put, get_args, get_putL, get_putL_nil, Nat.reduceEqDiff, reduceIte, List.getD_cons_zero, List.getD_cons_succ, List.getD_nil, Bool.not_true, Bool.not_false]); first | done | with_reducible rfl)⟩) fun w7 hc7 hs7 hb7 => ?_
  · rfl
  · simp [o3.1, o3.2.1, o3.2.2]
  have hE7 : Ext w w7 := hc7.ext (hE5.trans he6) (by omega)
  have hP7 := hP6.wr (.one (B := fun g => g = br) rfl hc7) (fun g hg => .inl (by omega))
  refine go ?_
  exact retc2 (b := br) (hb := hb7) ⟨_, quoPr ys, 0, rfl, .inl ⟨hS, .inr ⟨hN, ⟨inferInstance, ys, hys, rfl⟩, rfl⟩⟩, hE7, ((hP7.sub (by omega) (by omega)).pres)⟩ rfl
end Go.Proofs.YtnphljflkpekmaaGreat

/-
  Walks: the program's SubgroupPresentation, QuotientPresentation.
  Conditions: stated at each theorem.
-/
namespace Go.Proofs.YtnphljflkpekmaaGreat
open Go Go.Pc
set_option maxHeartbeats 2000000 in
theorem impl_QuotientPresentation_ok {p : Pr} {w : World} {vp vu : Value} {us : List Value} {xss : List (List Int)} {lo hi lo1 hi1 : Nat} [hp : Pres lo hi w vp p] [hu : Pc.Rows lo1 hi1 w vu us xss] (hl : p.ord.length ≤ 2000000) :
    Calls Tryz.prog 44 #[vp, vu] w (Ret fun v w' => ∃ (u : Value) (k : Pr) (e : Int), v = .tuple #[u, .int .i64 e] ∧ Ans (IsSubP p xss) (QpV p xss) noP k e ∧ Ext w w' ∧ PresO w.heap.size w'.heap.size w' u k) := by
  replace hp := hp.wide
  replace hu := hu.wide
  obtain ⟨vo, vpw, vc, ps, cs, css, rfl, h1, h2, h3⟩ := hp.ex
  refine enter (args := [.agg #[vo, vpw, vc], vu]) (l := [.cell 4 29, .tmp 5]) Tryz.func44 rfl rfl Tryz.ntmps44 (by simp) ?_
  refine go ?_
  refine st_box3 (by ((try simp only [ev_tmp, ev_const, ev_func, get_put, get_args, get_putL, get_putL_nil, Nat.reduceEqDiff, reduceIte, List.getD_cons_zero, List.getD_cons_succ, List.getD_nil]); first | done | with_reducible rfl)) (by first | exact True.intro | exact ⟨_, rfl, by ((try simp only [ev_tmp, ev_const, ev_func, get_put, get_args, get_putL, get_putL_nil, Nat.reduceEqDiff, reduceIte, List.getD_cons_zero, List.getD_cons_succ, List.getD_nil, Bool.not_true, Bool.not_false]); first | done | with_reducible rfl)⟩) fun w1 b he1 hb1 hs1 hc0 hc1 hc2 => ?_
  have hpp := hp.boxed he1 hc0 hc1 hc2
  refine go ?_
  refine st_alloc (by first | exact True.intro | exact ⟨_, rfl, by ((try simp only [ev_tmp, ev_const, ev_func, get_put, get_args, get_putL, get_putL_nil, Nat.reduceEqDiff, reduceIte, List.getD_cons_zero, List.getD_cons_succ, List.getD_nil, Bool.not_true, Bool.not_false]); first | done | with_reducible rfl)⟩) fun w2 br he2 hbr hs2 hbk2 => ?_
  have hz1 := he1.size
  refine go ?_
  refine rc (normalCode_ok (p := p) (xss := xss) hl) (next := fun v5 w5 h5 => ?_)
  obtain ⟨e5, rfl, hcode, he5⟩ := h5
  have hE5 := (he1.trans he2).trans he5
  have hz5 := hE5.size
  have hz52 := he5.size
  refine go ?_
  refine c_if (fun h7 => ?_) (fun h7 => ?_)
  · have hb5' : Blk w5 br _ := @Blk.ext _ _ _ _ he5 hbk2
    refine go ?_
    refine ra (v := .agg #[nilv, nilv, nilv]) (h := rd_build (by rfl) (fun _ => by kernel_rfl)) (next := ?_)
    refine go ?_
    refine st_store_agg (vs := [nilv, nilv, nilv]) (cs := _) (hb := hb5') (by ((try simp only [ev_tmp, ev_const, ev_func, get_put, get_args, get_putL, get_putL_nil, Nat.reduceEqDiff, reduceIte, List.getD_cons_zero, List.getD_cons_succ, List.getD_nil]); first | done | with_reducible rfl)) (by ((try simp only [ev_tmp, ev_const, ev_func, get_put, get_args, get_putL, get_putL_nil, Nat.reduceEqDiff, reduceIte, List.getD_cons_zero, List.getD_cons_succ, List.getD_nil]); first | done | with_reducible rfl)) rfl ?_ ?_ (by first | exact True.intro | exact ⟨_, rfl, by ((try simp only [ev_tmp, ev_const, ev_func, get_put, get_args, get_putL, get_putL_nil, Nat.reduceEqDiff, reduceIte, List.getD_cons_zero, List.getD_cons_succ, List.getD_nil, Bool.not_true, Bool.not_false]); first | done | with_reducible rfl)⟩) fun w6 hc6 hs6 hb6 => ?_
    · rfl
    · rfl
    have hE6 : Ext w w6 := hc6.ext hE5 (by omega)
    refine go ?_
    rcases hcode with ⟨h8, rfl⟩ | ⟨h8, h9, rfl⟩ | ⟨h8, h9, rfl⟩
    · exact retc2 (b := br) (hb := hb6) ⟨_, noP, 1, rfl, .inr ⟨h8, rfl, rfl⟩, hE6, presO_nilA hE6.size⟩ rfl
    · exact retc2 (b := br) (hb := hb6) ⟨_, noP, 5, rfl, .inl ⟨h8, .inl ⟨h9, rfl, rfl⟩⟩, hE6, presO_nilA hE6.size⟩ rfl
    · exact absurd rfl h7
  obtain ⟨hS, hN⟩ : IsSubP p xss ∧ NormP p xss := by
    rcases hcode with ⟨_, rfl⟩ | ⟨_, _, rfl⟩ | ⟨h8, h9, _⟩
    · exact absurd (by decide) h7
    · exact absurd (by decide) h7
    · exact ⟨h8, h9⟩
  have hS' := hS
  obtain ⟨hG, hq⟩ := hS'
  haveI : ConAll p := ⟨hG.con⟩
  obtain ⟨ys, hys, hse⟩ := isSeq_iff.1 hq
  refine go ?_
  refine rc (quotientPresentation_ok (p := p) hse hys) (next := fun v6 w6 h6 => ?_)
  obtain ⟨he6, hP6⟩ := h6
  obtain ⟨u0, u1, u2, _, _, rfl, _⟩ := hP6.ex
  have o3 := hP6.pres.one3
  have hb6 : Blk w6 br _ := @Blk.ext _ _ _ _ (he5.trans he6) hbk2
  refine go ?_
  refine st_store_agg (vs := [u0, u1, u2]) (cs := _) (hb := hb6) (by ((try simp only [ev_tmp, ev_const, ev_func, get_put, get_args, get_putL, get_putL_nil, Nat.reduceEqDiff, reduceIte, List.getD_cons_zero, List.getD_cons_succ, List.getD_nil]); first | done | with_reducible rfl)) (by ((try simp only [ev_tmp, ev_const, ev_func, get_put, get_args, get_putL, get_putL_nil, Nat.reduceEqDiff, reduceIte, List.getD_cons_zero, List.getD_cons_succ, List.getD_nil]); first | done | with_reducible rfl)) rfl ?_ ?_ (by first | exact True.intro | exact ⟨_, rfl, by ((try simp only [ev_tmp, ev_const, ev_func, get_put, get_args, get_putL, get_putL_nil, Nat.reduceEqDiff, reduceIte, List.getD_cons_zero, List.getD_cons_succ, List.getD_nil, Bool.not_true, Bool.not_false]); first | done | with_reducible rfl)⟩) fun w7 hc7 hs7 hb7 => ?_
  · rfl
  · simp [o3.1, o3.2.1, o3.2.2]
  have hE7 : Ext w w7 := hc7.ext (hE5.trans he6) (by omega)
  have hP7 := hP6.wr (.one (B := fun g => g = br) rfl hc7) (fun g hg => .inl (by omega))
  refine go ?_
  exact retc2 (b := br) (hb := hb7) ⟨_, quoPr ys, 0, rfl, .inl ⟨hS, .inr ⟨hN, ⟨inferInstance, ys, hys, rfl⟩, rfl⟩⟩, hE7, hP7.sub (by omega) (by omega)⟩ rfl
end Go.Proofs.YtnphljflkpekmaaGreat
