/-
  Texts of one proof, put together by program: I45, I46, L07, Ser2, L06, L08, L09, W35, W46, I37, I48, OpenH.
  Conditions: those told at each part.
-/
import Derived.Test.YtnphljflkpekmaaGreatEComposeHoms1
import Derived.Lib.SmallJoins
set_option linter.unusedVariables false
set_option linter.unusedSimpArgs false
set_option linter.unusedSectionVars false
set_option linter.constructorNameAsVariable false
set_option linter.unnecessarySimpa false
set_option linter.deprecated false
/-
  Walks: the program's copies (copyRows, copyPresentation).
  Conditions: stated at each theorem.
-/
namespace Go.Proofs.YtnphljflkpekmaaGreat
open Go Go.Pc
set_option maxHeartbeats 1000000 in
theorem copyRows_ok {w : World} {va : Value} {us : List Value} {xss : List (List Int)} {lo hi : Nat} [hx : Pc.Rows lo hi w va us xss] (hm : ∀ i, (xss.getD i []).length ≤ 2000000) (hl : xss.length ≤ 1000000) :
    Calls Tryz.prog 71 #[va] w (Ret fun v w' => Ext w w' ∧ ∃ rs, GrowL 22 w.heap.size w' v rs ∧ rs.map (·.2) = xss) := by
  have hul := hx.vals.len
  refine enter (args := [va]) (l := [.tmp 2]) Tryz.func71 rfl rfl Tryz.ntmps71 (by simp) ?_
  refine go ?_
  refine r_for xss.length (fun k ρ w' => ∃ vl rs, Has ρ [(3, vl), (6, va), (7, .int .i64 xss.length), (8, .int .i64 k)] ∧ Ext w w' ∧ GrowL 22 w.heap.size w' vl rs ∧ rs.map (·.2) = xss.take k) ?_ ?_
  · refine ⟨nilv, [], ?_, Ext.refl _, GrowL.nil _ _ _ (Nat.le_refl _), rfl⟩
    exact hasP
  rintro k ρ w3 hk ⟨vl, rs, hH, he3, hG3, hrs3⟩
  refine rwp_has hH fun ρ0 => ?_
  have hz3 := he3.size
  have hrl : rs.length = k := by have := congrArg List.length hrs3; simp at this; omega
  refine go ?_
  refine c_if (fun h4 => ?_) (fun h4 => ?_)
  · have hkn : k < xss.length := by omega
    have hm2 := hm k
    refine go ?_
    refine rc (cloneI_ok (xs := xss.getD k []) hm2) (next := fun v4 w4 h5 => ?_)
    obtain ⟨he4, hf4⟩ := h5
    refine go ?_
    refine st_grow hG3 he4 hf4 hz3 (by omega) (next := fun v5 v6 w6 hG6 hx6 hz6 hgs6 => ?_)
    refine go ?_
    refine forQ_normal (by omega) ⟨v6, _, ?_, hx6 w (he3.trans he4) (Nat.le_refl _), hG6, ?_⟩
    · exact hasP
    · rw [List.take_succ_eq_append_getElem hkn, List.map_append, hrs3]
      simp [hkn]
  · obtain rfl : k = xss.length := by omega
    rw [List.take_length] at hrs3
    refine go ?_
    exact ret1 ⟨he3, rs, hG3, hrs3⟩
set_option maxHeartbeats 8000000 in
theorem copyPresentation_ok {p : Pr} {w : World} {vp : Value} {lo hi : Nat} [hp : PresP lo hi w vp p] (hsz : SizeP p 6) :
    Calls Tryz.prog 61 #[vp] w (Ret fun v w' => Ext w w' ∧ PresO w.heap.size w'.heap.size w' v p) := by
  have hol := hsz.ord
  have hpl := hsz.pow
  have hcl := hsz.cnj
  replace hp := hp.wide
  obtain ⟨gP, oP, uo, upw, uc, ups, ucs, ucss, rfl, hgP, hgP2, kc0, kc1, kc2, kh1, kh2, kh3⟩ := hp.ex
  refine enter (args := [.pointer (some ⟨gP, oP, none⟩)]) (l := [.cell 2 29]) Tryz.func61 rfl rfl Tryz.ntmps61 (by simp) ?_
  refine go ?_
  refine st_alloc (by first | exact True.intro | exact ⟨_, rfl, by ((try simp only [ev_tmp, ev_const, ev_func, get_put, get_args, get_putL, get_putL_nil, Nat.reduceEqDiff, reduceIte, List.getD_cons_zero, List.getD_cons_succ, List.getD_nil, Bool.not_true, Bool.not_false]); first | done | with_reducible rfl)⟩) fun w2 br he2 hbr hs2 hbk2 => ?_
  have hz2 := he2.size
  refine go ?_
  refine d_post (fun ρ' w' => ∃ vo' vp' rp bq m1, Has ρ' [(0, .pointer (some ⟨gP, oP, none⟩)), (2, .pointer (some ⟨br, 0, none⟩)), (3, .pointer (some ⟨bq, 0, none⟩))] ∧ Ext w2 w' ∧ Blk w' bq [vo', vp', nilv] ∧ Hd 22 w2.heap.size m1 w'.heap.size bq w' vo' p.ord vp' rp ∧ rp.map (·.2) = p.pow ∧ w2.heap.size ≤ bq ∧ bq < w'.heap.size) ?_ ?_
  · refine d_order [0, 1, 2, 3, 5, 6, 7, 8, 4, 9, 10, 11, 12] (h := fun w3 he3 hs3 => ?_)
    refine dgo ?_
    refine dt_fork (π' := [0, 1, 2, 3, 5, 6, 7, 8, 11, 4, 9, 10, 12]) (by decide) rfl rfl (by decide +kernel) ?_ ?_
    · refine ds_call (cloneI_ok (xs := p.ord) (by omega)) (next := fun v4 w4 h4 => ?_)
      obtain ⟨he4, hf4⟩ := h4
      have hz4 := he4.size
      refine dt_fork (π' := [0, 1, 2, 3, 5, 6, 7, 8, 4, 11, 9, 10, 12]) (by decide) rfl rfl (by decide +kernel) ?_ ?_
      · refine ds_call (copyRows_ok (xss := p.pow) (fun i => by have := hsz.powi i; omega) (by omega)) (next := fun v5 w5 h5 => ?_)
        obtain ⟨he5, rs5, hG5, hrs5⟩ := h5
        have hz5 := he5.size
        refine da (v := .agg #[v4, v5, nilv]) (h := ⟨fun _ _ => rd_build (by simp only [ev_tmp, ev_const, ev_func, get_put, get_args, get_putL, get_putL_nil, Nat.reduceEqDiff, reduceIte, List.getD_cons_zero, List.getD_cons_succ, List.getD_nil, List.map_toArray, List.map_cons, List.map_nil]; rfl) (fun _ => ?_)⟩) (next := ?_)
        · obtain ⟨A, c, rfl, _⟩ := hf4.ints.sl.ex
          obtain ⟨A', c', rfl, _⟩ := hG5.lst.own.toSl.ex
          kernel_rfl
        refine d_alloc (next := fun w6 bq he6 hbq hs6 hbk6 => ?_)
        refine d_store_agg (vs := [v4, v5, nilv]) (cs := _) hbk6 (by omega) rfl rfl (by simp [hf4.ints.sl.one, hG5.lst.own.toSl.one]; rfl) (next := fun w7 hc7 hs7 hb7 => ?_)
        refine d_end (h := ?_)
        refine ⟨rfl, v4, v5, rs5, bq, w4.heap.size, ?_, hc7.ext (((he3.trans he4).trans he5).trans he6) (by omega), hb7, ?_, hrs5, by omega, by omega⟩
        · exact hasP
        · rw [hs7]
          exact (Hd.of hf4 (by omega) (by omega) (Nat.le_refl _) hG5 (he5.trans he6) he6 (by omega) (by omega)).wr (.one (B := fun g => g = bq) rfl hc7) (fun g hg => .inl hg)
      · refine ds_alloc (next := fun w6 bq he6 hbq hs6 hbk6 => ?_)
        refine dce (copyRows_ok (xss := p.pow) (fun i => by have := hsz.powi i; omega) (by omega)) (next := fun v5 w5 h5 => ?_)
        obtain ⟨he5, rs5, hG5, hrs5⟩ := h5
        have hz5 := he5.size
        refine da (v := .agg #[v4, v5, nilv]) (h := ⟨fun _ _ => rd_build (by simp only [ev_tmp, ev_const, ev_func, get_put, get_args, get_putL, get_putL_nil, Nat.reduceEqDiff, reduceIte, List.getD_cons_zero, List.getD_cons_succ, List.getD_nil, List.map_toArray, List.map_cons, List.map_nil]; rfl) (fun _ => ?_)⟩) (next := ?_)
        · obtain ⟨A, c, rfl, _⟩ := hf4.ints.sl.ex
          obtain ⟨A', c', rfl, _⟩ := hG5.lst.own.toSl.ex
          kernel_rfl
        have hbk5 : Blk w5 bq _ := @Blk.ext _ _ _ _ he5 hbk6
        refine d_store_agg (vs := [v4, v5, nilv]) (cs := _) hbk5 (by omega) rfl rfl (by simp [hf4.ints.sl.one, hG5.lst.own.toSl.one]; rfl) (next := fun w7 hc7 hs7 hb7 => ?_)
        refine d_end (h := ?_)
        refine ⟨rfl, v4, v5, rs5, bq, w6.heap.size, ?_, hc7.ext (((he3.trans he4).trans he6).trans he5) (by omega), hb7, ?_, hrs5, by omega, by omega⟩
        · exact hasP
        · rw [hs7]
          exact (Hd.of hf4 (by omega) (by omega) (by omega) hG5 (he6.trans he5) (Ext.refl _) (by omega) (by omega)).wr (.one (B := fun g => g = bq) rfl hc7) (fun g hg => .inl hg)
    · refine ds_alloc (next := fun w6 bq he6 hbq hs6 hbk6 => ?_)
      refine dce (cloneI_ok (xs := p.ord) (by omega)) (next := fun v4 w4 h4 => ?_)
      obtain ⟨he4, hf4⟩ := h4
      have hz4 := he4.size
      refine dce (copyRows_ok (xss := p.pow) (fun i => by have := hsz.powi i; omega) (by omega)) (next := fun v5 w5 h5 => ?_)
      obtain ⟨he5, rs5, hG5, hrs5⟩ := h5
      have hz5 := he5.size
      refine da (v := .agg #[v4, v5, nilv]) (h := ⟨fun _ _ => rd_build (by simp only [ev_tmp, ev_const, ev_func, get_put, get_args, get_putL, get_putL_nil, Nat.reduceEqDiff, reduceIte, List.getD_cons_zero, List.getD_cons_succ, List.getD_nil, List.map_toArray, List.map_cons, List.map_nil]; rfl) (fun _ => ?_)⟩) (next := ?_)
      · obtain ⟨A, c, rfl, _⟩ := hf4.ints.sl.ex
        obtain ⟨A', c', rfl, _⟩ := hG5.lst.own.toSl.ex
        kernel_rfl
      have hbk5 : Blk w5 bq _ := @Blk.ext _ _ _ _ (he4.trans he5) hbk6
      refine d_store_agg (vs := [v4, v5, nilv]) (cs := _) hbk5 (by omega) rfl rfl (by simp [hf4.ints.sl.one, hG5.lst.own.toSl.one]; rfl) (next := fun w7 hc7 hs7 hb7 => ?_)
      refine d_end (h := ?_)
      refine ⟨rfl, v4, v5, rs5, bq, w4.heap.size, ?_, hc7.ext (((he3.trans he6).trans he4).trans he5) (by omega), hb7, ?_, hrs5, by omega, by omega⟩
      · exact hasP
      · rw [hs7]
        exact (Hd.of hf4 (by omega) (by omega) (Nat.le_refl _) hG5 he5 (Ext.refl _) (by omega) (by omega)).wr (.one (B := fun g => g = bq) rfl hc7) (fun g hg => .inl hg)
  rintro ρ' w3 ⟨vo', vp', rp, bq, m1, hH, he3, hb3, hD3, hrp, hbq1, hbq2⟩
  refine thn_normal (rwp_has hH fun ρ0 => ?_)
  have hz3 := he3.size
  refine go ?_
  refine r_for p.cnj.length (fun i ρ w' => ∃ vc' gs, Has ρ [(0, .pointer (some ⟨gP, oP, none⟩)), (2, .pointer (some ⟨br, 0, none⟩)), (3, .pointer (some ⟨bq, 0, none⟩)), (20, uc), (21, .int .i64 p.cnj.length), (22, .int .i64 i)] ∧ Ext w2 w' ∧ Blk w' bq [vo', vp', vc'] ∧ Hd 22 w2.heap.size m1 w3.heap.size bq w' vo' p.ord vp' rp ∧ GrC 23 22 w3.heap.size w' vc' gs ∧ w3.heap.size ≤ w'.heap.size ∧ (gs.map fun q => q.2.map (·.2)) = p.cnj.take i) ?_ ?_
  · refine ⟨nilv, [], ?_, he3, hb3, hD3, GrC.nil _ _ _ _, Nat.le_refl _, rfl⟩
    exact hasP
  clear hb3 hD3
  rintro i ρ w4 hi ⟨vc4, gs, hH, he4, hb4, hD4, hC4, hz4, hgs⟩
  refine rwp_has hH fun ρ0 => ?_
  have hgl : gs.length = i := by have := congrArg List.length hgs; simp at this; omega
  refine go ?_
  refine c_if (fun h4 => ?_) (fun h4 => ?_)
  · have hin : i < p.cnj.length := by omega
    obtain ⟨b', hb', hvb'⟩ := own_some' vc4 w3.heap.size w4.heap.size hz4 (fun g h => (hC4.own.lt g h).1)
    have ap1 : Apart 0 w.heap.size b' := ⟨.inr (by omega)⟩
    have ap2 : Apart gP (gP + 1) b' := ⟨.inr (by omega)⟩
    have ap3 : Apart bq (bq + 1) b' := ⟨.inr (by omega)⟩
    have k2 : Cell w4 bq 2 vc4 := hb4.cell rfl
    refine go ?_
    refine z_order b' (List.range 8) (h := fun w5 he5 _ => ?_)
    refine zgo ?_
    refine zc (copyRows_ok (xss := p.cnj.getD i []) (fun j => by have := hsz.cnjij i j; omega) (by have := hsz.cnji i; omega)) (next := fun v6 w6 h6 => ?_)
    obtain ⟨he6, rs6, hG6, hrs6⟩ := h6
    have hx := he5.trans he6
    have hzx := hx.size
    have hL6 : GrL 22 w4.heap.size w6 v6 rs6 := by
      have h := GrL.of hG6
      exact ⟨h.own.mono (by have := he5.size; omega), h.rows.mono (by have := he5.size; omega), h.off⟩
    have hO6 : OwnN 23 w3.heap.size w6 vc4 _ := @OwnN.ext _ _ _ _ _ _ hx hC4.own
    have hb6 : Blk w6 bq [vo', vp', vc4] := @Blk.ext _ _ _ _ hx hb4
    have hlt : ∀ g, vc4.ownBlock = some g → w3.heap.size ≤ g := fun g hg => (hC4.own.lt g hg).1
    clear k2
    refine z_growu (sb := w3.heap.size) hO6 hG6.lst.own.toSl.cells hG6.lst.own.toSl.one (by omega) (by rw [List.length_map]; omega) hvb' (next := fun v7 v8 w8 hO8 hx8 hz8 hst8 => ?_)
    have hb8 : Blk w8 bq [vo', vp', vc4] := Blk.gstep hb6 hst8 (fun g hg => by have := hlt g hg; omega)
    refine zgo ?_
    refine z_stfld (bo := bq) (m := 2) (cs := [vo', vp', vc4]) hb8 hO8.toSl.one (by simp) (next := fun w9 hc9 hs9 hb9 => ?_)
    have hC9 := hC4.field hz4 hx hL6 hO8 hst8 hc9 (by omega)
    have hD9 := (((hD4.ext hx).wr hst8.wrt (fun g hg => .inr (hlt g hg))).wr (.one (B := fun g => g = bq) rfl hc9) (fun g hg => .inl hg))
    have hE9 : Ext w2 w9 := hc9.ext (hx8 w2 (he4.trans hx) (by omega)) (by omega)
    refine go ?_
    refine forQ_normal (by omega) ⟨v8, _, ?_, hE9, hb9, hD9, hC9, by omega, ?_⟩
    · exact hasP
    · rw [List.take_succ_eq_append_getElem hin, List.map_append, hgs]
      simp only [List.map_cons, List.map_nil, hrs6]
      simp [hin]
  · obtain rfl : i = p.cnj.length := by omega
    rw [List.take_length] at hgs
    have hbr4 : Blk w4 br _ := @Blk.ext _ _ _ _ he4 hbk2
    have hP := (show Hd 22 w2.heap.size m1 w3.heap.size bq w4 vo' p.ord vp' rp from hD4).presO hC4
    rw [hrp, hgs] at hP
    have o3 := hP.pres.one3
    refine go ?_
    refine ra (v := .agg #[vo', vp', vc4]) (h := rd_load_blk (hb := hb4) (by ((try simp only [ev_tmp, ev_const, ev_func, get_put, get_args, get_putL, get_putL_nil, Nat.reduceEqDiff, reduceIte, List.getD_cons_zero, List.getD_cons_succ, List.getD_nil]); first | done | with_reducible rfl)) rfl) (next := ?_)
    refine st_store_agg (vs := [vo', vp', vc4]) (cs := _) (hb := hbr4) (by ((try simp only [ev_tmp, ev_const, ev_func, get_put, get_args, get_putL, get_putL_nil, Nat.reduceEqDiff, reduceIte, List.getD_cons_zero, List.getD_cons_succ, List.getD_nil]); first | done | with_reducible rfl)) (by ((try simp only [ev_tmp, ev_const, ev_func, get_put, get_args, get_putL, get_putL_nil, Nat.reduceEqDiff, reduceIte, List.getD_cons_zero, List.getD_cons_succ, List.getD_nil]); first | done | with_reducible rfl)) rfl ?_ ?_ (by first | exact True.intro | exact ⟨_, rfl, by ((try simp only [ev_tmp, ev_const, ev_func, get_put, get_args, get_putL, get_putL_nil, Nat.reduceEqDiff, reduceIte, List.getD_cons_zero, List.getD_cons_succ, List.getD_nil, Bool.not_true, Bool.not_false]); first | done | with_reducible rfl)⟩) fun w7 hc7 hs7 hb7 => ?_
    · rfl
    · simp [o3.1, o3.2.1, o3.2.2]
    refine go ?_
    have hE7 : Ext w w7 := hc7.ext (he2.trans he4) (by omega)
    refine retc (b := br) (hb := hb7) ⟨hE7, ?_⟩ rfl
    have hP7 := hP.wr (.one (B := fun g => g = br) rfl hc7) (fun g hg => .inl (by omega))
    rw [hs7]
    exact hP7.sub (by omega) (Nat.le_refl _)
end Go.Proofs.YtnphljflkpekmaaGreat

/-
  Walks: the program's InclusionHom, NaturalHom.
  Conditions: stated at each theorem.
-/
namespace Go.Proofs.YtnphljflkpekmaaGreat
open Go Go.Pc
theorem homO_nil {s : Nat} {w : World} (h : s ≤ w.heap.size) : HomO s w.heap.size w (.agg #[nilv, nilv, nilv, nilv, nilv, nilv, nilv]) noP noP [] :=
  HomO.of (m0 := s) (m1 := w.heap.size) (m2 := w.heap.size) (m3 := w.heap.size) ((Tri.nil 0 0 0 0 s w h).pres) ((Tri.nil 0 0 0 0 w.heap.size w (Nat.le_refl _)).pres) (MatO.nilR _ _ _) (Nat.le_refl _) h (Nat.le_refl _) (Nat.le_refl _) (Nat.le_refl _)
theorem homO_nilA {s : Nat} {w : World} (h : s ≤ w.heap.size) : HomO s w.heap.size w (.agg [nilv, nilv, nilv, nilv, nilv, nilv, nilv].toArray) noH.1 noH.2.1 [] := homO_nil h
end Go.Proofs.YtnphljflkpekmaaGreat

/-
  Walks: the statement's own helpers on homomorphisms: sizes, copies, comparison, marks (szHom, toHom, eqHom, markHom).
  Conditions: stated at each theorem.
-/
namespace Go.Proofs.YtnphljflkpekmaaGreat
open Go Go.Pc
set_option maxHeartbeats 1000000 in
theorem szHom_ok {w : World} {v : Value} {p q : Pr} {xss : List (List Int)} {k : Int} {lo hi : Nat} [hh : HomV lo hi w v p q xss] (hk : 0 ≤ k ∧ k ≤ 2000000) :
    Calls Tryz.prog 28 #[v, .int .i64 k] w (Ret fun v w' => ∃ j : Int, v = .int .i64 j ∧ (j < 0 ∨ 0 ≤ j ∧ j ≤ k ∧ SizeP p k ∧ SizeP q k ∧ (xss.length : Int) ≤ k ∧ ∀ i, ((xss.getD i []).length : Int) ≤ k) ∧ Ext w w') := by
  obtain ⟨a0, a1, a2, a3, a4, a5, a6, us, rfl, hp, hq, hx⟩ := hh.ex
  refine enter (args := [.agg #[a0, a1, a2, a3, a4, a5, a6], .int .i64 k]) (l := [.tmp 4]) Tryz.func28 rfl rfl Tryz.ntmps28 (by simp) ?_
  refine go ?_
  refine st_box (vs := [a0, a1, a2, a3, a4, a5, a6]) (by ((try simp only [ev_tmp, ev_const, ev_func, get_put, get_args, get_putL, get_putL_nil, Nat.reduceEqDiff, reduceIte, List.getD_cons_zero, List.getD_cons_succ, List.getD_nil]); first | done | with_reducible rfl)) (by first | exact True.intro | exact ⟨_, rfl, by ((try simp only [ev_tmp, ev_const, ev_func, get_put, get_args, get_putL, get_putL_nil, Nat.reduceEqDiff, reduceIte, List.getD_cons_zero, List.getD_cons_succ, List.getD_nil, Bool.not_true, Bool.not_false]); first | done | with_reducible rfl)⟩) fun w1 b he1 hb1 hs1 hbk => ?_
  obtain ⟨c0, c1, c2, c3, c4, c5, c6⟩ := hbk.cells7
  refine go ?_
  refine rc (szPresentation_ok (p := p) hk) (next := fun v2 w2 h2 => ?_)
  obtain ⟨j2, rfl, hj2, he2⟩ := h2
  refine go ?_
  refine c_if (fun h5 => ?_) (fun h5 => ?_)
  · refine go ?_
    exact ret1 ⟨-1, rfl, .inl (by omega), he1.trans he2⟩
  have h6 : 0 ≤ j2 ∧ j2 ≤ k ∧ SizeP p k := by
    rcases hj2 with h | h
    · omega
    · exact h
  refine go ?_
  refine rc (szPresentation_ok (p := q) (k := j2) ?_) (next := fun v3 w3 h7 => ?_)
  · omega
  obtain ⟨j3, rfl, hj3, he3⟩ := h7
  refine go ?_
  refine c_if (fun h8 => ?_) (fun h8 => ?_)
  · refine go ?_
    exact ret1 ⟨-1, rfl, .inl (by omega), (he1.trans he2).trans he3⟩
  have h9 : 0 ≤ j3 ∧ j3 ≤ j2 ∧ SizeP q j2 := by
    rcases hj3 with h | h
    · omega
    · exact h
  refine go ?_
  refine rc (szInt64SS_ok (xss := xss) (k := j3) ?_) (next := fun v4 w4 h10 => ?_)
  · omega
  obtain ⟨j4, rfl, hj4, he4⟩ := h10
  refine go ?_
  refine c_if (fun h11 => ?_) (fun h11 => ?_)
  · refine go ?_
    exact ret1 ⟨-1, rfl, .inl (by omega), ((he1.trans he2).trans he3).trans he4⟩
  have h12 : 0 ≤ j4 ∧ j4 ≤ j3 ∧ (xss.length : Int) ≤ j3 ∧ ∀ i, ((xss.getD i []).length : Int) ≤ j3 := by
    rcases hj4 with h | h
    · omega
    · exact h
  refine go ?_
  exact ret1 ⟨j4, rfl, .inr ⟨h12.1, by omega, h6.2.2, h9.2.2.mono (by omega), by omega, fun i => by have := h12.2.2.2 i; omega⟩, ((he1.trans he2).trans he3).trans he4⟩
set_option maxHeartbeats 2000000 in
theorem toHom_ok {w : World} {v : Value} {p q : Pr} {xss : List (List Int)} {lo hi : Nat} [hh : HomV lo hi w v p q xss] (hsp : SizeP p 2000000) (hsq : SizeP q 2000000) (hl : xss.length ≤ 2000000) (hr : ∀ i, (xss.getD i []).length ≤ 2000000) :
    Calls Tryz.prog 30 #[v] w (Ret fun v w' => Ext w w' ∧ ∃ rs, xss = rs.map (·.2) ∧ HomO w.heap.size w'.heap.size w' v p q rs) := by
  obtain ⟨a0, a1, a2, a3, a4, a5, a6, us, rfl, hp, hq, hx⟩ := hh.ex
  refine enter (args := [.agg #[a0, a1, a2, a3, a4, a5, a6]]) (l := [.cell 2 31]) Tryz.func30 rfl rfl Tryz.ntmps30 (by simp) ?_
  refine go ?_
  refine st_box (vs := [a0, a1, a2, a3, a4, a5, a6]) (by ((try simp only [ev_tmp, ev_const, ev_func, get_put, get_args, get_putL, get_putL_nil, Nat.reduceEqDiff, reduceIte, List.getD_cons_zero, List.getD_cons_succ, List.getD_nil]); first | done | with_reducible rfl)) (by first | exact True.intro | exact ⟨_, rfl, by ((try simp only [ev_tmp, ev_const, ev_func, get_put, get_args, get_putL, get_putL_nil, Nat.reduceEqDiff, reduceIte, List.getD_cons_zero, List.getD_cons_succ, List.getD_nil, Bool.not_true, Bool.not_false]); first | done | with_reducible rfl)⟩) fun w1 b he1 hb1 hs1 hbk => ?_
  obtain ⟨c0, c1, c2, c3, c4, c5, c6⟩ := hbk.cells7
  refine go ?_
  refine st_alloc (by first | exact True.intro | exact ⟨_, rfl, by ((try simp only [ev_tmp, ev_const, ev_func, get_put, get_args, get_putL, get_putL_nil, Nat.reduceEqDiff, reduceIte, List.getD_cons_zero, List.getD_cons_succ, List.getD_nil, Bool.not_true, Bool.not_false]); first | done | with_reducible rfl)⟩) fun w2 br he2 hbr hs2 hbk2 => ?_
  refine go ?_
  refine st_alloc (by first | exact True.intro | exact ⟨_, rfl, by ((try simp only [ev_tmp, ev_const, ev_func, get_put, get_args, get_putL, get_putL_nil, Nat.reduceEqDiff, reduceIte, List.getD_cons_zero, List.getD_cons_succ, List.getD_nil, Bool.not_true, Bool.not_false]); first | done | with_reducible rfl)⟩) fun w3 bo he3 hbo hs3 hbk3 => ?_
  have hz1 := he1.size
  have hz2 := he2.size
  have hz3 := he3.size
  have hE3 := (he1.trans he2).trans he3
  refine go ?_
  refine rc (toPresentationO_ok (p := p) hsp) (next := fun v4 w4 h4 => ?_)
  obtain ⟨he4, hP4⟩ := h4
  have hz4 := he4.size
  have hb4 : Blk w4 bo _ := Blk.ext (h := hbk3)
  obtain ⟨u0, u1, u2, _, _, rfl, _⟩ := hP4.ex
  refine go ?_
  refine st_store_sub (h := hb4) (by ((try simp only [ev_tmp, ev_const, ev_func, get_put, get_args, get_putL, get_putL_nil, Nat.reduceEqDiff, reduceIte, List.getD_cons_zero, List.getD_cons_succ, List.getD_nil]); first | done | with_reducible rfl)) (by ((try simp only [ev_tmp, ev_const, ev_func, get_put, get_args, get_putL, get_putL_nil, Nat.reduceEqDiff, reduceIte, List.getD_cons_zero, List.getD_cons_succ, List.getD_nil]); first | done | with_reducible rfl)) ?_ hP4.pres.one3 (by first | exact True.intro | exact ⟨_, rfl, by ((try simp only [ev_tmp, ev_const, ev_func, get_put, get_args, get_putL, get_putL_nil, Nat.reduceEqDiff, reduceIte, List.getD_cons_zero, List.getD_cons_succ, List.getD_nil, Bool.not_true, Bool.not_false]); first | done | with_reducible rfl)⟩) fun w5 hc5 hs5 hb5 => ?_
  · simp
  have hE5 : Ext w w5 := hc5.ext (hE3.trans he4) (by omega)
  have hE15 : Ext w1 w5 := hc5.ext ((he2.trans he3).trans he4) (by omega)
  have hP5 := hP4.wr (.one (B := fun g => g = bo) rfl hc5) (fun g hg => .inl (by omega))
  have hr5 : Blk w5 br _ := (Blk.ext (x := he3.trans he4) (h := hbk2)).chg' hc5 (by omega)
  refine go ?_
  refine rc (toPresentationO_ok (p := q) hsq) (next := fun v6 w6 h6 => ?_)
  obtain ⟨he6, hQ6⟩ := h6
  have hz6 := he6.size
  have hb6 : Blk w6 bo _ := Blk.ext (h := hb5)
  obtain ⟨u3, u4, u5, _, _, rfl, _⟩ := hQ6.ex
  refine go ?_
  refine st_store_sub (h := hb6) (by ((try simp only [ev_tmp, ev_const, ev_func, get_put, get_args, get_putL, get_putL_nil, Nat.reduceEqDiff, reduceIte, List.getD_cons_zero, List.getD_cons_succ, List.getD_nil]); first | done | with_reducible rfl)) (by ((try simp only [ev_tmp, ev_const, ev_func, get_put, get_args, get_putL, get_putL_nil, Nat.reduceEqDiff, reduceIte, List.getD_cons_zero, List.getD_cons_succ, List.getD_nil]); first | done | with_reducible rfl)) ?_ hQ6.pres.one3 (by first | exact True.intro | exact ⟨_, rfl, by ((try simp only [ev_tmp, ev_const, ev_func, get_put, get_args, get_putL, get_putL_nil, Nat.reduceEqDiff, reduceIte, List.getD_cons_zero, List.getD_cons_succ, List.getD_nil, Bool.not_true, Bool.not_false]); first | done | with_reducible rfl)⟩) fun w7 hc7 hs7 hb7 => ?_
  · simp
  have hE7 : Ext w w7 := hc7.ext (hE5.trans he6) (by omega)
  have hE17 : Ext w1 w7 := hc7.ext (hE15.trans he6) (by omega)
  have hP7 := (hP5.wr (.ofExt (B := fun g => g = bo) he6) (fun g hg => .inl (by omega))).wr (.one (B := fun g => g = bo) rfl hc7) (fun g hg => .inl (by omega))
  have hQ7 := hQ6.wr (.one (B := fun g => g = bo) rfl hc7) (fun g hg => .inl (by omega))
  have hr7 : Blk w7 br _ := (Blk.ext (x := he6) (h := hr5)).chg' hc7 (by omega)
  refine go ?_
  refine rc (toInt64SSM_ok (xss := xss) hl hr) (next := fun v8 w8 h8 => ?_)
  obtain ⟨he8, rs, hrs, hM8⟩ := h8
  have hz8 := he8.size
  have hb8 : Blk w8 bo _ := Blk.ext (h := hb7)
  refine go ?_
  refine st_store_fld (h := hb8) (by ((try simp only [ev_tmp, ev_const, ev_func, get_put, get_args, get_putL, get_putL_nil, Nat.reduceEqDiff, reduceIte, List.getD_cons_zero, List.getD_cons_succ, List.getD_nil]); first | done | with_reducible rfl)) (by ((try simp only [ev_tmp, ev_const, ev_func, get_put, get_args, get_putL, get_putL_nil, Nat.reduceEqDiff, reduceIte, List.getD_cons_zero, List.getD_cons_succ, List.getD_nil]); first | done | with_reducible rfl)) ?_ ?_ (by first | exact True.intro | exact ⟨_, rfl, by ((try simp only [ev_tmp, ev_const, ev_func, get_put, get_args, get_putL, get_putL_nil, Nat.reduceEqDiff, reduceIte, List.getD_cons_zero, List.getD_cons_succ, List.getD_nil, Bool.not_true, Bool.not_false]); first | done | with_reducible rfl)⟩) fun w9 hc9 hs9 hb9 => ?_
  · exact hM8.rows.sl.one
  · simp
  have hE9 : Ext w w9 := hc9.ext (hE7.trans he8) (by omega)
  have hP9 := (hP7.wr (.ofExt (B := fun g => g = bo) he8) (fun g hg => .inl (by omega))).wr (.one (B := fun g => g = bo) rfl hc9) (fun g hg => .inl (by omega))
  have hQ9 := (hQ7.wr (.ofExt (B := fun g => g = bo) he8) (fun g hg => .inl (by omega))).wr (.one (B := fun g => g = bo) rfl hc9) (fun g hg => .inl (by omega))
  have hM9 := hM8.wr (.one (B := fun g => g = bo) rfl hc9) (fun g hg => .inl (by omega))
  have hr9 : Blk w9 br _ := (Blk.ext (x := he8) (h := hr7)).chg' hc9 (by omega)
  have hb9' : Blk w9 bo [u0, u1, u2, u3, u4, u5, v8] := hb9
  have o1 := hP9.pres.one3
  have o2 := hQ9.pres.one3
  have o3 := hM9.rows.sl.one
  refine go ?_
  refine ra (v := .agg #[u0, u1, u2, u3, u4, u5, v8]) (h := rd_load_blk (hb := hb9') (by ((try simp only [ev_tmp, ev_const, ev_func, get_put, get_args, get_putL, get_putL_nil, Nat.reduceEqDiff, reduceIte, List.getD_cons_zero, List.getD_cons_succ, List.getD_nil]); first | done | with_reducible rfl)) rfl) (next := ?_)
  refine st_store_agg (vs := [u0, u1, u2, u3, u4, u5, v8]) (cs := _) (hb := hr9) (by ((try simp only [ev_tmp, ev_const, ev_func, get_put, get_args, get_putL, get_putL_nil, Nat.reduceEqDiff, reduceIte, List.getD_cons_zero, List.getD_cons_succ, List.getD_nil]); first | done | with_reducible rfl)) (by ((try simp only [ev_tmp, ev_const, ev_func, get_put, get_args, get_putL, get_putL_nil, Nat.reduceEqDiff, reduceIte, List.getD_cons_zero, List.getD_cons_succ, List.getD_nil]); first | done | with_reducible rfl)) rfl ?_ ?_ (by first | exact True.intro | exact ⟨_, rfl, by ((try simp only [ev_tmp, ev_const, ev_func, get_put, get_args, get_putL, get_putL_nil, Nat.reduceEqDiff, reduceIte, List.getD_cons_zero, List.getD_cons_succ, List.getD_nil, Bool.not_true, Bool.not_false]); first | done | with_reducible rfl)⟩) fun w10 hc10 hs10 hb10 => ?_
  · rfl
  · simp [o1.1, o1.2.1, o1.2.2, o2.1, o2.2.1, o2.2.2, o3]
  refine go ?_
  refine retc (b := br) (hb := hb10) ⟨hc10.ext hE9 (by omega), rs, hrs, ?_⟩ rfl
  refine ⟨u0, u1, u2, u3, u4, u5, v8, w3.heap.size, w4.heap.size, w6.heap.size, w8.heap.size, rfl, by omega, by omega, by omega, by omega, by omega, ?_, ?_, ?_⟩
  · exact hP9.wr (.one (B := fun g => g = br) rfl hc10) (fun g hg => .inl (by omega))
  · have h := hQ9.wr (.one (B := fun g => g = br) rfl hc10) (fun g hg => .inl (by omega))
    rw [hs5] at h
    exact h
  · have h := hM9.wr (.one (B := fun g => g = br) rfl hc10) (fun g hg => .inl (by omega))
    rw [hs7] at h
    exact h
set_option maxHeartbeats 1000000 in
theorem eqHom_ok {w : World} {va vb : Value} {p q p' q' : Pr} {xss yss : List (List Int)} {lo hi lo1 hi1 : Nat} [hh : HomV lo hi w va p q xss] [hh' : HomV lo1 hi1 w vb p' q' yss] (hsp : SizeP p 2000000) (hsq : SizeP q 2000000) (hl : xss.length ≤ 2000000) (hr : ∀ i, (xss.getD i []).length ≤ 2000000) :
    Calls Tryz.prog 19 #[va, vb] w (Ret fun v w' => ∃ b, v = .bool b ∧ (b = true ↔ p = p' ∧ q = q' ∧ xss = yss) ∧ Ext w w') := by
  obtain ⟨a0, a1, a2, a3, a4, a5, a6, us, rfl, hp, hq, hx⟩ := hh.ex
  obtain ⟨d0, d1, d2, d3, d4, d5, d6, us', rfl, hp', hq', hx'⟩ := hh'.ex
  refine enter (args := [.agg #[a0, a1, a2, a3, a4, a5, a6], .agg #[d0, d1, d2, d3, d4, d5, d6]]) (l := [.tmp 4]) Tryz.func19 rfl rfl Tryz.ntmps19 (by simp) ?_
  refine go ?_
  refine st_box (vs := [a0, a1, a2, a3, a4, a5, a6]) (by ((try simp only [ev_tmp, ev_const, ev_func, get_put, get_args, get_putL, get_putL_nil, Nat.reduceEqDiff, reduceIte, List.getD_cons_zero, List.getD_cons_succ, List.getD_nil]); first | done | with_reducible rfl)) (by first | exact True.intro | exact ⟨_, rfl, by ((try simp only [ev_tmp, ev_const, ev_func, get_put, get_args, get_putL, get_putL_nil, Nat.reduceEqDiff, reduceIte, List.getD_cons_zero, List.getD_cons_succ, List.getD_nil, Bool.not_true, Bool.not_false]); first | done | with_reducible rfl)⟩) fun w1 b he1 hb1 hs1 hbk => ?_
  obtain ⟨c0, c1, c2, c3, c4, c5, c6⟩ := hbk.cells7
  refine go ?_
  refine st_box (vs := [d0, d1, d2, d3, d4, d5, d6]) (by ((try simp only [ev_tmp, ev_const, ev_func, get_put, get_args, get_putL, get_putL_nil, Nat.reduceEqDiff, reduceIte, List.getD_cons_zero, List.getD_cons_succ, List.getD_nil]); first | done | with_reducible rfl)) (by first | exact True.intro | exact ⟨_, rfl, by ((try simp only [ev_tmp, ev_const, ev_func, get_put, get_args, get_putL, get_putL_nil, Nat.reduceEqDiff, reduceIte, List.getD_cons_zero, List.getD_cons_succ, List.getD_nil, Bool.not_true, Bool.not_false]); first | done | with_reducible rfl)⟩) fun w2 b' he2 hb2 hs2 hbk' => ?_
  obtain ⟨e0, e1, e2, e3, e4, e5, e6⟩ := hbk'.cells7
  have hE2 := he1.trans he2
  have no : ∀ {w' : World}, ¬ (p = p' ∧ q = q' ∧ xss = yss) → Ext w w' → ∃ b, Value.bool false = .bool b ∧ (b = true ↔ p = p' ∧ q = q' ∧ xss = yss) ∧ Ext w w' := fun h he => ⟨_, rfl, by simpa using fun a b => fun c => h ⟨a, b, c⟩, he⟩
  refine go ?_
  refine rc (eqPresentation_ok (p := p) (q := p') hsp) (next := fun v3 w3 h4 => ?_)
  obtain ⟨b3, rfl, hb3, he3⟩ := h4
  refine go ?_
  refine c_b (fun h5 => ?_) (fun h5 => ?_)
  · refine go ?_
    refine ret1 (no (fun e => ?_) (hE2.trans he3))
    rw [hb3.2 e.1] at h5; cases h5
  have f1 := hb3.1 (by simpa using h5)
  refine go ?_
  refine rc (eqPresentation_ok (p := q) (q := q') hsq) (next := fun v4 w4 h6 => ?_)
  obtain ⟨b4, rfl, hb4, he4⟩ := h6
  refine go ?_
  refine c_b (fun h7 => ?_) (fun h7 => ?_)
  · refine go ?_
    refine ret1 (no (fun e => ?_) ((hE2.trans he3).trans he4))
    rw [hb4.2 e.2.1] at h7; cases h7
  have f2 := hb4.1 (by simpa using h7)
  refine go ?_
  refine rc (eqInt64SS_ok (xss := xss) (yss := yss) hr (by omega)) (next := fun v5 w5 h8 => ?_)
  obtain ⟨b5, rfl, hb5, he5⟩ := h8
  refine go ?_
  refine c_b (fun h9 => ?_) (fun h9 => ?_)
  · refine go ?_
    refine ret1 (no (fun e => ?_) (((hE2.trans he3).trans he4).trans he5))
    rw [hb5.2 e.2.2] at h9; cases h9
  have f3 := hb5.1 (by simpa using h9)
  refine go ?_
  exact ret1 ⟨_, rfl, ⟨fun _ => ⟨f1, f2, f3⟩, fun _ => rfl⟩, ((hE2.trans he3).trans he4).trans he5⟩
set_option maxHeartbeats 1000000 in
theorem markHom_ok {s t : Nat} {w : World} {v : Value} {p q : Pr} {rs : List (Value × List Int)} {k : Int} (hH : HomO s t w v p q rs) (ht : t ≤ w.heap.size) (hk : 0 ≤ k) (hb : k + totP p + totP q + tot (rs.map (·.2)) ≤ 9000000000000000000) :
    Calls Tryz.prog 24 #[v, .int .i64 k] w (Ret fun v' w' => v' = .int .i64 (k + totP p + totP q + tot (rs.map (·.2))) ∧ Wrt (fun b => s ≤ b ∧ b < t) w w') := by
  obtain ⟨a0, a1, a2, a3, a4, a5, a6, m0, m1, m2, m3, rfl, l0, l1, l2, l3, l4, h1, h2, h3⟩ := hH.ex
  refine enter (args := [.agg #[a0, a1, a2, a3, a4, a5, a6], .int .i64 k]) (l := [.tmp 4]) Tryz.func24 rfl rfl Tryz.ntmps24 (by simp) ?_
  refine go ?_
  refine st_box (vs := [a0, a1, a2, a3, a4, a5, a6]) (by ((try simp only [ev_tmp, ev_const, ev_func, get_put, get_args, get_putL, get_putL_nil, Nat.reduceEqDiff, reduceIte, List.getD_cons_zero, List.getD_cons_succ, List.getD_nil]); first | done | with_reducible rfl)) (by first | exact True.intro | exact ⟨_, rfl, by ((try simp only [ev_tmp, ev_const, ev_func, get_put, get_args, get_putL, get_putL_nil, Nat.reduceEqDiff, reduceIte, List.getD_cons_zero, List.getD_cons_succ, List.getD_nil, Bool.not_true, Bool.not_false]); first | done | with_reducible rfl)⟩) fun w1 b he1 hb1 hs1 hbk => ?_
  have hz1 := he1.size
  have x1 := h1.wr (.ofExt (B := fun b => b < m0 ∨ m1 ≤ b) he1) (fun b hb => hb)
  have x2 := h2.wr (.ofExt (B := fun b => b < m1 ∨ m2 ≤ b) he1) (fun b hb => hb)
  have x3 := h3.wr (.ofExt (B := fun b => b < m2 ∨ m3 ≤ b) he1) (fun b hb => hb)
  obtain ⟨c0, c1, c2, c3, c4, c5, c6⟩ := hbk.cells7
  refine go ?_
  refine rc (markPresentation_ok (k := k) x1 hk ?_) (next := fun v2 w2 h2' => ?_)
  · omega
  obtain ⟨rfl, hW2⟩ := h2'
  have y2 := x2.wr hW2 (fun b hb => .inl hb.2)
  have y3 := x3.wr hW2 (fun b hb => .inl (by omega))
  have hbk2 := hbk.wr hW2 (by omega)
  clear c0 c1 c2 c3 c4 c5 c6
  obtain ⟨c0, c1, c2, c3, c4, c5, c6⟩ := hbk2.cells7
  refine go ?_
  refine rc (markPresentation_ok (k := k + totP p) y2 ?_ ?_) (next := fun v3 w3 h3' => ?_)
  · omega
  · omega
  obtain ⟨rfl, hW3⟩ := h3'
  have z3 := y3.wr hW3 (fun b hb => .inl hb.2)
  have hbk3 := hbk2.wr hW3 (by omega)
  clear c0 c1 c2 c3 c4 c5 c6
  obtain ⟨c0, c1, c2, c3, c4, c5, c6⟩ := hbk3.cells7
  refine go ?_
  refine rc (markInt64SS_ok (k := k + totP p + totP q) (pre := []) (post := []) (by simpa using z3.own) z3.sp (fun b hb => .inl hb) ?_ ?_) (next := fun v4 w4 h4' => ?_)
  · omega
  · omega
  obtain ⟨rfl, _, hV4⟩ := h4'
  have hW4 : Wrt (fun b => m2 ≤ b ∧ b < m3) w3 w4 := hV4.mono fun b hb => ⟨(z3.own.blk hb).1, z3.lt b hb⟩
  refine go ?_
  refine ret1 ⟨rfl, ?_⟩
  exact (Wrt.ofExt he1).trans ((hW2.mono fun b hb => ⟨by omega, by omega⟩).trans ((hW3.mono fun b hb => ⟨by omega, by omega⟩).trans (hW4.mono fun b hb => ⟨by omega, by omega⟩)))
end Go.Proofs.YtnphljflkpekmaaGreat

/-
  The upper central series and the lower exponent series.
  Conditions: the tails at all levels are groups.
-/
namespace Go.Proofs.YtnphljflkpekmaaGreat
open Go Go.Pc
section
variable {p : Pr} [hc : ConAll p]
noncomputable def expL (q : Int) (ys : List (El p)) : List (El p) := lowF ys ++ ys.map fun y => Grp.pwz y q
noncomputable def expF (q : Int) (ys : List (El p)) : List (El p) := canEls (Gen (fun a : El p => a ∈ expL q ys))
end
noncomputable def ExpC (p : Pr) (q : Int) (c : ConAll p) : (List (El p) → List (El p)) × List (El p) := (expF q, gensL p)
/-- What a series for a prime is, with its code. -/
def ExV (p : Pr) (q : Int) (r : List (List (List Int))) (e : Int) : Prop := (¬ (q = 2 ∨ q = 3 ∨ q = 5 ∨ q = 7) ∧ r = [] ∧ e = 2) ∨ ((q = 2 ∨ q = 3 ∨ q = 5 ∨ q = 7) ∧ SrV p (ExpC p q) r e)
theorem ExV.uniq {p : Pr} {q : Int} (a b : List (List (List Int))) (c d : Int) (h : ExV p q a c) (g : ExV p q b d) : a = b ∧ c = d := by
  rcases h with ⟨h1, rfl, rfl⟩ | ⟨h1, h2⟩ <;> rcases g with ⟨g1, rfl, rfl⟩ | ⟨g1, g2⟩
  · exact ⟨rfl, rfl⟩
  · exact absurd g1 h1
  · exact absurd h1 g1
  · exact h2.uniq _ _ _ _ g2
end Go.Proofs.YtnphljflkpekmaaGreat

/-
  Walks: the check of marks on lists of lists of lists (heldInt64SSS); sizes of series.
  Conditions: stated at each theorem.
-/
namespace Go.Proofs.YtnphljflkpekmaaGreat
open Go Go.Pc
def markC (k : Int) : List (List (List Int)) → List (List (List Int))
  | [] => []
  | x :: l => markL k x :: markC (k + tot x) l
def mkC (k : Int) : List (Value × List (Value × List Int)) → List (Value × List (Value × List Int))
  | [] => []
  | q :: l => (q.1, mkR k q.2) :: mkC (k + tot (q.2.map (·.2))) l
theorem mkC_fst : ∀ (gs : List (Value × List (Value × List Int))) (k : Int), (mkC k gs).map (·.1) = gs.map (·.1)
  | [], _ => rfl
  | q :: l, k => by simp [mkC, mkC_fst l]
theorem mkC_mid : ∀ (gs : List (Value × List (Value × List Int))) (k : Int), ((mkC k gs).map fun q => q.2.map (·.1)) = gs.map fun q => q.2.map (·.1)
  | [], _ => rfl
  | q :: l, k => by
    show (mkR k q.2).map (·.1) :: ((mkC (k + tot (q.2.map (·.2))) l).map fun q => q.2.map (·.1)) = _
    rw [mkR_fst, mkC_mid l]; rfl
theorem mkC_snd : ∀ (gs : List (Value × List (Value × List Int))) (k : Int), ((mkC k gs).map fun q => q.2.map (·.2)) = markC k (gs.map fun q => q.2.map (·.2))
  | [], _ => rfl
  | q :: l, k => by
    show (mkR k q.2).map (·.2) :: ((mkC (k + tot (q.2.map (·.2))) l).map fun q => q.2.map (·.2)) = _
    rw [mkR_snd, mkC_snd l]; rfl
theorem flat_cons (q : Value × List (Value × List Int)) (l : List (Value × List (Value × List Int))) : flat (q :: l) = q.2 ++ flat l := by simp [flat]
theorem flat_mkC : ∀ (gs : List (Value × List (Value × List Int))) (k : Int), flat (mkC k gs) = mkR k (flat gs)
  | [], _ => rfl
  | q :: l, k => by
    rw [flat_cons, mkR_append, ← flat_mkC l]
    show flat ((q.1, mkR k q.2) :: mkC (k + tot (q.2.map (·.2))) l) = _
    rw [flat_cons]
theorem markC_len : ∀ (l : List (List (List Int))) (k : Int), (markC k l).length = l.length
  | [], _ => rfl
  | x :: l, k => by simp [markC, markC_len l]
theorem markC_getD : ∀ (l : List (List (List Int))) (k : Int) (i : Nat), i < l.length → (markC k l).getD i [] = markL (k + tot (l.take i).flatten) (l.getD i [])
  | [], _, _, h => by simp at h
  | x :: l, k, 0, _ => by simp [markC, tot]
  | x :: l, k, i + 1, h => by
    have := markC_getD l (k + tot x) i (by simpa using h)
    simp only [markC, List.getD_cons_succ, this, List.take_succ_cons, List.flatten_cons, tot_append]
    rw [Int.add_assoc]; simp
theorem tot_takeF_le (l : List (List (List Int))) (k : Nat) : tot (l.take k).flatten ≤ tot l.flatten := by
  have e : l.flatten = (l.take k).flatten ++ (l.drop k).flatten := by rw [← List.flatten_append, List.take_append_drop]
  rw [e, tot_append]; omega
theorem tot_takeF_succ (l : List (List (List Int))) {k : Nat} (hk : k < l.length) : tot (l.take (k + 1)).flatten = tot (l.take k).flatten + tot (l.getD k []) := by
  rw [List.take_succ_eq_append_getElem hk, List.flatten_append, tot_append]
  simp [hk]
theorem mkC_mem {gs : List (Value × List (Value × List Int))} {k : Int} {q : Value × List (Value × List Int)} (hq : q ∈ mkC k gs) : ∃ q', q' ∈ gs ∧ q.1 = q'.1 ∧ q.2.map (·.1) = q'.2.map (·.1) := by
  induction gs generalizing k with
  | nil => cases hq
  | cons g l ih =>
    rcases List.mem_cons.1 hq with rfl | hq
    · exact ⟨g, List.mem_cons_self, rfl, mkR_fst _ _⟩
    · obtain ⟨q', h1, h2⟩ := ih hq
      exact ⟨q', List.mem_cons_of_mem _ h1, h2⟩
theorem RowsO.ofFlat {s : Nat} {w : World} {gs : List (Value × List (Value × List Int))} (h : RowsO s w (flat gs)) {q : Value × List (Value × List Int)} (hq : q ∈ gs) : RowsO s w q.2 := by
  have hs : List.Sublist q.2 (flat gs) := List.sublist_flatten_of_mem (List.mem_map.2 ⟨q, hq, rfl⟩)
  exact ⟨fun r hr => h.fr r (hs.subset hr), h.sep.sublist hs⟩
set_option maxHeartbeats 1000000 in
theorem heldInt64SSS_ok {w : World} {v : Value} {k : Int} {lo hi : Nat} {us : List Value} {uss : List (List Value)} {xsss ysss : List (List (List Int))} [hx : Rowss lo hi w v us uss xsss] (hxs : xsss = markC k ysss) (hk : 0 ≤ k) (hb : k + tot ysss.flatten ≤ 9000000000000000000) :
    Calls Tryz.prog 87 #[v, .int .i64 k] w (Ret fun v' w' => v' = .int .i64 (k + tot ysss.flatten) ∧ Ext w w') := by
  have hl : xsss.length = ysss.length := by rw [hxs, markC_len]
  have hul := hx.vals.len
  have hm := sl_len hx.sl
  have hg : ∀ i, i < ysss.length → xsss.getD i [] = markL (k + tot (ysss.take i).flatten) (ysss.getD i []) := fun i hi => by rw [hxs, markC_getD _ _ _ hi]
  refine enter (args := [v, .int .i64 k]) (l := [.tmp 4]) Tryz.func87 rfl rfl Tryz.ntmps87 (by simp) ?_
  refine go ?_
  refine r_for ysss.length (fun i ρ w' => Has ρ [(0, v), (1, .int .i64 (k + tot (ysss.take i).flatten)), (5, .int .i64 i)] ∧ Ext w w') ?_ ?_
  · refine ⟨?_, Ext.refl _⟩
    simp only [List.take_zero, List.flatten_nil, tot]
    exact hasP
  rintro i ρ w2 hi ⟨hH, he2⟩
  refine rwp_has hH fun ρ0 => ?_
  have ht := tot_takeF_le ysss i
  refine go ?_
  refine c_if (fun h4 => ?_) (fun h4 => ?_)
  · have hin : i < ysss.length := by omega
    have hts := tot_takeF_succ ysss hin
    have ht2 := tot_takeF_le ysss (i + 1)
    refine go ?_
    refine rc (heldInt64SS_ok (xss := xsss.getD i []) (yss := ysss.getD i []) (hg i hin) ?_ ?_) (next := fun v3 w3 h3 => ?_)
    · omega
    · omega
    obtain ⟨rfl, he3⟩ := h3
    refine go ?_
    refine c_if (fun h5 => ?_) (fun h5 => ?_)
    · omega
    · refine go ?_
      refine forQ_normal (by omega) ⟨?_, he2.trans he3⟩
      exact hasP
  · refine go ?_
    obtain rfl : i = ysss.length := by omega
    refine ret1 ⟨?_, he2⟩
    rw [List.take_length]
end Go.Proofs.YtnphljflkpekmaaGreat

/-
  Walks: marks on a presentation that is a result, and the test that they are held (markPresentation, heldPresentation).
  Conditions: stated at each theorem.
-/
namespace Go.Pc
open Go Go.RowKit
section
variable {lo hi s t : Nat} {w w' : World} {v : Value} {us us' : List Value} {uss : List (List Value)} {xs xs' : List Int} {xss xss' : List (List Int)} {xsss xsss' : List (List (List Int))}
/-- Where a slice's cells lie is told by the slice. -/
theorem Sl.range (h : Sl s t w v us) (k : Sl lo hi w' v us') (hl : us.length = us'.length) : Sl s t w' v us' := by
  obtain ⟨A, c, hv, hc, hm, hcell⟩ := h.ex
  obtain ⟨A', c', hv', hc', hm', hcell'⟩ := k.ex
  refine ⟨⟨A', c', hv', hc', hm', fun i u hu => ?_⟩⟩
  obtain ⟨a, hA', _, _, e3⟩ := hcell' i u hu
  have hi : i < us.length := by rw [hl]; exact (List.getElem?_eq_some_iff.1 hu).1
  obtain ⟨a2, hA, e1, e2, _⟩ := hcell i us[i] (by simp [hi])
  rw [hv] at hv'
  injection hv' with h1 _ _
  rw [hA, hA'] at h1
  injection h1 with h1
  subst h1
  exact ⟨a2, hA', e1, e2, e3⟩
theorem Ints.range (h : Ints s t w v xs) (k : Ints lo hi w' v xs') (hl : xs.length = xs'.length) : Ints s t w' v xs' := ⟨h.sl.range k.sl (by simpa using hl)⟩
theorem Rows.range (h : Rows s t w v us xss) (k : Rows lo hi w' v us xss') (hl : ∀ i, (xss.getD i []).length = (xss'.getD i []).length) : Rows s t w' v us xss' :=
  ⟨h.sl.range k.sl rfl, k.vals.len, fun i => (h.vals.at_ i).range (k.vals.at_ i) (hl i)⟩
theorem Rowss.range (h : Rowss s t w v us uss xsss) (k : Rowss lo hi w' v us uss xsss') (hl : ∀ i j, ((xsss.getD i []).getD j []).length = ((xsss'.getD i []).getD j []).length) : Rowss s t w' v us uss xsss' :=
  ⟨h.sl.range k.sl rfl, k.vals.len, k.vals.len', fun i => (h.vals.at_ i).range (k.vals.at_ i) (hl i)⟩
end
end Go.Pc
namespace Go.Proofs.YtnphljflkpekmaaGreat
open Go Go.Pc
theorem markL_lens (l : List (List Int)) (k : Int) (i : Nat) : (l.getD i []).length = ((markL k l).getD i []).length := by
  by_cases h : i < l.length
  · rw [markL_getD l k i h, marks_len]
  · rw [List.getD_eq_getElem?_getD, List.getElem?_eq_none (by omega), List.getD_eq_getElem?_getD, List.getElem?_eq_none (by rw [markL_len]; omega)]
theorem markC_lens (l : List (List (List Int))) (k : Int) (i j : Nat) : ((l.getD i []).getD j []).length = (((markC k l).getD i []).getD j []).length := by
  by_cases h : i < l.length
  · rw [markC_getD l k i h]; exact markL_lens _ _ _
  · have e1 : l.getD i [] = [] := by rw [List.getD_eq_getElem?_getD, List.getElem?_eq_none (by omega)]; rfl
    have e2 : (markC k l).getD i [] = [] := by rw [List.getD_eq_getElem?_getD, List.getElem?_eq_none (by rw [markC_len]; omega)]; rfl
    rw [e1, e2]
/-- A presentation after its marks. -/
def markP (k : Int) (p : Pr) : Pr := ⟨marks k p.ord.length, markL (k + p.ord.length) p.pow, markC (k + p.ord.length + tot p.pow) p.cnj⟩
set_option maxHeartbeats 1000000 in
theorem markPresentationR_ok {s t : Nat} {w : World} {v : Value} {p : Pr} {k : Int} (hP : PresO s t w v p) (hk : 0 ≤ k) (hb : k + totP p ≤ 9000000000000000000) :
    Calls Tryz.prog 22 #[v, .int .i64 k] w (Ret fun v' w' => v' = .int .i64 (k + totP p) ∧ Wrt (fun b => s ≤ b ∧ b < t) w w' ∧ Pres s t w' v (markP k p)) := by
  obtain ⟨vo, vp, vc, rp, gs, rfl, hO, hlt, hsp, hcub, hpow, hcnj, hr1, hr2, hr3⟩ := hP.ex
  have hA : ∀ b, BlkOf ((vo, p.ord) :: (rp ++ flat gs)) b → s ≤ b ∧ b < t := fun b hb => ⟨(hO.blk hb).1, hlt b hb⟩
  have e1 : totP p = p.ord.length + (tot (rp.map (·.2)) + tot ((flat gs).map (·.2))) := by rw [flat_tot, ← hpow, ← hcnj]; rfl
  refine enter (args := [.agg #[vo, vp, vc], .int .i64 k]) (l := [.tmp 4]) Tryz.func22 rfl rfl Tryz.ntmps22 (by simp) ?_
  refine go ?_
  refine st_box3 (by ((try simp only [ev_tmp, ev_const, ev_func, get_put, get_args, get_putL, get_putL_nil, Nat.reduceEqDiff, reduceIte, List.getD_cons_zero, List.getD_cons_succ, List.getD_nil]); first | done | with_reducible rfl)) (by first | exact True.intro | exact ⟨_, rfl, by ((try simp only [ev_tmp, ev_const, ev_func, get_put, get_args, get_putL, get_putL_nil, Nat.reduceEqDiff, reduceIte, List.getD_cons_zero, List.getD_cons_succ, List.getD_nil, Bool.not_true, Bool.not_false]); first | done | with_reducible rfl)⟩) fun w1 b he1 hb1 hs1 hc0 hc1 hc2 => ?_
  have hO1 := hO.ext he1
  have hB1 : ∀ g, BlkOf ((vo, p.ord) :: (rp ++ flat gs)) g → g ≠ b := fun g hg e => by have := (hO.blk hg).2; omega
  have hcell : ∀ {w2 : World} {j : Nat} {u : Value}, Cell w1 b j u → Wrt (BlkOf ((vo, p.ord) :: (rp ++ flat gs))) w1 w2 → Cell w2 b j u := fun h k => h.same (k.same fun g hg => by have := hB1 g hg; omega) k.size
  have hfr : Fr s w1 vo p.ord := hO1.fr _ List.mem_cons_self
  refine go ?_
  refine rc (markInt64S_ok hfr hk ?_) (next := fun v2 w2 h2 => ?_)
  · omega
  obtain ⟨rfl, hf2, hW2⟩ := h2
  have hW2' : Wrt (BlkOf ((vo, p.ord) :: (rp ++ flat gs))) w1 w2 := hW2.mono fun g ⟨hn, e⟩ => ⟨_, List.mem_cons_self, hn, e⟩
  have hO2 : RowsO s w2 ([] ++ (vo, marks k p.ord.length) :: (rp ++ flat gs)) := RowsO.upd (pre := []) (by simpa using hO1) hW2 hf2 marks_ne.1
  have hc0' := hcell hc0 hW2'
  have hc1' := hcell hc1 hW2'
  have hc2' := hcell hc2 hW2'
  have hO2' : RowsO s w2 (([(vo, marks k p.ord.length)]) ++ rp ++ flat gs) := by simpa using hO2
  have hsp2 := (SpA.grow hsp he1 (fun g hg => .inl hg)).wr hW2' (fun g hg => hg)
  refine go ?_
  refine rc (markInt64SS_ok hO2' hsp2 (fun g hg => ?_) ?_ ?_) (next := fun v3 w3 h3 => ?_)
  · obtain ⟨r, h1, h2⟩ := hg
    exact ⟨r, List.mem_cons_of_mem _ (List.mem_append_left _ h1), h2⟩
  · omega
  · omega
  obtain ⟨rfl, hO3, hW3⟩ := h3
  have hW3' : Wrt (BlkOf ((vo, p.ord) :: (rp ++ flat gs))) w2 w3 := hW3.mono fun g ⟨r, h1, h2⟩ => ⟨r, List.mem_cons_of_mem _ (List.mem_append_left _ h1), h2⟩
  have hc2'' := hcell hc2 (hW2'.trans hW3')
  have hO3' : RowsO s w3 (([(vo, marks k p.ord.length)] ++ mkR (k + p.ord.length) rp) ++ flat gs ++ []) := by simpa using hO3
  have hcub3 : CubO (BlkOf ((vo, p.ord) :: (rp ++ flat gs))) w3 vc gs := CubO.wr ⟨(SpA.grow hcub.sp0 he1 (fun g hg => .inl hg)).wr hW2' (fun g hg => hg), fun q hq => (SpA.grow (hcub.sp q hq) he1 (fun g hg => .inl hg)).wr hW2' (fun g hg => hg)⟩ hW3' (fun g hg => hg)
  clear hc0' hc1' hc2'
  refine go ?_
  refine rc (markInt64SSS_ok hO3' hcub3 (fun g hg => ?_) ?_ ?_) (next := fun v4 w4 h4 => ?_)
  · obtain ⟨r, h1, h2⟩ := hg
    exact ⟨r, List.mem_cons_of_mem _ (List.mem_append_right _ h1), h2⟩
  · omega
  · omega
  obtain ⟨rfl, hO4, hW4⟩ := h4
  refine go ?_
  have hW4' : Wrt (BlkOf ((vo, p.ord) :: (rp ++ flat gs))) w3 w4 := hW4.mono fun g ⟨r, h1, h2⟩ => ⟨r, List.mem_cons_of_mem _ (List.mem_append_right _ h1), h2⟩
  have hfo4 : Ints 0 w4.heap.size w4 vo (marks k p.ord.length) := ((hO4.fr (vo, marks k p.ord.length) (by simp)).ints).wide
  have hsp4 := (hsp2.wr (hW3'.trans hW4') (fun g hg => hg)).sl
  have hcub4 := hcub3.wr hW4' (fun g hg => hg)
  have hOp : RowsO s w4 (mkR (k + p.ord.length) rp) := RowsO.right (rs := [(vo, marks k p.ord.length)]) (RowsO.left (RowsO.left hO4))
  have hOc : RowsO s w4 (mkR (k + p.ord.length + tot (rp.map (·.2))) (flat gs)) := RowsO.right (RowsO.left hO4)
  have hRp := hOp.rows (v := vp) (by rw [mkR_fst]; exact hsp4)
  rw [mkR_fst, mkR_snd, ← hpow] at hRp
  have hRc : Rowss 0 w4.heap.size w4 vc (gs.map (·.1)) (gs.map fun q => q.2.map (·.1)) (markC (k + p.ord.length + tot (rp.map (·.2))) (gs.map fun q => q.2.map (·.2))) := by
    rw [← flat_mkC] at hOc
    rw [← mkC_fst gs (k + p.ord.length + tot (rp.map (·.2))), ← mkC_mid gs (k + p.ord.length + tot (rp.map (·.2))), ← mkC_snd gs (k + p.ord.length + tot (rp.map (·.2)))]
    refine rowss_of_cub (A := fun _ => True) (s := 0) ?_ (Nat.zero_le _) fun q hq => ?_
    · rw [mkC_fst]; exact hcub4.sp0.sl
    · obtain ⟨q', h1, h2, h3⟩ := mkC_mem hq
      refine (RowsO.ofFlat hOc hq).rows (v := q.1) ?_
      rw [h2, h3]
      exact (hcub4.sp _ h1).sl
  rw [← hpow] at hr2
  rw [← hcnj] at hr3
  rw [← hcnj, ← hpow] at hRc
  refine ret1 ⟨?_, ?_, ⟨⟨vo, vp, vc, _, _, _, rfl, hr1.range hfo4 (marks_len _ _).symm, hr2.range hRp (markL_lens _ _), hr3.range hRc (markC_lens _ _)⟩⟩⟩
  · rw [e1]
    exact int_congr (by omega)
  · refine (Wrt.ofExt he1).trans ((hW2'.mono hA).trans ((hW3'.mono hA).trans (hW4.mono fun g hg => hA g ?_)))
    obtain ⟨r, h1, h2⟩ := hg
    exact ⟨r, List.mem_cons_of_mem _ (List.mem_append_right _ h1), h2⟩
set_option maxHeartbeats 1000000 in
theorem heldPresentation_ok {w : World} {v : Value} {k : Int} {lo hi : Nat} {p q : Pr} [hp : Pres lo hi w v q] (hq : q = markP k p) (hk : 0 ≤ k) (hb : k + totP p ≤ 9000000000000000000) :
    Calls Tryz.prog 45 #[v, .int .i64 k] w (Ret fun v' w' => v' = .int .i64 (k + totP p) ∧ Ext w w') := by
  subst hq
  obtain ⟨vo, vpw, vc, ps, cs, css, rfl, h1, h2, h3⟩ := hp.ex
  have e1 : totP p = p.ord.length + (tot p.pow + tot p.cnj.flatten) := rfl
  replace h1 : Ints lo hi w vo (marks k p.ord.length) := h1
  replace h2 : Pc.Rows lo hi w vpw ps (markL (k + p.ord.length) p.pow) := h2
  replace h3 : Rowss lo hi w vc cs css (markC (k + p.ord.length + tot p.pow) p.cnj) := h3
  refine enter (args := [.agg #[vo, vpw, vc], .int .i64 k]) (l := [.tmp 4]) Tryz.func45 rfl rfl Tryz.ntmps45 (by simp) ?_
  refine go ?_
  refine st_box3 (by ((try simp only [ev_tmp, ev_const, ev_func, get_put, get_args, get_putL, get_putL_nil, Nat.reduceEqDiff, reduceIte, List.getD_cons_zero, List.getD_cons_succ, List.getD_nil]); first | done | with_reducible rfl)) (by first | exact True.intro | exact ⟨_, rfl, by ((try simp only [ev_tmp, ev_const, ev_func, get_put, get_args, get_putL, get_putL_nil, Nat.reduceEqDiff, reduceIte, List.getD_cons_zero, List.getD_cons_succ, List.getD_nil, Bool.not_true, Bool.not_false]); first | done | with_reducible rfl)⟩) fun w1 b he1 hb1 hs1 hc0 hc1 hc2 => ?_
  refine go ?_
  refine rc (heldInt64S_ok (k := k) (n := p.ord.length) (xs := marks k p.ord.length) rfl hk (by omega)) (next := fun v2 w2 h4 => ?_)
  obtain ⟨rfl, he2⟩ := h4
  refine go ?_
  refine c_if (fun h => ?_) (fun _ => ?_)
  · omega
  refine go ?_
  refine rc (heldInt64SS_ok (k := k + p.ord.length) (yss := p.pow) (xss := markL (k + p.ord.length) p.pow) rfl (by omega) (by omega)) (next := fun v3 w3 h5 => ?_)
  obtain ⟨rfl, he3⟩ := h5
  refine go ?_
  refine c_if (fun h => ?_) (fun _ => ?_)
  · omega
  refine go ?_
  refine rc (heldInt64SSS_ok (k := k + p.ord.length + tot p.pow) (ysss := p.cnj) (xsss := markC (k + p.ord.length + tot p.pow) p.cnj) rfl (by omega) (by omega)) (next := fun v4 w4 h6 => ?_)
  obtain ⟨rfl, he4⟩ := h6
  refine go ?_
  refine c_if (fun h => ?_) (fun _ => ?_)
  · omega
  refine go ?_
  refine ret1 ⟨?_, ((he1.trans he2).trans he3).trans he4⟩
  rw [e1]
  exact int_congr (by omega)
end Go.Proofs.YtnphljflkpekmaaGreat

/-
  Walks: marks on a homomorphism that is a result, and the test that they are held (markHom, heldHom).
  Conditions: stated at each theorem.
-/
namespace Go.Proofs.YtnphljflkpekmaaGreat
open Go Go.Pc
set_option maxHeartbeats 1000000 in
theorem markHomR_ok {s t : Nat} {w : World} {v : Value} {p q : Pr} {rs : List (Value × List Int)} {k : Int} (hH : HomO s t w v p q rs) (ht : t ≤ w.heap.size) (hk : 0 ≤ k) (hb : k + totP p + totP q + tot (rs.map (·.2)) ≤ 9000000000000000000) :
    Calls Tryz.prog 24 #[v, .int .i64 k] w (Ret fun v' w' => v' = .int .i64 (k + totP p + totP q + tot (rs.map (·.2))) ∧ Wrt (fun b => s ≤ b ∧ b < t) w w' ∧ HomV 0 w'.heap.size w' v (markP k p) (markP (k + totP p) q) (markL (k + totP p + totP q) (rs.map (·.2)))) := by
  obtain ⟨a0, a1, a2, a3, a4, a5, a6, m0, m1, m2, m3, rfl, l0, l1, l2, l3, l4, h1, h2, h3⟩ := hH.ex
  refine enter (args := [.agg #[a0, a1, a2, a3, a4, a5, a6], .int .i64 k]) (l := [.tmp 4]) Tryz.func24 rfl rfl Tryz.ntmps24 (by simp) ?_
  refine go ?_
  refine st_box (vs := [a0, a1, a2, a3, a4, a5, a6]) (by ((try simp only [ev_tmp, ev_const, ev_func, get_put, get_args, get_putL, get_putL_nil, Nat.reduceEqDiff, reduceIte, List.getD_cons_zero, List.getD_cons_succ, List.getD_nil]); first | done | with_reducible rfl)) (by first | exact True.intro | exact ⟨_, rfl, by ((try simp only [ev_tmp, ev_const, ev_func, get_put, get_args, get_putL, get_putL_nil, Nat.reduceEqDiff, reduceIte, List.getD_cons_zero, List.getD_cons_succ, List.getD_nil, Bool.not_true, Bool.not_false]); first | done | with_reducible rfl)⟩) fun w1 b he1 hb1 hs1 hbk => ?_
  have hz1 := he1.size
  have x1 := h1.wr (.ofExt (B := fun b => b < m0 ∨ m1 ≤ b) he1) (fun b hb => hb)
  have x2 := h2.wr (.ofExt (B := fun b => b < m1 ∨ m2 ≤ b) he1) (fun b hb => hb)
  have x3 := h3.wr (.ofExt (B := fun b => b < m2 ∨ m3 ≤ b) he1) (fun b hb => hb)
  obtain ⟨c0, c1, c2, c3, c4, c5, c6⟩ := hbk.cells7
  refine go ?_
  refine rc (markPresentationR_ok (k := k) x1 hk ?_) (next := fun v2 w2 h2' => ?_)
  · omega
  obtain ⟨rfl, hW2, r2⟩ := h2'
  have y2 := x2.wr hW2 (fun b hb => .inl hb.2)
  have y3 := x3.wr hW2 (fun b hb => .inl (by omega))
  have hbk2 := hbk.wr hW2 (by omega)
  have hz2 := hW2.size
  have p2 : Pres m0 m1 w2 (.agg #[a0, a1, a2]) (markP k p) := r2
  clear c0 c1 c2 c3 c4 c5 c6
  obtain ⟨c0, c1, c2, c3, c4, c5, c6⟩ := hbk2.cells7
  refine go ?_
  refine rc (markPresentationR_ok (k := k + totP p) y2 ?_ ?_) (next := fun v3 w3 h3' => ?_)
  · omega
  · omega
  obtain ⟨rfl, hW3, r3⟩ := h3'
  have z3 := y3.wr hW3 (fun b hb => .inl hb.2)
  have hbk3 := hbk2.wr hW3 (by omega)
  have q3 : Pres m1 m2 w3 (.agg #[a3, a4, a5]) (markP (k + totP p) q) := r3
  have p3 : Pres m0 m1 w3 (.agg #[a0, a1, a2]) (markP k p) := p2.same (hW3.same fun b hb => by omega)
  clear c0 c1 c2 c3 c4 c5 c6
  obtain ⟨c0, c1, c2, c3, c4, c5, c6⟩ := hbk3.cells7
  refine go ?_
  refine rc (markInt64SS_ok (k := k + totP p + totP q) (pre := []) (post := []) (by simpa using z3.own) z3.sp (fun b hb => .inl hb) ?_ ?_) (next := fun v4 w4 h4' => ?_)
  · omega
  · omega
  obtain ⟨rfl, hO4, hV4⟩ := h4'
  have hW4 : Wrt (fun b => m2 ≤ b ∧ b < m3) w3 w4 := hV4.mono fun b hb => ⟨(z3.own.blk hb).1, z3.lt b hb⟩
  have hK4 : Pc.Rows 0 w4.heap.size w4 a6 (rs.map (·.1)) (markL (k + totP p + totP q) (rs.map (·.2))) := by
    have hO : RowsO m2 w4 (mkR (k + totP p + totP q) rs) := by simpa using hO4
    have h := hO.rows (v := a6) (by rw [mkR_fst]; exact (z3.sp.wr hV4 (fun b hb => .inl hb)).sl)
    rw [mkR_fst, mkR_snd] at h
    exact h
  refine go ?_
  refine ret1 ⟨rfl, ?_, ⟨a0, a1, a2, a3, a4, a5, a6, _, rfl, (p3.same (hW4.same fun b hb => by omega)).wide, (q3.same (hW4.same fun b hb => by omega)).wide, hK4⟩⟩
  exact (Wrt.ofExt he1).trans ((hW2.mono fun b hb => ⟨by omega, by omega⟩).trans ((hW3.mono fun b hb => ⟨by omega, by omega⟩).trans (hW4.mono fun b hb => ⟨by omega, by omega⟩)))
set_option maxHeartbeats 1000000 in
theorem heldHom_ok {w : World} {v : Value} {k : Int} {lo hi : Nat} {p q : Pr} {xss : List (List Int)} {p' q' : Pr} {yss : List (List Int)} [hp : HomV lo hi w v p' q' yss] (h1 : p' = markP k p) (h2 : q' = markP (k + totP p) q) (h3 : yss = markL (k + totP p + totP q) xss) (hk : 0 ≤ k) (hb : k + totP p + totP q + tot xss ≤ 9000000000000000000) :
    Calls Tryz.prog 25 #[v, .int .i64 k] w (Ret fun v' w' => v' = .int .i64 (k + totP p + totP q + tot xss) ∧ Ext w w') := by
  subst h1 h2 h3
  obtain ⟨a0, a1, a2, a3, a4, a5, a6, us, rfl, hp, hq, hx⟩ := hp.ex
  refine enter (args := [.agg #[a0, a1, a2, a3, a4, a5, a6], .int .i64 k]) (l := [.tmp 4]) Tryz.func25 rfl rfl Tryz.ntmps25 (by simp) ?_
  refine go ?_
  refine st_box (vs := [a0, a1, a2, a3, a4, a5, a6]) (by ((try simp only [ev_tmp, ev_const, ev_func, get_put, get_args, get_putL, get_putL_nil, Nat.reduceEqDiff, reduceIte, List.getD_cons_zero, List.getD_cons_succ, List.getD_nil]); first | done | with_reducible rfl)) (by first | exact True.intro | exact ⟨_, rfl, by ((try simp only [ev_tmp, ev_const, ev_func, get_put, get_args, get_putL, get_putL_nil, Nat.reduceEqDiff, reduceIte, List.getD_cons_zero, List.getD_cons_succ, List.getD_nil, Bool.not_true, Bool.not_false]); first | done | with_reducible rfl)⟩) fun w1 b he1 hb1 hs1 hbk => ?_
  obtain ⟨c0, c1, c2, c3, c4, c5, c6⟩ := hbk.cells7
  refine go ?_
  refine rc (heldPresentation_ok (k := k) (p := p) (q := markP k p) rfl hk (by omega)) (next := fun v2 w2 h4 => ?_)
  obtain ⟨rfl, he2⟩ := h4
  refine go ?_
  refine c_if (fun h => ?_) (fun _ => ?_)
  · omega
  refine go ?_
  refine rc (heldPresentation_ok (k := k + totP p) (p := q) (q := markP (k + totP p) q) rfl (by omega) (by omega)) (next := fun v3 w3 h5 => ?_)
  obtain ⟨rfl, he3⟩ := h5
  refine go ?_
  refine c_if (fun h => ?_) (fun _ => ?_)
  · omega
  refine go ?_
  refine rc (heldInt64SS_ok (k := k + totP p + totP q) (yss := xss) (xss := markL (k + totP p + totP q) xss) rfl (by omega) (by omega)) (next := fun v4 w4 h6 => ?_)
  obtain ⟨rfl, he4⟩ := h6
  refine go ?_
  refine c_if (fun h => ?_) (fun _ => ?_)
  · omega
  refine go ?_
  exact ret1 ⟨rfl, ((he1.trans he2).trans he3).trans he4⟩
end Go.Proofs.YtnphljflkpekmaaGreat

/-
  Walks: the reference's IsHom, ApplyHom.
  Conditions: stated at each theorem.
-/
namespace Go.Proofs.YtnphljflkpekmaaGreat
open Go Go.Pc
set_option maxHeartbeats 2000000 in
theorem spec_IsHom_ok {p q : Pr} {w : World} {v : Value} {xss : List (List Int)} {lo hi : Nat} [hh : HomV lo hi w v p q xss] (hl : p.ord.length ≤ 2000000) (hlq : q.ord.length ≤ 2000000) (hxl : xss.length ≤ 2000000) :
    Calls Tryz.prog 72 #[v] w (Ret fun v w' => ∃ b, v = .bool b ∧ (b = true ↔ HomP p q xss) ∧ Ext w w') := by
  have hol : p.ord.length = p.n := rfl
  replace hh := hh.wide
  obtain ⟨a0, a1, a2, a3, a4, a5, a6, us, rfl, hp, hq, hx⟩ := hh.ex
  obtain ⟨ho, _⟩ := hp.ints3
  refine enter (args := [.agg #[a0, a1, a2, a3, a4, a5, a6]]) (l := [.tmp 2]) Tryz.func72 rfl rfl Tryz.ntmps72 (by simp) ?_
  refine go ?_
  refine st_box (vs := [a0, a1, a2, a3, a4, a5, a6]) (by ((try simp only [ev_tmp, ev_const, ev_func, get_put, get_args, get_putL, get_putL_nil, Nat.reduceEqDiff, reduceIte, List.getD_cons_zero, List.getD_cons_succ, List.getD_nil]); first | done | with_reducible rfl)) (by first | exact True.intro | exact ⟨_, rfl, by ((try simp only [ev_tmp, ev_const, ev_func, get_put, get_args, get_putL, get_putL_nil, Nat.reduceEqDiff, reduceIte, List.getD_cons_zero, List.getD_cons_succ, List.getD_nil, Bool.not_true, Bool.not_false]); first | done | with_reducible rfl)⟩) fun w1 b he1 hb1 hs1 hbk => ?_
  obtain ⟨c0, c1, c2, c3, c4, c5, c6⟩ := hbk.cells7
  refine go ?_
  refine rc (l08Group_ok (p := p) hl) (next := fun v5 w5 h5 => ?_)
  obtain ⟨b5, rfl, hb5, he5⟩ := h5
  have hE5 := he1.trans he5
  refine ra (next := ?_)
  refine ra (next := ?_)
  refine sp (fun e5 => ?_) (fun e5 => ?_)
  · have e5' : b5 = false := by simpa using e5
    refine go ?_
    refine ret1 ⟨false, rfl, ⟨fun h => (by cases h), fun h => ?_⟩, hE5⟩
    rw [hb5.2 h.1] at e5'; cases e5'
  have hG := hb5.1 (by simpa using e5)
  refine go ?_
  refine rc (l08Group_ok (p := q) hlq) (next := fun v6 w6 h6 => ?_)
  obtain ⟨b6, rfl, hb6, he6⟩ := h6
  have hE6 := hE5.trans he6
  refine ra (next := ?_)
  refine ra (next := ?_)
  refine ra (next := ?_)
  refine sp (fun e6 => ?_) (fun e6 => ?_)
  · have e6' : b6 = false := by simpa using e6
    refine go ?_
    refine ret1 ⟨false, rfl, ⟨fun h => (by cases h), fun h => ?_⟩, hE6⟩
    obtain ⟨_, _, hq', _⟩ := h
    rw [hb6.2 hq'] at e6'; cases e6'
  have hGq := hb6.1 (by simpa using e6)
  haveI : ConAll q := ⟨hGq.con⟩
  have hvq := hGq.valid
  have hn6 := hG.valid.n6
  have hq6 := hvq.n6
  refine go ?_
  refine c_if (fun h7 => ?_) (fun h7 => ?_)
  · refine go ?_
    refine ret1 ⟨false, rfl, ⟨fun h => (by cases h), fun h => ?_⟩, hE6⟩
    have := h.2.1
    exact absurd (by omega) h7
  have hlen : xss.length = p.n := by
    have h8 := Decidable.not_not.1 h7
    omega
  refine go ?_
  refine rc (l10Elements_ok (p := q) (xss := xss) hvq (by omega)) (next := fun v8 w8 h8 => ?_)
  obtain ⟨b8, rfl, hb8, he8⟩ := h8
  have hE8 := hE6.trans he8
  refine ra (next := ?_)
  refine sp (fun e8 => ?_) (fun e8 => ?_)
  · subst e8
    have hI := hb8.1 rfl
    obtain ⟨ys, hys⟩ := els_inR hI
    have hyl : ys.length = p.n := by rw [← hlen, hys]; simp
    refine go ?_
    refine rc (l16Relators_ok (p := p) (q := q) hG.valid (ys := ys) hyl hys) (next := fun v13 w13 h13 => ?_)
    obtain ⟨b13, rfl, hb13, he13⟩ := h13
    refine go ?_
    refine ret1 ⟨b13, rfl, ?_, hE8.trans he13⟩
    rw [hb13]
    constructor
    · exact fun h => ⟨hG, hlen, hGq, hI, ys, hys, h⟩
    · rintro ⟨_, _, _, _, hr⟩
      rw [hys, relC_iff] at hr
      exact hr
  · subst e8
    refine go ?_
    refine ret1 ⟨false, rfl, ⟨fun h => (by cases h), fun h => ?_⟩, hE8⟩
    obtain ⟨_, _, _, hI, _⟩ := h
    have := hb8.2 hI
    cases this
end Go.Proofs.YtnphljflkpekmaaGreat

/-
  Walks: the reference's test that two presentations are equal (l07Same), ComposeHoms.
  Conditions: stated at each theorem.
-/
namespace Go.Proofs.YtnphljflkpekmaaGreat
open Go Go.Pc
set_option maxHeartbeats 2000000 in
theorem l07Same_ok {w : World} {va vb : Value} {p q : Pr} {lo hi lo1 hi1 : Nat} [hp : Pres lo hi w va p] [hq : Pres lo1 hi1 w vb q] (hs : SizeP p 2000000) :
    Calls Tryz.prog 73 #[va, vb] w (Ret fun v w' => ∃ b, v = .bool b ∧ (b = true ↔ p = q) ∧ Ext w w') := by
  have hs1 := hs.ord
  have hs2 := hs.pow
  have hs3 := hs.cnj
  obtain ⟨vo, vpw, vc, ps, cs, css, rfl, h1, h2, h3⟩ := hp.ex
  obtain ⟨vo', vpw', vc', ps', cs', css', rfl, k1, k2, k3⟩ := hq.ex
  refine enter (args := [.agg #[vo, vpw, vc], .agg #[vo', vpw', vc']]) (l := [.tmp 4]) Tryz.func73 rfl rfl Tryz.ntmps73 (by simp) ?_
  refine go ?_
  refine st_box3 (by ((try simp only [ev_tmp, ev_const, ev_func, get_put, get_args, get_putL, get_putL_nil, Nat.reduceEqDiff, reduceIte, List.getD_cons_zero, List.getD_cons_succ, List.getD_nil]); first | done | with_reducible rfl)) (by first | exact True.intro | exact ⟨_, rfl, by ((try simp only [ev_tmp, ev_const, ev_func, get_put, get_args, get_putL, get_putL_nil, Nat.reduceEqDiff, reduceIte, List.getD_cons_zero, List.getD_cons_succ, List.getD_nil, Bool.not_true, Bool.not_false]); first | done | with_reducible rfl)⟩) fun w1 b he1 hb1 hsz1 hc0 hc1 hc2 => ?_
  refine go ?_
  refine st_box3 (by ((try simp only [ev_tmp, ev_const, ev_func, get_put, get_args, get_putL, get_putL_nil, Nat.reduceEqDiff, reduceIte, List.getD_cons_zero, List.getD_cons_succ, List.getD_nil]); first | done | with_reducible rfl)) (by first | exact True.intro | exact ⟨_, rfl, by ((try simp only [ev_tmp, ev_const, ev_func, get_put, get_args, get_putL, get_putL_nil, Nat.reduceEqDiff, reduceIte, List.getD_cons_zero, List.getD_cons_succ, List.getD_nil, Bool.not_true, Bool.not_false]); first | done | with_reducible rfl)⟩) fun w2 b' he2 hb2 hsz2 hc0' hc1' hc2' => ?_
  have hE2 := he1.trans he2
  have no : ∀ {w' : World}, p ≠ q → Ext w w' → ∃ b, Value.bool false = .bool b ∧ (b = true ↔ p = q) ∧ Ext w w' := fun h he => ⟨_, rfl, by simp [h], he⟩
  refine go ?_
  refine rc (l01Same_ok (xs := p.ord) (ys := q.ord) (by omega)) (next := fun v3 w3 h4 => ?_)
  obtain ⟨b3, rfl, hb3, he3⟩ := h4
  have hE3 := hE2.trans he3
  refine ra (next := ?_)
  refine ra (next := ?_)
  refine sp (fun e5 => ?_) (fun e5 => ?_)
  · have e5' : b3 = false := by simpa using e5
    refine go ?_
    refine ret1 (no (fun e => ?_) hE3)
    rw [hb3.2 (by rw [e])] at e5'; cases e5'
  have e1 := hb3.1 (by simpa using e5)
  refine go ?_
  refine rc (l01Same2_ok (xss := p.pow) (yss := q.pow) (fun i => by have := hs.powi i; omega) (by omega)) (next := fun v4 w4 h6 => ?_)
  obtain ⟨b4, rfl, hb4, he4⟩ := h6
  have hE4 := hE3.trans he4
  refine ra (next := ?_)
  refine ra (next := ?_)
  refine ra (next := ?_)
  refine sp (fun e6 => ?_) (fun e6 => ?_)
  · have e6' : b4 = false := by simpa using e6
    refine go ?_
    refine ret1 (no (fun e => ?_) hE4)
    rw [hb4.2 (by rw [e])] at e6'; cases e6'
  have e2 := hb4.1 (by simpa using e6)
  refine go ?_
  refine c_if (fun h7 => ?_) (fun h7 => ?_)
  · refine go ?_
    refine ret1 (no (fun e => ?_) hE4)
    rw [e] at h7
    exact absurd rfl h7
  have hcl : p.cnj.length = q.cnj.length := by
    have h8 := Decidable.not_not.1 h7
    omega
  refine go ?_
  refine r_for p.cnj.length (fun i ρ w' => Has ρ [(2, .pointer (some ⟨b, 0, none⟩)), (3, .pointer (some ⟨b', 0, none⟩)), (5, .int .i64 i)] ∧ Ext w4 w' ∧ ∀ j, j < i → p.cnj.getD j [] = q.cnj.getD j []) ?_ ?_
  · refine ⟨?_, Ext.refl _, fun j hj => by omega⟩
    exact hasP
  rintro i ρ w5 hi ⟨hH, he5, hI⟩
  refine rwp_has hH fun ρ0 => ?_
  have hE5 := hE4.trans he5
  refine go ?_
  refine c_if (fun h9 => ?_) (fun h9 => ?_)
  · have hin : i < p.cnj.length := by omega
    refine go ?_
    refine d_region fun w6 he6 _ => ?_
    refine dgo ?_
    refine dce (l01Same2_ok (xss := p.cnj.getD i []) (yss := q.cnj.getD i []) (fun j => by have := hs.cnjij i j; omega) (by have := hs.cnji i; omega)) (next := fun v7 w7 h10 => ?_)
    obtain ⟨b7, rfl, hb7, he7⟩ := h10
    refine dgo ?_
    refine d_end (h := ?_)
    refine go ?_
    refine c_b (fun e7 => ?_) (fun e7 => ?_)
    · refine go ?_
      refine ret1 (no (fun e => ?_) ((hE5.trans he6).trans he7))
      rw [hb7.2 (by rw [e])] at e7; cases e7
    · have e8 := hb7.1 (by simpa using e7)
      refine go ?_
      refine forQ_normal (by omega) ⟨?_, (he5.trans he6).trans he7, fun j hj => ?_⟩
      · exact hasP
      · by_cases e : j = i
        · subst e; exact e8
        · exact hI j (by omega)
  · refine go ?_
    refine ret1 ⟨_, rfl, ⟨fun _ => pr_ext3 e1 e2 (List.ext_getElem hcl fun i h1 h2 => ?_), fun _ => rfl⟩, hE5⟩
    have := hI i (by omega)
    simpa [h1, h2] using this
set_option maxHeartbeats 8000000 in
theorem spec_ComposeHoms_ok {p q p' q' : Pr} {w : World} {va vb : Value} {xss yss : List (List Int)} {lo hi lo1 hi1 : Nat} [hh : HomV lo hi w va p q xss] [hk : HomV lo1 hi1 w vb p' q' yss] (hl : p.ord.length ≤ 2000000) (hlq : q.ord.length ≤ 2000000) (hxl : xss.length ≤ 2000000) (hl' : p'.ord.length ≤ 2000000) (hlq' : q'.ord.length ≤ 2000000) (hyl : yss.length ≤ 2000000) :
    Calls Tryz.prog 29 #[va, vb] w (Ret fun v w' => ∃ (u : Value) (k : Pr × Pr × List (List Int)) (e : Int), v = .tuple #[u, .int .i64 e] ∧ Ans (HomP p q xss ∧ HomP p' q' yss) (HcV p q xss p' q' yss) noH k e ∧ Ext w w' ∧ HomV w.heap.size w'.heap.size w' u k.1 k.2.1 k.2.2) := by
  have hol : p.ord.length = p.n := rfl
  replace hh := hh.wide
  replace hk := hk.wide
  obtain ⟨a0, a1, a2, a3, a4, a5, a6, us, rfl, hp, hq, hi⟩ := hh.ex
  obtain ⟨b0, b1, b2, b3, b4, b5, b6, vs, rfl, kp, kq, ki⟩ := hk.ex
  refine enter (args := [.agg #[a0, a1, a2, a3, a4, a5, a6], .agg #[b0, b1, b2, b3, b4, b5, b6]]) (l := [.cell 4 31, .tmp 5]) Tryz.func29 rfl rfl Tryz.ntmps29 (by simp) ?_
  refine go ?_
  refine st_box (vs := [a0, a1, a2, a3, a4, a5, a6]) (by ((try simp only [ev_tmp, ev_const, ev_func, get_put, get_args, get_putL, get_putL_nil, Nat.reduceEqDiff, reduceIte, List.getD_cons_zero, List.getD_cons_succ, List.getD_nil]); first | done | with_reducible rfl)) (by first | exact True.intro | exact ⟨_, rfl, by ((try simp only [ev_tmp, ev_const, ev_func, get_put, get_args, get_putL, get_putL_nil, Nat.reduceEqDiff, reduceIte, List.getD_cons_zero, List.getD_cons_succ, List.getD_nil, Bool.not_true, Bool.not_false]); first | done | with_reducible rfl)⟩) fun w1 b he1 hb1 hs1 hbk1 => ?_
  obtain ⟨c0, c1, c2, c3, c4, c5, c6⟩ := hbk1.cells7
  refine go ?_
  refine st_box (vs := [b0, b1, b2, b3, b4, b5, b6]) (by ((try simp only [ev_tmp, ev_const, ev_func, get_put, get_args, get_putL, get_putL_nil, Nat.reduceEqDiff, reduceIte, List.getD_cons_zero, List.getD_cons_succ, List.getD_nil]); first | done | with_reducible rfl)) (by first | exact True.intro | exact ⟨_, rfl, by ((try simp only [ev_tmp, ev_const, ev_func, get_put, get_args, get_putL, get_putL_nil, Nat.reduceEqDiff, reduceIte, List.getD_cons_zero, List.getD_cons_succ, List.getD_nil, Bool.not_true, Bool.not_false]); first | done | with_reducible rfl)⟩) fun w2 bb he2 hb2 hs2 hbk2 => ?_
  obtain ⟨d0, d1, d2, d3, d4, d5, d6⟩ := hbk2.cells7
  refine go ?_
  refine st_alloc (by first | exact True.intro | exact ⟨_, rfl, by ((try simp only [ev_tmp, ev_const, ev_func, get_put, get_args, get_putL, get_putL_nil, Nat.reduceEqDiff, reduceIte, List.getD_cons_zero, List.getD_cons_succ, List.getD_nil, Bool.not_true, Bool.not_false]); first | done | with_reducible rfl)⟩) fun w3 br he3 hbr hs3 hbk3 => ?_
  have hz1 := he1.size
  have hz2 := he2.size
  have hz3 := he3.size
  have hE3 := (he1.trans he2).trans he3
  refine go ?_
  refine rc (spec_IsHom_ok (p := p) (q := q) (xss := xss) hl hlq hxl) (next := fun v5 w5 h5 => ?_)
  obtain ⟨t5, rfl, hb5, he5⟩ := h5
  have hE5 := hE3.trans he5
  have hz5 := he5.size
  refine ra (next := ?_)
  refine ra (next := ?_)
  refine sp (fun e5 => ?_) (fun e5 => ?_)
  · have e5' : t5 = false := by simpa using e5
    have hbk5 : Blk w5 br _ := @Blk.ext _ _ _ _ he5 hbk3
    refine go ?_
    refine ra (v := .agg #[nilv, nilv, nilv, nilv, nilv, nilv, nilv]) (h := rd_build (by rfl) (fun _ => by kernel_rfl)) (next := ?_)
    refine st_store_agg (vs := [nilv, nilv, nilv, nilv, nilv, nilv, nilv]) (cs := _) (hb := hbk5) (by ((try simp only [ev_tmp, ev_const, ev_func, get_put, get_args, get_putL, get_putL_nil, Nat.reduceEqDiff, reduceIte, List.getD_cons_zero, List.getD_cons_succ, List.getD_nil]); first | done | with_reducible rfl)) (by ((try simp only [ev_tmp, ev_const, ev_func, get_put, get_args, get_putL, get_putL_nil, Nat.reduceEqDiff, reduceIte, List.getD_cons_zero, List.getD_cons_succ, List.getD_nil]); first | done | with_reducible rfl)) rfl ?_ ?_ (by first | exact True.intro | exact ⟨_, rfl, by ((try simp only [ev_tmp, ev_const, ev_func, get_put, get_args, get_putL, get_putL_nil, Nat.reduceEqDiff, reduceIte, List.getD_cons_zero, List.getD_cons_succ, List.getD_nil, Bool.not_true, Bool.not_false]); first | done | with_reducible rfl)⟩) fun w6 hc6 hs6 hb6 => ?_
    · rfl
    · rfl
    have hE6 : Ext w w6 := hc6.ext hE5 (by omega)
    refine go ?_
    refine retc2 (b := br) (hb := hb6) ⟨_, noH, 1, rfl, .inr ⟨fun h => ?_, rfl, rfl⟩, hE6, homV_nilA hE6.size⟩ rfl
    rw [hb5.2 h.1] at e5'; cases e5'
  have hA := hb5.1 (by simpa using e5)
  refine go ?_
  refine rc (spec_IsHom_ok (p := p') (q := q') (xss := yss) hl' hlq' hyl) (next := fun v6 w6 h6 => ?_)
  obtain ⟨t6, rfl, hb6, he6⟩ := h6
  have hE6 := hE5.trans he6
  have hz6 := he6.size
  have hbk6 : Blk w6 br _ := @Blk.ext _ _ _ _ (he5.trans he6) hbk3
  refine go ?_
  refine c_b (fun e6 => ?_) (fun e6 => ?_)
  · refine go ?_
    refine ra (v := .agg #[nilv, nilv, nilv, nilv, nilv, nilv, nilv]) (h := rd_build (by rfl) (fun _ => by kernel_rfl)) (next := ?_)
    refine st_store_agg (vs := [nilv, nilv, nilv, nilv, nilv, nilv, nilv]) (cs := _) (hb := hbk6) (by ((try simp only [ev_tmp, ev_const, ev_func, get_put, get_args, get_putL, get_putL_nil, Nat.reduceEqDiff, reduceIte, List.getD_cons_zero, List.getD_cons_succ, List.getD_nil]); first | done | with_reducible rfl)) (by ((try simp only [ev_tmp, ev_const, ev_func, get_put, get_args, get_putL, get_putL_nil, Nat.reduceEqDiff, reduceIte, List.getD_cons_zero, List.getD_cons_succ, List.getD_nil]); first | done | with_reducible rfl)) rfl ?_ ?_ (by first | exact True.intro | exact ⟨_, rfl, by ((try simp only [ev_tmp, ev_const, ev_func, get_put, get_args, get_putL, get_putL_nil, Nat.reduceEqDiff, reduceIte, List.getD_cons_zero, List.getD_cons_succ, List.getD_nil, Bool.not_true, Bool.not_false]); first | done | with_reducible rfl)⟩) fun w7 hc7 hs7 hb7 => ?_
    · rfl
    · rfl
    have hE7 : Ext w w7 := hc7.ext hE6 (by omega)
    refine go ?_
    refine retc2 (b := br) (hb := hb7) ⟨_, noH, 1, rfl, .inr ⟨fun h => ?_, rfl, rfl⟩, hE7, homV_nilA hE7.size⟩ rfl
    rw [hb6.2 h.2] at e6; cases e6
  have hB := hb6.1 (by simpa using e6)
  have hA' := hA
  have hB' := hB
  obtain ⟨hG, hlen, hGq, hI, _⟩ := hA'
  obtain ⟨hG', hlen', hGq', hI', _⟩ := hB'
  refine go ?_
  refine rc (l07Same_ok (p := q) (q := p') (valid_szP hGq.valid).1) (next := fun v7 w7 h7 => ?_)
  obtain ⟨t7, rfl, hb7, he7⟩ := h7
  have hE7 := hE6.trans he7
  have hz7 := he7.size
  have hbk7 : Blk w7 br _ := @Blk.ext _ _ _ _ he7 hbk6
  refine go ?_
  refine c_b (fun e7 => ?_) (fun e7 => ?_)
  · refine go ?_
    refine ra (v := .agg #[nilv, nilv, nilv, nilv, nilv, nilv, nilv]) (h := rd_build (by rfl) (fun _ => by kernel_rfl)) (next := ?_)
    refine st_store_agg (vs := [nilv, nilv, nilv, nilv, nilv, nilv, nilv]) (cs := _) (hb := hbk7) (by ((try simp only [ev_tmp, ev_const, ev_func, get_put, get_args, get_putL, get_putL_nil, Nat.reduceEqDiff, reduceIte, List.getD_cons_zero, List.getD_cons_succ, List.getD_nil]); first | done | with_reducible rfl)) (by ((try simp only [ev_tmp, ev_const, ev_func, get_put, get_args, get_putL, get_putL_nil, Nat.reduceEqDiff, reduceIte, List.getD_cons_zero, List.getD_cons_succ, List.getD_nil]); first | done | with_reducible rfl)) rfl ?_ ?_ (by first | exact True.intro | exact ⟨_, rfl, by ((try simp only [ev_tmp, ev_const, ev_func, get_put, get_args, get_putL, get_putL_nil, Nat.reduceEqDiff, reduceIte, List.getD_cons_zero, List.getD_cons_succ, List.getD_nil, Bool.not_true, Bool.not_false]); first | done | with_reducible rfl)⟩) fun w8 hc8 hs8 hb8 => ?_
    · rfl
    · rfl
    have hE8 : Ext w w8 := hc8.ext hE7 (by omega)
    refine go ?_
    refine retc2 (b := br) (hb := hb8) ⟨_, noH, 5, rfl, .inl ⟨⟨hA, hB⟩, .inl ⟨fun h => ?_, rfl, rfl⟩⟩, hE8, homV_nilA hE8.size⟩ rfl
    rw [hb7.2 h] at e7; cases e7
  have hqp := hb7.1 (by simpa using e7)
  haveI : ConAll q := ⟨hGq.con⟩
  haveI : ConAll q' := ⟨hGq'.con⟩
  have hn6 := hG.valid.n6
  have hq6 := hGq.valid.n6
  have hq6' := hGq'.valid.n6
  obtain ⟨zs, hzs⟩ := els_inR hI
  obtain ⟨ys, hys⟩ := els_inR hI'
  have hysl : ys.length = q.n := by rw [hqp, ← hlen', hys]; simp
  have hzsl : zs.length = p.n := by rw [← hlen, hzs]; simp
  have hxz : xss.length = zs.length := by rw [hzs]; simp
  refine go ?_
  refine st_slice0 (by first | exact True.intro | exact ⟨_, rfl, by ((try simp only [ev_tmp, ev_const, ev_func, get_put, get_args, get_putL, get_putL_nil, Nat.reduceEqDiff, reduceIte, List.getD_cons_zero, List.getD_cons_succ, List.getD_nil, Bool.not_true, Bool.not_false]); first | done | with_reducible rfl)⟩) fun w8 v8 he8 hs8 ho8 => ?_
  refine go ?_
  refine r_for zs.length (fun i ρ w' => ∃ vl rs, Has ρ [(2, .pointer (some ⟨b, 0, none⟩)), (3, .pointer (some ⟨bb, 0, none⟩)), (4, .pointer (some ⟨br, 0, none⟩)), (6, vl), (7, .int .i64 i)] ∧ Ext w7 w' ∧ GrowL 22 w7.heap.size w' vl rs ∧ rs.map (·.2) = (xss.take i).map fun x => (imgE ys x).v) ?_ ?_
  · refine ⟨v8, [], ?_, he8, GrowL.start ho8 (Nat.le_refl _), rfl⟩
    exact hasP
  clear ho8
  rintro i ρ w9 hi9 ⟨vl, rs, hH, he9, hG9, hrs9⟩
  refine rwp_has hH fun ρ0 => ?_
  have hz9 := he9.size
  have hE9 := hE7.trans he9
  have hrl : rs.length = i := by have := congrArg List.length hrs9; simp at this; omega
  refine go ?_
  refine c_if (fun h4 => ?_) (fun h4 => ?_)
  · have hin : i < zs.length := by omega
    have hix : i < xss.length := by omega
    have hgi : xss.getD i [] = (zs[i]).v := by rw [hzs]; exact vecs_getD zs hin
    have hxi : InR q (xss.getD i []) := hI i hix
    have hxil := hxi.len
    obtain ⟨b', hb', hvb'⟩ := own_some' vl w7.heap.size w9.heap.size hz9 (fun g h => (hG9.lst.lt h).1)
    have ap1 : Apart 0 w.heap.size b' := ⟨.inr (by omega)⟩
    have ap2 : Apart b (b + 1) b' := ⟨.inr (by omega)⟩
    have ap3 : Apart bb (bb + 1) b' := ⟨.inr (by omega)⟩
    refine go ?_
    refine z_order b' (List.range 14) (h := fun w10 he10 _ => ?_)
    refine zgo ?_
    refine zc (l16Apply_ok (q := q') (ys := ys) (x := xss.getD i []) (by omega) (by omega) (inr_small hGq.valid hxi) hys rfl) (next := fun v11 w11 h11 => ?_)
    obtain ⟨he11, hf11⟩ := h11
    refine z_grow (hG9.ext he10) he11 hf11 (by have := he10.size; omega) (by omega) hvb' (next := fun v12 v13 w13 hG13 hx13 hz13 hgs13 => ?_)
    refine zgo ?_
    refine z_end ?_
    refine go ?_
    refine forQ_normal (by omega) ⟨v13, _, ?_, hx13 w7 ((he9.trans he10).trans he11) (Nat.le_refl _), hG13, ?_⟩
    · exact hasP
    · rw [List.take_succ_eq_append_getElem hix]
      simp only [List.map_append, List.map_cons, List.map_nil, hrs9]
      simp [hix]
  · obtain rfl : i = zs.length := by omega
    rw [← hxz, List.take_length] at hrs9
    have hR := hG9.rows
    rw [hrs9] at hR
    have hbk9 : Blk w9 br _ := @Blk.ext _ _ _ _ he9 hbk7
    refine go ?_
    refine rc (l16Make_ok (p := p) (q := q') (xss := xss.map fun x => (imgE ys x).v) (valid_sz6 hG.valid) (valid_sz6 hGq'.valid) (by rw [List.length_map]; omega) (fun i => ?_)) (next := fun v10 w10 h10 => ?_)
    · by_cases hi : i < xss.length
      · have e : (xss.map fun x => (imgE ys x).v).getD i [] = (imgE ys xss[i]).v := by simp [hi]
        rw [e, (imgE ys xss[i]).inr.len]; omega
      · rw [List.getD_eq_getElem?_getD, List.getElem?_eq_none (by rw [List.length_map]; omega)]; exact Nat.zero_le _
    obtain ⟨he10, hH10⟩ := h10
    obtain ⟨y0, y1, y2, y3, y4, y5, y6, us8, rfl, kS, kT, kI⟩ := hH10.ex
    have o1 := kS.one3
    have o2 := kT.one3
    have o3 := kI.sl.one
    have hz10 := he10.size
    have hbk10 : Blk w10 br _ := @Blk.ext _ _ _ _ he10 hbk9
    refine go ?_
    refine st_store_agg (vs := [y0, y1, y2, y3, y4, y5, y6]) (cs := _) (hb := hbk10) (by ((try simp only [ev_tmp, ev_const, ev_func, get_put, get_args, get_putL, get_putL_nil, Nat.reduceEqDiff, reduceIte, List.getD_cons_zero, List.getD_cons_succ, List.getD_nil]); first | done | with_reducible rfl)) (by ((try simp only [ev_tmp, ev_const, ev_func, get_put, get_args, get_putL, get_putL_nil, Nat.reduceEqDiff, reduceIte, List.getD_cons_zero, List.getD_cons_succ, List.getD_nil]); first | done | with_reducible rfl)) rfl ?_ ?_ (by first | exact True.intro | exact ⟨_, rfl, by ((try simp only [ev_tmp, ev_const, ev_func, get_put, get_args, get_putL, get_putL_nil, Nat.reduceEqDiff, reduceIte, List.getD_cons_zero, List.getD_cons_succ, List.getD_nil, Bool.not_true, Bool.not_false]); first | done | with_reducible rfl)⟩) fun w11 hc11 hs11 hb11 => ?_
    · rfl
    · simp [o1.1, o1.2.1, o1.2.2, o2.1, o2.2.1, o2.2.2, o3]
    have hE11 : Ext w w11 := hc11.ext (hE9.trans he10) (by omega)
    have hS11 := kS.same (hc11.same (.inl (by omega)))
    have hT11 := kT.same (hc11.same (.inl (by omega)))
    have hI11 := kI.same (hc11.same (.inl (by omega)))
    refine go ?_
    exact retc2 (b := br) (hb := hb11) ⟨_, (p, q', xss.map fun x => (imgE ys x).v), 0, rfl, .inl ⟨⟨hA, hB⟩, .inr ⟨hqp, ⟨inferInstance, ys, hys, rfl⟩, rfl⟩⟩, hE11, ⟨y0, y1, y2, y3, y4, y5, y6, us8, rfl, hS11.mono (by omega) (by omega), hT11.mono (by omega) (by omega), hI11.mono (by omega) (by omega)⟩⟩ rfl
end Go.Proofs.YtnphljflkpekmaaGreat

/-
  Walks: the program's isHom, applyHom, ApplyHom.
  Conditions: stated at each theorem.
-/
namespace Go.Proofs.YtnphljflkpekmaaGreat
open Go Go.Pc
set_option maxHeartbeats 4000000 in
theorem isHom_ok {p q : Pr} {w : World} {b : Nat} {xss : List (List Int)} [hB : HomB w b p q xss] (hl : p.ord.length ≤ 2000000) (hlq : q.ord.length ≤ 2000000) (hxl : xss.length ≤ 2000000) :
    Calls Tryz.prog 75 #[.pointer (some ⟨b, 0, none⟩)] w (Ret fun v w' => ∃ b, v = .bool b ∧ (b = true ↔ HomP p q xss) ∧ Ext w w') := by
  have hol : p.ord.length = p.n := rfl
  have hqp := hB.tgt
  obtain ⟨a0, a1, a2, a3, a4, a5, a6, us, c0, c1, c2, c3, c4, c5, c6, hp, hq, hx⟩ := hB.ex
  obtain ⟨ho, _⟩ := hp.ints3
  refine enter (args := [.pointer (some ⟨b, 0, none⟩)]) (l := [.tmp 2]) Tryz.func75 rfl rfl Tryz.ntmps75 (by simp) ?_
  refine go ?_
  refine d_region fun w1 he1 _ => ?_
  refine dgo ?_
  refine dce (impl_IsConsistent_ok (p := p) hl) (next := fun v5 w5 h5 => ?_)
  obtain ⟨b5, rfl, hb5, he5⟩ := h5
  have hE5 := he1.trans he5
  refine da (next := ?_)
  refine da (next := ?_)
  refine dsp (fun e5 => ?_) (fun e5 => ?_)
  · have e5' : b5 = false := by simpa using e5
    refine dgo ?_
    refine d_end (h := ?_)
    refine go ?_
    refine ret1 ⟨false, rfl, ⟨fun h => (by cases h), fun h => ?_⟩, hE5⟩
    rw [hb5.2 h.1] at e5'; cases e5'
  have hG := hb5.1 (by simpa using e5)
  have hn6 := hG.valid.n6
  refine dgo ?_
  refine dspd (fun h7 => ?_) (fun h7 => ?_)
  · refine dgo ?_
    refine d_end (h := ?_)
    refine go ?_
    refine ret1 ⟨false, rfl, ⟨fun h => (by cases h), fun h => ?_⟩, hE5⟩
    have := h.2.1
    exact absurd (by omega) h7
  have hlen : xss.length = p.n := by
    have h8 := Decidable.not_not.1 h7
    omega
  refine dgo ?_
  refine dce (areElements_ok (p := q) (xss := xss) hlq hxl) (next := fun v6 w6 h6 => ?_)
  obtain ⟨b6, rfl, hb6, he6⟩ := h6
  have hE6 := hE5.trans he6
  refine dgo ?_
  refine d_end (h := ?_)
  refine go ?_
  refine c_b (fun e6 => ?_) (fun e6 => ?_)
  · refine go ?_
    refine ret1 ⟨false, rfl, ⟨fun h => (by cases h), fun h => ?_⟩, hE6⟩
    obtain ⟨_, _, hq', hI, _⟩ := h
    rw [hb6.2 ⟨hq', hI⟩] at e6; cases e6
  obtain ⟨hGq, hI⟩ := hb6.1 (by simpa using e6)
  haveI : ConAll q := ⟨hGq.con⟩
  have hq6 := hGq.valid.n6
  obtain ⟨ys, hys⟩ := els_of hI
  have hyl : ys.length = p.n := by rw [← hlen, hys]; simp
  refine go ?_
  refine rc (PresentationRelators_ok (p := p) hG.valid) (next := fun v11 w11 h11 => ?_)
  obtain ⟨u11, e11, rfl, he11, rs11, hrs11, hG11⟩ := h11
  have hR11 := hG11.rows
  rw [hrs11] at hR11
  have hE11 := hE6.trans he11
  refine go ?_
  refine d_region fun w12 he12 _ => ?_
  refine dgo ?_
  refine dce (respects_ok (p := p) (q := q) hG.valid (ys := ys) hyl rfl hys) (next := fun v13 w13 h13 => ?_)
  obtain ⟨b13, rfl, hb13, he13⟩ := h13
  refine dgo ?_
  refine d_end (h := ?_)
  refine go ?_
  refine ret1 ⟨b13, rfl, ?_, (hE11.trans he12).trans he13⟩
  rw [hb13]
  constructor
  · exact fun h => ⟨hG, hlen, hGq, hI, ys, hys, h⟩
  · rintro ⟨_, _, _, _, hr⟩
    rw [hys, relC_iff] at hr
    exact hr
set_option maxHeartbeats 4000000 in
theorem applyHom_ok {p q : Pr} [hc : ConAll q] {ys : List (El q)} {x : List Int} (hyl : ys.length ≤ 1000) (hxl : x.length = ys.length) (hxr : ∀ i, i < x.length → 0 ≤ x.getD i 0 ∧ x.getD i 0 ≤ 7) {w : World} {b : Nat} {vx : Value} {xss : List (List Int)} {xs : List Int} {lo hi : Nat} [hB : HomB w b p q xss] [hx : Ints lo hi w vx xs] (hus : xss = vecs ys) (hxe : xs = x) :
    Calls Tryz.prog 98 #[.pointer (some ⟨b, 0, none⟩), vx] w (Ret fun v w' => Ext w w' ∧ Fr w.heap.size w' v (imgE ys x).v) := by
  subst hxe hus
  have hn6 := hc.valid.n6
  have hol : q.ord.length = q.n := rfl
  have hvl : (vecs ys).length = ys.length := by simp
  replace hx := hx.wide
  have hqp := hB.tgt
  obtain ⟨a0, a1, a2, a3, a4, a5, a6, us, c0, c1, c2, c3, c4, c5, c6, hp, hq, hi⟩ := hB.ex
  obtain ⟨ho, _⟩ := hq.ints3
  have himg : (imgE ys xs).v = (prodTo ys xs xs.length).v := by
    unfold imgE
    rw [hxl]
  refine enter (args := [.pointer (some ⟨b, 0, none⟩), vx]) (l := [.tmp 4]) Tryz.func98 rfl rfl Tryz.ntmps98 (by simp) ?_
  refine go ?_
  refine st_make_int (by ((try simp only [ev_tmp, ev_const, ev_func, get_put, get_args, get_putL, get_putL_nil, Nat.reduceEqDiff, reduceIte, List.getD_cons_zero, List.getD_cons_succ, List.getD_nil]); first | done | with_reducible rfl)) (by ((try simp only [ev_tmp, ev_const, ev_func, get_put, get_args, get_putL, get_putL_nil, Nat.reduceEqDiff, reduceIte, List.getD_cons_zero, List.getD_cons_succ, List.getD_nil]); first | done | with_reducible rfl)) (by omega) (by omega) (by first | exact True.intro | exact ⟨_, rfl, by ((try simp only [ev_tmp, ev_const, ev_func, get_put, get_args, get_putL, get_putL_nil, Nat.reduceEqDiff, reduceIte, List.getD_cons_zero, List.getD_cons_succ, List.getD_nil, Bool.not_true, Bool.not_false]); first | done | with_reducible rfl)⟩) fun w1 v1 he1 hs1 ho1 => ?_
  have hf1 : Fr w.heap.size w1 v1 (1 : El q).v := ho1.toFr (Nat.le_refl _)
  clear ho1
  refine go ?_
  refine r_for xs.length (fun k ρ w' => Has ρ [(0, .pointer (some ⟨b, 0, none⟩)), (5, v1), (15, vx), (16, .int .i64 xs.length), (17, .int .i64 k)] ∧ Ext w w' ∧ Fr w.heap.size w' v1 (prodTo ys xs k).v) ?_ ?_
  · refine ⟨?_, he1, hf1⟩
    exact hasP
  clear hf1 he1
  rintro k ρ w3 hk ⟨hH, he3, hf3⟩
  refine rwp_has hH fun ρ0 => ?_
  refine go ?_
  refine c_if (fun h4 => ?_) (fun h4 => ?_)
  · have hkn : k < ys.length := by omega
    have hg := vecs_getD ys hkn
    have hak := hxr k (by omega)
    refine go ?_
    refine r_for (xs.getD k 0).toNat (fun j ρ w' => Has ρ [(0, .pointer (some ⟨b, 0, none⟩)), (5, v1), (6, .int .i64 k), (15, vx), (16, .int .i64 xs.length), (17, .int .i64 k), (22, .int .i64 (xs.getD k 0)), (23, .int .i64 j)] ∧ Ext w w' ∧ Fr w.heap.size w' v1 (prodTo ys xs k * Grp.pw ys[k] j).v) ?_ ?_
    · refine ⟨?_, he3, by rw [Grp.pw_zero, Grp.mul_one]; exact hf3⟩
      exact hasP
    clear hf3 he3
    rintro j ρ w4 hj ⟨hH4, he4, hf4⟩
    refine rwp_has hH4 fun ρ1 => ?_
    refine go ?_
    refine c_if (fun h5 => ?_) (fun h5 => ?_)
    · have hui : Ints 0 w.heap.size w (Pc.rowAt a6 us k) ((vecs ys).getD k []) := inferInstance
      refine go ?_
      refine d_regionW he4 fun w5 he5 _ => ?_
      refine dgo ?_
      refine dc (timesVectorF_ok (p := q) (i := 0) (w0 := w) (x := prodTo ys xs k * Grp.pw ys[k] j) (y := ys[k]) (he4.trans he5) (hf4.ext' he5) (Nat.zero_le _) rfl hg) (next := fun v6 w6 h6 => ?_)
      obtain ⟨he6, hf6⟩ := h6
      refine ⟨fun _ => he6, ?_⟩
      refine d_end (h := ?_)
      refine go ?_
      refine forQ_normal (by omega) ⟨?_, he6, by rw [Grp.pw_succ, ← Grp.mul_assoc]; exact hf6⟩
      exact hasP
    · obtain rfl : j = (xs.getD k 0).toNat := by omega
      refine go ?_
      refine forQ_normal (by omega) ⟨?_, he4, ?_⟩
      · exact hasP
      · show Fr w.heap.size w4 v1 (prodTo ys xs k * Grp.pwz (ys.getD k 1) (xs.getD k 0)).v
        rw [getD_one hkn, Grp.pwz_of _ hak.1]
        exact hf4
  · obtain rfl : k = xs.length := by omega
    refine go ?_
    exact ret1 ⟨he3, by rw [himg]; exact hf3⟩
theorem inr_smallH {p : Pr} (hv : Valid p) {xs : List Int} (h : InR p xs) : ∀ i, i < xs.length → 0 ≤ xs.getD i 0 ∧ xs.getD i 0 ≤ 7 := fun i hi => by
  have h1 := h.rng i (by have := h.len; omega)
  have h2 := hv.opos (i := i) (by have := h.len; omega)
  omega
end Go.Proofs.YtnphljflkpekmaaGreat

/-
  Walks: the program's test that two presentations are equal, ComposeHoms.
  Conditions: stated at each theorem.
-/
namespace Go.Proofs.YtnphljflkpekmaaGreat
open Go Go.Pc
set_option maxHeartbeats 1000000 in
theorem equalC_ok {w : World} {va vb : Value} {us vs : List Value} {uss vss : List (List Value)} {xsss ysss : List (List (List Int))} {lo hi lo1 hi1 : Nat} [hx : Rowss lo hi w va us uss xsss] [hy : Rowss lo1 hi1 w vb vs vss ysss] (hm : ∀ i, (xsss.getD i []).length ≤ 2000000 ∧ ∀ j, ((xsss.getD i []).getD j []).length ≤ 2000000) (hl : xsss.length ≤ 10000000) :
    Calls Tryz.prog 124 #[va, vb, .func (.func 97) #[] #[]] w (Ret fun v w' => ∃ b, v = .bool b ∧ (b = true ↔ xsss = ysss) ∧ Ext w w') := by
  have hul := hx.vals.len
  have hvl := hy.vals.len
  refine enter (args := [va, vb, .func (.func 97) #[] #[]]) (l := [.tmp 6]) Tryz.func124 rfl rfl Tryz.ntmps124 (by simp) ?_
  refine go ?_
  refine c_if (fun h1 => ?_) (fun h1 => ?_)
  · refine go ?_
    refine ret1 ⟨_, rfl, ?_, Ext.refl _⟩
    simp only [Bool.false_eq_true, false_iff]
    rintro rfl
    omega
  · have hxy : xsss.length = ysss.length := by omega
    refine go ?_
    refine r_for xsss.length (fun k ρ w' => Has ρ [(1, vb), (2, .func (.func 97) #[] #[]), (15, va), (16, .int .i64 xsss.length), (17, .int .i64 k)] ∧ Ext w w' ∧ ∀ i, i < k → xsss.getD i [] = ysss.getD i []) ?_ ?_
    · refine ⟨?_, Ext.refl _, fun i hi => by omega⟩
      exact hasP
    rintro k ρ w1 hk ⟨hH, he1, hI⟩
    refine rwp_has hH fun ρ0 => ?_
    refine go ?_
    refine c_if (fun h4 => ?_) (fun h4 => ?_)
    · refine go ?_
      refine rc (sameRows_ok (xss := xsss.getD k []) (yss := ysss.getD k []) (hm k).2 (by have := (hm k).1; omega)) (next := fun v3 w3 h3 => ?_)
      obtain ⟨b3, rfl, hb3, he3⟩ := h3
      refine go ?_
      refine c_b (fun h5 => ?_) (fun h5 => ?_)
      · refine go ?_
        refine ret1 ⟨_, rfl, ?_, he1.trans he3⟩
        simp only [Bool.false_eq_true, false_iff]
        rintro rfl
        have := hb3.2 rfl
        rw [this] at h5; cases h5
      · have h6 := hb3.1 (by simpa using h5)
        refine go ?_
        refine forQ_normal (by omega) ⟨?_, he1.trans he3, fun i hi => ?_⟩
        · exact hasP
        · by_cases e : i = k
          · subst e; exact h6
          · exact hI i (by omega)
    · refine go ?_
      refine ret1 ⟨_, rfl, ?_, he1⟩
      simp only [true_iff]
      apply List.ext_getElem hxy
      intro i h1 h2
      have := hI i (by omega)
      simpa [h1, h2] using this
set_option maxHeartbeats 2000000 in
theorem samePresentation_ok {p q : Pr} {w : World} {va vb : Value} {lo hi lo1 hi1 : Nat} [hp : PresP lo hi w va p] [hq : PresP lo1 hi1 w vb q] (hs : SizeP p 2000000) :
    Calls Tryz.prog 76 #[va, vb] w (Ret fun v w' => ∃ b, v = .bool b ∧ (b = true ↔ p = q) ∧ Ext w w') := by
  have hs1 := hs.ord
  have hs2 := hs.pow
  have hs3 := hs.cnj
  obtain ⟨gP, oP, uo, upw, uc, ups, ucs, ucss, rfl, hgP, hgP2, kc0, kc1, kc2, kh1, kh2, kh3⟩ := hp.ex
  obtain ⟨gQ, oQ, to_, tpw, tc, tps, tcs, tcss, rfl, hgQ, hgQ2, jc0, jc1, jc2, jh1, jh2, jh3⟩ := hq.ex
  have no : ∀ {w' : World}, p ≠ q → Ext w w' → ∃ b, Value.bool false = .bool b ∧ (b = true ↔ p = q) ∧ Ext w w' := fun h he => ⟨_, rfl, by simp [h], he⟩
  refine enter (args := [.pointer (some ⟨gP, oP, none⟩), .pointer (some ⟨gQ, oQ, none⟩)]) (l := [.tmp 4]) Tryz.func76 rfl rfl Tryz.ntmps76 (by simp) ?_
  refine go ?_
  refine d_region fun w1 he1 _ => ?_
  refine dgo ?_
  refine dce (equalI_ok (xs := p.ord) (ys := q.ord) (by omega)) (next := fun v3 w3 h4 => ?_)
  obtain ⟨b3, rfl, hb3, he3⟩ := h4
  have hE3 := he1.trans he3
  refine dgo ?_
  refine dsp (fun h5 => ?_) (fun h5 => ?_)
  · subst h5
    have e1 := hb3.1 rfl
    refine dgo ?_
    refine dce (sameRows_ok (xss := p.pow) (yss := q.pow) (fun i => by have := hs.powi i; omega) (by omega)) (next := fun v4 w4 h6 => ?_)
    obtain ⟨b4, rfl, hb4, he4⟩ := h6
    have hE4 := hE3.trans he4
    refine dgo ?_
    refine dsp (fun h7 => ?_) (fun h7 => ?_)
    · subst h7
      have e2 := hb4.1 rfl
      refine dgo ?_
      refine dce (equalC_ok (xsss := p.cnj) (ysss := q.cnj) (fun i => ⟨by have := hs.cnji i; omega, fun j => by have := hs.cnjij i j; omega⟩) (by omega)) (next := fun v5 w5 h8 => ?_)
      obtain ⟨b5, rfl, hb5, he5⟩ := h8
      refine dgo ?_
      refine d_end (h := ?_)
      refine go ?_
      exact ret1 ⟨b5, rfl, ⟨fun h => pr_ext3 e1 e2 (hb5.1 h), fun h => hb5.2 (by rw [h])⟩, hE4.trans he5⟩
    · subst h7
      refine dgo ?_
      refine d_end (h := ?_)
      refine go ?_
      refine ret1 (no (fun e => ?_) hE4)
      have := hb4.2 (by rw [e])
      cases this
  · subst h5
    refine dgo ?_
    refine d_end (h := ?_)
    refine go ?_
    refine ret1 (no (fun e => ?_) hE3)
    have := hb3.2 (by rw [e])
    cases this
set_option maxHeartbeats 8000000 in
theorem composeHoms_ok {p q p' q' : Pr} [hc : ConAll q'] {ys : List (El q')} {w : World} {b bb : Nat} {xss yss : List (List Int)} [hA : HomB w b p q xss] [hB : HomB w bb p' q' yss] (hys : yss = vecs ys) (hyl : ys.length ≤ 6) (hxl : xss.length ≤ 6) (hsp : SizeP p 6) (hsq : SizeP q' 6)
    (hxx : ∀ i, i < xss.length → (xss.getD i []).length = ys.length ∧ ∀ j, j < (xss.getD i []).length → 0 ≤ (xss.getD i []).getD j 0 ∧ (xss.getD i []).getD j 0 ≤ 7) :
    Calls Tryz.prog 77 #[.pointer (some ⟨b, 0, none⟩), .pointer (some ⟨bb, 0, none⟩)] w (Ret fun v w' => Ext w w' ∧ ∃ rs, (xss.map fun x => (imgE ys x).v) = rs.map (·.2) ∧ HomO w.heap.size w'.heap.size w' v p q' rs) := by
  have hAs := hA.src
  have hBt := hB.tgt
  obtain ⟨a0, a1, a2, a3, a4, a5, a6, us, c0, c1, c2, c3, c4, c5, c6, hp, hq, hx⟩ := hA.ex
  refine enter (args := [.pointer (some ⟨b, 0, none⟩), .pointer (some ⟨bb, 0, none⟩)]) (l := [.cell 4 31]) Tryz.func77 rfl rfl Tryz.ntmps77 (by simp) ?_
  refine go ?_
  refine st_alloc (by first | exact True.intro | exact ⟨_, rfl, by ((try simp only [ev_tmp, ev_const, ev_func, get_put, get_args, get_putL, get_putL_nil, Nat.reduceEqDiff, reduceIte, List.getD_cons_zero, List.getD_cons_succ, List.getD_nil, Bool.not_true, Bool.not_false]); first | done | with_reducible rfl)⟩) fun w2 br he2 hbr hs2 hbk2 => ?_
  have hz2 := he2.size
  refine go ?_
  refine d_post (fun ρ' w' => ∃ y0 y1 y2 y3 y4 y5 bq m0 m1 m2 m3, Has ρ' [(0, .pointer (some ⟨b, 0, none⟩)), (1, .pointer (some ⟨bb, 0, none⟩)), (4, .pointer (some ⟨br, 0, none⟩)), (5, .pointer (some ⟨bq, 0, none⟩))] ∧ Ext w2 w' ∧ Blk w' bq [y0, y1, y2, y3, y4, y5, nilv] ∧ PresO m0 m1 w' (.agg #[y0, y1, y2]) p ∧ PresO m2 m3 w' (.agg #[y3, y4, y5]) q' ∧ w2.heap.size ≤ m0 ∧ m0 ≤ m1 ∧ m1 ≤ m2 ∧ m2 ≤ m3 ∧ m3 ≤ w'.heap.size ∧ (bq < m0 ∨ (m1 ≤ bq ∧ bq < m2) ∨ m3 ≤ bq) ∧ w2.heap.size ≤ bq ∧ bq < w'.heap.size) ?_ ?_
  · refine d_order [0, 1, 2, 4, 5, 6, 3, 7, 8, 9, 10] (h := fun w3 he3 hs3 => ?_)
    refine dgo ?_
    refine dt_fork (π' := [0, 1, 2, 4, 5, 6, 9, 3, 7, 8, 10]) (by decide) rfl rfl (by decide +kernel) ?_ ?_
    · refine ds_call (copyPresentation_ok (p := p) hsp) (next := fun v4 w4 h4 => ?_)
      obtain ⟨he4, hP4⟩ := h4
      have hz4 := he4.size
      refine dt_fork (π' := [0, 1, 2, 4, 5, 6, 3, 9, 7, 8, 10]) (by decide) rfl rfl (by decide +kernel) ?_ ?_
      · refine ds_call (copyPresentation_ok (p := q') hsq) (next := fun v5 w5 h5 => ?_)
        obtain ⟨he5, hP5⟩ := h5
        have hz5 := he5.size
        obtain ⟨y0, y1, y2, _, _, rfl, _⟩ := hP4.ex
        obtain ⟨y3, y4, y5, _, _, rfl, _⟩ := hP5.ex
        have o1 := hP4.pres.one3
        have o2 := hP5.pres.one3
        refine da (v := .agg #[y0, y1, y2, y3, y4, y5, nilv]) (h := ⟨fun _ _ => rd_build (by simp only [ev_tmp, ev_const, ev_func, get_put, get_args, get_putL, get_putL_nil, Nat.reduceEqDiff, reduceIte, List.getD_cons_zero, List.getD_cons_succ, List.getD_nil, List.map_toArray, List.map_cons, List.map_nil]; rfl) (fun _ => ?_)⟩) (next := ?_)
        · obtain ⟨m0, ps', cs', css', m1, m2⟩ := hP4.pres.ints3
          obtain ⟨n0, qs', ds', dss', n1, n2⟩ := hP5.pres.ints3
          obtain ⟨A0, c0, rfl, _⟩ := m0.sl.ex
          obtain ⟨A1, c1, rfl, _⟩ := m1.sl.ex
          obtain ⟨A2, c2, rfl, _⟩ := m2.sl.ex
          obtain ⟨A3, c3, rfl, _⟩ := n0.sl.ex
          obtain ⟨A4, c4, rfl, _⟩ := n1.sl.ex
          obtain ⟨A5, c5, rfl, _⟩ := n2.sl.ex
          kernel_rfl
        refine d_alloc (next := fun w6 bq he6 hbq hs6 hbk6 => ?_)
        have hz6 := he6.size
        refine d_store_agg (vs := [y0, y1, y2, y3, y4, y5, nilv]) (cs := _) hbk6 (by omega) rfl rfl (by simp [o1.1, o1.2.1, o1.2.2, o2.1, o2.2.1, o2.2.2]; rfl) (next := fun w7 hc7 hs7 hb7 => ?_)
        refine d_end (h := ?_)
        refine ⟨rfl, y0, y1, y2, y3, y4, y5, bq, w3.heap.size, w4.heap.size, w4.heap.size, w5.heap.size, ?_, hc7.ext (((he3.trans he4).trans he5).trans he6) (by omega), hb7,
          (hP4.wr (.ofExt (B := fun b => b < w3.heap.size ∨ w4.heap.size ≤ b) (he5.trans he6)) (fun g hg => hg)).wr (.one (B := fun g => g = bq) rfl hc7) (fun g hg => by omega),
          (hP5.wr (.ofExt (B := fun b => b < w4.heap.size ∨ w5.heap.size ≤ b) he6) (fun g hg => hg)).wr (.one (B := fun g => g = bq) rfl hc7) (fun g hg => by omega), by omega, by omega, by omega, by omega, by omega, by omega, by omega, by omega⟩
        exact hasP
      · refine ds_alloc (next := fun w6 bq he6 hbq hs6 hbk6 => ?_)
        have hz6 := he6.size
        refine dce (copyPresentation_ok (p := q') hsq) (next := fun v5 w5 h5 => ?_)
        obtain ⟨he5, hP5⟩ := h5
        have hz5 := he5.size
        obtain ⟨y0, y1, y2, _, _, rfl, _⟩ := hP4.ex
        obtain ⟨y3, y4, y5, _, _, rfl, _⟩ := hP5.ex
        have o1 := hP4.pres.one3
        have o2 := hP5.pres.one3
        refine da (v := .agg #[y0, y1, y2, y3, y4, y5, nilv]) (h := ⟨fun _ _ => rd_build (by simp only [ev_tmp, ev_const, ev_func, get_put, get_args, get_putL, get_putL_nil, Nat.reduceEqDiff, reduceIte, List.getD_cons_zero, List.getD_cons_succ, List.getD_nil, List.map_toArray, List.map_cons, List.map_nil]; rfl) (fun _ => ?_)⟩) (next := ?_)
        · obtain ⟨m0, ps', cs', css', m1, m2⟩ := hP4.pres.ints3
          obtain ⟨n0, qs', ds', dss', n1, n2⟩ := hP5.pres.ints3
          obtain ⟨A0, c0, rfl, _⟩ := m0.sl.ex
          obtain ⟨A1, c1, rfl, _⟩ := m1.sl.ex
          obtain ⟨A2, c2, rfl, _⟩ := m2.sl.ex
          obtain ⟨A3, c3, rfl, _⟩ := n0.sl.ex
          obtain ⟨A4, c4, rfl, _⟩ := n1.sl.ex
          obtain ⟨A5, c5, rfl, _⟩ := n2.sl.ex
          kernel_rfl
        have hbk5 : Blk w5 bq _ := @Blk.ext _ _ _ _ he5 hbk6
        refine d_store_agg (vs := [y0, y1, y2, y3, y4, y5, nilv]) (cs := _) hbk5 (by omega) rfl rfl (by simp [o1.1, o1.2.1, o1.2.2, o2.1, o2.2.1, o2.2.2]; rfl) (next := fun w7 hc7 hs7 hb7 => ?_)
        refine d_end (h := ?_)
        refine ⟨rfl, y0, y1, y2, y3, y4, y5, bq, w3.heap.size, w4.heap.size, w6.heap.size, w5.heap.size, ?_, hc7.ext (((he3.trans he4).trans he6).trans he5) (by omega), hb7,
          (hP4.wr (.ofExt (B := fun b => b < w3.heap.size ∨ w4.heap.size ≤ b) (he6.trans he5)) (fun g hg => hg)).wr (.one (B := fun g => g = bq) rfl hc7) (fun g hg => by omega),
          hP5.wr (.one (B := fun g => g = bq) rfl hc7) (fun g hg => by omega), by omega, by omega, by omega, by omega, by omega, by omega, by omega, by omega⟩
        exact hasP
    · refine ds_alloc (next := fun w6 bq he6 hbq hs6 hbk6 => ?_)
      have hz6 := he6.size
      refine dce (copyPresentation_ok (p := p) hsp) (next := fun v4 w4 h4 => ?_)
      obtain ⟨he4, hP4⟩ := h4
      have hz4 := he4.size
      refine dce (copyPresentation_ok (p := q') hsq) (next := fun v5 w5 h5 => ?_)
      obtain ⟨he5, hP5⟩ := h5
      have hz5 := he5.size
      obtain ⟨y0, y1, y2, _, _, rfl, _⟩ := hP4.ex
      obtain ⟨y3, y4, y5, _, _, rfl, _⟩ := hP5.ex
      have o1 := hP4.pres.one3
      have o2 := hP5.pres.one3
      refine da (v := .agg #[y0, y1, y2, y3, y4, y5, nilv]) (h := ⟨fun _ _ => rd_build (by simp only [ev_tmp, ev_const, ev_func, get_put, get_args, get_putL, get_putL_nil, Nat.reduceEqDiff, reduceIte, List.getD_cons_zero, List.getD_cons_succ, List.getD_nil, List.map_toArray, List.map_cons, List.map_nil]; rfl) (fun _ => ?_)⟩) (next := ?_)
      · obtain ⟨m0, ps', cs', css', m1, m2⟩ := hP4.pres.ints3
        obtain ⟨n0, qs', ds', dss', n1, n2⟩ := hP5.pres.ints3
        obtain ⟨A0, c0, rfl, _⟩ := m0.sl.ex
        obtain ⟨A1, c1, rfl, _⟩ := m1.sl.ex
        obtain ⟨A2, c2, rfl, _⟩ := m2.sl.ex
        obtain ⟨A3, c3, rfl, _⟩ := n0.sl.ex
        obtain ⟨A4, c4, rfl, _⟩ := n1.sl.ex
        obtain ⟨A5, c5, rfl, _⟩ := n2.sl.ex
        kernel_rfl
      have hbk5 : Blk w5 bq _ := @Blk.ext _ _ _ _ (he4.trans he5) hbk6
      refine d_store_agg (vs := [y0, y1, y2, y3, y4, y5, nilv]) (cs := _) hbk5 (by omega) rfl rfl (by simp [o1.1, o1.2.1, o1.2.2, o2.1, o2.2.1, o2.2.2]; rfl) (next := fun w7 hc7 hs7 hb7 => ?_)
      refine d_end (h := ?_)
      refine ⟨rfl, y0, y1, y2, y3, y4, y5, bq, w6.heap.size, w4.heap.size, w4.heap.size, w5.heap.size, ?_, hc7.ext (((he3.trans he6).trans he4).trans he5) (by omega), hb7,
        (hP4.wr (.ofExt (B := fun b => b < w6.heap.size ∨ w4.heap.size ≤ b) he5) (fun g hg => hg)).wr (.one (B := fun g => g = bq) rfl hc7) (fun g hg => by omega),
        hP5.wr (.one (B := fun g => g = bq) rfl hc7) (fun g hg => by omega), by omega, by omega, by omega, by omega, by omega, by omega, by omega, by omega⟩
      exact hasP
  rintro ρ' w3 ⟨y0, y1, y2, y3, y4, y5, bq, m0, m1, m2, m3, hH, he3, hb3, hA3, hB3, l0, l1, l2, l3, l4, hbq, hbq1, hbq2⟩
  refine thn_normal (rwp_has hH fun ρ0 => ?_)
  have hz3 := he3.size
  have o1 := hA3.pres.one3
  have o2 := hB3.pres.one3
  refine go ?_
  refine r_for xss.length (fun i ρ w' => ∃ vi rs, Has ρ [(0, .pointer (some ⟨b, 0, none⟩)), (1, .pointer (some ⟨bb, 0, none⟩)), (4, .pointer (some ⟨br, 0, none⟩)), (5, .pointer (some ⟨bq, 0, none⟩)), (20, a6), (21, .int .i64 xss.length), (22, .int .i64 i)] ∧ Ext w2 w' ∧ Blk w' bq [y0, y1, y2, y3, y4, y5, vi] ∧ PresO m0 m1 w' (.agg #[y0, y1, y2]) p ∧ PresO m2 m3 w' (.agg #[y3, y4, y5]) q' ∧ GrL 22 w3.heap.size w' vi rs ∧ w3.heap.size ≤ w'.heap.size ∧ rs.map (·.2) = (xss.take i).map fun x => (imgE ys x).v) ?_ ?_
  · refine ⟨nilv, [], ?_, he3, hb3, hA3, hB3, ⟨OwnN.nil _ _ _, RowsO.nil _ _, fun b h => (by cases h)⟩, Nat.le_refl _, rfl⟩
    exact hasP
  clear hA3 hB3 hb3
  rintro i ρ w4 hi ⟨vi, rs, hH, he4, hb4, hA4, hB4, hG4, hz4, hrs4⟩
  refine rwp_has hH fun ρ0 => ?_
  have hE4 := he2.trans he4
  have hrl : rs.length = i := by have := congrArg List.length hrs4; simp at this; omega
  refine go ?_
  refine c_if (fun h4 => ?_) (fun h4 => ?_)
  · have hin : i < xss.length := by omega
    obtain ⟨hxi1, hxi2⟩ := hxx i hin
    obtain ⟨b', hb', hvb'⟩ := own_some' vi w3.heap.size w4.heap.size hz4 (fun g h => (hG4.own.lt g h).1)
    have ap1 : Apart 0 w.heap.size b' := ⟨.inr (by omega)⟩
    have ap3 : Apart bq (bq + 1) b' := ⟨.inr (by omega)⟩
    have k6 : Cell w4 bq 6 vi := hb4.cell rfl
    refine go ?_
    refine z_order b' (List.range 9) (h := fun w5 he5 _ => ?_)
    refine zgo ?_
    refine zc (applyHom_ok (p := p') (q := q') (ys := ys) (x := xss.getD i []) (by omega) hxi1 hxi2 hys rfl) (next := fun v6 w6 h6 => ?_)
    obtain ⟨he6, hf6⟩ := h6
    have hx5 := he5.trans he6
    have hzx := hx5.size
    have hlt : ∀ g, vi.ownBlock = some g → w3.heap.size ≤ g := fun g hg => (hG4.own.lt g hg).1
    clear k6
    refine z_grow (hG4.grow hz4) hx5 (hf6.mono (by have := he5.size; omega)) hz4 (by omega) hvb' (next := fun v7 v8 w8 hG8 hx8 hz8 hst8 => ?_)
    have hb8 : Blk w8 bq [y0, y1, y2, y3, y4, y5, vi] := Blk.gstep (@Blk.ext _ _ _ _ hx5 hb4) hst8 (fun g hg => by have := hlt g hg; omega)
    refine zgo ?_
    refine z_stfld (bo := bq) (m := 6) (cs := [y0, y1, y2, y3, y4, y5, vi]) hb8 hG8.lst.own.toSl.one (by simp) (next := fun w9 hc9 hs9 hb9 => ?_)
    have hE9 : Ext w2 w9 := hc9.ext (hx8 w2 (he4.trans hx5) (by omega)) (by omega)
    have kA : Wrt (fun g => w3.heap.size ≤ g ∨ g = bq) w4 w9 := ((Wrt.ofExt hx5).trans (hst8.wrt.mono fun g hg => .inl (hlt g hg))).trans (.one (B := fun g => w3.heap.size ≤ g ∨ g = bq) (.inr rfl) hc9)
    have hA9 := hA4.wr kA (fun g hg => by omega)
    have hB9 := hB4.wr kA (fun g hg => by omega)
    have hG9 := (GrL.of hG8).wr (.one (B := fun g => g = bq) rfl hc9) (fun g hg hg' => by have := ((GrL.of hG8).lt hg).1; omega)
    refine go ?_
    refine forQ_normal (by omega) ⟨v8, _, ?_, hE9, hb9, hA9, hB9, hG9, by omega, ?_⟩
    · exact hasP
    · rw [List.take_succ_eq_append_getElem hin, List.map_append, List.map_append, hrs4]
      simp [hin]
  · obtain rfl : i = xss.length := by omega
    rw [List.take_length] at hrs4
    have hbr4 : Blk w4 br _ := @Blk.ext _ _ _ _ he4 hbk2
    have o3 := hG4.own.toSl.one
    refine go ?_
    refine ra (v := .agg #[y0, y1, y2, y3, y4, y5, vi]) (h := rd_load_blk (hb := hb4) (by ((try simp only [ev_tmp, ev_const, ev_func, get_put, get_args, get_putL, get_putL_nil, Nat.reduceEqDiff, reduceIte, List.getD_cons_zero, List.getD_cons_succ, List.getD_nil]); first | done | with_reducible rfl)) rfl) (next := ?_)
    refine st_store_agg (vs := [y0, y1, y2, y3, y4, y5, vi]) (cs := _) (hb := hbr4) (by ((try simp only [ev_tmp, ev_const, ev_func, get_put, get_args, get_putL, get_putL_nil, Nat.reduceEqDiff, reduceIte, List.getD_cons_zero, List.getD_cons_succ, List.getD_nil]); first | done | with_reducible rfl)) (by ((try simp only [ev_tmp, ev_const, ev_func, get_put, get_args, get_putL, get_putL_nil, Nat.reduceEqDiff, reduceIte, List.getD_cons_zero, List.getD_cons_succ, List.getD_nil]); first | done | with_reducible rfl)) rfl ?_ ?_ (by first | exact True.intro | exact ⟨_, rfl, by ((try simp only [ev_tmp, ev_const, ev_func, get_put, get_args, get_putL, get_putL_nil, Nat.reduceEqDiff, reduceIte, List.getD_cons_zero, List.getD_cons_succ, List.getD_nil, Bool.not_true, Bool.not_false]); first | done | with_reducible rfl)⟩) fun w5 hc5 hs5 hb5 => ?_
    · rfl
    · simp [o1.1, o1.2.1, o1.2.2, o2.1, o2.2.1, o2.2.2, o3]
    have hE5 : Ext w w5 := hc5.ext hE4 (by omega)
    have hA5 := hA4.wr (.one (B := fun g => g = br) rfl hc5) (fun g hg => .inl (by omega))
    have hB5 := hB4.wr (.one (B := fun g => g = br) rfl hc5) (fun g hg => .inl (by omega))
    have hM5 := (hG4.grow hz4).mat.wr (.one (B := fun g => g = br) rfl hc5) (fun g hg => .inl (by omega))
    refine go ?_
    exact retc (b := br) (hb := hb5) ⟨hE5, rs, hrs4.symm, HomO.of hA5 (hB5.sub l2 l4) hM5 (by omega) l1 (by omega) hz4 (by omega)⟩ rfl
set_option maxHeartbeats 4000000 in
theorem impl_ComposeHoms_ok {p q p' q' : Pr} {w : World} {va vb : Value} {xss yss : List (List Int)} {lo hi lo1 hi1 : Nat} [hh : HomV lo hi w va p q xss] [hk : HomV lo1 hi1 w vb p' q' yss] (hl : p.ord.length ≤ 2000000) (hlq : q.ord.length ≤ 2000000) (hxl : xss.length ≤ 2000000) (hl' : p'.ord.length ≤ 2000000) (hlq' : q'.ord.length ≤ 2000000) (hyl : yss.length ≤ 2000000) :
    Calls Tryz.prog 31 #[va, vb] w (Ret fun v w' => ∃ (u : Value) (k : Pr × Pr × List (List Int)) (e : Int), v = .tuple #[u, .int .i64 e] ∧ Ans (HomP p q xss ∧ HomP p' q' yss) (HcV p q xss p' q' yss) noH k e ∧ Ext w w' ∧ ∃ rs, k.2.2 = rs.map (·.2) ∧ HomO w.heap.size w'.heap.size w' u k.1 k.2.1 rs) := by
  have hol : p.ord.length = p.n := rfl
  replace hh := hh.wide
  replace hk := hk.wide
  obtain ⟨a0, a1, a2, a3, a4, a5, a6, us, rfl, hp, hq, hi⟩ := hh.ex
  obtain ⟨b0, b1, b2, b3, b4, b5, b6, vs, rfl, kp, kq, ki⟩ := hk.ex
  refine enter (args := [.agg #[a0, a1, a2, a3, a4, a5, a6], .agg #[b0, b1, b2, b3, b4, b5, b6]]) (l := [.cell 4 31, .tmp 5]) Tryz.func31 rfl rfl Tryz.ntmps31 (by simp) ?_
  refine go ?_
  refine st_box (vs := [a0, a1, a2, a3, a4, a5, a6]) (by ((try simp only [ev_tmp, ev_const, ev_func, get_put, get_args, get_putL, get_putL_nil, Nat.reduceEqDiff, reduceIte, List.getD_cons_zero, List.getD_cons_succ, List.getD_nil]); first | done | with_reducible rfl)) (by first | exact True.intro | exact ⟨_, rfl, by ((try simp only [ev_tmp, ev_const, ev_func, get_put, get_args, get_putL, get_putL_nil, Nat.reduceEqDiff, reduceIte, List.getD_cons_zero, List.getD_cons_succ, List.getD_nil, Bool.not_true, Bool.not_false]); first | done | with_reducible rfl)⟩) fun w1 b he1 hb1 hs1 hbk1 => ?_
  have hA1 := hh.boxed he1 hbk1
  have hk1 : HomV 0 w.heap.size w1 (.agg #[b0, b1, b2, b3, b4, b5, b6]) p' q' yss := hk.same (he1.same _ _)
  refine go ?_
  refine st_box (vs := [b0, b1, b2, b3, b4, b5, b6]) (by ((try simp only [ev_tmp, ev_const, ev_func, get_put, get_args, get_putL, get_putL_nil, Nat.reduceEqDiff, reduceIte, List.getD_cons_zero, List.getD_cons_succ, List.getD_nil]); first | done | with_reducible rfl)) (by first | exact True.intro | exact ⟨_, rfl, by ((try simp only [ev_tmp, ev_const, ev_func, get_put, get_args, get_putL, get_putL_nil, Nat.reduceEqDiff, reduceIte, List.getD_cons_zero, List.getD_cons_succ, List.getD_nil, Bool.not_true, Bool.not_false]); first | done | with_reducible rfl)⟩) fun w2 bb he2 hb2 hs2 hbk2 => ?_
  have hA2 := hA1.ext' he2
  have hB2 := hk1.boxed he2 hbk2
  refine go ?_
  refine st_alloc (by first | exact True.intro | exact ⟨_, rfl, by ((try simp only [ev_tmp, ev_const, ev_func, get_put, get_args, get_putL, get_putL_nil, Nat.reduceEqDiff, reduceIte, List.getD_cons_zero, List.getD_cons_succ, List.getD_nil, Bool.not_true, Bool.not_false]); first | done | with_reducible rfl)⟩) fun w3 br he3 hbr hs3 hbk3 => ?_
  have hz1 := he1.size
  have hz2 := he2.size
  have hz3 := he3.size
  have hE3 := (he1.trans he2).trans he3
  refine go ?_
  refine rc (isHom_ok (p := p) (q := q) (xss := xss) hl hlq hxl) (next := fun v5 w5 h5 => ?_)
  obtain ⟨t5, rfl, hb5, he5⟩ := h5
  have hE5 := hE3.trans he5
  have hz5 := he5.size
  refine ra (next := ?_)
  refine ra (next := ?_)
  refine sp (fun e5 => ?_) (fun e5 => ?_)
  · have e5' : t5 = false := by simpa using e5
    have hbk5 : Blk w5 br _ := @Blk.ext _ _ _ _ he5 hbk3
    refine go ?_
    refine ra (v := .agg #[nilv, nilv, nilv, nilv, nilv, nilv, nilv]) (h := rd_build (by rfl) (fun _ => by kernel_rfl)) (next := ?_)
    refine st_store_agg (vs := [nilv, nilv, nilv, nilv, nilv, nilv, nilv]) (cs := _) (hb := hbk5) (by ((try simp only [ev_tmp, ev_const, ev_func, get_put, get_args, get_putL, get_putL_nil, Nat.reduceEqDiff, reduceIte, List.getD_cons_zero, List.getD_cons_succ, List.getD_nil]); first | done | with_reducible rfl)) (by ((try simp only [ev_tmp, ev_const, ev_func, get_put, get_args, get_putL, get_putL_nil, Nat.reduceEqDiff, reduceIte, List.getD_cons_zero, List.getD_cons_succ, List.getD_nil]); first | done | with_reducible rfl)) rfl ?_ ?_ (by first | exact True.intro | exact ⟨_, rfl, by ((try simp only [ev_tmp, ev_const, ev_func, get_put, get_args, get_putL, get_putL_nil, Nat.reduceEqDiff, reduceIte, List.getD_cons_zero, List.getD_cons_succ, List.getD_nil, Bool.not_true, Bool.not_false]); first | done | with_reducible rfl)⟩) fun w6 hc6 hs6 hb6 => ?_
    · rfl
    · rfl
    have hE6 : Ext w w6 := hc6.ext hE5 (by omega)
    refine go ?_
    refine retc2 (b := br) (hb := hb6) ⟨_, noH, 1, rfl, .inr ⟨fun h => ?_, rfl, rfl⟩, hE6, [], rfl, homO_nilA hE6.size⟩ rfl
    rw [hb5.2 h.1] at e5'; cases e5'
  have hA := hb5.1 (by simpa using e5)
  refine go ?_
  refine rc (isHom_ok (p := p') (q := q') (xss := yss) hl' hlq' hyl) (next := fun v6 w6 h6 => ?_)
  obtain ⟨t6, rfl, hb6, he6⟩ := h6
  have hE6 := hE5.trans he6
  have hz6 := he6.size
  have hbk6 : Blk w6 br _ := @Blk.ext _ _ _ _ (he5.trans he6) hbk3
  refine go ?_
  refine c_b (fun e6 => ?_) (fun e6 => ?_)
  · refine go ?_
    refine ra (v := .agg #[nilv, nilv, nilv, nilv, nilv, nilv, nilv]) (h := rd_build (by rfl) (fun _ => by kernel_rfl)) (next := ?_)
    refine st_store_agg (vs := [nilv, nilv, nilv, nilv, nilv, nilv, nilv]) (cs := _) (hb := hbk6) (by ((try simp only [ev_tmp, ev_const, ev_func, get_put, get_args, get_putL, get_putL_nil, Nat.reduceEqDiff, reduceIte, List.getD_cons_zero, List.getD_cons_succ, List.getD_nil]); first | done | with_reducible rfl)) (by ((try simp only [ev_tmp, ev_const, ev_func, get_put, get_args, get_putL, get_putL_nil, Nat.reduceEqDiff, reduceIte, List.getD_cons_zero, List.getD_cons_succ, List.getD_nil]); first | done | with_reducible rfl)) rfl ?_ ?_ (by first | exact True.intro | exact ⟨_, rfl, by ((try simp only [ev_tmp, ev_const, ev_func, get_put, get_args, get_putL, get_putL_nil, Nat.reduceEqDiff, reduceIte, List.getD_cons_zero, List.getD_cons_succ, List.getD_nil, Bool.not_true, Bool.not_false]); first | done | with_reducible rfl)⟩) fun w7 hc7 hs7 hb7 => ?_
    · rfl
    · rfl
    have hE7 : Ext w w7 := hc7.ext hE6 (by omega)
    refine go ?_
    refine retc2 (b := br) (hb := hb7) ⟨_, noH, 1, rfl, .inr ⟨fun h => ?_, rfl, rfl⟩, hE7, [], rfl, homO_nilA hE7.size⟩ rfl
    rw [hb6.2 h.2] at e6; cases e6
  have hB := hb6.1 (by simpa using e6)
  have hA' := hA
  have hB' := hB
  obtain ⟨hG, hlen, hGq, hI, _⟩ := hA'
  obtain ⟨hG', hlen', hGq', hI', _⟩ := hB'
  have hA6 := hA2.ext' ((he3.trans he5).trans he6)
  have hB6 := hB2.ext' ((he3.trans he5).trans he6)
  have hAt := hA6.tgt
  have hBs := hB6.src
  refine go ?_
  refine rc (samePresentation_ok (p := q) (q := p') (valid_szP hGq.valid).1) (next := fun v7 w7 h7 => ?_)
  obtain ⟨t7, rfl, hb7, he7⟩ := h7
  have hE7 := hE6.trans he7
  have hz7 := he7.size
  have hbk7 : Blk w7 br _ := @Blk.ext _ _ _ _ he7 hbk6
  refine go ?_
  refine c_b (fun e7 => ?_) (fun e7 => ?_)
  · refine go ?_
    refine ra (v := .agg #[nilv, nilv, nilv, nilv, nilv, nilv, nilv]) (h := rd_build (by rfl) (fun _ => by kernel_rfl)) (next := ?_)
    refine st_store_agg (vs := [nilv, nilv, nilv, nilv, nilv, nilv, nilv]) (cs := _) (hb := hbk7) (by ((try simp only [ev_tmp, ev_const, ev_func, get_put, get_args, get_putL, get_putL_nil, Nat.reduceEqDiff, reduceIte, List.getD_cons_zero, List.getD_cons_succ, List.getD_nil]); first | done | with_reducible rfl)) (by ((try simp only [ev_tmp, ev_const, ev_func, get_put, get_args, get_putL, get_putL_nil, Nat.reduceEqDiff, reduceIte, List.getD_cons_zero, List.getD_cons_succ, List.getD_nil]); first | done | with_reducible rfl)) rfl ?_ ?_ (by first | exact True.intro | exact ⟨_, rfl, by ((try simp only [ev_tmp, ev_const, ev_func, get_put, get_args, get_putL, get_putL_nil, Nat.reduceEqDiff, reduceIte, List.getD_cons_zero, List.getD_cons_succ, List.getD_nil, Bool.not_true, Bool.not_false]); first | done | with_reducible rfl)⟩) fun w8 hc8 hs8 hb8 => ?_
    · rfl
    · rfl
    have hE8 : Ext w w8 := hc8.ext hE7 (by omega)
    refine go ?_
    refine retc2 (b := br) (hb := hb8) ⟨_, noH, 5, rfl, .inl ⟨⟨hA, hB⟩, .inl ⟨fun h => ?_, rfl, rfl⟩⟩, hE8, [], rfl, homO_nilA hE8.size⟩ rfl
    rw [hb7.2 h] at e7; cases e7
  have hqp := hb7.1 (by simpa using e7)
  haveI : ConAll q := ⟨hGq.con⟩
  haveI : ConAll q' := ⟨hGq'.con⟩
  have hn6 := hG.valid.n6
  have hq6 := hGq.valid.n6
  obtain ⟨ys, hys⟩ := els_of hI'
  have hysl : ys.length = q.n := by rw [hqp, ← hlen', hys]; simp
  refine go ?_
  refine rc (composeHoms_ok (p := p) (q := q) (p' := p') (q' := q') (xss := xss) (yss := yss) (ys := ys) hys (by omega) (by omega) (valid_sz6 hG.valid) (valid_sz6 hGq'.valid) (fun i hi => ⟨?_, ?_⟩)) (next := fun v8 w8 h8 => ?_)
  · have := (hI i hi).len
    omega
  · exact inr_smallH hGq.valid (hI i hi)
  obtain ⟨he8, rs8, hrs8, hH8⟩ := h8
  obtain ⟨y0, y1, y2, y3, y4, y5, y6, m0, m1, m2, m3, rfl, l0, l1, l2, l3, l4, kS, kT, kI⟩ := hH8.ex
  have o1 := kS.pres.one3
  have o2 := kT.pres.one3
  have o3 := kI.rows.sl.one
  have hz8 := he8.size
  have hbk8 : Blk w8 br _ := @Blk.ext _ _ _ _ he8 hbk7
  refine go ?_
  refine st_store_agg (vs := [y0, y1, y2, y3, y4, y5, y6]) (cs := _) (hb := hbk8) (by ((try simp only [ev_tmp, ev_const, ev_func, get_put, get_args, get_putL, get_putL_nil, Nat.reduceEqDiff, reduceIte, List.getD_cons_zero, List.getD_cons_succ, List.getD_nil]); first | done | with_reducible rfl)) (by ((try simp only [ev_tmp, ev_const, ev_func, get_put, get_args, get_putL, get_putL_nil, Nat.reduceEqDiff, reduceIte, List.getD_cons_zero, List.getD_cons_succ, List.getD_nil]); first | done | with_reducible rfl)) rfl ?_ ?_ (by first | exact True.intro | exact ⟨_, rfl, by ((try simp only [ev_tmp, ev_const, ev_func, get_put, get_args, get_putL, get_putL_nil, Nat.reduceEqDiff, reduceIte, List.getD_cons_zero, List.getD_cons_succ, List.getD_nil, Bool.not_true, Bool.not_false]); first | done | with_reducible rfl)⟩) fun w9 hc9 hs9 hb9 => ?_
  · rfl
  · simp [o1.1, o1.2.1, o1.2.2, o2.1, o2.2.1, o2.2.2, o3]
  have hE9 : Ext w w9 := hc9.ext (hE7.trans he8) (by omega)
  have hH9 := hH8.wr (.one (B := fun g => g = br) rfl hc9) (fun g hg => .inl (by omega))
  obtain ⟨z0, z1, z2, z3, z4, z5, z6, n0, n1, n2, n3, e, q0, q1, q2, q3, q4, r1, r2, r3⟩ := hH9.ex
  refine go ?_
  exact retc2 (b := br) (hb := hb9) ⟨_, (p, q', xss.map fun x => (imgE ys x).v), 0, rfl, .inl ⟨⟨hA, hB⟩, .inr ⟨hqp, ⟨inferInstance, ys, hys, rfl⟩, rfl⟩⟩, hE9, rs8, hrs8, ⟨z0, z1, z2, z3, z4, z5, z6, n0, n1, n2, n3, e, by omega, q1, q2, q3, by omega, r1, r2, r3⟩⟩ rfl
end Go.Proofs.YtnphljflkpekmaaGreat

/-
  Arguments that read as homomorphisms: structs of structs, by value.
  Conditions: none; nothing of the program stands here.
-/
namespace Go.Pc
open Go Go.RowKit Go.Deep Go.ChangeShapes Go.WideShapes Go.Joins
theorem array7 {α : Type} {cs : Array α} (h : cs.size = 7) : ∃ c0 c1 c2 c3 c4 c5 c6, cs = #[c0, c1, c2, c3, c4, c5, c6] := by
  obtain ⟨l⟩ := cs
  match l, h with
  | [c0, c1, c2, c3, c4, c5, c6], _ => exact ⟨c0, c1, c2, c3, c4, c5, c6, rfl⟩
section
variable {H : Type} {enc : TypeId × Value → H} {P : Program} {w : World} {base : Nat} {spare : Nat → Bool} {held : Bool}
theorem open_three {t : TypeId} {f0 f1 f2 : Field} {fuel : Nat} {c0 c1 c2 : Value} {x : DataW H × List MemPlace} (hs : P.underlying t = some (.struct #[f0, f1, f2])) (hone : oneCellFields P #[f0, f1, f2] = true)
    (hf : DataW.trod enc P w base spare held fuel t [c0, c1, c2] = some x) :
    ∃ (y0 y1 y2 : DataW H × List MemPlace) (n : Nat), DataW.trod enc P w base spare held n f0.type [c0] = some y0 ∧ DataW.trod enc P w base spare held n f1.type [c1] = some y1 ∧ DataW.trod enc P w base spare held n f2.type [c2] = some y2 := by
  obtain ⟨y0, y1, y2, n, hx, _, h0, h1, h2⟩ := trod_struct3 hs hf
  obtain ⟨o0, k0⟩ := hone_of hone 0 f0 rfl
  obtain ⟨o1, k1⟩ := hone_of hone 1 f1 rfl
  obtain ⟨o2, k2⟩ := hone_of hone 2 f2 rfl
  exact ⟨y0, y1, y2, n, by simpa [o0, k0] using h0, by simpa [o1, k1] using h1, by simpa [o2, k2] using h2⟩
theorem open_hom {r : Reach} {b0 : Nat} {t : TypeId} {f0 f1 f2 : Field} {v : Value} {d : DataW H} {p : List MemPlace} (hs : P.underlying t = some (.struct #[f0, f1, f2])) (hC : P.cellsOf t = 7) (o0 : f0.offset = 0) (k0 : P.cellsOf f0.type = 3) (o1 : f1.offset = 3) (k1 : P.cellsOf f1.type = 3) (o2 : f2.offset = 6) (k2 : P.cellsOf f2.type = 1)
    (hv : Value.okWide P w r b0 t v) (h : DataW.Trod enc P w base spare held t v d p) :
    ∃ (c0 c1 c2 c3 c4 c5 c6 : Value) (y0 y1 y2 : DataW H × List MemPlace) (n : Nat), v = .agg #[c0, c1, c2, c3, c4, c5, c6] ∧
      DataW.trod enc P w base spare held n f0.type [c0, c1, c2] = some y0 ∧ DataW.trod enc P w base spare held n f1.type [c3, c4, c5] = some y1 ∧ DataW.trod enc P w base spare held n f2.type [c6] = some y2 := by
  obtain ⟨cs, rfl, hsz⟩ := okWide_struct hs hv
  obtain ⟨c0, c1, c2, c3, c4, c5, c6, rfl⟩ := array7 (hsz.trans hC)
  obtain ⟨fuel, hf⟩ := h
  obtain ⟨y0, y1, y2, n, hx, _, h0, h1, h2⟩ := trod_struct3 hs hf
  exact ⟨c0, c1, c2, c3, c4, c5, c6, y0, y1, y2, n, rfl, by simpa [Value.cells, o0, k0] using h0, by simpa [Value.cells, o1, k1] using h1, by simpa [Value.cells, o2, k2] using h2⟩
end
end Go.Pc
