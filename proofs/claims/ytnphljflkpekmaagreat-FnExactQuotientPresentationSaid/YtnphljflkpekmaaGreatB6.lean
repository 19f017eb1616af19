/-
  Texts of one proof, put together by program: I44, Enum, Rel, Iso, Hom, W20, Grow4, W30, W31, W32, W35, W37, Fork, Copy, I30, I31, I32, I33, I37, I39, L07, OpenH, SpqS, Ser2, L06.
  Conditions: those told at each part.
-/
import Derived.Test.YtnphljflkpekmaaGreatB5
import Derived.Laws.CopyRow
import Derived.Lib.SmallJoins
set_option linter.unusedVariables false
set_option linter.unusedSimpArgs false
set_option linter.unusedSectionVars false
set_option linter.constructorNameAsVariable false
set_option linter.unnecessarySimpa false
set_option linter.deprecated false
/-
  Walks: the program's ProjectSubgroup, LiftSubgroup.
  Conditions: stated at each theorem.
-/
namespace Go.Proofs.YtnphljflkpekmaaGreat
open Go Go.Pc
set_option maxHeartbeats 4000000 in
theorem impl_ProjectSubgroup_ok {p : Pr} {w : World} {vp vu vx : Value} {us vs : List Value} {xss yss : List (List Int)} {lo hi lo1 hi1 lo2 hi2 : Nat} [hp : Pres lo hi w vp p] [hu : Pc.Rows lo1 hi1 w vu us xss] [hx : Pc.Rows lo2 hi2 w vx vs yss] (hl : p.ord.length ≤ 2000000) :
    Calls Tryz.prog 33 #[vp, vu, vx] w (Ret fun v w' => ∃ (u : Value) (k : List (List Int)) (e : Int), v = .tuple #[u, .int .i64 e] ∧ Ans (IsSubP p xss ∧ IsSubP p yss) (PgV p xss yss) [] k e ∧ Ext w w' ∧ ∃ rs, k = rs.map (·.2) ∧ MatO w.heap.size w'.heap.size w' u rs) := by
  replace hp := hp.wide
  replace hu := hu.wide
  replace hx := hx.wide
  obtain ⟨vo, vpw, vc, ps, cs, css, rfl, h1, h2, h3⟩ := hp.ex
  refine enter (args := [.agg #[vo, vpw, vc], vu, vx]) (l := [.tmp 6, .tmp 7]) Tryz.func33 rfl rfl Tryz.ntmps33 (by simp) ?_
  refine go ?_
  refine st_box3 (by ((try simp only [ev_tmp, ev_const, ev_func, get_put, get_args, get_putL, get_putL_nil, Nat.reduceEqDiff, reduceIte, List.getD_cons_zero, List.getD_cons_succ, List.getD_nil]); first | done | with_reducible rfl)) (by first | exact True.intro | exact ⟨_, rfl, by ((try simp only [ev_tmp, ev_const, ev_func, get_put, get_args, get_putL, get_putL_nil, Nat.reduceEqDiff, reduceIte, List.getD_cons_zero, List.getD_cons_succ, List.getD_nil, Bool.not_true, Bool.not_false]); first | done | with_reducible rfl)⟩) fun w1 b he1 hb1 hs1 hc0 hc1 hc2 => ?_
  have hpp := hp.boxed he1 hc0 hc1 hc2
  refine go ?_
  refine st_slice2 (u := vu) (v := vx) (by ((try simp only [ev_tmp, ev_const, ev_func, get_put, get_args, get_putL, get_putL_nil, Nat.reduceEqDiff, reduceIte, List.getD_cons_zero, List.getD_cons_succ, List.getD_nil]); first | done | with_reducible rfl)) (by ((try simp only [ev_tmp, ev_const, ev_func, get_put, get_args, get_putL, get_putL_nil, Nat.reduceEqDiff, reduceIte, List.getD_cons_zero, List.getD_cons_succ, List.getD_nil]); first | done | with_reducible rfl)) ?_ ?_ ?_ (by first | exact True.intro | exact ⟨_, rfl, by ((try simp only [ev_tmp, ev_const, ev_func, get_put, get_args, get_putL, get_putL_nil, Nat.reduceEqDiff, reduceIte, List.getD_cons_zero, List.getD_cons_succ, List.getD_nil, Bool.not_true, Bool.not_false]); first | done | with_reducible rfl)⟩) fun w2 v2 he2 hs2 ho2 => ?_
  · exact hu.sl.cells
  · exact hx.sl.cells
  · rfl
  have hE2 := he1.trans he2
  have hR := rowss_two (xss := xss) (yss := yss) ho2 inferInstance inferInstance
  refine go ?_
  refine rc (areSubgroups_ok (p := p) (xsss := [xss, yss]) hl (by simp)) (next := fun v5 w5 h5 => ?_)
  obtain ⟨b5, rfl, hb5, he5⟩ := h5
  rw [areSub2] at hb5
  have hE5 := hE2.trans he5
  refine go ?_
  refine c_b (fun e5 => ?_) (fun e5 => ?_)
  · refine go ?_
    refine ret2 ⟨nilv, [], 1, rfl, .inr ⟨fun h => ?_, rfl, rfl⟩, hE5, [], rfl, MatO.nilR _ _ _⟩
    rw [hb5.2 h] at e5; cases e5
  have hS := hb5.1 (by simpa using e5)
  obtain ⟨⟨hG, hq⟩, ⟨_, hI⟩⟩ := hS
  haveI : ConAll p := ⟨hG.con⟩
  have hv := hG.valid
  have hn6 := hv.n6
  obtain ⟨ys, hys, hse⟩ := isSeq_iff.1 hq
  obtain ⟨zs, hzs, hsz⟩ := isSeq_iff.1 hI
  have hyl := hse.len
  have hzl := hsz.len
  have hE6 := hE5
  have hz1 := he1.size
  refine go ?_
  refine rc (isNormal_ok (p := p) hse hys) (next := fun v7 w7 h7 => ?_)
  obtain ⟨b7, rfl, hb7, he7⟩ := h7
  have hE7 := hE6.trans he7
  refine go ?_
  refine c_b (fun e7 => ?_) (fun e7 => ?_)
  · refine go ?_
    refine ret2 ⟨nilv, [], 5, rfl, .inl ⟨⟨⟨hG, hq⟩, ⟨hG, hI⟩⟩, .inl ⟨fun h => ?_, rfl, rfl⟩⟩, hE7, [], rfl, MatO.nilR _ _ _⟩
    rw [hb7.2 h] at e7; cases e7
  have hN := hb7.1 (by simpa using e7)
  have hGq := quo_grp hse (norm_of hys hN)
  haveI hcq : ConAll (quoPr ys) := ⟨hGq.con⟩
  have hul : yss.length = zs.length := by rw [hzs]; simp
  refine go ?_
  refine rc (quotientPresentation_ok (p := p) hse hys) (next := fun v6 w6 h6 => ?_)
  obtain ⟨he6, hP6⟩ := h6
  obtain ⟨u0, u1, u2, _, _, rfl, _⟩ := hP6.ex
  have o3 := hP6.pres.one3
  have hE9 := hE7.trans he6
  have hz6 := he6.size
  have hz5 := hE7.size
  have hx17 : Ext w1 w7 := by first | exact (he2.trans he5).trans he7 | exact (((he2).trans he5).trans he7)
  have hz17 := hx17.size
  refine go ?_
  refine st_alloc (by first | exact True.intro | exact ⟨_, rfl, by ((try simp only [ev_tmp, ev_const, ev_func, get_put, get_args, get_putL, get_putL_nil, Nat.reduceEqDiff, reduceIte, List.getD_cons_zero, List.getD_cons_succ, List.getD_nil, Bool.not_true, Bool.not_false]); first | done | with_reducible rfl)⟩) fun w8 bq he8 hbq hs8 hbk8 => ?_
  have hE10 := hE9.trans he8
  have hz8 := he8.size
  have hP8 := hP6.wr (.ofExt (B := fun b => b < w7.heap.size ∨ w6.heap.size ≤ b) he8) (fun b hb => hb)
  refine go ?_
  refine st_store_agg (vs := [u0, u1, u2]) (cs := _) (hb := hbk8) (by ((try simp only [ev_tmp, ev_const, ev_func, get_put, get_args, get_putL, get_putL_nil, Nat.reduceEqDiff, reduceIte, List.getD_cons_zero, List.getD_cons_succ, List.getD_nil]); first | done | with_reducible rfl)) (by ((try simp only [ev_tmp, ev_const, ev_func, get_put, get_args, get_putL, get_putL_nil, Nat.reduceEqDiff, reduceIte, List.getD_cons_zero, List.getD_cons_succ, List.getD_nil]); first | done | with_reducible rfl)) rfl ?_ ?_ (by first | exact True.intro | exact ⟨_, rfl, by ((try simp only [ev_tmp, ev_const, ev_func, get_put, get_args, get_putL, get_putL_nil, Nat.reduceEqDiff, reduceIte, List.getD_cons_zero, List.getD_cons_succ, List.getD_nil, Bool.not_true, Bool.not_false]); first | done | with_reducible rfl)⟩) fun w9 hc9 hs9 hb9 => ?_
  · rfl
  · simp [o3.1, o3.2.1, o3.2.2]
  have hE11 : Ext w w9 := hc9.ext hE10 (by omega)
  have hP9 := (hP8.wr (.one (B := fun g => g = bq) rfl hc9) (fun g hg => .inr (by omega))).pres
  have hQ := hP9.boxed (Ext.refl w9) (hb9.cell rfl) (hb9.cell rfl) (hb9.cell rfl)
  have hpp9 := PresP.same hpp (Ext.same (hc9.ext (hx17.trans (he6.trans he8)) (by omega)) _ _) (by omega)
  refine go ?_
  refine r_for zs.length (fun i ρ w' => ∃ vl rs, Has ρ [(1, vu), (3, .pointer (some ⟨b, 0, none⟩)), (8, .pointer (some ⟨bq, 0, none⟩)), (9, vl), (22, vx), (23, .int .i64 yss.length), (24, .int .i64 i)] ∧ Ext w9 w' ∧ GrowL 22 w9.heap.size w' vl rs ∧ rs.map (·.2) = vecs ((zs.take i).map (prjQ ys))) ?_ ?_
  · refine ⟨nilv, [], ?_, Ext.refl _, GrowL.nil _ _ _ (Nat.le_refl _), rfl⟩
    exact hasP
  rintro i ρ w3 hi ⟨vl, rs, hH, he3, hG3, hrs3⟩
  refine rwp_has hH fun ρ0 => ?_
  have hz3 := he3.size
  have hE3 := hE11.trans he3
  have hrl : rs.length = i := by have := congrArg List.length hrs3; simp at this; omega
  refine go ?_
  refine c_if (fun h4 => ?_) (fun h4 => ?_)
  · have hin : i < zs.length := by omega
    have hgi : yss.getD i [] = (zs[i]).v := by rw [hzs]; exact vecs_getD zs hin
    refine go ?_
    refine rc (project_ok (p := p) (x := zs[i]) hse.ok (by omega) hys hgi) (next := fun v10 w10 h10 => ?_)
    obtain ⟨he10, y10, hrep10, hf10⟩ := h10
    rw [hrep10.prj hse] at hf10
    refine go ?_
    refine st_grow hG3 he10 hf10 hz3 (by omega) (next := fun v11 v12 w12 hG12 hx12 hz12 hgs12 => ?_)
    refine go ?_
    refine forQ_normal (by omega) ⟨v12, _, ?_, hx12 w9 (he3.trans he10) (Nat.le_refl _), hG12, ?_⟩
    · exact hasP
    · rw [List.take_succ_eq_append_getElem hin]
      simp only [List.map_append, List.map_cons, List.map_nil, hrs3, vecs]
      rfl
  · obtain rfl : i = zs.length := by omega
    rw [List.take_length] at hrs3
    have hR3 := hG3.rows
    rw [hrs3] at hR3
    refine go ?_
    refine rc (generatedM_ok (p := quoPr ys) (ys := zs.map (prjQ ys)) rfl (by rw [List.length_map]; omega)) (next := fun v13 w13 h13 => ?_)
    obtain ⟨he13, rs13, hrs13, hM13⟩ := h13
    refine go ?_
    exact ret2 ⟨v13, _, 0, rfl, .inl ⟨⟨⟨hG, hq⟩, ⟨hG, hI⟩⟩, .inr ⟨hN, ⟨inferInstance, ys, zs, hcq, hys, hzs, rfl⟩, rfl⟩⟩, hE3.trans he13, rs13, hrs13, hM13.lower hE3.size⟩
set_option maxHeartbeats 4000000 in
theorem impl_LiftSubgroup_ok {p : Pr} {w : World} {vp vu vx : Value} {us vs : List Value} {xss wss : List (List Int)} {lo hi lo1 hi1 lo2 hi2 : Nat} [hp : Pres lo hi w vp p] [hu : Pc.Rows lo1 hi1 w vu us xss] [hx : Pc.Rows lo2 hi2 w vx vs wss] (hl : p.ord.length ≤ 2000000) :
    Calls Tryz.prog 47 #[vp, vu, vx] w (Ret fun v w' => ∃ (u : Value) (k : List (List Int)) (e : Int), v = .tuple #[u, .int .i64 e] ∧ Ans (IsSubP p xss) (LsV p xss wss) [] k e ∧ Ext w w' ∧ ∃ rs, k = rs.map (·.2) ∧ MatO w.heap.size w'.heap.size w' u rs) := by
  replace hp := hp.wide
  replace hu := hu.wide
  replace hx := hx.wide
  obtain ⟨vo, vpw, vc, ps, cs, css, rfl, h1, h2, h3⟩ := hp.ex
  refine enter (args := [.agg #[vo, vpw, vc], vu, vx]) (l := [.tmp 6, .tmp 7]) Tryz.func47 rfl rfl Tryz.ntmps47 (by simp) ?_
  refine go ?_
  refine st_box3 (by ((try simp only [ev_tmp, ev_const, ev_func, get_put, get_args, get_putL, get_putL_nil, Nat.reduceEqDiff, reduceIte, List.getD_cons_zero, List.getD_cons_succ, List.getD_nil]); first | done | with_reducible rfl)) (by first | exact True.intro | exact ⟨_, rfl, by ((try simp only [ev_tmp, ev_const, ev_func, get_put, get_args, get_putL, get_putL_nil, Nat.reduceEqDiff, reduceIte, List.getD_cons_zero, List.getD_cons_succ, List.getD_nil, Bool.not_true, Bool.not_false]); first | done | with_reducible rfl)⟩) fun w1 b he1 hb1 hs1 hc0 hc1 hc2 => ?_
  have hpp := hp.boxed he1 hc0 hc1 hc2
  have hz1 := he1.size
  refine go ?_
  refine rc (normalCode_ok (p := p) (xss := xss) hl) (next := fun v5 w5 h5 => ?_)
  obtain ⟨e5, rfl, hcode, he5⟩ := h5
  have hE5 := he1.trans he5
  refine go ?_
  refine c_if (fun h7 => ?_) (fun h7 => ?_)
  · refine go ?_
    rcases hcode with ⟨h8, rfl⟩ | ⟨h8, h9, rfl⟩ | ⟨h8, h9, rfl⟩
    · exact ret2 ⟨nilv, [], 1, rfl, .inr ⟨h8, rfl, rfl⟩, hE5, [], rfl, MatO.nilR _ _ _⟩
    · exact ret2 ⟨nilv, [], 5, rfl, .inl ⟨h8, .inl ⟨h9, rfl, rfl⟩⟩, hE5, [], rfl, MatO.nilR _ _ _⟩
    · exact absurd rfl h7
  obtain ⟨hS, hN⟩ : IsSubP p xss ∧ NormP p xss := by
    rcases hcode with ⟨_, rfl⟩ | ⟨_, _, rfl⟩ | ⟨h8, h9, _⟩
    · exact absurd (by decide) h7
    · exact absurd (by decide) h7
    · exact ⟨h8, h9⟩
  have hS' := hS
  obtain ⟨hG, hq⟩ := hS'
  haveI : ConAll p := ⟨hG.con⟩
  have hv := hG.valid
  have hn6 := hv.n6
  obtain ⟨ys, hys, hse⟩ := isSeq_iff.1 hq
  have hyl := hse.len
  have hfn := frN_le ys
  have hGq := quo_grp hse (norm_of hys hN)
  haveI hcq : ConAll (quoPr ys) := ⟨hGq.con⟩
  have hxl : xss.length = ys.length := by rw [hys]; simp
  have husl := hu.vals.len
  refine go ?_
  refine rc (quotientPresentation_ok (p := p) hse hys) (next := fun v6 w6 h6 => ?_)
  obtain ⟨he6, hP6⟩ := h6
  obtain ⟨u0, u1, u2, _, _, rfl, _⟩ := hP6.ex
  have o3 := hP6.pres.one3
  have hE6 := hE5.trans he6
  have hz6 := he6.size
  have hz5 := hE5.size
  have hz55 := he5.size
  refine go ?_
  refine st_alloc (by first | exact True.intro | exact ⟨_, rfl, by ((try simp only [ev_tmp, ev_const, ev_func, get_put, get_args, get_putL, get_putL_nil, Nat.reduceEqDiff, reduceIte, List.getD_cons_zero, List.getD_cons_succ, List.getD_nil, Bool.not_true, Bool.not_false]); first | done | with_reducible rfl)⟩) fun w7 bq he7 hbq hs7 hbk7 => ?_
  have hE7 := hE6.trans he7
  have hz7 := he7.size
  have hP7 := hP6.wr (.ofExt (B := fun b => b < w5.heap.size ∨ w6.heap.size ≤ b) he7) (fun b hb => hb)
  refine go ?_
  refine st_store_agg (vs := [u0, u1, u2]) (cs := _) (hb := hbk7) (by ((try simp only [ev_tmp, ev_const, ev_func, get_put, get_args, get_putL, get_putL_nil, Nat.reduceEqDiff, reduceIte, List.getD_cons_zero, List.getD_cons_succ, List.getD_nil]); first | done | with_reducible rfl)) (by ((try simp only [ev_tmp, ev_const, ev_func, get_put, get_args, get_putL, get_putL_nil, Nat.reduceEqDiff, reduceIte, List.getD_cons_zero, List.getD_cons_succ, List.getD_nil]); first | done | with_reducible rfl)) rfl ?_ ?_ (by first | exact True.intro | exact ⟨_, rfl, by ((try simp only [ev_tmp, ev_const, ev_func, get_put, get_args, get_putL, get_putL_nil, Nat.reduceEqDiff, reduceIte, List.getD_cons_zero, List.getD_cons_succ, List.getD_nil, Bool.not_true, Bool.not_false]); first | done | with_reducible rfl)⟩) fun w8 hc8 hs8 hb8 => ?_
  · rfl
  · simp [o3.1, o3.2.1, o3.2.2]
  have hE8 : Ext w w8 := hc8.ext hE7 (by omega)
  have hP8 := (hP7.wr (.one (B := fun g => g = bq) rfl hc8) (fun g hg => .inr (by omega))).pres
  have hQ := hP8.boxed (Ext.refl w8) (hb8.cell rfl) (hb8.cell rfl) (hb8.cell rfl)
  have hpp8 := PresP.same hpp (Ext.same (hc8.ext (he5.trans (he6.trans he7)) (by omega)) _ _) (by omega)
  have hql : (quoPr ys).ord.length ≤ 2000000 := by
    have : (quoPr ys).ord.length = frN p ys := quo_n
    omega
  have hx8 : Pc.Rows 0 w.heap.size w8 vx vs wss := hx.same (hE8.same _ _)
  refine go ?_
  refine st_slice1 (u := vx) (by ((try simp only [ev_tmp, ev_const, ev_func, get_put, get_args, get_putL, get_putL_nil, Nat.reduceEqDiff, reduceIte, List.getD_cons_zero, List.getD_cons_succ, List.getD_nil]); first | done | with_reducible rfl)) hx8.sl.cells rfl (by first | exact True.intro | exact ⟨_, rfl, by ((try simp only [ev_tmp, ev_const, ev_func, get_put, get_args, get_putL, get_putL_nil, Nat.reduceEqDiff, reduceIte, List.getD_cons_zero, List.getD_cons_succ, List.getD_nil, Bool.not_true, Bool.not_false]); first | done | with_reducible rfl)⟩) fun w9 v9 he9 hs9 ho9 => ?_
  have hE9 := hE8.trans he9
  have hR := rowss_one (xss := wss) ho9 (hx8.same (he9.same _ _)).wide
  refine go ?_
  refine rc (areSubgroups_ok (p := quoPr ys) (xsss := [wss]) hql (by simp)) (next := fun v10 w10 h10 => ?_)
  obtain ⟨b10, rfl, hb10, he10⟩ := h10
  rw [areSub1] at hb10
  have hE10 := hE9.trans he10
  refine go ?_
  refine c_b (fun e10 => ?_) (fun e10 => ?_)
  · refine go ?_
    refine ret2 ⟨nilv, [], 2, rfl, .inl ⟨hS, .inr ⟨hN, inferInstance, ys, hys, .inl ⟨fun h => ?_, rfl, rfl⟩⟩⟩, hE10, [], rfl, MatO.nilR _ _ _⟩
    rw [hb10.2 h] at e10; cases e10
  have hW := hb10.1 (by simpa using e10)
  have hW' := hW
  obtain ⟨_, hWs⟩ := hW'
  obtain ⟨zs, hzs, hsz⟩ := isSeq_iff.1 hWs
  have hzl := hsz.len
  have hq6 := hGq.valid.n6
  have hul : wss.length = zs.length := by rw [hzs]; simp
  have hu10 : Pc.Rows 0 w.heap.size w10 vu us xss := hu.same (hE10.same _ _)
  have hx10 : Pc.Rows 0 w.heap.size w10 vx vs wss := hx.same (hE10.same _ _)
  have hsl10 := hu10.sl
  refine go ?_
  refine rc (cloneR_ok (us := us) hu10.ones (by omega)) (next := fun v11 w11 h11 => ?_)
  obtain ⟨he11, ho11⟩ := h11
  have hz10 := hE10.size
  clear hR hx8 hsl10
  refine go ?_
  refine r_for zs.length (fun i ρ w' => ∃ vl ls, Has ρ [(1, vu), (3, .pointer (some ⟨b, 0, none⟩)), (10, vl), (26, vx), (27, .int .i64 wss.length), (28, .int .i64 i)] ∧ Ext w10 w' ∧ GrS 22 w10.heap.size w' vl us ls ∧ ls.map (·.2) = vecs ((zs.take i).map liftQ)) ?_ ?_
  · refine ⟨v11, [], ?_, he11, GrS.start ho11, rfl⟩
    exact hasP
  clear ho11
  rintro i ρ w3 hi ⟨vl, ls, hH, he3, hG3, hrs3⟩
  refine rwp_has hH fun ρ0 => ?_
  have hz3 := he3.size
  have hE3 := hE10.trans he3
  have hrl : ls.length = i := by have := congrArg List.length hrs3; simp at this; omega
  refine go ?_
  refine c_if (fun h4 => ?_) (fun h4 => ?_)
  · have hin : i < zs.length := by omega
    have hgi : wss.getD i [] = (zs[i]).v := by rw [hzs]; exact vecs_getD zs hin
    have hil : ((zs[i]).v).length = frN p ys := by rw [(zs[i]).inr.len, quo_n]
    refine go ?_
    refine rc (lift_ok (p := p) (y := wss.getD i []) hse.ok (by omega) hys (by rw [hgi]; exact hil)) (next := fun v12 w12 h12 => ?_)
    obtain ⟨he12, hf12⟩ := h12
    rw [hgi] at hf12
    have hz12 := he12.size
    have hO12 := (hG3.ext he12).own
    have hone := hf12.ints.sl.one
    have hcel := hf12.ints.sl.cells
    refine go ?_
    refine st_growu (sb := w10.heap.size) hO12 hcel hone (by omega) (by simp only [List.length_append, List.length_map]; omega) (next := fun v13 v14 w14 hO14 hx14 hz14 hst14 => ?_)
    have hG14 := hG3.push he12 hz3 hf12 hO14 hst14
    refine go ?_
    refine forQ_normal (by omega) ⟨v14, _, ?_, hx14 w10 (he3.trans he12) (Nat.le_refl _), hG14, ?_⟩
    · exact hasP
    · rw [List.take_succ_eq_append_getElem hin]
      simp only [List.map_append, List.map_cons, List.map_nil, hrs3, vecs]
      rfl
  · obtain rfl : i = zs.length := by omega
    rw [List.take_length] at hrs3
    have hR3 := hG3.toRows hz3 (hu10.same (he3.same _ _))
    rw [hrs3, hys] at hR3
    refine go ?_
    refine rc (generatedM_ok (p := p) (xss := vecs ys ++ vecs (zs.map liftQ)) (ys := ys ++ zs.map liftQ) (by simp only [vecs, List.map_append]) (by rw [List.length_append, List.length_map]; omega)) (next := fun v13 w13 h13 => ?_)
    obtain ⟨he13, rs13, hrs13, hM13⟩ := h13
    refine go ?_
    exact ret2 ⟨v13, _, 0, rfl, .inl ⟨hS, .inr ⟨hN, inferInstance, ys, hys, .inr ⟨hW, zs, hzs, rfl, rfl⟩⟩⟩, hE3.trans he13, rs13, hrs13, hM13.lower hE3.size⟩
end Go.Proofs.YtnphljflkpekmaaGreat

/-
  All elements of a group, by their numbers; elements whose commutators with the generators lie in a subgroup.
  Conditions: the tails at all levels are groups.
-/
namespace Go.Proofs.YtnphljflkpekmaaGreat
open Go Go.Pc
section
variable {p : Pr}
end
section
variable {p : Pr} [hc : ConAll p]
/-- The element with a number. -/
def allE (p : Pr) [hc : ConAll p] (i : Nat) : El p := elAtT hc.valid (List.range p.n) (fun _ hd => List.mem_range.1 hd) i (by omega)
def ordN (p : Pr) : Nat := (ordL p (List.range p.n)).toNat
/-- The commutators with all generators lie in the subgroup. -/
def AbP (ys : List (El p)) (x : El p) : Prop := ∀ i (h : i < (gensL p).length), Gen (fun a : El p => a ∈ ys) (Grp.cm x (gensL p)[i])
end
def CtV (p : Pr) (r : List (List Int)) (e : Int) : Prop := (∃ (_ : ConAll p), r = canon (Gen (fun a : El p => AbP [] a))) ∧ e = 0
theorem CtV.uniq {p : Pr} (a b : List (List Int)) (c d : Int) (h : CtV p a c) (k : CtV p b d) : a = b ∧ c = d := by
  obtain ⟨⟨_, h1⟩, h2⟩ := h
  obtain ⟨⟨_, k1⟩, k2⟩ := k
  exact ⟨by rw [h1, k1], by rw [h2, k2]⟩
end Go.Proofs.YtnphljflkpekmaaGreat

/-
  Words over the generators, the relators of a presentation, the value of a word at some elements.
  Conditions: none.
-/
namespace Go.Proofs.YtnphljflkpekmaaGreat
open Go Go.Pc
/-- The word of the powers of the generators from i on. -/
def wordA (i : Nat) : List Int → List Int
  | [] => []
  | x :: l => List.replicate x.toNat ((i : Int) + 1) ++ wordA (i + 1) l
def wordV (e : List Int) : List Int := wordA 0 e
theorem wordA_snoc : ∀ (l : List Int) (i : Nat) (x : Int), wordA i (l ++ [x]) = wordA i l ++ List.replicate x.toNat (((i + l.length : Nat) : Int) + 1)
  | [], i, x => by simp [wordA]
  | y :: l, i, x => by
    simp only [List.cons_append, wordA, wordA_snoc l (i + 1) x, List.append_assoc, List.length_cons]
    rw [show i + 1 + l.length = i + (l.length + 1) by omega]
theorem wordV_take {e : List Int} {k : Nat} (hk : k < e.length) : wordV (e.take (k + 1)) = wordV (e.take k) ++ List.replicate (e.getD k 0).toNat ((k : Int) + 1) := by
  rw [List.take_succ_eq_append_getElem hk]
  unfold wordV
  rw [wordA_snoc]
  have e1 : e.getD k 0 = e[k] := by simp [hk]
  have e2 : 0 + (e.take k).length = k := by simp; omega
  rw [e1, e2]
def invW (w : List Int) : List Int := (w.map fun x => -x).reverse
theorem invW_len (w : List Int) : (invW w).length = w.length := by simp [invW]
theorem wordA_len {b : Nat} : ∀ (l : List Int) (i : Nat), (∀ x, x ∈ l → x ≤ b) → (wordA i l).length ≤ l.length * b
  | [], _, _ => by simp [wordA]
  | x :: l, i, h => by
    have h1 := wordA_len l (i + 1) fun y hy => h y (List.mem_cons_of_mem _ hy)
    have h2 := h x List.mem_cons_self
    have h3 : x.toNat ≤ b := by omega
    simp only [wordA, List.length_append, List.length_replicate, List.length_cons, Nat.add_mul, Nat.one_mul]
    omega
theorem wordA_mem : ∀ (l : List Int) (i : Nat) (a : Int), a ∈ wordA i l → (i : Int) + 1 ≤ a ∧ a ≤ (i + l.length : Nat)
  | [], i, a, h => by simp [wordA] at h
  | x :: l, i, a, h => by
    simp only [wordA, List.mem_append, List.mem_replicate] at h
    simp only [List.length_cons]
    rcases h with ⟨_, rfl⟩ | h
    · omega
    · have := wordA_mem l (i + 1) a h
      omega
/-- All letters name one of n generators. -/
def LetW (n : Nat) (w : List Int) : Prop := ∀ a, a ∈ w → a ≠ 0 ∧ -(n : Int) ≤ a ∧ a ≤ n
theorem LetW.append {n : Nat} {w v : List Int} (h : LetW n w) (k : LetW n v) : LetW n (w ++ v) := fun a ha => (List.mem_append.1 ha).elim (h a) (k a)
theorem letW_word {n : Nat} {e : List Int} (he : e.length = n) : LetW n (wordV e) := fun a ha => by
  have := wordA_mem e 0 a ha
  omega
theorem letW_inv {n : Nat} {w : List Int} (h : LetW n w) : LetW n (invW w) := fun a ha => by
  obtain ⟨b, hb, rfl⟩ := List.mem_map.1 (List.mem_reverse.1 ha)
  have := h b hb
  omega
def relP (p : Pr) (i : Nat) : List Int := List.replicate (p.o i).toNat ((i : Int) + 1) ++ invW (wordV (p.pow.getD i []))
def relC (p : Pr) (i k : Nat) : List Int := [-(i : Int) - 1, ((i + 1 + k : Nat) : Int) + 1, (i : Int) + 1] ++ invW (wordV ((p.cnj.getD i []).getD k []))
def relCs (p : Pr) (i m : Nat) : List (List Int) := (List.range m).map (relC p i)
def relL (p : Pr) (m : Nat) : List (List Int) := (List.range p.n).map (relP p) ++ (List.range m).flatMap fun i => relCs p i (p.n - 1 - i)
/-- The relators of a presentation. -/
def rels (p : Pr) : List (List Int) := relL p p.n
theorem relL_succ (p : Pr) (m : Nat) : relL p (m + 1) = relL p m ++ relCs p m (p.n - 1 - m) := by
  simp [relL, List.range_succ]
theorem relCs_succ (p : Pr) (i m : Nat) : relCs p i (m + 1) = relCs p i m ++ [relC p i m] := by
  simp [relCs, List.range_succ]
section
variable {p : Pr}
theorem invec_word (hv : Valid p) {e : List Int} (h : InR p e) : e.length = p.n ∧ (wordV e).length ≤ 36 ∧ ∀ i, i < e.length → 0 ≤ e.getD i 0 ∧ e.getD i 0 ≤ 6 := by
  have hn := hv.n6
  have hr : ∀ i, i < e.length → 0 ≤ e.getD i 0 ∧ e.getD i 0 ≤ 6 := fun i hi => by
    have h1 := h.rng i (by have := h.len; omega)
    have h2 := hv.opos (i := i) (by have := h.len; omega)
    omega
  refine ⟨h.len, ?_, hr⟩
  have := wordA_len (b := 6) e 0 fun x hx => by
    obtain ⟨i, hi, rfl⟩ := List.getElem_of_mem hx
    have := (hr i hi).2
    simpa [hi] using this
  have hl := h.len
  have h6 : e.length * 6 ≤ 6 * 6 := Nat.mul_le_mul_right _ (by omega)
  exact Nat.le_trans this h6
theorem rels_props (hv : Valid p) : (rels p).length ≤ 100 ∧ ∀ w, w ∈ rels p → w.length ≤ 100 ∧ LetW p.n w := by
  have hn := hv.n6
  have hP : ∀ i, i < p.n → (relP p i).length ≤ 100 ∧ LetW p.n (relP p i) := fun i hi => by
    have h1 := invec_word hv (hv.w_in i hi)
    have ho := hv.opos hi
    have hw : p.w i = p.pow.getD i [] := rfl
    rw [hw] at h1
    refine ⟨?_, LetW.append (fun a ha => ?_) (letW_inv (letW_word h1.1))⟩
    · simp only [relP, List.length_append, List.length_replicate, invW_len]; omega
    · obtain ⟨_, rfl⟩ := List.mem_replicate.1 ha
      omega
  have hC : ∀ i k, i < p.n → k < p.n - 1 - i → (relC p i k).length ≤ 100 ∧ LetW p.n (relC p i k) := fun i k hi hk => by
    have h1 := invec_word hv (hv.c_in i (i + 1 + k) (by omega) (by omega))
    have hw : p.c i (i + 1 + k) = (p.cnj.getD i []).getD k [] := by
      show (p.cnj.getD i []).getD (i + 1 + k - (i + 1)) [] = _
      rw [show i + 1 + k - (i + 1) = k by omega]
    rw [hw] at h1
    refine ⟨?_, LetW.append (fun a ha => ?_) (letW_inv (letW_word h1.1))⟩
    · simp only [relC, List.length_append, invW_len, List.length_cons, List.length_nil]; omega
    · simp only [List.mem_cons, List.not_mem_nil, or_false] at ha
      rcases ha with rfl | rfl | rfl <;> omega
  have hL : ∀ m, m ≤ p.n → ((List.range m).flatMap fun i => relCs p i (p.n - 1 - i)).length ≤ m * 6 := by
    intro m
    induction m with
    | zero => simp
    | succ m ih =>
      intro h
      rw [List.range_succ, List.flatMap_append, List.length_append]
      have h2 := ih (by omega)
      have h3 : (List.flatMap (fun i => relCs p i (p.n - 1 - i)) [m]).length ≤ 6 := by
        simp only [List.flatMap_cons, List.flatMap_nil, List.append_nil, relCs, List.length_map, List.length_range]; omega
      omega
  refine ⟨?_, fun w hw => ?_⟩
  · have := hL p.n (Nat.le_refl _)
    simp only [rels, relL, List.length_append, List.length_map, List.length_range]
    omega
  · rcases List.mem_append.1 hw with h | h
    · obtain ⟨i, hi, rfl⟩ := List.mem_map.1 h
      exact hP i (List.mem_range.1 hi)
    · obtain ⟨i, hi, h⟩ := List.mem_flatMap.1 h
      obtain ⟨k, hk, rfl⟩ := List.mem_map.1 h
      exact hC i k (List.mem_range.1 hi) (List.mem_range.1 hk)
end
section
variable {q : Pr} [hc : ConAll q]
/-- The value of one letter. -/
noncomputable def letV (ys : List (El q)) (a : Int) : El q := if 0 < a then ys.getD (a - 1).toNat 1 else (ys.getD (-a - 1).toNat 1)⁻¹
/-- The value of a word. -/
noncomputable def evalW (ys : List (El q)) (w : List Int) : El q := w.foldl (fun a l => a * letV ys l) 1
theorem evalW_snoc (ys : List (El q)) (w : List Int) (a : Int) : evalW ys (w ++ [a]) = evalW ys w * letV ys a := by
  unfold evalW; rw [List.foldl_append]; rfl
theorem evalW_take {ys : List (El q)} {w : List Int} {k : Nat} (hk : k < w.length) : evalW ys (w.take (k + 1)) = evalW ys (w.take k) * letV ys (w.getD k 0) := by
  rw [List.take_succ_eq_append_getElem hk, evalW_snoc]
  have e1 : w.getD k 0 = w[k] := by simp [hk]
  rw [e1]
/-- The elements meet the relators. -/
def RelOk (p : Pr) (ys : List (El q)) : Prop := ∀ k, k < (rels p).length → evalW ys ((rels p).getD k []) = 1
end
end Go.Proofs.YtnphljflkpekmaaGreat

/-
  Homomorphisms by images: words as powers, sequences of the whole group, isomorphisms.
  Conditions: none.
-/
namespace Go.Proofs.YtnphljflkpekmaaGreat
open Go Go.Pc
section
variable {p : Pr} [hc : ConAll p]
/-- The image of an element. -/
noncomputable def imgE {q : Pr} [ConAll q] (ys : List (El q)) (x : List Int) : El q := prodTo ys x ys.length
end
/-- The answers of the functions on automorphisms. -/
def ApV (p : Pr) (xss : List (List Int)) (xs r : List Int) (e : Int) : Prop := (∃ (_ : ConAll p) (ys : List (El p)), xss = vecs ys ∧ r = (imgE ys xs).v) ∧ e = 0
theorem ApV.uniq {p : Pr} {xss : List (List Int)} {xs : List Int} (a b : List Int) (c d : Int) (h : ApV p xss xs a c) (k : ApV p xss xs b d) : a = b ∧ c = d := by
  obtain ⟨⟨_, ys, h1, h2⟩, h3⟩ := h
  obtain ⟨⟨_, zs, k1, k2⟩, k3⟩ := k
  obtain rfl := vecs_inj (h1.symm.trans k1)
  exact ⟨by rw [h2, k2], by rw [h3, k3]⟩
def CoV (p : Pr) (xss yss r : List (List Int)) (e : Int) : Prop := (∃ (_ : ConAll p) (ys zs : List (El p)), xss = vecs ys ∧ yss = vecs zs ∧ r = vecs (ys.map fun y => imgE zs y.v)) ∧ e = 0
theorem CoV.uniq {p : Pr} {xss yss : List (List Int)} (a b : List (List Int)) (c d : Int) (h : CoV p xss yss a c) (k : CoV p xss yss b d) : a = b ∧ c = d := by
  obtain ⟨⟨_, ys, zs, h1, h2, h3⟩, h4⟩ := h
  obtain ⟨⟨_, ys', zs', k1, k2, k3⟩, k4⟩ := k
  obtain rfl := vecs_inj (h1.symm.trans k1)
  obtain rfl := vecs_inj (h2.symm.trans k2)
  exact ⟨by rw [h3, k3], by rw [h4, k4]⟩
end Go.Proofs.YtnphljflkpekmaaGreat

/-
  Homomorphisms by images: what the tests ask for.
  Conditions: none.
-/
namespace Go.Proofs.YtnphljflkpekmaaGreat
open Go Go.Pc
/-- The images satisfy the relators. -/
def RelC (p q : Pr) [ConAll q] (xss : List (List Int)) : Prop := ∃ ys : List (El q), xss = vecs ys ∧ RelOk p ys
def HomP (p q : Pr) (xss : List (List Int)) : Prop := IsGrp p ∧ xss.length = p.n ∧ ∃ hq : IsGrp q, (∀ i, i < xss.length → InR q (xss.getD i [])) ∧ @RelC p q ⟨hq.con⟩ xss
theorem relC_iff {p q : Pr} [ConAll q] {ys : List (El q)} : RelC p q (vecs ys) ↔ RelOk p ys := by
  constructor
  · rintro ⟨zs, h1, h2⟩
    obtain rfl := vecs_inj h1
    exact h2
  · exact fun h => ⟨ys, rfl, h⟩
/-- The image. -/
def HiV (q : Pr) (xss r : List (List Int)) (e : Int) : Prop := (∃ (_ : ConAll q) (ys : List (El q)), xss = vecs ys ∧ r = canon (Gen (fun a : El q => a ∈ ys))) ∧ e = 0
theorem HiV.uniq {q : Pr} {xss : List (List Int)} (a b : List (List Int)) (c d : Int) (h : HiV q xss a c) (k : HiV q xss b d) : a = b ∧ c = d := by
  obtain ⟨⟨hc, ys, h2, h3⟩, h5⟩ := h
  obtain ⟨⟨hc', ys', k2, k3⟩, k5⟩ := k
  obtain rfl := vecs_inj (h2.symm.trans k2)
  exact ⟨by rw [h3, k3], by rw [h5, k5]⟩
theorem HomImage_sz0 {p q : Pr} {xss r : List (List Int)} {e : Int} (_ : p.ord.length ≤ 2000000) (_ : q.ord.length ≤ 2000000) (_ : xss.length ≤ 2000000) (h : Ans (HomP p q xss) (HiV q xss) [] r e) : r.length ≤ 2000000 ∧ ∀ i, (r.getD i []).length ≤ 2000000 := by
  rcases h with ⟨⟨_, _, hG, _⟩, ⟨hc, ys, _, rfl⟩, _⟩ | ⟨_, rfl, _⟩
  · exact canon_sz _ hG.valid.n6
  · simp
/-- The image of a subgroup. -/
def SiV (p q : Pr) (xss uss r : List (List Int)) (e : Int) : Prop := (∃ (_ : ConAll p) (_ : ConAll q) (ys : List (El q)) (zs : List (El p)), xss = vecs ys ∧ uss = vecs zs ∧ r = canon (Gen (fun a : El q => a ∈ zs.map fun z => imgE ys z.v))) ∧ e = 0
theorem SiV.uniq {p q : Pr} {xss uss : List (List Int)} (a b : List (List Int)) (c d : Int) (h : SiV p q xss uss a c) (k : SiV p q xss uss b d) : a = b ∧ c = d := by
  obtain ⟨⟨hc, _, ys, zs, h2, h3, h4⟩, h5⟩ := h
  obtain ⟨⟨hc', _, ys', zs', k2, k3, k4⟩, k5⟩ := k
  obtain rfl := vecs_inj (h2.symm.trans k2)
  obtain rfl := vecs_inj (h3.symm.trans k3)
  exact ⟨by rw [h4, k4], by rw [h5, k5]⟩
theorem SubgroupImage_sz0 {p q : Pr} {xss uss r : List (List Int)} {e : Int} (_ : p.ord.length ≤ 2000000) (_ : q.ord.length ≤ 2000000) (_ : xss.length ≤ 2000000) (h : Ans (HomP p q xss ∧ IsSubP p uss) (SiV p q xss uss) [] r e) : r.length ≤ 2000000 ∧ ∀ i, (r.getD i []).length ≤ 2000000 := by
  rcases h with ⟨⟨⟨_, _, hG, _⟩, _⟩, ⟨_, _, ys, zs, _, _, rfl⟩, _⟩ | ⟨_, rfl, _⟩
  · exact canon_sz _ hG.valid.n6
  · simp
/-- The least element that is mapped to an element. -/
def PeV (p q : Pr) (xss : List (List Int)) (xs r : List Int) (e : Int) : Prop := ∃ (_ : ConAll p) (_ : ConAll q) (ys : List (El q)), xss = vecs ys ∧
  (((∀ j, j < ordN p → (imgE ys (allE p j).v).v ≠ xs) ∧ r = [] ∧ e = 4) ∨ (∃ k, k < ordN p ∧ (imgE ys (allE p k).v).v = xs ∧ (∀ j, j < k → (imgE ys (allE p j).v).v ≠ xs) ∧ r = (allE p k).v ∧ e = 0))
theorem PeV.uniq {p q : Pr} {xss : List (List Int)} {xs : List Int} (a b : List Int) (c d : Int) (h : PeV p q xss xs a c) (k : PeV p q xss xs b d) : a = b ∧ c = d := by
  obtain ⟨hc, _, ys, h2, h4⟩ := h
  obtain ⟨hc', _, ys', k2, k4⟩ := k
  obtain rfl := vecs_inj (h2.symm.trans k2)
  rcases h4 with ⟨h5, rfl, rfl⟩ | ⟨i, hi, h6, h7, rfl, rfl⟩ <;> rcases k4 with ⟨k5, rfl, rfl⟩ | ⟨j, hj, k6, k7, rfl, rfl⟩
  · exact ⟨rfl, rfl⟩
  · exact absurd k6 (h5 j hj)
  · exact absurd h6 (k5 i hi)
  · rcases Nat.lt_trichotomy i j with e | e | e
    · exact absurd h6 (k7 i e)
    · subst e; exact ⟨rfl, rfl⟩
    · exact absurd k6 (h7 j e)
end Go.Proofs.YtnphljflkpekmaaGreat

/-
  Walks: the reference's order, index, transversal elements; Transversal.
  Conditions: stated at each theorem.
-/
namespace Go.Proofs.YtnphljflkpekmaaGreat
open Go Go.Pc
end Go.Proofs.YtnphljflkpekmaaGreat

/-
  Lists of integers: the literal of three, 'append(u, v...)', also in drawn regions that write another block.
  Conditions: none; nothing of the program stands here.
-/
namespace Go.Pc
open Go Go.RowKit
section
variable {P : Program} {N : Nat} {ops : Array Oper} {π : List Nat} {K : Env → World → Prop} {ρ : Env} {w w0 w1 w00 : World} {l : List Oper}
variable {i : Nat} {ty ty2 : TypeId} {pos pos2 : String} {after after2 : Array Edge} {g g2 : Option (Nat × Bool)} {d d2 : Nat}
theorem run_slice1o {t e bytes : Nat} {x : Operand} {u z : Value} [ht : SlT P t e] [he : ElT P e 1 bytes z] (h : ev ρ x = u) (hu : u.cells = #[u]) (hz : z.cells = #[z]) :
    ∃ v w', Ex P (.buildSlice t 1 #[(0, x)]) ty ρ w v w' ∧ Ext w w' ∧ w'.heap.size = w.heap.size + 1 ∧ Own e w.heap.size w' v [u] := by
  obtain ⟨i, hi, hs, hby, hz'⟩ := he.ex
  refine ⟨.slice (some ⟨w.heap.size, 0, none⟩) 1 1, w.alloc (.cells #[u] e), ⟨fun _ _ _ _ => ?_⟩, Ext.alloc _ _, by simp, ?_⟩
  · simp [execOp, h, Instr.buildSlice, run_underlying ht.eq, sizeOf, typeInfo, hi, hs, zeroValue, hz', hz, Instr.fill, hu, newRow]
    refine congrArg (fun a => w.alloc (Obj.cells a e)) (Array.ext (by simp) fun j h1 h2 => ?_)
    have : j = 0 := by simp at h2; omega
    subst this
    simp
  · have := own_alloc w [u] e (by simp [maxLen])
    simpa using this
theorem st_slice3i {t e bytes : Nat} {x y s : Operand} {a b c : Int} {z : Value} [ht : SlT P t e] [he : ElT P e 1 bytes z] (h : ev ρ x = .int .i64 a) (k : ev ρ y = .int .i64 b) (m : ev ρ s = .int .i64 c) (hz : z.cells = #[z]) (hg : Wants ops ρ g)
    (next : ∀ w' v, Ext w w' → GrowI e w.heap.size w' v [a, b, c] → rops P N ops K l (put ρ d v) w') : rops P N ops K (⟨some d, .buildSlice t 3 #[(0, x), (1, y), (2, s)], ty, pos, after, g⟩ :: l) ρ w := by
  obtain ⟨i, hi, hs, hby, hz'⟩ := he.ex
  refine st_ex (v := .slice (some ⟨w.heap.size, 0, none⟩) 3 3) (w' := w.alloc (.cells #[.int .i64 a, .int .i64 b, .int .i64 c] e)) hg ⟨fun _ _ _ _ => ?_⟩ (next _ _ (Ext.alloc _ _) ?_)
  · have e1 : (Value.int .i64 a).cells = #[Value.int .i64 a] := rfl
    have e2 : (Value.int .i64 b).cells = #[Value.int .i64 b] := rfl
    have e3 : (Value.int .i64 c).cells = #[Value.int .i64 c] := rfl
    simp [execOp, h, k, m, Instr.buildSlice, run_underlying ht.eq, sizeOf, typeInfo, hi, hs, zeroValue, hz', hz, Instr.fill, e1, e2, e3, newRow]
    refine congrArg (fun a => w.alloc (Obj.cells a e)) (Array.ext (by simp) fun j h1 h2 => ?_)
    have : j = 0 ∨ j = 1 ∨ j = 2 := by simp at h2; omega
    rcases this with rfl | rfl | rfl <;> simp
  · have := own_alloc w [.int .i64 a, .int .i64 b, .int .i64 c] e (by simp [maxLen])
    exact ⟨by simpa using this.toN⟩
theorem st_appi {s x : Operand} {t e bytes sb lo hi : Nat} {z v y : Value} {xs ys : List Int} [ht : SlT P t e] [he : ElT P e 1 bytes z] (hG : GrowI e sb w1 v xs) (hy : Ints lo hi w1 y ys) (hs0 : sb ≤ w1.heap.size)
    (hn : xs.length + ys.length ≤ 1000000) (next : ∀ v' w', GrowI e sb w' v' (xs ++ ys) → (∀ wb, Ext wb w1 → wb.heap.size ≤ sb → Ext wb w') → w1.heap.size ≤ w'.heap.size → rops P N ops K l (put ρ d v') w')
    (hs : ev ρ s = v := by ((try simp only [ev_tmp, ev_const, ev_func, get_put, get_args, get_putL, get_putL_nil, Nat.reduceEqDiff, reduceIte, List.getD_cons_zero, List.getD_cons_succ, List.getD_nil]); first | done | with_reducible rfl)) (hx : ev ρ x = y := by ((try simp only [ev_tmp, ev_const, ev_func, get_put, get_args, get_putL, get_putL_nil, Nat.reduceEqDiff, reduceIte, List.getD_cons_zero, List.getD_cons_succ, List.getD_nil]); first | done | with_reducible rfl)) (hz : z.cells = #[z] := by rfl) (hby : bytes ≤ 100 := by decide) (hg1 : Wants ops ρ g := by first | exact True.intro | exact ⟨_, rfl, by ((try simp only [ev_tmp, ev_const, ev_func, get_put, get_args, get_putL, get_putL_nil, Nat.reduceEqDiff, reduceIte, List.getD_cons_zero, List.getD_cons_succ, List.getD_nil, Bool.not_true, Bool.not_false]); first | done | with_reducible rfl)⟩) :
    rops P N ops K (⟨some d, .call { callee := .builtin .append, args := #[s, x], argTypes := #[t, t] }, ty, pos, after, g⟩ :: l) ρ w1 := by
  have hO := hG.own
  have hsl := hy.sl
  have hb : (xs.length + ys.length) * bytes ≤ 1000000 * 100 := Nat.mul_le_mul (by omega) hby
  refine st_append (hv := hO) (hy := hsl) hs hx (by rw [hz]; rfl) ?_ ?_ ?_ ?_ hg1 fun v3 w3 ho3 hg3 ha3 => ?_
  · intro a ha
    obtain ⟨k, _, rfl⟩ := List.mem_map.1 ha
    rfl
  · simp only [List.length_map]; omega
  · simp only [List.length_map, maxLen]; omega
  · omega
  · exact next v3 w3 ⟨by simpa using ho3⟩ (fun wb hb1 hb2 => hb1.app hg3 (fun k hk => by have := (hO.lt k hk).1; omega)) hg3.size
theorem z_appi {s x : Operand} {b t e bytes sb lo hi : Nat} {z v y : Value} {xs ys : List Int} [ht : SlT P t e] [he : ElT P e 1 bytes z] (hG : GrowI e sb w1 v xs) (hy : Ints lo hi w1 y ys) (hs0 : sb ≤ w1.heap.size) (h00 : w00.heap.size ≤ sb)
    (hn : xs.length + ys.length ≤ 1000000) (next : ∀ v' w', GrowI e sb w' v' (xs ++ ys) → (∀ wb, Ext wb w1 → wb.heap.size ≤ sb → Ext wb w') → w1.heap.size ≤ w'.heap.size → dops P N ops π (Chg b w00) K (i + 1) (put ρ d v') w')
    (hi' : opAt ops π i = some ⟨some d, .call { callee := .builtin .append, args := #[s, x], argTypes := #[t, t] }, ty, pos, after, g⟩ := by exact rfl)
    (hs : ev ρ s = v := by ((try simp only [ev_tmp, ev_const, ev_func, get_put, get_args, get_putL, get_putL_nil, Nat.reduceEqDiff, reduceIte, List.getD_cons_zero, List.getD_cons_succ, List.getD_nil]); first | done | with_reducible rfl)) (hx : ev ρ x = y := by ((try simp only [ev_tmp, ev_const, ev_func, get_put, get_args, get_putL, get_putL_nil, Nat.reduceEqDiff, reduceIte, List.getD_cons_zero, List.getD_cons_succ, List.getD_nil]); first | done | with_reducible rfl)) (hz : z.cells = #[z] := by rfl) (hby : bytes ≤ 100 := by decide) (hg1 : Wants ops ρ g := by first | exact True.intro | exact ⟨_, rfl, by ((try simp only [ev_tmp, ev_const, ev_func, get_put, get_args, get_putL, get_putL_nil, Nat.reduceEqDiff, reduceIte, List.getD_cons_zero, List.getD_cons_succ, List.getD_nil, Bool.not_true, Bool.not_false]); first | done | with_reducible rfl)⟩)
    (hn1 : nextOk ops π i = true := by decide +kernel) (hd1 : d < N := by decide) :
    dops P N ops π (Chg b w00) K i ρ w1 := by
  have hO := hG.own
  have hsl := hy.sl
  have hb : (xs.length + ys.length) * bytes ≤ 1000000 * 100 := Nat.mul_le_mul (by omega) hby
  obtain ⟨v', w', hrun, h2, h3, h4⟩ := run_append (P := P) (ty := ty) (hv := hO) (hy := hsl) ht.eq he (by rw [hz]; rfl) (fun a ha => by
    obtain ⟨k, _, rfl⟩ := List.mem_map.1 ha
    rfl) (by simp only [List.length_map]; omega) (by simp only [List.length_map, maxLen]; omega) hs0
  have hex : Ex P (.call { callee := .builtin .append, args := #[s, x], argTypes := #[t, t] }) ty ρ w1 v' w' := by
    constructor; intro _ _ _ _
    simp [execOp, resolve, invoke, builtin, hs, hx, hrun]
  refine dt_ex hi' hn1 hd1 hg1 hex (fun hS => hS.app h3 (fun k hk => by have := (hO.lt k hk).1; omega)) (next v' w' ⟨by simpa using h2⟩ (fun wb hb1 hb2 => hb1.app h3 (fun k hk => by have := (hO.lt k hk).1; omega)) h3.size)
/-- The literal of one integer, in a drawn region that writes another block. -/
theorem z_slice1i {b t e bytes : Nat} {x : Operand} {a : Int} {z : Value} [ht : SlT P t e] [he : ElT P e 1 bytes z] (next : ∀ w' v, Ext w w' → w'.heap.size = w.heap.size + 1 → Own e w.heap.size w' v [.int .i64 a] → dops P N ops π (Chg b w00) K (i + 1) (put ρ d v) w')
    (hi : opAt ops π i = some ⟨some d, .buildSlice t 1 #[(0, x)], ty, pos, after, g⟩ := by exact rfl) (h : ev ρ x = .int .i64 a := by ((try simp only [ev_tmp, ev_const, ev_func, get_put, get_args, get_putL, get_putL_nil, Nat.reduceEqDiff, reduceIte, List.getD_cons_zero, List.getD_cons_succ, List.getD_nil]); first | done | with_reducible rfl)) (hz : z.cells = #[z] := by rfl)
    (hn : nextOk ops π i = true := by decide +kernel) (hd : d < N := by decide) (hg : Wants ops ρ g := by first | exact True.intro | exact ⟨_, rfl, by ((try simp only [ev_tmp, ev_const, ev_func, get_put, get_args, get_putL, get_putL_nil, Nat.reduceEqDiff, reduceIte, List.getD_cons_zero, List.getD_cons_succ, List.getD_nil, Bool.not_true, Bool.not_false]); first | done | with_reducible rfl)⟩) : dops P N ops π (Chg b w00) K i ρ w := by
  obtain ⟨v, w', hr, he', hs, hsl⟩ := run_slice1o (P := P) (ρ := ρ) (ty := ty) (w := w) (t := t) (ht := ht) (he := he) h rfl hz
  exact dt_ex hi hn hd hg hr (fun hS => hS.grow he') (next w' v he' hs hsl)
end
end Go.Pc

/-
  Walks: the reference's words, relators and values of words (l07Word, l06Invert, l07Relators, l10Eval, l16Relators, l10Elements).
  Conditions: stated at each theorem.
-/
namespace Go.Proofs.YtnphljflkpekmaaGreat
open Go Go.Pc
theorem app_repl (w : List Int) (m : Nat) (a : Int) : (w ++ List.replicate m a) ++ [a] = w ++ List.replicate (m + 1) a := by
  rw [List.append_assoc]
  congr 1
  exact (List.replicate_succ' (n := m) (a := a)).symm
set_option maxHeartbeats 2000000 in
theorem l07Word_ok {e : List Int} {w : World} {vx : Value} {lo hi : Nat} [hx : Ints lo hi w vx e] (hl : e.length ≤ 100) (hr : ∀ i, i < e.length → 0 ≤ e.getD i 0 ∧ e.getD i 0 ≤ 100) :
    Calls Tryz.prog 188 #[vx] w (Ret fun v w' => Ext w w' ∧ GrowI 2 w.heap.size w' v (wordV e)) := by
  have hwl : ∀ k, (wordV (e.take k)).length ≤ 10000 := fun k => by
    have h1 := wordA_len (b := 100) (e.take k) 0 fun x hx => by
      obtain ⟨i, hi, rfl⟩ := List.getElem_of_mem (List.mem_of_mem_take hx)
      have := (hr i hi).2
      simpa [hi] using this
    have h2 : (e.take k).length * 100 ≤ 100 * 100 := Nat.mul_le_mul_right _ (by rw [List.length_take]; omega)
    exact Nat.le_trans h1 h2
  refine enter (args := [vx]) (l := [.tmp 2]) Tryz.func188 rfl rfl Tryz.ntmps188 (by simp) ?_
  refine go ?_
  refine st_slice0 (by first | exact True.intro | exact ⟨_, rfl, by ((try simp only [ev_tmp, ev_const, ev_func, get_put, get_args, get_putL, get_putL_nil, Nat.reduceEqDiff, reduceIte, List.getD_cons_zero, List.getD_cons_succ, List.getD_nil, Bool.not_true, Bool.not_false]); first | done | with_reducible rfl)⟩) fun w0 v0 he0 hs0 ho0 => ?_
  refine go ?_
  refine r_for e.length (fun k ρ w' => ∃ vl, Has ρ [(0, vx), (3, vl), (4, .int .i64 k)] ∧ Ext w w' ∧ GrowI 2 w.heap.size w' vl (wordV (e.take k))) ?_ ?_
  · refine ⟨v0, ?_, he0, GrowI.start ho0 (Nat.le_refl _)⟩
    exact hasP
  clear ho0
  rintro k ρ w2 hk ⟨vl, hH, he2, hG2⟩
  refine rwp_has hH fun ρ0 => ?_
  refine go ?_
  refine c_if (fun h4 => ?_) (fun h4 => ?_)
  · have hkn : k < e.length := by omega
    have hrk := hr k hkn
    have hst := wordV_take hkn
    have hwk := hwl k
    refine go ?_
    refine r_for (e.getD k 0).toNat (fun j ρ w' => ∃ vl, Has ρ [(0, vx), (3, vl), (4, .int .i64 k), (5, .int .i64 j)] ∧ Ext w w' ∧ GrowI 2 w.heap.size w' vl (wordV (e.take k) ++ List.replicate j ((k : Int) + 1))) ?_ ?_
    · refine ⟨vl, ?_, he2, by simpa using hG2⟩
      exact hasP
    clear hG2 he2
    rintro j ρ w3 hj ⟨vl, hH3, he3, hG3⟩
    refine rwp_has hH3 fun ρ1 => ?_
    have hz3 := he3.size
    refine go ?_
    refine c_if (fun h5 => ?_) (fun h5 => ?_)
    · refine go ?_
      refine st_growi hG3 hz3 (by simp only [List.length_append, List.length_replicate]; omega) (next := fun v4 v5 w5 hG5 hx5 hz5 hgs5 => ?_)
      refine go ?_
      refine forQ_normal (by omega) ⟨v5, ?_, hx5 w he3 (Nat.le_refl _), ?_⟩
      · exact hasP
      · rw [← app_repl]; exact hG5
    · obtain rfl : j = (e.getD k 0).toNat := by omega
      rw [← hst] at hG3
      refine go ?_
      refine forQ_normal (by omega) ⟨vl, ?_, he3, hG3⟩
      exact hasP
  · obtain rfl : k = e.length := by omega
    rw [List.take_length] at hG2
    refine go ?_
    exact ret1 ⟨he2, hG2⟩
set_option maxHeartbeats 2000000 in
theorem l06Invert_ok {e : List Int} {w : World} {vx : Value} {lo hi : Nat} [hx : Ints lo hi w vx e] (hl : e.length ≤ 100000) (hr : ∀ i, i < e.length → -1000000 ≤ e.getD i 0 ∧ e.getD i 0 ≤ 1000000) :
    Calls Tryz.prog 187 #[vx] w (Ret fun v w' => Ext w w' ∧ GrowI 2 w.heap.size w' v (invW e)) := by
  refine enter (args := [vx]) (l := [.tmp 2]) Tryz.func187 rfl rfl Tryz.ntmps187 (by simp) ?_
  refine go ?_
  refine st_slice0 (by first | exact True.intro | exact ⟨_, rfl, by ((try simp only [ev_tmp, ev_const, ev_func, get_put, get_args, get_putL, get_putL_nil, Nat.reduceEqDiff, reduceIte, List.getD_cons_zero, List.getD_cons_succ, List.getD_nil, Bool.not_true, Bool.not_false]); first | done | with_reducible rfl)⟩) fun w0 v0 he0 hs0 ho0 => ?_
  refine go ?_
  refine r_for e.length (fun k ρ w' => ∃ vl, Has ρ [(0, vx), (3, vl), (4, .int .i64 ((e.length : Int) - 1 - k))] ∧ Ext w w' ∧ GrowI 2 w.heap.size w' vl (((e.map fun x => -x).reverse).take k)) ?_ ?_
  · refine ⟨v0, ?_, he0, GrowI.start ho0 (Nat.le_refl _)⟩
    exact hasP
  clear ho0
  rintro k ρ w2 hk ⟨vl, hH, he2, hG2⟩
  refine rwp_has hH fun ρ0 => ?_
  have hz2 := he2.size
  refine go ?_
  refine c_if (fun h4 => ?_) (fun h4 => ?_)
  · have hkn : k < e.length := by omega
    obtain ⟨i, hi⟩ : ∃ i, e.length - 1 - k = i := ⟨_, rfl⟩
    have hin : i < e.length := by omega
    have hcast : ((e.length : Int) - 1 - k) = (i : Int) := by omega
    have hri := hr i hin
    have hrl : ((e.map fun x => -x).reverse).length = e.length := by simp
    have hst : ((e.map fun x => -x).reverse).take (k + 1) = ((e.map fun x => -x).reverse).take k ++ [-(e.getD i 0)] := by
      rw [List.take_succ_eq_append_getElem (by omega)]
      congr 2
      rw [List.getElem_reverse, List.getElem_map]
      simp only [List.length_map]
      have e1 : e.getD i 0 = e[i] := by simp [hin]
      rw [e1]
      congr 1
      simp only [hi]
    rw [hcast]
    refine go ?_
    refine st_growi hG2 hz2 (by rw [List.length_take]; omega) (next := fun v4 v5 w5 hG5 hx5 hz5 hgs5 => ?_)
    refine go ?_
    refine forQ_normal (by omega) ⟨v5, ?_, hx5 w he2 (Nat.le_refl _), ?_⟩
    · exact hasP
    · rw [hst]; exact hG5
  · obtain rfl : k = e.length := by omega
    have e0 : ((e.map fun x => -x).reverse).take e.length = invW e := List.take_of_length_le (by simp)
    rw [e0] at hG2
    refine go ?_
    exact ret1 ⟨he2, hG2⟩
theorem ints_bd {e : List Int} {n : Nat} (hl : LetW n e) (hn : n ≤ 6) : ∀ i, i < e.length → -1000000 ≤ e.getD i 0 ∧ e.getD i 0 ≤ 1000000 := fun i hi => by
  have e1 : e.getD i 0 = e[i] := by simp [hi]
  have := hl _ (List.getElem_mem hi)
  omega
set_option maxHeartbeats 4000000 in
theorem l07Relators_ok {p : Pr} (hv : Valid p) {w : World} {vp : Value} {lo hi : Nat} [hp : Pres lo hi w vp p] :
    Calls Tryz.prog 160 #[vp] w (Ret fun v w' => Ext w w' ∧ ∃ rs, rs.map (·.2) = rels p ∧ GrowL 22 w.heap.size w' v rs) := by
  have hn6 := hv.n6
  have hol : p.ord.length = p.n := rfl
  have hwl := hv.lenw
  have hcl := hv.lenc
  replace hp := hp.wide
  obtain ⟨vo, vpw, vc, ps, cs, css, rfl, h1, h2, h3⟩ := hp.ex
  refine enter (args := [.agg #[vo, vpw, vc]]) (l := [.tmp 2]) Tryz.func160 rfl rfl Tryz.ntmps160 (by simp) ?_
  refine go ?_
  refine st_box3 (by ((try simp only [ev_tmp, ev_const, ev_func, get_put, get_args, get_putL, get_putL_nil, Nat.reduceEqDiff, reduceIte, List.getD_cons_zero, List.getD_cons_succ, List.getD_nil]); first | done | with_reducible rfl)) (by first | exact True.intro | exact ⟨_, rfl, by ((try simp only [ev_tmp, ev_const, ev_func, get_put, get_args, get_putL, get_putL_nil, Nat.reduceEqDiff, reduceIte, List.getD_cons_zero, List.getD_cons_succ, List.getD_nil, Bool.not_true, Bool.not_false]); first | done | with_reducible rfl)⟩) fun w1 b he1 hb1 hs1 hc0 hc1 hc2 => ?_
  have hz1 := he1.size
  refine go ?_
  refine st_slice0 (by first | exact True.intro | exact ⟨_, rfl, by ((try simp only [ev_tmp, ev_const, ev_func, get_put, get_args, get_putL, get_putL_nil, Nat.reduceEqDiff, reduceIte, List.getD_cons_zero, List.getD_cons_succ, List.getD_nil, Bool.not_true, Bool.not_false]); first | done | with_reducible rfl)⟩) fun w2 v2 he2 hs2 ho2 => ?_
  refine go ?_
  refine r_for p.n (fun i ρ w' => ∃ vl rs, Has ρ [(1, .pointer (some ⟨b, 0, none⟩)), (3, vl), (4, .int .i64 p.n), (5, .int .i64 i)] ∧ Ext w1 w' ∧ GrowL 22 w1.heap.size w' vl rs ∧ rs.map (·.2) = (List.range i).map (relP p)) ?_ ?_
  · refine ⟨v2, [], ?_, he2, GrowL.start ho2 (Nat.le_refl _), rfl⟩
    exact hasP
  clear ho2
  rintro i ρ w3 hi ⟨vl, rs, hH, he3, hG3, hrs3⟩
  refine rwp_has hH fun ρ0 => ?_
  have hz3 := he3.size
  have hE3 := he1.trans he3
  have hrl3 : rs.length = i := by have := congrArg List.length hrs3; simpa using this
  refine go ?_
  refine c_if (fun h4 => ?_) (fun h4 => ?_)
  · have hin : i < p.n := by omega
    have ho := hv.opos hin
    have hoi : p.ord.getD i 0 = p.o i := rfl
    refine go ?_
    refine st_slice0 (by first | exact True.intro | exact ⟨_, rfl, by ((try simp only [ev_tmp, ev_const, ev_func, get_put, get_args, get_putL, get_putL_nil, Nat.reduceEqDiff, reduceIte, List.getD_cons_zero, List.getD_cons_succ, List.getD_nil, Bool.not_true, Bool.not_false]); first | done | with_reducible rfl)⟩) fun w4 v4 he4 hs4 ho4 => ?_
    refine go ?_
    refine r_for (p.o i).toNat (fun k ρ w' => ∃ vw, Has ρ [(1, .pointer (some ⟨b, 0, none⟩)), (3, vl), (4, .int .i64 p.n), (5, .int .i64 i), (6, vw), (7, .int .i64 k)] ∧ Ext w3 w' ∧ GrowI 2 w3.heap.size w' vw (List.replicate k ((i : Int) + 1))) ?_ ?_
    · refine ⟨v4, ?_, he4, GrowI.start ho4 (Nat.le_refl _)⟩
      exact hasP
    clear ho4
    rintro k ρ w5 hk ⟨vw, hH5, he5, hG5⟩
    refine rwp_has hH5 fun ρ1 => ?_
    have hz5 := he5.size
    have hE5 := hE3.trans he5
    refine go ?_
    refine c_if (fun h6 => ?_) (fun h6 => ?_)
    · refine go ?_
      refine st_growi hG5 hz5 (by simp only [List.length_replicate]; omega) (next := fun v6 v7 w7 hG7 hx7 hz7 hgs7 => ?_)
      refine go ?_
      refine forQ_normal (by omega) ⟨v7, ?_, hx7 w3 he5 (Nat.le_refl _), ?_⟩
      · exact hasP
      · rw [List.replicate_succ']; exact hG7
    · obtain rfl : k = (p.o i).toNat := by omega
      have hiw := invec_word hv (hv.w_in i hin)
      have hpw : p.w i = p.pow.getD i [] := rfl
      rw [hpw] at hiw
      refine go ?_
      refine rc (l07Word_ok (e := p.pow.getD i []) (by omega) (fun j hj => by have := hiw.2.2 j hj; omega)) (next := fun v6 w6 h7 => ?_)
      obtain ⟨he6, hG6⟩ := h7
      have hi6 := hG6.fr.ints
      have hlw := letW_word hiw.1
      refine go ?_
      refine rc (l06Invert_ok (e := wordV (p.pow.getD i [])) (by omega) (ints_bd hlw hn6)) (next := fun v7 w7 h8 => ?_)
      obtain ⟨he7, hG7⟩ := h8
      have hG57 : GrowI 2 w3.heap.size w7 vw (List.replicate (p.o i).toNat ((i : Int) + 1)) := @GrowI.ext _ _ _ _ _ _ (he6.trans he7) hG5
      have hz7 := (he5.trans (he6.trans he7)).size
      refine go ?_
      refine st_appi hG57 hG7.fr.ints hz7 (by simp only [List.length_replicate, invW_len]; omega) (next := fun v8 w8 hG8 hx8 hz8 => ?_)
      have hx38 := hx8 w3 (he5.trans (he6.trans he7)) (Nat.le_refl _)
      refine go ?_
      refine st_grow hG3 hx38 hG8.fr hz3 (by omega) (next := fun v9 v10 w10 hG10 hx10 hz10 hgs10 => ?_)
      refine go ?_
      refine forQ_normal (by omega) ⟨v10, _, ?_, hx10 w1 (he3.trans hx38) (Nat.le_refl _), hG10, ?_⟩
      · exact hasP
      · rw [List.map_append, hrs3, List.range_succ, List.map_append]; rfl
  · obtain rfl : i = p.n := by omega
    have hrs0 : rs.map (·.2) = relL p 0 := by rw [hrs3]; simp [relL]
    have hrb : ∀ m, m ≤ p.n → (relL p m).length ≤ 100 := fun m hm => by
      have h := (rels_props hv).1
      have : (relL p m).length ≤ (rels p).length := by
        unfold rels relL
        simp only [List.length_append]
        have e : List.range p.n = List.range m ++ (List.range (p.n - m)).map (m + ·) := by
          rw [← List.range_add, show m + (p.n - m) = p.n by omega]
        rw [e, List.flatMap_append, List.length_append]
        simp only [List.length_append, List.length_map, List.length_range]
        omega
      omega
    clear hrs3
    refine go ?_
    refine r_for p.n (fun i ρ w' => ∃ vl rs, Has ρ [(1, .pointer (some ⟨b, 0, none⟩)), (3, vl), (4, .int .i64 p.n), (8, .int .i64 i)] ∧ Ext w1 w' ∧ GrowL 22 w1.heap.size w' vl rs ∧ rs.map (·.2) = relL p i) ?_ ?_
    · refine ⟨vl, rs, ?_, he3, hG3, hrs0⟩
      exact hasP
    clear hG3 he3 hrs0 hrl3 hz3 hE3
    rintro i ρ w3 hi ⟨vl, rs, hH3, he3, hG3, hrs3⟩
    refine rwp_has hH3 fun ρ1 => ?_
    have hz3 := he3.size
    have hE3 := he1.trans he3
    refine go ?_
    refine c_if (fun h5 => ?_) (fun h5 => ?_)
    · have hin : i < p.n := by omega
      refine go ?_
      refine r_for (p.n - 1 - i) (fun k ρ w' => ∃ vl rs, Has ρ [(1, .pointer (some ⟨b, 0, none⟩)), (3, vl), (4, .int .i64 p.n), (8, .int .i64 i), (9, .int .i64 ((i + 1 + k : Nat) : Int))] ∧ Ext w1 w' ∧ GrowL 22 w1.heap.size w' vl rs ∧ rs.map (·.2) = relL p i ++ relCs p i k) ?_ ?_
      · refine ⟨vl, rs, ?_, he3, hG3, by simpa [relCs] using hrs3⟩
        exact hasP
      clear hG3 he3 hrs3 hz3 hE3
      rintro k ρ w4 hk ⟨vl, rs, hH4, he4, hG4, hrs4⟩
      refine rwp_has hH4 fun ρ2 => ?_
      have hz4 := he4.size
      have hE4 := he1.trans he4
      have hrl4 : rs.length ≤ 1000 := by
        have h := congrArg List.length hrs4
        have h2 := hrb i (by omega)
        simp only [List.length_map, List.length_append, relCs, List.length_range] at h
        omega
      refine go ?_
      refine c_if (fun h6 => ?_) (fun h6 => ?_)
      · have hkn : k < p.n - 1 - i := by omega
        have hci := hv.lenci i hin
        refine go ?_
        refine st_slice3i (a := -(i : Int) - 1) (b := ((i + 1 + k : Nat) : Int) + 1) (c := (i : Int) + 1) (by ((try simp only [ev_tmp, ev_const, ev_func, get_put, get_args, get_putL, get_putL_nil, Nat.reduceEqDiff, reduceIte, List.getD_cons_zero, List.getD_cons_succ, List.getD_nil]); first | done | with_reducible rfl)) (by ((try simp only [ev_tmp, ev_const, ev_func, get_put, get_args, get_putL, get_putL_nil, Nat.reduceEqDiff, reduceIte, List.getD_cons_zero, List.getD_cons_succ, List.getD_nil]); first | done | with_reducible rfl)) (by ((try simp only [ev_tmp, ev_const, ev_func, get_put, get_args, get_putL, get_putL_nil, Nat.reduceEqDiff, reduceIte, List.getD_cons_zero, List.getD_cons_succ, List.getD_nil]); first | done | with_reducible rfl)) ?_ (by first | exact True.intro | exact ⟨_, rfl, by ((try simp only [ev_tmp, ev_const, ev_func, get_put, get_args, get_putL, get_putL_nil, Nat.reduceEqDiff, reduceIte, List.getD_cons_zero, List.getD_cons_succ, List.getD_nil, Bool.not_true, Bool.not_false]); first | done | with_reducible rfl)⟩) fun w5 v5 he5 hG5 => ?_
        · rfl
        have hiw := invec_word hv (hv.c_in i (i + 1 + k) (by omega) (by omega))
        have hw : p.c i (i + 1 + k) = (p.cnj.getD i []).getD k [] := by
          show (p.cnj.getD i []).getD (i + 1 + k - (i + 1)) [] = _
          rw [show i + 1 + k - (i + 1) = k by omega]
        rw [hw] at hiw
        have hixn : i + 1 + k - i - 1 = k := by omega
        refine go ?_
        rw [hixn]
        refine rc (l07Word_ok (e := (p.cnj.getD i []).getD k []) (by omega) (fun j hj => by have := hiw.2.2 j hj; omega)) (next := fun v6 w6 h7 => ?_)
        obtain ⟨he6, hG6⟩ := h7
        have hi6 := hG6.fr.ints
        have hlw := letW_word hiw.1
        refine go ?_
        refine rc (l06Invert_ok (e := wordV ((p.cnj.getD i []).getD k [])) (by omega) (ints_bd hlw hn6)) (next := fun v7 w7 h8 => ?_)
        obtain ⟨he7, hG7⟩ := h8
        have hG57 := @GrowI.ext _ _ _ _ _ _ (he6.trans he7) hG5
        have hz7 := (he5.trans (he6.trans he7)).size
        refine go ?_
        refine st_appi hG57 hG7.fr.ints hz7 (by simp only [List.length_cons, List.length_nil, invW_len]; omega) (next := fun v8 w8 hG8 hx8 hz8 => ?_)
        have hx48 := hx8 w4 (he5.trans (he6.trans he7)) (Nat.le_refl _)
        refine go ?_
        refine st_grow hG4 hx48 hG8.fr hz4 (by omega) (next := fun v9 v10 w10 hG10 hx10 hz10 hgs10 => ?_)
        refine go ?_
        refine forQ_normal (by omega) ⟨v10, _, ?_, hx10 w1 (he4.trans hx48) (Nat.le_refl _), hG10, ?_⟩
        · exact hasP
        · rw [List.map_append, hrs4, relCs_succ, List.append_assoc]; rfl
      · obtain rfl : k = p.n - 1 - i := by omega
        rw [← relL_succ] at hrs4
        refine go ?_
        refine forQ_normal (by omega) ⟨vl, rs, ?_, he4, hG4, hrs4⟩
        exact hasP
    · obtain rfl : i = p.n := by omega
      refine go ?_
      exact ret1 ⟨hE3, rs, hrs3, hG3.lower hz1 hE3.size⟩
end Go.Proofs.YtnphljflkpekmaaGreat

/-
  Walks: the reference's values of words, tests of homomorphisms (l10Eval, l10Elements, l16Relators, l16Apply).
  Conditions: stated at each theorem.
-/
namespace Go.Proofs.YtnphljflkpekmaaGreat
open Go Go.Pc
theorem letW_at {n : Nat} {w : List Int} (h : LetW n w) {k : Nat} (hk : k < w.length) : w.getD k 0 ≠ 0 ∧ -(n : Int) ≤ w.getD k 0 ∧ w.getD k 0 ≤ n := by
  have e1 : w.getD k 0 = w[k] := by simp [hk]
  rw [e1]
  exact h _ (List.getElem_mem hk)
set_option maxHeartbeats 2000000 in
theorem l10Eval_ok {q : Pr} [hc : ConAll q] {ys : List (El q)} {ws : List Int} (hw : LetW ys.length ws) (hwl : ws.length ≤ 100000) (hyl : ys.length ≤ 1000) {w : World} {vq vw vi : Value} {us : List Value} {xss : List (List Int)} {lo hi lo1 hi1 lo2 hi2 : Nat} [hp : Pres lo hi w vq q] [hx : Ints lo1 hi1 w vw ws] [hu : Pc.Rows lo2 hi2 w vi us xss] (hus : xss = vecs ys) :
    Calls Tryz.prog 162 #[vq, vw, vi] w (Ret fun v w' => Ext w w' ∧ Fr w.heap.size w' v (evalW ys ws).v) := by
  subst hus
  have hvl : (vecs ys).length = ys.length := by simp
  obtain ⟨vo, vpw, vc, ps, cs, css, rfl, h1, h2, h3⟩ := hp.ex
  refine enter (args := [.agg #[vo, vpw, vc], vw, vi]) (l := [.tmp 6]) Tryz.func162 rfl rfl Tryz.ntmps162 (by simp) ?_
  refine go ?_
  refine st_box3 (by ((try simp only [ev_tmp, ev_const, ev_func, get_put, get_args, get_putL, get_putL_nil, Nat.reduceEqDiff, reduceIte, List.getD_cons_zero, List.getD_cons_succ, List.getD_nil]); first | done | with_reducible rfl)) (by first | exact True.intro | exact ⟨_, rfl, by ((try simp only [ev_tmp, ev_const, ev_func, get_put, get_args, get_putL, get_putL_nil, Nat.reduceEqDiff, reduceIte, List.getD_cons_zero, List.getD_cons_succ, List.getD_nil, Bool.not_true, Bool.not_false]); first | done | with_reducible rfl)⟩) fun w1 b he1 hb1 hs1 hc0 hc1 hc2 => ?_
  have hz1 := he1.size
  refine go ?_
  refine rc (l10One_ok (p := q)) (next := fun v2 w2 h4 => ?_)
  obtain ⟨he2, hf2⟩ := h4
  refine go ?_
  refine r_for ws.length (fun k ρ w' => ∃ vr, Has ρ [(1, vw), (2, vi), (3, .pointer (some ⟨b, 0, none⟩)), (7, vr), (8, .int .i64 k)] ∧ Ext w1 w' ∧ Fr w1.heap.size w' vr (evalW ys (ws.take k)).v) ?_ ?_
  · refine ⟨v2, ?_, he2, hf2⟩
    exact hasP
  clear hf2
  rintro k ρ w3 hk ⟨vr, hH, he3, hf3⟩
  refine rwp_has hH fun ρ0 => ?_
  have hz3 := he3.size
  have hi3 := hf3.ints
  refine go ?_
  refine c_if (fun h4 => ?_) (fun h4 => ?_)
  · have hkn : k < ws.length := by omega
    have hlk := letW_at hw hkn
    have hst := evalW_take (ys := ys) hkn
    refine go ?_
    refine c_if (fun h5 => ?_) (fun h5 => ?_)
    · have hjn : ((ws.getD k 0).toNat - 1) < ys.length := by omega
      have hgj : (vecs ys).getD ((ws.getD k 0).toNat - 1) [] = (ys.getD ((ws.getD k 0).toNat - 1) 1).v := by rw [vecs_getD ys hjn, getD_one hjn]
      have hlv : letV ys (ws.getD k 0) = ys.getD ((ws.getD k 0).toNat - 1) 1 := by unfold letV; rw [if_pos (by omega), show (ws.getD k 0 - 1).toNat = (ws.getD k 0).toNat - 1 by omega]
      refine go ?_
      refine d_region fun w4 he4 _ => ?_
      refine dgo ?_
      refine dce (l08Mul_ok (p := q) (x := evalW ys (ws.take k)) (y := ys.getD ((ws.getD k 0).toNat - 1) 1) rfl hgj) (next := fun v6 w6 h6 => ?_)
      obtain ⟨he6, hf6⟩ := h6
      refine dgo ?_
      refine d_end (h := ?_)
      refine go ?_
      refine forQ_normal (by omega) ⟨v6, ?_, (he3.trans he4).trans he6, ?_⟩
      · exact hasP
      · rw [hst, hlv]
        exact hf6.mono (he3.trans he4).size
    · have hjn : ((-ws.getD k 0).toNat - 1) < ys.length := by omega
      have hgj : (vecs ys).getD ((-ws.getD k 0).toNat - 1) [] = (ys.getD ((-ws.getD k 0).toNat - 1) 1).v := by rw [vecs_getD ys hjn, getD_one hjn]
      have hlv : letV ys (ws.getD k 0) = (ys.getD ((-ws.getD k 0).toNat - 1) 1)⁻¹ := by unfold letV; rw [if_neg (by omega), show (-ws.getD k 0 - 1).toNat = (-ws.getD k 0).toNat - 1 by omega]
      refine go ?_
      refine d_region fun w4 he4 _ => ?_
      refine dgo ?_
      refine dce (l10Inv_ok (p := q) (x := ys.getD ((-ws.getD k 0).toNat - 1) 1) hgj) (next := fun v5 w5 h5 => ?_)
      obtain ⟨he5, hf5⟩ := h5
      refine dce (l08Mul_ok (p := q) (x := evalW ys (ws.take k)) (y := (ys.getD ((-ws.getD k 0).toNat - 1) 1)⁻¹) rfl rfl) (next := fun v6 w6 h6 => ?_)
      obtain ⟨he6, hf6⟩ := h6
      refine dgo ?_
      refine d_end (h := ?_)
      refine go ?_
      have hE := (he3.trans he4).trans he5
      refine forQ_normal (by omega) ⟨v6, ?_, hE.trans he6, ?_⟩
      · exact hasP
      · rw [hst, hlv]
        exact hf6.mono hE.size
  · obtain rfl : k = ws.length := by omega
    rw [List.take_length] at hf3
    refine go ?_
    exact ret1 ⟨he1.trans he3, hf3.mono hz1⟩
set_option maxHeartbeats 2000000 in
theorem l16Relators_ok {p q : Pr} (hvp : Valid p) [hc : ConAll q] {ys : List (El q)} (hyl : ys.length = p.n) {w : World} {vp vq vi : Value} {us : List Value} {xss : List (List Int)} {lo hi lo1 hi1 lo2 hi2 : Nat} [hp : Pres lo hi w vp p] [hq : Pres lo1 hi1 w vq q] [hu : Pc.Rows lo2 hi2 w vi us xss] (hus : xss = vecs ys) :
    Calls Tryz.prog 117 #[vp, vq, vi] w (Ret fun v w' => ∃ b, v = .bool b ∧ (b = true ↔ RelOk p ys) ∧ Ext w w') := by
  subst hus
  have hn6 := hvp.n6
  have hq6 := hc.valid.n6
  have hvl : (vecs ys).length = ys.length := by simp
  have hrp := rels_props hvp
  replace hp := hp.wide
  replace hq := hq.wide
  replace hu := hu.wide
  obtain ⟨vo, vpw, vc, ps, cs, css, rfl, h1, h2, h3⟩ := hp.ex
  obtain ⟨uo, upw, uc, qs, ds, dss, rfl, k1, k2, k3⟩ := hq.ex
  refine enter (args := [.agg #[vo, vpw, vc], .agg #[uo, upw, uc], vi]) (l := [.tmp 6]) Tryz.func117 rfl rfl Tryz.ntmps117 (by simp) ?_
  refine go ?_
  refine st_box3 (by ((try simp only [ev_tmp, ev_const, ev_func, get_put, get_args, get_putL, get_putL_nil, Nat.reduceEqDiff, reduceIte, List.getD_cons_zero, List.getD_cons_succ, List.getD_nil]); first | done | with_reducible rfl)) (by first | exact True.intro | exact ⟨_, rfl, by ((try simp only [ev_tmp, ev_const, ev_func, get_put, get_args, get_putL, get_putL_nil, Nat.reduceEqDiff, reduceIte, List.getD_cons_zero, List.getD_cons_succ, List.getD_nil, Bool.not_true, Bool.not_false]); first | done | with_reducible rfl)⟩) fun w0 b0 he0 hb0 hs0 ha0 ha1 ha2 => ?_
  refine go ?_
  refine st_box3 (by ((try simp only [ev_tmp, ev_const, ev_func, get_put, get_args, get_putL, get_putL_nil, Nat.reduceEqDiff, reduceIte, List.getD_cons_zero, List.getD_cons_succ, List.getD_nil]); first | done | with_reducible rfl)) (by first | exact True.intro | exact ⟨_, rfl, by ((try simp only [ev_tmp, ev_const, ev_func, get_put, get_args, get_putL, get_putL_nil, Nat.reduceEqDiff, reduceIte, List.getD_cons_zero, List.getD_cons_succ, List.getD_nil, Bool.not_true, Bool.not_false]); first | done | with_reducible rfl)⟩) fun w1 b he1 hb1 hs1 hc0 hc1 hc2 => ?_
  have hE1 := he0.trans he1
  refine go ?_
  refine rc (l07Relators_ok (p := p) hvp) (next := fun v2 w2 h4 => ?_)
  obtain ⟨he2, rs, hrs, hG2⟩ := h4
  have hR2 := hG2.rows
  rw [hrs] at hR2
  have hul2 := hR2.vals.len
  have hE2 := hE1.trans he2
  refine go ?_
  refine r_for (rels p).length (fun k ρ w' => Has ρ [(2, vi), (4, .pointer (some ⟨b, 0, none⟩)), (7, v2), (8, .int .i64 k)] ∧ Ext w2 w' ∧ ∀ j, j < k → evalW ys ((rels p).getD j []) = 1) ?_ ?_
  · refine ⟨?_, Ext.refl _, fun j hj => by omega⟩
    exact hasP
  rintro k ρ w3 hk ⟨hH, he3, hI⟩
  refine rwp_has hH fun ρ0 => ?_
  have hE3 := hE2.trans he3
  refine go ?_
  refine c_if (fun h4 => ?_) (fun h4 => ?_)
  · have hkn : k < (rels p).length := by omega
    have e1 : (rels p).getD k [] = (rels p)[k] := by simp [hkn]
    have hwk := hrp.2 _ (List.getElem_mem hkn)
    rw [← e1, ← hyl] at hwk
    have hel := (evalW ys ((rels p).getD k [])).inr.len
    refine go ?_
    refine d_region fun w4 he4 _ => ?_
    refine dgo ?_
    refine dce (l10Eval_ok (q := q) (ys := ys) (ws := (rels p).getD k []) hwk.2 (by omega) (by omega) rfl) (next := fun v5 w5 h5 => ?_)
    obtain ⟨he5, hf5⟩ := h5
    have hi5 := hf5.ints
    refine dce (l01Zero_ok (xs := (evalW ys ((rels p).getD k [])).v) (by omega)) (next := fun v6 w6 h6 => ?_)
    obtain ⟨b6, rfl, hb6, he6⟩ := h6
    rw [← el_one_iff] at hb6
    refine dgo ?_
    refine d_end (h := ?_)
    have hE6 := (he4.trans he5).trans he6
    refine go ?_
    refine c_b (fun h7 => ?_) (fun h7 => ?_)
    · refine go ?_
      refine ret1 ⟨false, rfl, ⟨fun h => (by cases h), fun h => ?_⟩, hE3.trans hE6⟩
      rw [hb6.2 (h k hkn)] at h7; cases h7
    · refine go ?_
      refine forQ_normal (by omega) ⟨?_, he3.trans hE6, fun j hj => ?_⟩
      · exact hasP
      · by_cases e : j = k
        · subst e; exact hb6.1 (by simpa using h7)
        · exact hI j (by omega)
  · refine go ?_
    exact ret1 ⟨true, rfl, ⟨fun _ j hj => hI j (by omega), fun _ => rfl⟩, hE3⟩
end Go.Proofs.YtnphljflkpekmaaGreat

/-
  Walks: the reference's IsAutomorphism, IsIsomorphism, ApplyAutomorphism, ComposeAutomorphisms.
  Conditions: stated at each theorem.
-/
namespace Go.Proofs.YtnphljflkpekmaaGreat
open Go Go.Pc
theorem inr_small {p : Pr} (hv : Valid p) {xs : List Int} (h : InR p xs) : ∀ i, i < xs.length → 0 ≤ xs.getD i 0 ∧ xs.getD i 0 ≤ 7 := fun i hi => by
  have h1 := h.rng i (by have := h.len; omega)
  have h2 := hv.opos (i := i) (by have := h.len; omega)
  omega
set_option maxHeartbeats 1000000 in
theorem l16Apply_ok {q : Pr} [hc : ConAll q] {ys : List (El q)} {x : List Int} (hyl : ys.length ≤ 1000) (hxl : x.length = ys.length) (hxr : ∀ i, i < x.length → 0 ≤ x.getD i 0 ∧ x.getD i 0 ≤ 7) {w : World} {vq vi vx : Value} {us : List Value} {xss : List (List Int)} {xs : List Int} {lo hi lo1 hi1 lo2 hi2 : Nat} [hp : Pres lo hi w vq q] [hu : Pc.Rows lo1 hi1 w vi us xss] [hx : Ints lo2 hi2 w vx xs] (hus : xss = vecs ys) (hxe : xs = x) :
    Calls Tryz.prog 74 #[vq, vi, vx] w (Ret fun v w' => Ext w w' ∧ Fr w.heap.size w' v (imgE ys x).v) := by
  subst hxe
  obtain ⟨vo, vpw, vc, ps, cs, css, rfl, h1, h2, h3⟩ := hp.ex
  refine enter (args := [.agg #[vo, vpw, vc], vi, vx]) (l := [.tmp 6]) Tryz.func74 rfl rfl Tryz.ntmps74 (by simp) ?_
  refine go ?_
  refine st_box3 (by ((try simp only [ev_tmp, ev_const, ev_func, get_put, get_args, get_putL, get_putL_nil, Nat.reduceEqDiff, reduceIte, List.getD_cons_zero, List.getD_cons_succ, List.getD_nil]); first | done | with_reducible rfl)) (by first | exact True.intro | exact ⟨_, rfl, by ((try simp only [ev_tmp, ev_const, ev_func, get_put, get_args, get_putL, get_putL_nil, Nat.reduceEqDiff, reduceIte, List.getD_cons_zero, List.getD_cons_succ, List.getD_nil, Bool.not_true, Bool.not_false]); first | done | with_reducible rfl)⟩) fun w1 b he1 hb1 hs1 hc0 hc1 hc2 => ?_
  refine go ?_
  refine rc (l12Product_ok (p := q) (ys := ys) (as_ := xs) hyl hus hxl (fun i hi => by have := hxr i (by omega); omega)) (next := fun v2 w2 h4 => ?_)
  obtain ⟨he2, hf2⟩ := h4
  refine go ?_
  exact ret1 ⟨he1.trans he2, hf2.mono he1.size⟩
end Go.Proofs.YtnphljflkpekmaaGreat

/-
  Walks: the reference's IsHom, ApplyHom.
  Conditions: stated at each theorem.
-/
namespace Go.Proofs.YtnphljflkpekmaaGreat
open Go Go.Pc
set_option maxHeartbeats 2000000 in
theorem spec_IsHom_ok {p q : Pr} {w : World} {v : Value} {xss : List (List Int)} {lo hi : Nat} [hh : HomV lo hi w v p q xss] (hl : p.ord.length ≤ 2000000) (hlq : q.ord.length ≤ 2000000) (hxl : xss.length ≤ 2000000) :
    Calls Tryz.prog 72 #[v] w (Ret fun v w' => ∃ b, v = .bool b ∧ (b = true ↔ HomP p q xss) ∧ Ext w w') := by
  have hol : p.ord.length = p.n := rfl
  replace hh := hh.wide
  obtain ⟨a0, a1, a2, a3, a4, a5, a6, us, rfl, hp, hq, hx⟩ := hh.ex
  obtain ⟨ho, _⟩ := hp.ints3
  refine enter (args := [.agg #[a0, a1, a2, a3, a4, a5, a6]]) (l := [.tmp 2]) Tryz.func72 rfl rfl Tryz.ntmps72 (by simp) ?_
  refine go ?_
  refine st_box (vs := [a0, a1, a2, a3, a4, a5, a6]) (by ((try simp only [ev_tmp, ev_const, ev_func, get_put, get_args, get_putL, get_putL_nil, Nat.reduceEqDiff, reduceIte, List.getD_cons_zero, List.getD_cons_succ, List.getD_nil]); first | done | with_reducible rfl)) (by first | exact True.intro | exact ⟨_, rfl, by ((try simp only [ev_tmp, ev_const, ev_func, get_put, get_args, get_putL, get_putL_nil, Nat.reduceEqDiff, reduceIte, List.getD_cons_zero, List.getD_cons_succ, List.getD_nil, Bool.not_true, Bool.not_false]); first | done | with_reducible rfl)⟩) fun w1 b he1 hb1 hs1 hbk => ?_
  obtain ⟨c0, c1, c2, c3, c4, c5, c6⟩ := hbk.cells7
  refine go ?_
  refine rc (l08Group_ok (p := p) hl) (next := fun v5 w5 h5 => ?_)
  obtain ⟨b5, rfl, hb5, he5⟩ := h5
  have hE5 := he1.trans he5
  refine ra (next := ?_)
  refine ra (next := ?_)
  refine sp (fun e5 => ?_) (fun e5 => ?_)
  · have e5' : b5 = false := by simpa using e5
    refine go ?_
    refine ret1 ⟨false, rfl, ⟨fun h => (by cases h), fun h => ?_⟩, hE5⟩
    rw [hb5.2 h.1] at e5'; cases e5'
  have hG := hb5.1 (by simpa using e5)
  refine go ?_
  refine rc (l08Group_ok (p := q) hlq) (next := fun v6 w6 h6 => ?_)
  obtain ⟨b6, rfl, hb6, he6⟩ := h6
  have hE6 := hE5.trans he6
  refine ra (next := ?_)
  refine ra (next := ?_)
  refine ra (next := ?_)
  refine sp (fun e6 => ?_) (fun e6 => ?_)
  · have e6' : b6 = false := by simpa using e6
    refine go ?_
    refine ret1 ⟨false, rfl, ⟨fun h => (by cases h), fun h => ?_⟩, hE6⟩
    obtain ⟨_, _, hq', _⟩ := h
    rw [hb6.2 hq'] at e6'; cases e6'
  have hGq := hb6.1 (by simpa using e6)
  haveI : ConAll q := ⟨hGq.con⟩
  have hvq := hGq.valid
  have hn6 := hG.valid.n6
  have hq6 := hvq.n6
  refine go ?_
  refine c_if (fun h7 => ?_) (fun h7 => ?_)
  · refine go ?_
    refine ret1 ⟨false, rfl, ⟨fun h => (by cases h), fun h => ?_⟩, hE6⟩
    have := h.2.1
    exact absurd (by omega) h7
  have hlen : xss.length = p.n := by
    have h8 := Decidable.not_not.1 h7
    omega
  refine go ?_
  refine rc (l10Elements_ok (p := q) (xss := xss) hvq (by omega)) (next := fun v8 w8 h8 => ?_)
  obtain ⟨b8, rfl, hb8, he8⟩ := h8
  have hE8 := hE6.trans he8
  refine ra (next := ?_)
  refine sp (fun e8 => ?_) (fun e8 => ?_)
  · subst e8
    have hI := hb8.1 rfl
    obtain ⟨ys, hys⟩ := els_inR hI
    have hyl : ys.length = p.n := by rw [← hlen, hys]; simp
    refine go ?_
    refine rc (l16Relators_ok (p := p) (q := q) hG.valid (ys := ys) hyl hys) (next := fun v13 w13 h13 => ?_)
    obtain ⟨b13, rfl, hb13, he13⟩ := h13
    refine go ?_
    refine ret1 ⟨b13, rfl, ?_, hE8.trans he13⟩
    rw [hb13]
    constructor
    · exact fun h => ⟨hG, hlen, hGq, hI, ys, hys, h⟩
    · rintro ⟨_, _, _, _, hr⟩
      rw [hys, relC_iff] at hr
      exact hr
  · subst e8
    refine go ?_
    refine ret1 ⟨false, rfl, ⟨fun h => (by cases h), fun h => ?_⟩, hE8⟩
    obtain ⟨_, _, _, hI, _⟩ := h
    have := hb8.2 hI
    cases this
end Go.Proofs.YtnphljflkpekmaaGreat

/-
  Walks: the reference's HomImage, SubgroupImage.
  Conditions: stated at each theorem.
-/
namespace Go.Proofs.YtnphljflkpekmaaGreat
open Go Go.Pc
set_option maxHeartbeats 2000000 in
theorem spec_HomImage_ok {p q : Pr} {w : World} {vh : Value} {xss : List (List Int)} {lo hi : Nat} [hh : HomV lo hi w vh p q xss] (hl : p.ord.length ≤ 2000000) (hlq : q.ord.length ≤ 2000000) (hxl : xss.length ≤ 2000000) :
    Calls Tryz.prog 35 #[vh] w (Ret fun v w' => ∃ (u : Value) (k : List (List Int)) (e : Int), v = .tuple #[u, .int .i64 e] ∧ Ans (HomP p q xss) (HiV q xss) [] k e ∧ Ext w w' ∧ ∃ us', Pc.Rows w.heap.size w'.heap.size w' u us' k) := by
  have hol : p.ord.length = p.n := rfl
  replace hh := hh.wide
  obtain ⟨a0, a1, a2, a3, a4, a5, a6, us, rfl, hp, hq, hi⟩ := hh.ex
  refine enter (args := [.agg #[a0, a1, a2, a3, a4, a5, a6]]) (l := [.tmp 2, .tmp 3]) Tryz.func35 rfl rfl Tryz.ntmps35 (by simp) ?_
  refine go ?_
  refine st_box (vs := [a0, a1, a2, a3, a4, a5, a6]) (by ((try simp only [ev_tmp, ev_const, ev_func, get_put, get_args, get_putL, get_putL_nil, Nat.reduceEqDiff, reduceIte, List.getD_cons_zero, List.getD_cons_succ, List.getD_nil]); first | done | with_reducible rfl)) (by first | exact True.intro | exact ⟨_, rfl, by ((try simp only [ev_tmp, ev_const, ev_func, get_put, get_args, get_putL, get_putL_nil, Nat.reduceEqDiff, reduceIte, List.getD_cons_zero, List.getD_cons_succ, List.getD_nil, Bool.not_true, Bool.not_false]); first | done | with_reducible rfl)⟩) fun w1 b he1 hb1 hs1 hbk => ?_
  obtain ⟨c0, c1, c2, c3, c4, c5, c6⟩ := hbk.cells7
  refine go ?_
  refine rc (spec_IsHom_ok (p := p) (q := q) (xss := xss) hl hlq hxl) (next := fun v5 w5 h5 => ?_)
  obtain ⟨b5, rfl, hb5, he5⟩ := h5
  have hE5 := he1.trans he5
  refine go ?_
  refine c_b (fun e5 => ?_) (fun e5 => ?_)
  · refine go ?_
    refine ret2 ⟨nilv, [], 1, rfl, .inr ⟨fun h => ?_, rfl, rfl⟩, hE5, [], Rows.nilR _ _ _⟩
    rw [hb5.2 h] at e5; cases e5
  have hA := hb5.1 (by simpa using e5)
  have hA' := hA
  obtain ⟨hG, hlen, hGq, hI, _⟩ := hA'
  haveI : ConAll q := ⟨hGq.con⟩
  have hn6 := hG.valid.n6
  obtain ⟨ys, hys⟩ := els_inR hI
  have hyl : ys.length = p.n := by rw [← hlen, hys]; simp
  refine go ?_
  refine rc (l12Close_ok (p := q) (ys := ys) hys (by omega)) (next := fun v7 w7 h7 => ?_)
  obtain ⟨he7, us7, hL7⟩ := h7
  refine go ?_
  exact ret2 ⟨v7, _, 0, rfl, .inl ⟨hA, ⟨inferInstance, ys, hys, rfl⟩, rfl⟩, hE5.trans he7, us7, hL7.newRows.mono hE5.size (Nat.le_refl _)⟩
set_option maxHeartbeats 4000000 in
theorem spec_SubgroupImage_ok {p q : Pr} {w : World} {vh vu : Value} {ut : List Value} {xss uss : List (List Int)} {lo hi lo2 hi2 : Nat} [hh : HomV lo hi w vh p q xss] [hu : Pc.Rows lo2 hi2 w vu ut uss] (hl : p.ord.length ≤ 2000000) (hlq : q.ord.length ≤ 2000000) (hxl : xss.length ≤ 2000000) :
    Calls Tryz.prog 50 #[vh, vu] w (Ret fun v w' => ∃ (u : Value) (k : List (List Int)) (e : Int), v = .tuple #[u, .int .i64 e] ∧ Ans (HomP p q xss ∧ IsSubP p uss) (SiV p q xss uss) [] k e ∧ Ext w w' ∧ ∃ us', Pc.Rows w.heap.size w'.heap.size w' u us' k) := by
  have hol : p.ord.length = p.n := rfl
  replace hh := hh.wide
  replace hu := hu.wide
  obtain ⟨a0, a1, a2, a3, a4, a5, a6, us, rfl, hp, hq, hi⟩ := hh.ex
  refine enter (args := [.agg #[a0, a1, a2, a3, a4, a5, a6], vu]) (l := [.tmp 4, .tmp 5]) Tryz.func50 rfl rfl Tryz.ntmps50 (by simp) ?_
  refine go ?_
  refine st_box (vs := [a0, a1, a2, a3, a4, a5, a6]) (by ((try simp only [ev_tmp, ev_const, ev_func, get_put, get_args, get_putL, get_putL_nil, Nat.reduceEqDiff, reduceIte, List.getD_cons_zero, List.getD_cons_succ, List.getD_nil]); first | done | with_reducible rfl)) (by first | exact True.intro | exact ⟨_, rfl, by ((try simp only [ev_tmp, ev_const, ev_func, get_put, get_args, get_putL, get_putL_nil, Nat.reduceEqDiff, reduceIte, List.getD_cons_zero, List.getD_cons_succ, List.getD_nil, Bool.not_true, Bool.not_false]); first | done | with_reducible rfl)⟩) fun w1 b he1 hb1 hs1 hbk => ?_
  obtain ⟨c0, c1, c2, c3, c4, c5, c6⟩ := hbk.cells7
  refine go ?_
  refine rc (spec_IsHom_ok (p := p) (q := q) (xss := xss) hl hlq hxl) (next := fun v5 w5 h5 => ?_)
  obtain ⟨b5, rfl, hb5, he5⟩ := h5
  have hE5 := he1.trans he5
  refine ra (next := ?_)
  refine ra (next := ?_)
  refine sp (fun e5 => ?_) (fun e5 => ?_)
  · have e5' : b5 = false := by simpa using e5
    refine go ?_
    refine ret2 ⟨nilv, [], 1, rfl, .inr ⟨fun h => ?_, rfl, rfl⟩, hE5, [], Rows.nilR _ _ _⟩
    rw [hb5.2 h.1] at e5'; cases e5'
  have hA := hb5.1 (by simpa using e5)
  have hA' := hA
  obtain ⟨hG, hlen, hGq, hI, _⟩ := hA'
  haveI : ConAll p := ⟨hG.con⟩
  haveI : ConAll q := ⟨hGq.con⟩
  have hv := hG.valid
  have hn6 := hv.n6
  obtain ⟨ys, hys⟩ := els_inR hI
  have hyl : ys.length = p.n := by rw [← hlen, hys]; simp
  refine go ?_
  refine rc (l12Is_ok (p := p) (xss := uss)) (next := fun v6 w6 h6 => ?_)
  obtain ⟨b6, rfl, hb6, he6⟩ := h6
  have hE6 := hE5.trans he6
  refine go ?_
  refine c_b (fun e6 => ?_) (fun e6 => ?_)
  · refine go ?_
    refine ret2 ⟨nilv, [], 1, rfl, .inr ⟨fun h => ?_, rfl, rfl⟩, hE6, [], Rows.nilR _ _ _⟩
    obtain ⟨_, _, hs⟩ := h
    rw [hb6.2 hs] at e6; cases e6
  have hS := hb6.1 (by simpa using e6)
  obtain ⟨zs, hzs, hsz⟩ := isSeq_iff.1 hS
  have hzl := hsz.len
  have hul : uss.length = zs.length := by rw [hzs]; simp
  refine go ?_
  refine st_slice0 (by first | exact True.intro | exact ⟨_, rfl, by ((try simp only [ev_tmp, ev_const, ev_func, get_put, get_args, get_putL, get_putL_nil, Nat.reduceEqDiff, reduceIte, List.getD_cons_zero, List.getD_cons_succ, List.getD_nil, Bool.not_true, Bool.not_false]); first | done | with_reducible rfl)⟩) fun w7 v7 he7 hs7 ho7 => ?_
  have hE7 := hE6.trans he7
  refine go ?_
  refine r_for zs.length (fun i ρ w' => ∃ vl rs, Has ρ [(1, vu), (2, .pointer (some ⟨b, 0, none⟩)), (6, vl), (7, .int .i64 i)] ∧ Ext w6 w' ∧ GrowL 22 w6.heap.size w' vl rs ∧ rs.map (·.2) = vecs ((zs.take i).map fun z => imgE ys z.v)) ?_ ?_
  · refine ⟨v7, [], ?_, he7, GrowL.start ho7 (Nat.le_refl _), rfl⟩
    exact hasP
  clear ho7
  rintro i ρ w3 hi ⟨vl, rs, hH, he3, hG3, hrs3⟩
  refine rwp_has hH fun ρ0 => ?_
  have hz3 := he3.size
  have hE3 := hE6.trans he3
  have hrl : rs.length = i := by have := congrArg List.length hrs3; simp at this; omega
  refine go ?_
  refine c_if (fun h4 => ?_) (fun h4 => ?_)
  · have hin : i < zs.length := by omega
    have hgi : uss.getD i [] = (zs[i]).v := by rw [hzs]; exact vecs_getD zs hin
    have hiz := (zs[i]).inr
    have hil := hiz.len
    obtain ⟨b', hb', hvb'⟩ := own_some' vl w6.heap.size w3.heap.size hz3 (fun g h => (hG3.lst.lt h).1)
    have hz5 := he5.size
    have hz6 := he6.size
    have ap1 : Apart 0 w.heap.size b' := ⟨.inr (by omega)⟩
    have ap2 : Apart b (b + 1) b' := ⟨.inr (by omega)⟩
    refine go ?_
    refine z_order b' (List.range 13) (h := fun w4 he4 _ => ?_)
    refine zgo ?_
    refine zc (l16Apply_ok (q := q) (ys := ys) (x := (zs[i]).v) (by omega) (by omega) (inr_small hv hiz) hys hgi) (next := fun v5 w5 h6 => ?_)
    obtain ⟨he5', hf5⟩ := h6
    refine z_grow (hG3.ext he4) he5' hf5 (by have := he4.size; omega) (by omega) hvb' (next := fun v6 v7 w7 hG7 hx7 hz7 hgs7 => ?_)
    refine zgo ?_
    refine z_end ?_
    refine go ?_
    refine forQ_normal (by omega) ⟨v7, _, ?_, hx7 w6 ((he3.trans he4).trans he5') (Nat.le_refl _), hG7, ?_⟩
    · exact hasP
    · rw [List.take_succ_eq_append_getElem hin]
      simp only [List.map_append, List.map_cons, List.map_nil, hrs3, vecs]
  · obtain rfl : i = zs.length := by omega
    rw [List.take_length] at hrs3
    have hR := hG3.rows
    rw [hrs3] at hR
    refine go ?_
    refine rc (l12Close_ok (p := q) (ys := zs.map fun z => imgE ys z.v) rfl (by rw [List.length_map]; omega)) (next := fun v8 w8 h8 => ?_)
    obtain ⟨he8, us8, hL8⟩ := h8
    refine go ?_
    exact ret2 ⟨v8, _, 0, rfl, .inl ⟨⟨hA, hG, hS⟩, ⟨inferInstance, inferInstance, ys, zs, hys, hzs, rfl⟩, rfl⟩, hE3.trans he8, us8, hL8.newRows.mono hE3.size (Nat.le_refl _)⟩
end Go.Proofs.YtnphljflkpekmaaGreat

/-
  Drawn regions in which two operations may come up: both orders; reads at their place.
  Conditions: none; nothing of the program stands here.
-/
namespace Go.Pc
open Go Go.RowKit
section
variable {P : Program} {N : Nat} {ops : Array Oper} {π π' : List Nat} {S : World → Prop} {K : Env → World → Prop} {ρ : Env} {w : World}
variable {i : Nat} {d : Nat} {op : Op} {ty : TypeId} {pos : String} {after : Array Edge} {g : Option (Nat × Bool)}
/-- One operation at place i has been carried out. -/
def dstp (P : Program) (N : Nat) (ops : Array Oper) (π : List Nat) (S : World → Prop) (K : Env → World → Prop) (i : Nat) (ρ : Env) (w : World) : Prop :=
  S w → ∀ a, Ok N a ρ → Closed ops (listedTo ops.size (π.take (i + 1))) → wpOp P ops (liftQ N (onK K)) (π.getD i 0) (fun a' w' => (lastOf ops π ≠ some (π.getD i 0) → S w') ∧ wpAnyL P ops (liftQ N (onK K)) S (lastOf ops π) (π.length - (i + 1)) (listedTo ops.size (π.take (i + 1))) a' w') a w
theorem dstp_step {o : Oper} (hi : opAt ops π i = some o) (hg : Wants ops ρ o.guard)
    (h : S w → ∀ a, Ok N a ρ → o.wp P a w (fun a' w' => S w' ∧ ∃ ρ', Ok N a' ρ' ∧ (S w' → dops P N ops π S K (i + 1) ρ' w')) (liftQ N (onK K))) : dstp P N ops π S K i ρ w := by
  intro hS a ha hcl
  obtain ⟨hlt, hi⟩ := opAt_some hi
  unfold wpOp
  simp only [hi, Wants.wanted ha hg, if_true]
  refine .inl (Oper.wp_mono ?_ (h hS a ha))
  rintro a' w' ⟨hS', ρ', hok, hnx⟩
  have h5 := hnx hS'
  unfold dops at h5
  exact ⟨fun _ => hS', h5 hS' _ hok hcl⟩
theorem dstp_ex {v : Value} {w' : World} (hi : opAt ops π i = some ⟨some d, op, ty, pos, after, g⟩) (hd : d < N) (hg : Wants ops ρ g) (h : Ex P op ty ρ w v w') (hS' : S w → S w')
    (next : dops P N ops π S K (i + 1) (put ρ d v) w') : dstp P N ops π S K i ρ w := by
  refine dstp_step hi hg fun hS a ha => ?_
  unfold Oper.wp
  rw [ha.eval, h.run]
  exact ⟨hS' hS, _, ha.put hd v, fun _ => next⟩
theorem dt_fork (hl : i < π.length) (hl' : π'.length = π.length) (ht : listedTo ops.size (π'.take i) = listedTo ops.size (π.take i)) (hr : (Region.ready .any ops (listedTo ops.size (π.take i)) == [π.getD i 0, π'.getD i 0]) = true)
    (h1 : dstp P N ops π S K i ρ w) (h2 : dstp P N ops π' S K i ρ w) (hll : lastOf ops π' = lastOf ops π := by decide +kernel) : dops P N ops π S K i ρ w := by
  unfold dops
  intro hS a ha hcl
  have hnn : π.length - i = (π.length - (i + 1)) + 1 := by omega
  rw [hnn]
  refine wpAnyL_all (rs := [π.getD i 0, π'.getD i 0]) (by simpa only [beq_iff_eq] using hr) (by simp) ?_
  have hr' : Region.ready .any ops (listedTo ops.size (π.take i)) = [π.getD i 0, π'.getD i 0] := by simpa only [beq_iff_eq] using hr
  intro j hj
  have hcl' := hcl.step (j := j) (by rw [hr']; exact hj)
  rcases List.mem_cons.1 hj with rfl | hj
  · rw [listed_next _ _ _ hl] at hcl' ⊢
    exact h1 hS a ha hcl'
  · obtain rfl := List.mem_singleton.1 hj
    rw [← ht, listed_next _ _ _ (by omega)] at hcl'
    rw [← ht, listed_next _ _ _ (by omega), ← hl', ← hll]
    exact h2 hS a ha hcl'
end
end Go.Pc

/-
  The builtin copy into a list of the call's own; operations on literal words.
  Conditions: none; nothing of the program stands here.
-/
namespace Go.Pc
open Go Go.RowKit
section
variable {P : Program} {N : Nat} {ops : Array Oper} {π : List Nat} {K : Env → World → Prop} {ρ : Env} {w w0 : World} {l : List Oper}
variable {i : Nat} {ty : TypeId} {pos : String} {after : Array Edge} {g : Option (Nat × Bool)} {d : Nat}
theorem rd_bin {o : BinOp} {x y : Operand} {a b v : Value} {tx tyy : TypeId} (hx : ev ρ x = a) (hy : ev ρ y = b) (ho : ∀ w, (eqGuard o tx x y a b).run P w = .ok () w) (hv : ∀ w, (binOp o tx a b).run P w = .ok v w) : Rd P (.binOp o tx x y tyy) ty ρ w v := by
  constructor; intro _ _ _ _
  simp [execOp, hx, hy, hv, ho]
theorem rd_conv {x : Operand} {n m : Int} {k k' : IntKind} {src dst : TypeId} {u : TypeDesc} (hx : ev ρ x = .int k n) (hs : P.underlying src = some u) (hd : P.underlying dst = some (.int k')) (hv : k'.wrap n = m) : Rd P (.convert src dst x) ty ρ w (.int k' m) := by
  constructor; intro _ _ _ _
  simp [execOp, hx, convert, run_underlying hs, run_underlying hd, Conv.intToInt, hv]
theorem splice_take {α : Type} (L us cs : List α) {n o : Nat} (h : L.take n = us) (hn : us.length = n) (hf : o + cs.length ≤ n) : (L.take o ++ cs ++ L.drop (o + cs.length)).take n = us.take o ++ cs ++ us.drop (o + cs.length) := by
  obtain ⟨r, rfl⟩ : ∃ r, L = us ++ r := ⟨L.drop n, by rw [← h, List.take_append_drop]⟩
  have e1 : (us ++ r).take o = us.take o := List.take_append_of_le_length (by omega)
  have e2 : (us ++ r).drop (o + cs.length) = us.drop (o + cs.length) ++ r := List.drop_append_of_le_length (by omega)
  rw [e1, e2, ← List.append_assoc]
  refine List.take_left' ?_
  simp only [List.length_append, List.length_take, List.length_drop]
  omega
theorem run_copyI {t e b bytes n dl dc sl sc : Nat} {x y : Operand} {z v : Value} {a : Addr} {xs cs : List Int} [ht : SlT P t e] [he : ElT P e 1 bytes z] (ho : OwnI e b w v xs) (hx : ev ρ x = .slice (some ⟨b, n, none⟩) dl dc) (hy : ev ρ y = .slice (some a) sl sc)
    (hn : cs.length = Nat.min sl dl) (hsrc : ∀ (j : Nat) (u : Int), cs[j]? = some u → w.cell? (a.add j) = some (.int .i64 u)) (hf : n + cs.length ≤ xs.length) :
    ∃ w', Ex P (.call { callee := .builtin .copy, args := #[x, y], argTypes := #[t, t] }) ty ρ w (.int .i64 cs.length) w' ∧ Chg b w w' ∧ w'.heap.size = w.heap.size ∧ OwnI e b w' v (xs.take n ++ cs ++ xs.drop (n + cs.length)) := by
  obtain ⟨cap, cur, hv, hb, h1, h2, h3, h4⟩ := ho.own.ex
  obtain ⟨i, hi, hs, hby, hz'⟩ := he.ex
  have hml : (cs.map (Value.int .i64)).length = cs.length := by simp
  have hxl : (xs.map (Value.int .i64)).length = xs.length := by simp
  have hrun := run_copy_row (P := P) w t t ty e b n dl dc a sl sc cur e (cs.map (Value.int .i64)) ht.eq (by simp [hi, hs]) hb (by rw [hml]; exact hn) (fun j u hu => by
    rw [List.getElem?_map] at hu
    cases hj : cs[j]? with
    | none => rw [hj] at hu; cases hu
    | some k => rw [hj] at hu; injection hu with hu; rw [← hu]; exact hsrc j k hj) (by rw [hml]; omega) (fun u hu => by
    obtain ⟨k, _, rfl⟩ := List.mem_map.1 hu
    rfl)
  refine ⟨w.setRow b (cur.toList.take n ++ cs.map (Value.int .i64) ++ cur.toList.drop (n + (cs.map (Value.int .i64)).length)).toArray, ⟨fun _ _ _ _ => ?_⟩, ⟨⟨rfl, rfl, rfl, ?_, fun k hk hne => setRow_other w b k _ (fun e => hne (by simp [e]))⟩⟩, ?_, ⟨⟨cap, _, ?_, setRow_heap w b _ _ e _ hb, ?_, h2, ?_, ?_⟩⟩⟩
  · simp [execOp, resolve, invoke, builtin, hx, hy, hrun, goInt]
  · simp
  · simp
  · rw [hv]
    simp only [List.length_map, List.length_append, List.length_take, List.length_drop]
    congr 1
    omega
  · simp only [List.length_map, List.length_append, List.length_take, List.length_drop]
    omega
  · have : cur.toList.length = cap := by simpa using h3
    simp only [List.size_toArray, List.length_append, List.length_take, List.length_drop, hml]
    omega
  · rw [List.toList_toArray]
    have e1 : ((xs.take n ++ cs ++ xs.drop (n + cs.length)).map (Value.int .i64)).length = (xs.map (Value.int .i64)).length := by
      simp only [List.length_map, List.length_append, List.length_take, List.length_drop]; omega
    rw [e1, splice_take cur.toList (xs.map (Value.int .i64)) (cs.map (Value.int .i64)) h4 rfl (by rw [hml, hxl]; exact hf)]
    simp only [List.map_append, List.map_take, List.map_drop, hml]
theorem st_copyi {t e b bytes n dl dc sl sc : Nat} {x y : Operand} {z v : Value} {a : Addr} {xs cs : List Int} [ht : SlT P t e] [he : ElT P e 1 bytes z] (ho : OwnI e b w v xs) (hx : ev ρ x = .slice (some ⟨b, n, none⟩) dl dc) (hy : ev ρ y = .slice (some a) sl sc)
    (hn : cs.length = Nat.min sl dl) (hsrc : ∀ (j : Nat) (u : Int), cs[j]? = some u → w.cell? (a.add j) = some (.int .i64 u)) (hf : n + cs.length ≤ xs.length)
    (next : ∀ w', Chg b w w' → OwnI e b w' v (xs.take n ++ cs ++ xs.drop (n + cs.length)) → rops P N ops K l (put ρ d (.int .i64 cs.length)) w') (hg : Wants ops ρ g := by first | exact True.intro | exact ⟨_, rfl, by ((try simp only [ev_tmp, ev_const, ev_func, get_put, get_args, get_putL, get_putL_nil, Nat.reduceEqDiff, reduceIte, List.getD_cons_zero, List.getD_cons_succ, List.getD_nil, Bool.not_true, Bool.not_false]); first | done | with_reducible rfl)⟩) :
    rops P N ops K (⟨some d, .call { callee := .builtin .copy, args := #[x, y], argTypes := #[t, t] }, ty, pos, after, g⟩ :: l) ρ w := by
  obtain ⟨w', h1, h2, h3, h4⟩ := run_copyI (P := P) (ρ := ρ) (ty := ty) (t := t) ho hx hy hn hsrc hf
  exact st_ex hg h1 (next w' h2 h4)
theorem z_copyi {t e b bytes n dl dc sl sc : Nat} {x y : Operand} {z v : Value} {a : Addr} {xs cs : List Int} [ht : SlT P t e] [he : ElT P e 1 bytes z] (ho : OwnI e b w v xs) (hi : opAt ops π i = some ⟨some d, .call { callee := .builtin .copy, args := #[x, y], argTypes := #[t, t] }, ty, pos, after, g⟩ := by exact rfl) (hx : ev ρ x = .slice (some ⟨b, n, none⟩) dl dc) (hy : ev ρ y = .slice (some a) sl sc)
    (hn : cs.length = Nat.min sl dl) (hsrc : ∀ (j : Nat) (u : Int), cs[j]? = some u → w.cell? (a.add j) = some (.int .i64 u)) (hf : n + cs.length ≤ xs.length)
    (next : ∀ w', Chg b w w' → OwnI e b w' v (xs.take n ++ cs ++ xs.drop (n + cs.length)) → dops P N ops π (Chg b w0) K (i + 1) (put ρ d (.int .i64 cs.length)) w')
    (hn1 : nextOk ops π i = true := by decide +kernel) (hd : d < N := by decide) (hg : Wants ops ρ g := by first | exact True.intro | exact ⟨_, rfl, by ((try simp only [ev_tmp, ev_const, ev_func, get_put, get_args, get_putL, get_putL_nil, Nat.reduceEqDiff, reduceIte, List.getD_cons_zero, List.getD_cons_succ, List.getD_nil, Bool.not_true, Bool.not_false]); first | done | with_reducible rfl)⟩) :
    dops P N ops π (Chg b w0) K i ρ w := by
  obtain ⟨w', h1, h2, h3, h4⟩ := run_copyI (P := P) (ρ := ρ) (ty := ty) (t := t) ho hx hy hn hsrc hf
  exact dt_ex hi hn1 hd hg h1 (fun hS => hS.trans h2) (next w' h2 h4)
end
end Go.Pc

/-
  Walks: the program's words (slices.Reverse, invertWord, normalWord).
  Conditions: stated at each theorem.
-/
namespace Go.Proofs.YtnphljflkpekmaaGreat
open Go Go.Pc
theorem _root_.Go.Pc.Ex.ofRd {P : Program} {o : Op} {ty : TypeId} {ρ : Env} {w : World} {v : Value} (h : Rd P o ty ρ w v) : Ex P o ty ρ w v w := ⟨h.run⟩
set_option maxHeartbeats 2000000 in
theorem sliceReverse_ok {e b : Nat} {w : World} {v : Value} {xs : List Int} [ho : OwnI e b w v xs] (hl : xs.length ≤ 1000000) :
    Calls Tryz.prog 190 #[v] w (Ret fun _ w' => Chg b w w' ∧ OwnI e b w' v xs.reverse) := by
  refine enter (args := [v]) (l := []) Tryz.func190 rfl rfl Tryz.ntmps190 (by simp) ?_
  refine go ?_
  refine r_for xs.length (fun k ρ w' => ∃ ys, Has ρ [(0, v), (2, .int .i64 k), (3, .int .i64 ((xs.length : Int) - 1 - k))] ∧ Chg b w w' ∧ OwnI e b w' v ys ∧ ys.length = xs.length ∧ 2 * k ≤ xs.length ∧ (∀ t, t < k → ys.getD t 0 = xs.getD (xs.length - 1 - t) 0 ∧ ys.getD (xs.length - 1 - t) 0 = xs.getD t 0) ∧ ∀ t, k ≤ t → t + k < xs.length → ys.getD t 0 = xs.getD t 0) ?_ ?_
  · refine ⟨xs, ?_, Chg.refl _ _, ho, rfl, by omega, fun t ht => by omega, fun t _ _ => rfl⟩
    exact hasP
  clear ho
  rintro k ρ w2 hk ⟨ys, hH, hc2, ho2, hyl, hk2, hI, hJ⟩
  refine rwp_has hH fun ρ0 => ?_
  refine go ?_
  refine c_if (fun h4 => ?_) (fun h4 => ?_)
  · have hkn : 2 * k + 1 < xs.length := by omega
    obtain ⟨j, hj⟩ : ∃ j, xs.length - 1 - k = j := ⟨_, rfl⟩
    have hcast : ((xs.length : Int) - 1 - k) = (j : Int) := by omega
    have hjn : j < ys.length := by omega
    have hkn2 : k < ys.length := by omega
    have hkj : k < j := by omega
    rw [hcast]
    refine go ?_
    have hcast2 : ((xs.length : Int) - 1 - ((k + 1 : Nat) : Int)) = (j : Int) - 1 := by omega
    have hstepI : ∀ t, t < k + 1 → ((ys.set k (ys.getD j 0)).set j (ys.getD k 0)).getD t 0 = xs.getD (xs.length - 1 - t) 0 ∧ ((ys.set k (ys.getD j 0)).set j (ys.getD k 0)).getD (xs.length - 1 - t) 0 = xs.getD t 0 := fun t ht => by
      by_cases e : t = k
      · subst e
        rw [hj, Pc.getD_set_ne _ _ _ _ (by omega), Pc.getD_set_eq _ _ _ hkn2, Pc.getD_set_eq _ _ _ (by simpa using hjn)]
        exact ⟨hJ j (by omega) (by omega), hJ t (by omega) (by omega)⟩
      · rw [Pc.getD_set_ne _ _ _ _ (by omega), Pc.getD_set_ne _ _ _ _ (by omega), Pc.getD_set_ne _ _ _ _ (by omega), Pc.getD_set_ne _ _ _ _ (by omega)]
        exact hI t (by omega)
    have hstepJ : ∀ t, k + 1 ≤ t → t + (k + 1) < xs.length → ((ys.set k (ys.getD j 0)).set j (ys.getD k 0)).getD t 0 = xs.getD t 0 := fun t h1 h2 => by
      rw [Pc.getD_set_ne _ _ _ _ (by omega), Pc.getD_set_ne _ _ _ _ (by omega)]
      exact hJ t (by omega) (by omega)
    refine z_order b [0, 1, 2, 3, 4, 5, 6, 8, 9, 10, 7, 11, 12, 13, 14, 15] (h := fun w3 he3 _ => ?_)
    have hi3 : Ints b (b + 1) w3 v ys := ⟨(OwnI.ext (x := he3) (h := ho2)).own.toSl⟩
    refine zgo ?_
    refine dt_fork (π' := [0, 1, 2, 3, 4, 5, 6, 8, 9, 10, 11, 7, 12, 13, 14, 15]) (by decide) rfl rfl (by decide +kernel) ?_ ?_
    · refine dstp_ex (v := .int .i64 (ys.getD j 0)) (by exact rfl) (by decide) (by first | exact True.intro | exact ⟨_, rfl, by ((try simp only [ev_tmp, ev_const, ev_func, get_put, get_args, get_putL, get_putL_nil, Nat.reduceEqDiff, reduceIte, List.getD_cons_zero, List.getD_cons_succ, List.getD_nil, Bool.not_true, Bool.not_false]); first | done | with_reducible rfl)⟩) (Ex.ofRd (rd_load_ints (by ((try simp only [ev_tmp, ev_const, ev_func, get_put, get_args, get_putL, get_putL_nil, Nat.reduceEqDiff, reduceIte, List.getD_cons_zero, List.getD_cons_succ, List.getD_nil]); first | done | with_reducible rfl)) hjn)) id ?_
      refine dt_ex (v := .int .i64 (ys.getD k 0)) (by exact rfl) (by decide +kernel) (by decide) (by first | exact True.intro | exact ⟨_, rfl, by ((try simp only [ev_tmp, ev_const, ev_func, get_put, get_args, get_putL, get_putL_nil, Nat.reduceEqDiff, reduceIte, List.getD_cons_zero, List.getD_cons_succ, List.getD_nil, Bool.not_true, Bool.not_false]); first | done | with_reducible rfl)⟩) (Ex.ofRd (rd_load_ints (by ((try simp only [ev_tmp, ev_const, ev_func, get_put, get_args, get_putL, get_putL_nil, Nat.reduceEqDiff, reduceIte, List.getD_cons_zero, List.getD_cons_succ, List.getD_nil]); first | done | with_reducible rfl)) hkn2)) id ?_
      refine zgo ?_
      refine z_store_int (h := OwnI.ext (x := he3) (h := ho2)) (m := k) (hx := (by ((try simp only [ev_tmp, ev_const, ev_func, get_put, get_args, get_putL, get_putL_nil, Nat.reduceEqDiff, reduceIte, List.getD_cons_zero, List.getD_cons_succ, List.getD_nil]); first | done | with_reducible rfl))) (hy := (by ((try simp only [ev_tmp, ev_const, ev_func, get_put, get_args, get_putL, get_putL_nil, Nat.reduceEqDiff, reduceIte, List.getD_cons_zero, List.getD_cons_succ, List.getD_nil]); first | done | with_reducible rfl))) (hm := hkn2) (next := fun w5 hc5 hs5 ho5 => ?_)
      refine zgo ?_
      refine z_store_int (h := ho5) (m := j) (hx := (by ((try simp only [ev_tmp, ev_const, ev_func, get_put, get_args, get_putL, get_putL_nil, Nat.reduceEqDiff, reduceIte, List.getD_cons_zero, List.getD_cons_succ, List.getD_nil]); first | done | with_reducible rfl))) (hy := (by ((try simp only [ev_tmp, ev_const, ev_func, get_put, get_args, get_putL, get_putL_nil, Nat.reduceEqDiff, reduceIte, List.getD_cons_zero, List.getD_cons_succ, List.getD_nil]); first | done | with_reducible rfl))) (hm := by simpa using hjn) (next := fun w6 hc6 hs6 ho6 => ?_)
      refine z_end ?_
      refine go ?_
      refine forQ_normal (by omega) ⟨_, ?_, (hc2.grow he3).trans (hc5.trans hc6), ho6, by simp [hyl], by omega, fun t ht => ?_, fun t ht ht2 => ?_⟩
      · rw [← hcast2]
        exact hasP
      · exact hstepI t ht
      · exact hstepJ t ht ht2
    · refine dstp_ex (v := .int .i64 (ys.getD k 0)) (by exact rfl) (by decide) (by first | exact True.intro | exact ⟨_, rfl, by ((try simp only [ev_tmp, ev_const, ev_func, get_put, get_args, get_putL, get_putL_nil, Nat.reduceEqDiff, reduceIte, List.getD_cons_zero, List.getD_cons_succ, List.getD_nil, Bool.not_true, Bool.not_false]); first | done | with_reducible rfl)⟩) (Ex.ofRd (rd_load_ints (by ((try simp only [ev_tmp, ev_const, ev_func, get_put, get_args, get_putL, get_putL_nil, Nat.reduceEqDiff, reduceIte, List.getD_cons_zero, List.getD_cons_succ, List.getD_nil]); first | done | with_reducible rfl)) hkn2)) id ?_
      refine dt_ex (v := .int .i64 (ys.getD j 0)) (by exact rfl) (by decide +kernel) (by decide) (by first | exact True.intro | exact ⟨_, rfl, by ((try simp only [ev_tmp, ev_const, ev_func, get_put, get_args, get_putL, get_putL_nil, Nat.reduceEqDiff, reduceIte, List.getD_cons_zero, List.getD_cons_succ, List.getD_nil, Bool.not_true, Bool.not_false]); first | done | with_reducible rfl)⟩) (Ex.ofRd (rd_load_ints (by ((try simp only [ev_tmp, ev_const, ev_func, get_put, get_args, get_putL, get_putL_nil, Nat.reduceEqDiff, reduceIte, List.getD_cons_zero, List.getD_cons_succ, List.getD_nil]); first | done | with_reducible rfl)) hjn)) id ?_
      refine zgo ?_
      refine z_store_int (h := OwnI.ext (x := he3) (h := ho2)) (m := k) (hx := (by ((try simp only [ev_tmp, ev_const, ev_func, get_put, get_args, get_putL, get_putL_nil, Nat.reduceEqDiff, reduceIte, List.getD_cons_zero, List.getD_cons_succ, List.getD_nil]); first | done | with_reducible rfl))) (hy := (by ((try simp only [ev_tmp, ev_const, ev_func, get_put, get_args, get_putL, get_putL_nil, Nat.reduceEqDiff, reduceIte, List.getD_cons_zero, List.getD_cons_succ, List.getD_nil]); first | done | with_reducible rfl))) (hm := hkn2) (next := fun w5 hc5 hs5 ho5 => ?_)
      refine zgo ?_
      refine z_store_int (h := ho5) (m := j) (hx := (by ((try simp only [ev_tmp, ev_const, ev_func, get_put, get_args, get_putL, get_putL_nil, Nat.reduceEqDiff, reduceIte, List.getD_cons_zero, List.getD_cons_succ, List.getD_nil]); first | done | with_reducible rfl))) (hy := (by ((try simp only [ev_tmp, ev_const, ev_func, get_put, get_args, get_putL, get_putL_nil, Nat.reduceEqDiff, reduceIte, List.getD_cons_zero, List.getD_cons_succ, List.getD_nil]); first | done | with_reducible rfl))) (hm := by simpa using hjn) (next := fun w6 hc6 hs6 ho6 => ?_)
      refine z_end ?_
      refine go ?_
      refine forQ_normal (by omega) ⟨_, ?_, (hc2.grow he3).trans (hc5.trans hc6), ho6, by simp [hyl], by omega, fun t ht => ?_, fun t ht ht2 => ?_⟩
      · rw [← hcast2]
        exact hasP
      · exact hstepI t ht
      · exact hstepJ t ht ht2
  · refine go ?_
    refine retQ_0 ⟨hc2, ?_⟩
    have e : ys = xs.reverse := list_ext0 (by simp [hyl]) fun t ht => by
      have hr : xs.reverse.getD t 0 = xs.getD (xs.length - 1 - t) 0 := by
        have h1 : t < xs.reverse.length := by simp; omega
        have h2 : xs.length - 1 - t < xs.length := by omega
        rw [List.getD_eq_getElem?_getD, List.getElem?_eq_getElem h1, List.getD_eq_getElem?_getD, List.getElem?_eq_getElem h2, List.getElem_reverse]
      rw [hr]
      by_cases e1 : t < k
      · exact (hI t e1).1
      · by_cases e2 : t + k < xs.length
        · rw [hJ t (by omega) e2, show xs.length - 1 - t = t by omega]
        · have h3 := (hI (xs.length - 1 - t) (by omega)).2
          rw [show xs.length - 1 - (xs.length - 1 - t) = t by omega] at h3
          exact h3
    rw [← e]
    exact ho2
theorem sliceReverse_nil {w : World} {v : Value} {lo hi : Nat} [hx : Ints lo hi w v []] :
    Calls Tryz.prog 190 #[v] w (Ret fun _ w' => w' = w) := by
  have h0 : (([] : List Int).length : Int) = 0 := rfl
  refine enter (args := [v]) (l := []) Tryz.func190 rfl rfl Tryz.ntmps190 (by simp) ?_
  refine go ?_
  refine r_for 0 (fun k ρ w' => Has ρ [(0, v), (2, .int .i64 0), (3, .int .i64 ((([] : List Int).length : Int) - 1))] ∧ w' = w) ?_ ?_
  · refine ⟨?_, rfl⟩
    exact hasP
  rintro k ρ w2 hk ⟨hH, rfl⟩
  refine rwp_has hH fun ρ0 => ?_
  refine go ?_
  refine c_if (fun h4 => ?_) (fun h4 => ?_)
  · omega
  · refine go ?_
    exact retQ_0 rfl
theorem app_repl' (w : List Int) (m : Nat) (a : Int) : (w ++ List.replicate m a) ++ [a] = w ++ List.replicate (m + 1) a := by
  rw [List.append_assoc]
  congr 1
  exact (List.replicate_succ' (n := m) (a := a)).symm
set_option maxHeartbeats 2000000 in
theorem normalWord_ok {e : List Int} {w : World} {vx : Value} {lo hi : Nat} [hx : Ints lo hi w vx e] (hl : e.length ≤ 100) (hr : ∀ i, i < e.length → 0 ≤ e.getD i 0 ∧ e.getD i 0 ≤ 100) :
    Calls Tryz.prog 165 #[vx] w (Ret fun v w' => Ext w w' ∧ GrowI 2 w.heap.size w' v (wordV e)) := by
  have hwl : ∀ k, (wordV (e.take k)).length ≤ 10000 := fun k => by
    have h1 := wordA_len (b := 100) (e.take k) 0 fun x hx => by
      obtain ⟨i, hi, rfl⟩ := List.getElem_of_mem (List.mem_of_mem_take hx)
      have := (hr i hi).2
      simpa [hi] using this
    have h2 : (e.take k).length * 100 ≤ 100 * 100 := Nat.mul_le_mul_right _ (by rw [List.length_take]; omega)
    exact Nat.le_trans h1 h2
  refine enter (args := [vx]) (l := [.tmp 2]) Tryz.func165 rfl rfl Tryz.ntmps165 (by simp) ?_
  refine go ?_
  refine r_for e.length (fun k ρ w' => ∃ vl, Has ρ [(3, vl), (6, vx), (7, .int .i64 e.length), (8, .int .i64 k)] ∧ Ext w w' ∧ GrowI 2 w.heap.size w' vl (wordV (e.take k))) ?_ ?_
  · refine ⟨nilv, ?_, Ext.refl _, GrowI.nil _ _ _⟩
    exact hasP
  rintro k ρ w2 hk ⟨vl, hH, he2, hG2⟩
  refine rwp_has hH fun ρ0 => ?_
  refine go ?_
  refine c_if (fun h4 => ?_) (fun h4 => ?_)
  · have hkn : k < e.length := by omega
    have hrk := hr k hkn
    have hst := wordV_take hkn
    have hwk := hwl k
    refine go ?_
    refine r_for (e.getD k 0).toNat (fun j ρ w' => ∃ vl, Has ρ [(3, vl), (4, .int .i64 k), (6, vx), (7, .int .i64 e.length), (8, .int .i64 k), (13, .int .i64 (e.getD k 0)), (14, .int .i64 j)] ∧ Ext w w' ∧ GrowI 2 w.heap.size w' vl (wordV (e.take k) ++ List.replicate j ((k : Int) + 1))) ?_ ?_
    · refine ⟨vl, ?_, he2, by simpa using hG2⟩
      exact hasP
    clear hG2 he2
    rintro j ρ w3 hj ⟨vl, hH3, he3, hG3⟩
    refine rwp_has hH3 fun ρ1 => ?_
    have hz3 := he3.size
    refine go ?_
    refine c_if (fun h5 => ?_) (fun h5 => ?_)
    · refine go ?_
      refine st_growi hG3 hz3 (by simp only [List.length_append, List.length_replicate]; omega) (next := fun v4 v5 w5 hG5 hx5 hz5 hgs5 => ?_)
      refine go ?_
      refine forQ_normal (by omega) ⟨v5, ?_, hx5 w he3 (Nat.le_refl _), ?_⟩
      · exact hasP
      · rw [← app_repl']; exact hG5
    · obtain rfl : j = (e.getD k 0).toNat := by omega
      rw [← hst] at hG3
      refine go ?_
      refine forQ_normal (by omega) ⟨vl, ?_, he3, hG3⟩
      exact hasP
  · obtain rfl : k = e.length := by omega
    rw [List.take_length] at hG2
    refine go ?_
    exact ret1 ⟨he2, hG2⟩
set_option maxHeartbeats 2000000 in
theorem invertWord_ok {e : List Int} {w : World} {vx : Value} {lo hi : Nat} [hx : Ints lo hi w vx e] (hl : e.length ≤ 100000) (hr : ∀ i, i < e.length → -1000000 ≤ e.getD i 0 ∧ e.getD i 0 ≤ 1000000) :
    Calls Tryz.prog 164 #[vx] w (Ret fun v w' => Ext w w' ∧ GrowI 2 w.heap.size w' v (invW e)) := by
  have hml : (e.map fun x => -x).length = e.length := by simp
  refine enter (args := [vx]) (l := [.tmp 2]) Tryz.func164 rfl rfl Tryz.ntmps164 (by simp) ?_
  refine go ?_
  refine r_for e.length (fun k ρ w' => ∃ vl, Has ρ [(3, vl), (6, vx), (7, .int .i64 e.length), (8, .int .i64 k)] ∧ Ext w w' ∧ GrowI 2 w.heap.size w' vl ((e.map fun x => -x).take k)) ?_ ?_
  · refine ⟨nilv, ?_, Ext.refl _, GrowI.nil _ _ _⟩
    exact hasP
  rintro k ρ w2 hk ⟨vl, hH, he2, hG2⟩
  refine rwp_has hH fun ρ0 => ?_
  have hz2 := he2.size
  refine go ?_
  refine c_if (fun h4 => ?_) (fun h4 => ?_)
  · have hkn : k < e.length := by omega
    have hri := hr k hkn
    have hst : (e.map fun x => -x).take (k + 1) = (e.map fun x => -x).take k ++ [-(e.getD k 0)] := by
      rw [List.take_succ_eq_append_getElem (by omega)]
      congr 2
      simp [hkn]
    refine go ?_
    refine st_growi hG2 hz2 (by rw [List.length_take]; omega) (next := fun v4 v5 w5 hG5 hx5 hz5 hgs5 => ?_)
    refine go ?_
    refine forQ_normal (by omega) ⟨v5, ?_, hx5 w he2 (Nat.le_refl _), ?_⟩
    · exact hasP
    · rw [hst]; exact hG5
  · obtain rfl : k = e.length := by omega
    rw [List.take_of_length_le (by omega)] at hG2
    by_cases hn : e = []
    · subst hn
      have hi2 : Ints w.heap.size w2.heap.size w2 vl [] := hG2.fr.ints
      refine go ?_
      refine rc (sliceReverse_nil) (next := fun v3 w3 h3 => ?_)
      obtain rfl := h3
      refine go ?_
      exact ret1 ⟨he2, hG2⟩
    · obtain ⟨b, hb, _, ho⟩ := hG2.own.toOwn (by simpa using hn)
      have hoi : OwnI 2 b w2 vl (e.map fun x => -x) := ⟨ho⟩
      clear hG2
      refine go ?_
      refine rc (sliceReverse_ok (xs := e.map fun x => -x) (by omega)) (next := fun v3 w3 h3 => ?_)
      obtain ⟨hc3, ho3⟩ := h3
      refine go ?_
      exact ret1 ⟨hc3.ext he2 hb, ⟨ho3.own.toN.mono hb⟩⟩
end Go.Proofs.YtnphljflkpekmaaGreat

/-
  Walks: math/bits.Mul at small words, slices.Repeat of one integer.
  Conditions: stated at each theorem.
-/
namespace Go.Proofs.YtnphljflkpekmaaGreat
open Go Go.Pc
set_option maxHeartbeats 1000000 in
theorem bitsMul64_2 {w : World} : Calls Tryz.prog 197 #[.int .u64 1, .int .u64 2] w (Ret fun v w' => v = .tuple #[.int .u64 0, .int .u64 2] ∧ w' = w) := by
  refine enter (args := [.int .u64 1, .int .u64 2]) (l := [.tmp 4, .tmp 5]) Tryz.func197 rfl rfl Tryz.ntmps197 (by simp) ?_
  refine go ?_
  refine ra (v := .int .u64 1) (h := rd_bin (by ((try simp only [ev_tmp, ev_const, ev_func, get_put, get_args, get_putL, get_putL_nil, Nat.reduceEqDiff, reduceIte, List.getD_cons_zero, List.getD_cons_succ, List.getD_nil]); first | done | with_reducible rfl)) (by ((try simp only [ev_tmp, ev_const, ev_func, get_put, get_args, get_putL, get_putL_nil, Nat.reduceEqDiff, reduceIte, List.getD_cons_zero, List.getD_cons_succ, List.getD_nil]); first | done | with_reducible rfl)) (fun _ => rfl) (fun _ => rfl)) (next := ?_)
  refine go ?_
  refine ra (v := .int .u64 0) (h := rd_bin (by ((try simp only [ev_tmp, ev_const, ev_func, get_put, get_args, get_putL, get_putL_nil, Nat.reduceEqDiff, reduceIte, List.getD_cons_zero, List.getD_cons_succ, List.getD_nil]); first | done | with_reducible rfl)) (by ((try simp only [ev_tmp, ev_const, ev_func, get_put, get_args, get_putL, get_putL_nil, Nat.reduceEqDiff, reduceIte, List.getD_cons_zero, List.getD_cons_succ, List.getD_nil]); first | done | with_reducible rfl)) (fun _ => rfl) (fun _ => rfl)) (next := ?_)
  refine go ?_
  refine ra (v := .int .u64 2) (h := rd_bin (by ((try simp only [ev_tmp, ev_const, ev_func, get_put, get_args, get_putL, get_putL_nil, Nat.reduceEqDiff, reduceIte, List.getD_cons_zero, List.getD_cons_succ, List.getD_nil]); first | done | with_reducible rfl)) (by ((try simp only [ev_tmp, ev_const, ev_func, get_put, get_args, get_putL, get_putL_nil, Nat.reduceEqDiff, reduceIte, List.getD_cons_zero, List.getD_cons_succ, List.getD_nil]); first | done | with_reducible rfl)) (fun _ => rfl) (fun _ => rfl)) (next := ?_)
  refine go ?_
  refine ra (v := .int .u64 0) (h := rd_bin (by ((try simp only [ev_tmp, ev_const, ev_func, get_put, get_args, get_putL, get_putL_nil, Nat.reduceEqDiff, reduceIte, List.getD_cons_zero, List.getD_cons_succ, List.getD_nil]); first | done | with_reducible rfl)) (by ((try simp only [ev_tmp, ev_const, ev_func, get_put, get_args, get_putL, get_putL_nil, Nat.reduceEqDiff, reduceIte, List.getD_cons_zero, List.getD_cons_succ, List.getD_nil]); first | done | with_reducible rfl)) (fun _ => rfl) (fun _ => rfl)) (next := ?_)
  refine go ?_
  refine ra (v := .int .u64 2) (h := rd_bin (by ((try simp only [ev_tmp, ev_const, ev_func, get_put, get_args, get_putL, get_putL_nil, Nat.reduceEqDiff, reduceIte, List.getD_cons_zero, List.getD_cons_succ, List.getD_nil]); first | done | with_reducible rfl)) (by ((try simp only [ev_tmp, ev_const, ev_func, get_put, get_args, get_putL, get_putL_nil, Nat.reduceEqDiff, reduceIte, List.getD_cons_zero, List.getD_cons_succ, List.getD_nil]); first | done | with_reducible rfl)) (fun _ => rfl) (fun _ => rfl)) (next := ?_)
  refine go ?_
  refine ra (v := .int .u64 0) (h := rd_bin (by ((try simp only [ev_tmp, ev_const, ev_func, get_put, get_args, get_putL, get_putL_nil, Nat.reduceEqDiff, reduceIte, List.getD_cons_zero, List.getD_cons_succ, List.getD_nil]); first | done | with_reducible rfl)) (by ((try simp only [ev_tmp, ev_const, ev_func, get_put, get_args, get_putL, get_putL_nil, Nat.reduceEqDiff, reduceIte, List.getD_cons_zero, List.getD_cons_succ, List.getD_nil]); first | done | with_reducible rfl)) (fun _ => rfl) (fun _ => rfl)) (next := ?_)
  refine go ?_
  refine ra (v := .int .u64 0) (h := rd_bin (by ((try simp only [ev_tmp, ev_const, ev_func, get_put, get_args, get_putL, get_putL_nil, Nat.reduceEqDiff, reduceIte, List.getD_cons_zero, List.getD_cons_succ, List.getD_nil]); first | done | with_reducible rfl)) (by ((try simp only [ev_tmp, ev_const, ev_func, get_put, get_args, get_putL, get_putL_nil, Nat.reduceEqDiff, reduceIte, List.getD_cons_zero, List.getD_cons_succ, List.getD_nil]); first | done | with_reducible rfl)) (fun _ => rfl) (fun _ => rfl)) (next := ?_)
  refine go ?_
  refine ra (v := .int .u64 0) (h := rd_bin (by ((try simp only [ev_tmp, ev_const, ev_func, get_put, get_args, get_putL, get_putL_nil, Nat.reduceEqDiff, reduceIte, List.getD_cons_zero, List.getD_cons_succ, List.getD_nil]); first | done | with_reducible rfl)) (by ((try simp only [ev_tmp, ev_const, ev_func, get_put, get_args, get_putL, get_putL_nil, Nat.reduceEqDiff, reduceIte, List.getD_cons_zero, List.getD_cons_succ, List.getD_nil]); first | done | with_reducible rfl)) (fun _ => rfl) (fun _ => rfl)) (next := ?_)
  refine go ?_
  refine ra (v := .int .u64 0) (h := rd_bin (by ((try simp only [ev_tmp, ev_const, ev_func, get_put, get_args, get_putL, get_putL_nil, Nat.reduceEqDiff, reduceIte, List.getD_cons_zero, List.getD_cons_succ, List.getD_nil]); first | done | with_reducible rfl)) (by ((try simp only [ev_tmp, ev_const, ev_func, get_put, get_args, get_putL, get_putL_nil, Nat.reduceEqDiff, reduceIte, List.getD_cons_zero, List.getD_cons_succ, List.getD_nil]); first | done | with_reducible rfl)) (fun _ => rfl) (fun _ => rfl)) (next := ?_)
  refine go ?_
  refine ra (v := .int .u64 0) (h := rd_bin (by ((try simp only [ev_tmp, ev_const, ev_func, get_put, get_args, get_putL, get_putL_nil, Nat.reduceEqDiff, reduceIte, List.getD_cons_zero, List.getD_cons_succ, List.getD_nil]); first | done | with_reducible rfl)) (by ((try simp only [ev_tmp, ev_const, ev_func, get_put, get_args, get_putL, get_putL_nil, Nat.reduceEqDiff, reduceIte, List.getD_cons_zero, List.getD_cons_succ, List.getD_nil]); first | done | with_reducible rfl)) (fun _ => rfl) (fun _ => rfl)) (next := ?_)
  refine go ?_
  refine ra (v := .int .u64 0) (h := rd_bin (by ((try simp only [ev_tmp, ev_const, ev_func, get_put, get_args, get_putL, get_putL_nil, Nat.reduceEqDiff, reduceIte, List.getD_cons_zero, List.getD_cons_succ, List.getD_nil]); first | done | with_reducible rfl)) (by ((try simp only [ev_tmp, ev_const, ev_func, get_put, get_args, get_putL, get_putL_nil, Nat.reduceEqDiff, reduceIte, List.getD_cons_zero, List.getD_cons_succ, List.getD_nil]); first | done | with_reducible rfl)) (fun _ => rfl) (fun _ => rfl)) (next := ?_)
  refine go ?_
  refine ra (v := .int .u64 0) (h := rd_bin (by ((try simp only [ev_tmp, ev_const, ev_func, get_put, get_args, get_putL, get_putL_nil, Nat.reduceEqDiff, reduceIte, List.getD_cons_zero, List.getD_cons_succ, List.getD_nil]); first | done | with_reducible rfl)) (by ((try simp only [ev_tmp, ev_const, ev_func, get_put, get_args, get_putL, get_putL_nil, Nat.reduceEqDiff, reduceIte, List.getD_cons_zero, List.getD_cons_succ, List.getD_nil]); first | done | with_reducible rfl)) (fun _ => rfl) (fun _ => rfl)) (next := ?_)
  refine go ?_
  refine ra (v := .int .u64 0) (h := rd_bin (by ((try simp only [ev_tmp, ev_const, ev_func, get_put, get_args, get_putL, get_putL_nil, Nat.reduceEqDiff, reduceIte, List.getD_cons_zero, List.getD_cons_succ, List.getD_nil]); first | done | with_reducible rfl)) (by ((try simp only [ev_tmp, ev_const, ev_func, get_put, get_args, get_putL, get_putL_nil, Nat.reduceEqDiff, reduceIte, List.getD_cons_zero, List.getD_cons_succ, List.getD_nil]); first | done | with_reducible rfl)) (fun _ => rfl) (fun _ => rfl)) (next := ?_)
  refine go ?_
  refine ra (v := .int .u64 0) (h := rd_bin (by ((try simp only [ev_tmp, ev_const, ev_func, get_put, get_args, get_putL, get_putL_nil, Nat.reduceEqDiff, reduceIte, List.getD_cons_zero, List.getD_cons_succ, List.getD_nil]); first | done | with_reducible rfl)) (by ((try simp only [ev_tmp, ev_const, ev_func, get_put, get_args, get_putL, get_putL_nil, Nat.reduceEqDiff, reduceIte, List.getD_cons_zero, List.getD_cons_succ, List.getD_nil]); first | done | with_reducible rfl)) (fun _ => rfl) (fun _ => rfl)) (next := ?_)
  refine go ?_
  refine ra (v := .int .u64 0) (h := rd_bin (by ((try simp only [ev_tmp, ev_const, ev_func, get_put, get_args, get_putL, get_putL_nil, Nat.reduceEqDiff, reduceIte, List.getD_cons_zero, List.getD_cons_succ, List.getD_nil]); first | done | with_reducible rfl)) (by ((try simp only [ev_tmp, ev_const, ev_func, get_put, get_args, get_putL, get_putL_nil, Nat.reduceEqDiff, reduceIte, List.getD_cons_zero, List.getD_cons_succ, List.getD_nil]); first | done | with_reducible rfl)) (fun _ => rfl) (fun _ => rfl)) (next := ?_)
  refine go ?_
  refine ra (v := .int .u64 0) (h := rd_bin (by ((try simp only [ev_tmp, ev_const, ev_func, get_put, get_args, get_putL, get_putL_nil, Nat.reduceEqDiff, reduceIte, List.getD_cons_zero, List.getD_cons_succ, List.getD_nil]); first | done | with_reducible rfl)) (by ((try simp only [ev_tmp, ev_const, ev_func, get_put, get_args, get_putL, get_putL_nil, Nat.reduceEqDiff, reduceIte, List.getD_cons_zero, List.getD_cons_succ, List.getD_nil]); first | done | with_reducible rfl)) (fun _ => rfl) (fun _ => rfl)) (next := ?_)
  refine go ?_
  refine ra (v := .int .u64 2) (h := rd_bin (by ((try simp only [ev_tmp, ev_const, ev_func, get_put, get_args, get_putL, get_putL_nil, Nat.reduceEqDiff, reduceIte, List.getD_cons_zero, List.getD_cons_succ, List.getD_nil]); first | done | with_reducible rfl)) (by ((try simp only [ev_tmp, ev_const, ev_func, get_put, get_args, get_putL, get_putL_nil, Nat.reduceEqDiff, reduceIte, List.getD_cons_zero, List.getD_cons_succ, List.getD_nil]); first | done | with_reducible rfl)) (fun _ => rfl) (fun _ => rfl)) (next := ?_)
  refine go ?_
  exact ret2 ⟨rfl, rfl⟩
theorem bitsMul_2 {w : World} : Calls Tryz.prog 189 #[.int .u64 1, .int .u64 2] w (Ret fun v w' => v = .tuple #[.int .u64 0, .int .u64 2] ∧ w' = w) := by
  refine enter (args := [.int .u64 1, .int .u64 2]) (l := [.tmp 4, .tmp 5]) Tryz.func189 rfl rfl Tryz.ntmps189 (by simp) ?_
  refine go ?_
  refine rc bitsMul64_2 (next := fun v1 w1 h1 => ?_)
  obtain ⟨rfl, rfl⟩ := h1
  refine go ?_
  exact ret2 ⟨rfl, rfl⟩
set_option maxHeartbeats 1000000 in
theorem bitsMul64_3 {w : World} : Calls Tryz.prog 197 #[.int .u64 1, .int .u64 3] w (Ret fun v w' => v = .tuple #[.int .u64 0, .int .u64 3] ∧ w' = w) := by
  refine enter (args := [.int .u64 1, .int .u64 3]) (l := [.tmp 4, .tmp 5]) Tryz.func197 rfl rfl Tryz.ntmps197 (by simp) ?_
  refine go ?_
  refine ra (v := .int .u64 1) (h := rd_bin (by ((try simp only [ev_tmp, ev_const, ev_func, get_put, get_args, get_putL, get_putL_nil, Nat.reduceEqDiff, reduceIte, List.getD_cons_zero, List.getD_cons_succ, List.getD_nil]); first | done | with_reducible rfl)) (by ((try simp only [ev_tmp, ev_const, ev_func, get_put, get_args, get_putL, get_putL_nil, Nat.reduceEqDiff, reduceIte, List.getD_cons_zero, List.getD_cons_succ, List.getD_nil]); first | done | with_reducible rfl)) (fun _ => rfl) (fun _ => rfl)) (next := ?_)
  refine go ?_
  refine ra (v := .int .u64 0) (h := rd_bin (by ((try simp only [ev_tmp, ev_const, ev_func, get_put, get_args, get_putL, get_putL_nil, Nat.reduceEqDiff, reduceIte, List.getD_cons_zero, List.getD_cons_succ, List.getD_nil]); first | done | with_reducible rfl)) (by ((try simp only [ev_tmp, ev_const, ev_func, get_put, get_args, get_putL, get_putL_nil, Nat.reduceEqDiff, reduceIte, List.getD_cons_zero, List.getD_cons_succ, List.getD_nil]); first | done | with_reducible rfl)) (fun _ => rfl) (fun _ => rfl)) (next := ?_)
  refine go ?_
  refine ra (v := .int .u64 3) (h := rd_bin (by ((try simp only [ev_tmp, ev_const, ev_func, get_put, get_args, get_putL, get_putL_nil, Nat.reduceEqDiff, reduceIte, List.getD_cons_zero, List.getD_cons_succ, List.getD_nil]); first | done | with_reducible rfl)) (by ((try simp only [ev_tmp, ev_const, ev_func, get_put, get_args, get_putL, get_putL_nil, Nat.reduceEqDiff, reduceIte, List.getD_cons_zero, List.getD_cons_succ, List.getD_nil]); first | done | with_reducible rfl)) (fun _ => rfl) (fun _ => rfl)) (next := ?_)
  refine go ?_
  refine ra (v := .int .u64 0) (h := rd_bin (by ((try simp only [ev_tmp, ev_const, ev_func, get_put, get_args, get_putL, get_putL_nil, Nat.reduceEqDiff, reduceIte, List.getD_cons_zero, List.getD_cons_succ, List.getD_nil]); first | done | with_reducible rfl)) (by ((try simp only [ev_tmp, ev_const, ev_func, get_put, get_args, get_putL, get_putL_nil, Nat.reduceEqDiff, reduceIte, List.getD_cons_zero, List.getD_cons_succ, List.getD_nil]); first | done | with_reducible rfl)) (fun _ => rfl) (fun _ => rfl)) (next := ?_)
  refine go ?_
  refine ra (v := .int .u64 3) (h := rd_bin (by ((try simp only [ev_tmp, ev_const, ev_func, get_put, get_args, get_putL, get_putL_nil, Nat.reduceEqDiff, reduceIte, List.getD_cons_zero, List.getD_cons_succ, List.getD_nil]); first | done | with_reducible rfl)) (by ((try simp only [ev_tmp, ev_const, ev_func, get_put, get_args, get_putL, get_putL_nil, Nat.reduceEqDiff, reduceIte, List.getD_cons_zero, List.getD_cons_succ, List.getD_nil]); first | done | with_reducible rfl)) (fun _ => rfl) (fun _ => rfl)) (next := ?_)
  refine go ?_
  refine ra (v := .int .u64 0) (h := rd_bin (by ((try simp only [ev_tmp, ev_const, ev_func, get_put, get_args, get_putL, get_putL_nil, Nat.reduceEqDiff, reduceIte, List.getD_cons_zero, List.getD_cons_succ, List.getD_nil]); first | done | with_reducible rfl)) (by ((try simp only [ev_tmp, ev_const, ev_func, get_put, get_args, get_putL, get_putL_nil, Nat.reduceEqDiff, reduceIte, List.getD_cons_zero, List.getD_cons_succ, List.getD_nil]); first | done | with_reducible rfl)) (fun _ => rfl) (fun _ => rfl)) (next := ?_)
  refine go ?_
  refine ra (v := .int .u64 0) (h := rd_bin (by ((try simp only [ev_tmp, ev_const, ev_func, get_put, get_args, get_putL, get_putL_nil, Nat.reduceEqDiff, reduceIte, List.getD_cons_zero, List.getD_cons_succ, List.getD_nil]); first | done | with_reducible rfl)) (by ((try simp only [ev_tmp, ev_const, ev_func, get_put, get_args, get_putL, get_putL_nil, Nat.reduceEqDiff, reduceIte, List.getD_cons_zero, List.getD_cons_succ, List.getD_nil]); first | done | with_reducible rfl)) (fun _ => rfl) (fun _ => rfl)) (next := ?_)
  refine go ?_
  refine ra (v := .int .u64 0) (h := rd_bin (by ((try simp only [ev_tmp, ev_const, ev_func, get_put, get_args, get_putL, get_putL_nil, Nat.reduceEqDiff, reduceIte, List.getD_cons_zero, List.getD_cons_succ, List.getD_nil]); first | done | with_reducible rfl)) (by ((try simp only [ev_tmp, ev_const, ev_func, get_put, get_args, get_putL, get_putL_nil, Nat.reduceEqDiff, reduceIte, List.getD_cons_zero, List.getD_cons_succ, List.getD_nil]); first | done | with_reducible rfl)) (fun _ => rfl) (fun _ => rfl)) (next := ?_)
  refine go ?_
  refine ra (v := .int .u64 0) (h := rd_bin (by ((try simp only [ev_tmp, ev_const, ev_func, get_put, get_args, get_putL, get_putL_nil, Nat.reduceEqDiff, reduceIte, List.getD_cons_zero, List.getD_cons_succ, List.getD_nil]); first | done | with_reducible rfl)) (by ((try simp only [ev_tmp, ev_const, ev_func, get_put, get_args, get_putL, get_putL_nil, Nat.reduceEqDiff, reduceIte, List.getD_cons_zero, List.getD_cons_succ, List.getD_nil]); first | done | with_reducible rfl)) (fun _ => rfl) (fun _ => rfl)) (next := ?_)
  refine go ?_
  refine ra (v := .int .u64 0) (h := rd_bin (by ((try simp only [ev_tmp, ev_const, ev_func, get_put, get_args, get_putL, get_putL_nil, Nat.reduceEqDiff, reduceIte, List.getD_cons_zero, List.getD_cons_succ, List.getD_nil]); first | done | with_reducible rfl)) (by ((try simp only [ev_tmp, ev_const, ev_func, get_put, get_args, get_putL, get_putL_nil, Nat.reduceEqDiff, reduceIte, List.getD_cons_zero, List.getD_cons_succ, List.getD_nil]); first | done | with_reducible rfl)) (fun _ => rfl) (fun _ => rfl)) (next := ?_)
  refine go ?_
  refine ra (v := .int .u64 0) (h := rd_bin (by ((try simp only [ev_tmp, ev_const, ev_func, get_put, get_args, get_putL, get_putL_nil, Nat.reduceEqDiff, reduceIte, List.getD_cons_zero, List.getD_cons_succ, List.getD_nil]); first | done | with_reducible rfl)) (by ((try simp only [ev_tmp, ev_const, ev_func, get_put, get_args, get_putL, get_putL_nil, Nat.reduceEqDiff, reduceIte, List.getD_cons_zero, List.getD_cons_succ, List.getD_nil]); first | done | with_reducible rfl)) (fun _ => rfl) (fun _ => rfl)) (next := ?_)
  refine go ?_
  refine ra (v := .int .u64 0) (h := rd_bin (by ((try simp only [ev_tmp, ev_const, ev_func, get_put, get_args, get_putL, get_putL_nil, Nat.reduceEqDiff, reduceIte, List.getD_cons_zero, List.getD_cons_succ, List.getD_nil]); first | done | with_reducible rfl)) (by ((try simp only [ev_tmp, ev_const, ev_func, get_put, get_args, get_putL, get_putL_nil, Nat.reduceEqDiff, reduceIte, List.getD_cons_zero, List.getD_cons_succ, List.getD_nil]); first | done | with_reducible rfl)) (fun _ => rfl) (fun _ => rfl)) (next := ?_)
  refine go ?_
  refine ra (v := .int .u64 0) (h := rd_bin (by ((try simp only [ev_tmp, ev_const, ev_func, get_put, get_args, get_putL, get_putL_nil, Nat.reduceEqDiff, reduceIte, List.getD_cons_zero, List.getD_cons_succ, List.getD_nil]); first | done | with_reducible rfl)) (by ((try simp only [ev_tmp, ev_const, ev_func, get_put, get_args, get_putL, get_putL_nil, Nat.reduceEqDiff, reduceIte, List.getD_cons_zero, List.getD_cons_succ, List.getD_nil]); first | done | with_reducible rfl)) (fun _ => rfl) (fun _ => rfl)) (next := ?_)
  refine go ?_
  refine ra (v := .int .u64 0) (h := rd_bin (by ((try simp only [ev_tmp, ev_const, ev_func, get_put, get_args, get_putL, get_putL_nil, Nat.reduceEqDiff, reduceIte, List.getD_cons_zero, List.getD_cons_succ, List.getD_nil]); first | done | with_reducible rfl)) (by ((try simp only [ev_tmp, ev_const, ev_func, get_put, get_args, get_putL, get_putL_nil, Nat.reduceEqDiff, reduceIte, List.getD_cons_zero, List.getD_cons_succ, List.getD_nil]); first | done | with_reducible rfl)) (fun _ => rfl) (fun _ => rfl)) (next := ?_)
  refine go ?_
  refine ra (v := .int .u64 0) (h := rd_bin (by ((try simp only [ev_tmp, ev_const, ev_func, get_put, get_args, get_putL, get_putL_nil, Nat.reduceEqDiff, reduceIte, List.getD_cons_zero, List.getD_cons_succ, List.getD_nil]); first | done | with_reducible rfl)) (by ((try simp only [ev_tmp, ev_const, ev_func, get_put, get_args, get_putL, get_putL_nil, Nat.reduceEqDiff, reduceIte, List.getD_cons_zero, List.getD_cons_succ, List.getD_nil]); first | done | with_reducible rfl)) (fun _ => rfl) (fun _ => rfl)) (next := ?_)
  refine go ?_
  refine ra (v := .int .u64 0) (h := rd_bin (by ((try simp only [ev_tmp, ev_const, ev_func, get_put, get_args, get_putL, get_putL_nil, Nat.reduceEqDiff, reduceIte, List.getD_cons_zero, List.getD_cons_succ, List.getD_nil]); first | done | with_reducible rfl)) (by ((try simp only [ev_tmp, ev_const, ev_func, get_put, get_args, get_putL, get_putL_nil, Nat.reduceEqDiff, reduceIte, List.getD_cons_zero, List.getD_cons_succ, List.getD_nil]); first | done | with_reducible rfl)) (fun _ => rfl) (fun _ => rfl)) (next := ?_)
  refine go ?_
  refine ra (v := .int .u64 3) (h := rd_bin (by ((try simp only [ev_tmp, ev_const, ev_func, get_put, get_args, get_putL, get_putL_nil, Nat.reduceEqDiff, reduceIte, List.getD_cons_zero, List.getD_cons_succ, List.getD_nil]); first | done | with_reducible rfl)) (by ((try simp only [ev_tmp, ev_const, ev_func, get_put, get_args, get_putL, get_putL_nil, Nat.reduceEqDiff, reduceIte, List.getD_cons_zero, List.getD_cons_succ, List.getD_nil]); first | done | with_reducible rfl)) (fun _ => rfl) (fun _ => rfl)) (next := ?_)
  refine go ?_
  exact ret2 ⟨rfl, rfl⟩
theorem bitsMul_3 {w : World} : Calls Tryz.prog 189 #[.int .u64 1, .int .u64 3] w (Ret fun v w' => v = .tuple #[.int .u64 0, .int .u64 3] ∧ w' = w) := by
  refine enter (args := [.int .u64 1, .int .u64 3]) (l := [.tmp 4, .tmp 5]) Tryz.func189 rfl rfl Tryz.ntmps189 (by simp) ?_
  refine go ?_
  refine rc bitsMul64_3 (next := fun v1 w1 h1 => ?_)
  obtain ⟨rfl, rfl⟩ := h1
  refine go ?_
  exact ret2 ⟨rfl, rfl⟩
set_option maxHeartbeats 1000000 in
theorem bitsMul64_5 {w : World} : Calls Tryz.prog 197 #[.int .u64 1, .int .u64 5] w (Ret fun v w' => v = .tuple #[.int .u64 0, .int .u64 5] ∧ w' = w) := by
  refine enter (args := [.int .u64 1, .int .u64 5]) (l := [.tmp 4, .tmp 5]) Tryz.func197 rfl rfl Tryz.ntmps197 (by simp) ?_
  refine go ?_
  refine ra (v := .int .u64 1) (h := rd_bin (by ((try simp only [ev_tmp, ev_const, ev_func, get_put, get_args, get_putL, get_putL_nil, Nat.reduceEqDiff, reduceIte, List.getD_cons_zero, List.getD_cons_succ, List.getD_nil]); first | done | with_reducible rfl)) (by ((try simp only [ev_tmp, ev_const, ev_func, get_put, get_args, get_putL, get_putL_nil, Nat.reduceEqDiff, reduceIte, List.getD_cons_zero, List.getD_cons_succ, List.getD_nil]); first | done | with_reducible rfl)) (fun _ => rfl) (fun _ => rfl)) (next := ?_)
  refine go ?_
  refine ra (v := .int .u64 0) (h := rd_bin (by ((try simp only [ev_tmp, ev_const, ev_func, get_put, get_args, get_putL, get_putL_nil, Nat.reduceEqDiff, reduceIte, List.getD_cons_zero, List.getD_cons_succ, List.getD_nil]); first | done | with_reducible rfl)) (by ((try simp only [ev_tmp, ev_const, ev_func, get_put, get_args, get_putL, get_putL_nil, Nat.reduceEqDiff, reduceIte, List.getD_cons_zero, List.getD_cons_succ, List.getD_nil]); first | done | with_reducible rfl)) (fun _ => rfl) (fun _ => rfl)) (next := ?_)
  refine go ?_
  refine ra (v := .int .u64 5) (h := rd_bin (by ((try simp only [ev_tmp, ev_const, ev_func, get_put, get_args, get_putL, get_putL_nil, Nat.reduceEqDiff, reduceIte, List.getD_cons_zero, List.getD_cons_succ, List.getD_nil]); first | done | with_reducible rfl)) (by ((try simp only [ev_tmp, ev_const, ev_func, get_put, get_args, get_putL, get_putL_nil, Nat.reduceEqDiff, reduceIte, List.getD_cons_zero, List.getD_cons_succ, List.getD_nil]); first | done | with_reducible rfl)) (fun _ => rfl) (fun _ => rfl)) (next := ?_)
  refine go ?_
  refine ra (v := .int .u64 0) (h := rd_bin (by ((try simp only [ev_tmp, ev_const, ev_func, get_put, get_args, get_putL, get_putL_nil, Nat.reduceEqDiff, reduceIte, List.getD_cons_zero, List.getD_cons_succ, List.getD_nil]); first | done | with_reducible rfl)) (by ((try simp only [ev_tmp, ev_const, ev_func, get_put, get_args, get_putL, get_putL_nil, Nat.reduceEqDiff, reduceIte, List.getD_cons_zero, List.getD_cons_succ, List.getD_nil]); first | done | with_reducible rfl)) (fun _ => rfl) (fun _ => rfl)) (next := ?_)
  refine go ?_
  refine ra (v := .int .u64 5) (h := rd_bin (by ((try simp only [ev_tmp, ev_const, ev_func, get_put, get_args, get_putL, get_putL_nil, Nat.reduceEqDiff, reduceIte, List.getD_cons_zero, List.getD_cons_succ, List.getD_nil]); first | done | with_reducible rfl)) (by ((try simp only [ev_tmp, ev_const, ev_func, get_put, get_args, get_putL, get_putL_nil, Nat.reduceEqDiff, reduceIte, List.getD_cons_zero, List.getD_cons_succ, List.getD_nil]); first | done | with_reducible rfl)) (fun _ => rfl) (fun _ => rfl)) (next := ?_)
  refine go ?_
  refine ra (v := .int .u64 0) (h := rd_bin (by ((try simp only [ev_tmp, ev_const, ev_func, get_put, get_args, get_putL, get_putL_nil, Nat.reduceEqDiff, reduceIte, List.getD_cons_zero, List.getD_cons_succ, List.getD_nil]); first | done | with_reducible rfl)) (by ((try simp only [ev_tmp, ev_const, ev_func, get_put, get_args, get_putL, get_putL_nil, Nat.reduceEqDiff, reduceIte, List.getD_cons_zero, List.getD_cons_succ, List.getD_nil]); first | done | with_reducible rfl)) (fun _ => rfl) (fun _ => rfl)) (next := ?_)
  refine go ?_
  refine ra (v := .int .u64 0) (h := rd_bin (by ((try simp only [ev_tmp, ev_const, ev_func, get_put, get_args, get_putL, get_putL_nil, Nat.reduceEqDiff, reduceIte, List.getD_cons_zero, List.getD_cons_succ, List.getD_nil]); first | done | with_reducible rfl)) (by ((try simp only [ev_tmp, ev_const, ev_func, get_put, get_args, get_putL, get_putL_nil, Nat.reduceEqDiff, reduceIte, List.getD_cons_zero, List.getD_cons_succ, List.getD_nil]); first | done | with_reducible rfl)) (fun _ => rfl) (fun _ => rfl)) (next := ?_)
  refine go ?_
  refine ra (v := .int .u64 0) (h := rd_bin (by ((try simp only [ev_tmp, ev_const, ev_func, get_put, get_args, get_putL, get_putL_nil, Nat.reduceEqDiff, reduceIte, List.getD_cons_zero, List.getD_cons_succ, List.getD_nil]); first | done | with_reducible rfl)) (by ((try simp only [ev_tmp, ev_const, ev_func, get_put, get_args, get_putL, get_putL_nil, Nat.reduceEqDiff, reduceIte, List.getD_cons_zero, List.getD_cons_succ, List.getD_nil]); first | done | with_reducible rfl)) (fun _ => rfl) (fun _ => rfl)) (next := ?_)
  refine go ?_
  refine ra (v := .int .u64 0) (h := rd_bin (by ((try simp only [ev_tmp, ev_const, ev_func, get_put, get_args, get_putL, get_putL_nil, Nat.reduceEqDiff, reduceIte, List.getD_cons_zero, List.getD_cons_succ, List.getD_nil]); first | done | with_reducible rfl)) (by ((try simp only [ev_tmp, ev_const, ev_func, get_put, get_args, get_putL, get_putL_nil, Nat.reduceEqDiff, reduceIte, List.getD_cons_zero, List.getD_cons_succ, List.getD_nil]); first | done | with_reducible rfl)) (fun _ => rfl) (fun _ => rfl)) (next := ?_)
  refine go ?_
  refine ra (v := .int .u64 0) (h := rd_bin (by ((try simp only [ev_tmp, ev_const, ev_func, get_put, get_args, get_putL, get_putL_nil, Nat.reduceEqDiff, reduceIte, List.getD_cons_zero, List.getD_cons_succ, List.getD_nil]); first | done | with_reducible rfl)) (by ((try simp only [ev_tmp, ev_const, ev_func, get_put, get_args, get_putL, get_putL_nil, Nat.reduceEqDiff, reduceIte, List.getD_cons_zero, List.getD_cons_succ, List.getD_nil]); first | done | with_reducible rfl)) (fun _ => rfl) (fun _ => rfl)) (next := ?_)
  refine go ?_
  refine ra (v := .int .u64 0) (h := rd_bin (by ((try simp only [ev_tmp, ev_const, ev_func, get_put, get_args, get_putL, get_putL_nil, Nat.reduceEqDiff, reduceIte, List.getD_cons_zero, List.getD_cons_succ, List.getD_nil]); first | done | with_reducible rfl)) (by ((try simp only [ev_tmp, ev_const, ev_func, get_put, get_args, get_putL, get_putL_nil, Nat.reduceEqDiff, reduceIte, List.getD_cons_zero, List.getD_cons_succ, List.getD_nil]); first | done | with_reducible rfl)) (fun _ => rfl) (fun _ => rfl)) (next := ?_)
  refine go ?_
  refine ra (v := .int .u64 0) (h := rd_bin (by ((try simp only [ev_tmp, ev_const, ev_func, get_put, get_args, get_putL, get_putL_nil, Nat.reduceEqDiff, reduceIte, List.getD_cons_zero, List.getD_cons_succ, List.getD_nil]); first | done | with_reducible rfl)) (by ((try simp only [ev_tmp, ev_const, ev_func, get_put, get_args, get_putL, get_putL_nil, Nat.reduceEqDiff, reduceIte, List.getD_cons_zero, List.getD_cons_succ, List.getD_nil]); first | done | with_reducible rfl)) (fun _ => rfl) (fun _ => rfl)) (next := ?_)
  refine go ?_
  refine ra (v := .int .u64 0) (h := rd_bin (by ((try simp only [ev_tmp, ev_const, ev_func, get_put, get_args, get_putL, get_putL_nil, Nat.reduceEqDiff, reduceIte, List.getD_cons_zero, List.getD_cons_succ, List.getD_nil]); first | done | with_reducible rfl)) (by ((try simp only [ev_tmp, ev_const, ev_func, get_put, get_args, get_putL, get_putL_nil, Nat.reduceEqDiff, reduceIte, List.getD_cons_zero, List.getD_cons_succ, List.getD_nil]); first | done | with_reducible rfl)) (fun _ => rfl) (fun _ => rfl)) (next := ?_)
  refine go ?_
  refine ra (v := .int .u64 0) (h := rd_bin (by ((try simp only [ev_tmp, ev_const, ev_func, get_put, get_args, get_putL, get_putL_nil, Nat.reduceEqDiff, reduceIte, List.getD_cons_zero, List.getD_cons_succ, List.getD_nil]); first | done | with_reducible rfl)) (by ((try simp only [ev_tmp, ev_const, ev_func, get_put, get_args, get_putL, get_putL_nil, Nat.reduceEqDiff, reduceIte, List.getD_cons_zero, List.getD_cons_succ, List.getD_nil]); first | done | with_reducible rfl)) (fun _ => rfl) (fun _ => rfl)) (next := ?_)
  refine go ?_
  refine ra (v := .int .u64 0) (h := rd_bin (by ((try simp only [ev_tmp, ev_const, ev_func, get_put, get_args, get_putL, get_putL_nil, Nat.reduceEqDiff, reduceIte, List.getD_cons_zero, List.getD_cons_succ, List.getD_nil]); first | done | with_reducible rfl)) (by ((try simp only [ev_tmp, ev_const, ev_func, get_put, get_args, get_putL, get_putL_nil, Nat.reduceEqDiff, reduceIte, List.getD_cons_zero, List.getD_cons_succ, List.getD_nil]); first | done | with_reducible rfl)) (fun _ => rfl) (fun _ => rfl)) (next := ?_)
  refine go ?_
  refine ra (v := .int .u64 0) (h := rd_bin (by ((try simp only [ev_tmp, ev_const, ev_func, get_put, get_args, get_putL, get_putL_nil, Nat.reduceEqDiff, reduceIte, List.getD_cons_zero, List.getD_cons_succ, List.getD_nil]); first | done | with_reducible rfl)) (by ((try simp only [ev_tmp, ev_const, ev_func, get_put, get_args, get_putL, get_putL_nil, Nat.reduceEqDiff, reduceIte, List.getD_cons_zero, List.getD_cons_succ, List.getD_nil]); first | done | with_reducible rfl)) (fun _ => rfl) (fun _ => rfl)) (next := ?_)
  refine go ?_
  refine ra (v := .int .u64 5) (h := rd_bin (by ((try simp only [ev_tmp, ev_const, ev_func, get_put, get_args, get_putL, get_putL_nil, Nat.reduceEqDiff, reduceIte, List.getD_cons_zero, List.getD_cons_succ, List.getD_nil]); first | done | with_reducible rfl)) (by ((try simp only [ev_tmp, ev_const, ev_func, get_put, get_args, get_putL, get_putL_nil, Nat.reduceEqDiff, reduceIte, List.getD_cons_zero, List.getD_cons_succ, List.getD_nil]); first | done | with_reducible rfl)) (fun _ => rfl) (fun _ => rfl)) (next := ?_)
  refine go ?_
  exact ret2 ⟨rfl, rfl⟩
theorem bitsMul_5 {w : World} : Calls Tryz.prog 189 #[.int .u64 1, .int .u64 5] w (Ret fun v w' => v = .tuple #[.int .u64 0, .int .u64 5] ∧ w' = w) := by
  refine enter (args := [.int .u64 1, .int .u64 5]) (l := [.tmp 4, .tmp 5]) Tryz.func189 rfl rfl Tryz.ntmps189 (by simp) ?_
  refine go ?_
  refine rc bitsMul64_5 (next := fun v1 w1 h1 => ?_)
  obtain ⟨rfl, rfl⟩ := h1
  refine go ?_
  exact ret2 ⟨rfl, rfl⟩
set_option maxHeartbeats 1000000 in
theorem bitsMul64_7 {w : World} : Calls Tryz.prog 197 #[.int .u64 1, .int .u64 7] w (Ret fun v w' => v = .tuple #[.int .u64 0, .int .u64 7] ∧ w' = w) := by
  refine enter (args := [.int .u64 1, .int .u64 7]) (l := [.tmp 4, .tmp 5]) Tryz.func197 rfl rfl Tryz.ntmps197 (by simp) ?_
  refine go ?_
  refine ra (v := .int .u64 1) (h := rd_bin (by ((try simp only [ev_tmp, ev_const, ev_func, get_put, get_args, get_putL, get_putL_nil, Nat.reduceEqDiff, reduceIte, List.getD_cons_zero, List.getD_cons_succ, List.getD_nil]); first | done | with_reducible rfl)) (by ((try simp only [ev_tmp, ev_const, ev_func, get_put, get_args, get_putL, get_putL_nil, Nat.reduceEqDiff, reduceIte, List.getD_cons_zero, List.getD_cons_succ, List.getD_nil]); first | done | with_reducible rfl)) (fun _ => rfl) (fun _ => rfl)) (next := ?_)
  refine go ?_
  refine ra (v := .int .u64 0) (h := rd_bin (by ((try simp only [ev_tmp, ev_const, ev_func, get_put, get_args, get_putL, get_putL_nil, Nat.reduceEqDiff, reduceIte, List.getD_cons_zero, List.getD_cons_succ, List.getD_nil]); first | done | with_reducible rfl)) (by ((try simp only [ev_tmp, ev_const, ev_func, get_put, get_args, get_putL, get_putL_nil, Nat.reduceEqDiff, reduceIte, List.getD_cons_zero, List.getD_cons_succ, List.getD_nil]); first | done | with_reducible rfl)) (fun _ => rfl) (fun _ => rfl)) (next := ?_)
  refine go ?_
  refine ra (v := .int .u64 7) (h := rd_bin (by ((try simp only [ev_tmp, ev_const, ev_func, get_put, get_args, get_putL, get_putL_nil, Nat.reduceEqDiff, reduceIte, List.getD_cons_zero, List.getD_cons_succ, List.getD_nil]); first | done | with_reducible rfl)) (by ((try simp only [ev_tmp, ev_const, ev_func, get_put, get_args, get_putL, get_putL_nil, Nat.reduceEqDiff, reduceIte, List.getD_cons_zero, List.getD_cons_succ, List.getD_nil]); first | done | with_reducible rfl)) (fun _ => rfl) (fun _ => rfl)) (next := ?_)
  refine go ?_
  refine ra (v := .int .u64 0) (h := rd_bin (by ((try simp only [ev_tmp, ev_const, ev_func, get_put, get_args, get_putL, get_putL_nil, Nat.reduceEqDiff, reduceIte, List.getD_cons_zero, List.getD_cons_succ, List.getD_nil]); first | done | with_reducible rfl)) (by ((try simp only [ev_tmp, ev_const, ev_func, get_put, get_args, get_putL, get_putL_nil, Nat.reduceEqDiff, reduceIte, List.getD_cons_zero, List.getD_cons_succ, List.getD_nil]); first | done | with_reducible rfl)) (fun _ => rfl) (fun _ => rfl)) (next := ?_)
  refine go ?_
  refine ra (v := .int .u64 7) (h := rd_bin (by ((try simp only [ev_tmp, ev_const, ev_func, get_put, get_args, get_putL, get_putL_nil, Nat.reduceEqDiff, reduceIte, List.getD_cons_zero, List.getD_cons_succ, List.getD_nil]); first | done | with_reducible rfl)) (by ((try simp only [ev_tmp, ev_const, ev_func, get_put, get_args, get_putL, get_putL_nil, Nat.reduceEqDiff, reduceIte, List.getD_cons_zero, List.getD_cons_succ, List.getD_nil]); first | done | with_reducible rfl)) (fun _ => rfl) (fun _ => rfl)) (next := ?_)
  refine go ?_
  refine ra (v := .int .u64 0) (h := rd_bin (by ((try simp only [ev_tmp, ev_const, ev_func, get_put, get_args, get_putL, get_putL_nil, Nat.reduceEqDiff, reduceIte, List.getD_cons_zero, List.getD_cons_succ, List.getD_nil]); first | done | with_reducible rfl)) (by ((try simp only [ev_tmp, ev_const, ev_func, get_put, get_args, get_putL, get_putL_nil, Nat.reduceEqDiff, reduceIte, List.getD_cons_zero, List.getD_cons_succ, List.getD_nil]); first | done | with_reducible rfl)) (fun _ => rfl) (fun _ => rfl)) (next := ?_)
  refine go ?_
  refine ra (v := .int .u64 0) (h := rd_bin (by ((try simp only [ev_tmp, ev_const, ev_func, get_put, get_args, get_putL, get_putL_nil, Nat.reduceEqDiff, reduceIte, List.getD_cons_zero, List.getD_cons_succ, List.getD_nil]); first | done | with_reducible rfl)) (by ((try simp only [ev_tmp, ev_const, ev_func, get_put, get_args, get_putL, get_putL_nil, Nat.reduceEqDiff, reduceIte, List.getD_cons_zero, List.getD_cons_succ, List.getD_nil]); first | done | with_reducible rfl)) (fun _ => rfl) (fun _ => rfl)) (next := ?_)
  refine go ?_
  refine ra (v := .int .u64 0) (h := rd_bin (by ((try simp only [ev_tmp, ev_const, ev_func, get_put, get_args, get_putL, get_putL_nil, Nat.reduceEqDiff, reduceIte, List.getD_cons_zero, List.getD_cons_succ, List.getD_nil]); first | done | with_reducible rfl)) (by ((try simp only [ev_tmp, ev_const, ev_func, get_put, get_args, get_putL, get_putL_nil, Nat.reduceEqDiff, reduceIte, List.getD_cons_zero, List.getD_cons_succ, List.getD_nil]); first | done | with_reducible rfl)) (fun _ => rfl) (fun _ => rfl)) (next := ?_)
  refine go ?_
  refine ra (v := .int .u64 0) (h := rd_bin (by ((try simp only [ev_tmp, ev_const, ev_func, get_put, get_args, get_putL, get_putL_nil, Nat.reduceEqDiff, reduceIte, List.getD_cons_zero, List.getD_cons_succ, List.getD_nil]); first | done | with_reducible rfl)) (by ((try simp only [ev_tmp, ev_const, ev_func, get_put, get_args, get_putL, get_putL_nil, Nat.reduceEqDiff, reduceIte, List.getD_cons_zero, List.getD_cons_succ, List.getD_nil]); first | done | with_reducible rfl)) (fun _ => rfl) (fun _ => rfl)) (next := ?_)
  refine go ?_
  refine ra (v := .int .u64 0) (h := rd_bin (by ((try simp only [ev_tmp, ev_const, ev_func, get_put, get_args, get_putL, get_putL_nil, Nat.reduceEqDiff, reduceIte, List.getD_cons_zero, List.getD_cons_succ, List.getD_nil]); first | done | with_reducible rfl)) (by ((try simp only [ev_tmp, ev_const, ev_func, get_put, get_args, get_putL, get_putL_nil, Nat.reduceEqDiff, reduceIte, List.getD_cons_zero, List.getD_cons_succ, List.getD_nil]); first | done | with_reducible rfl)) (fun _ => rfl) (fun _ => rfl)) (next := ?_)
  refine go ?_
  refine ra (v := .int .u64 0) (h := rd_bin (by ((try simp only [ev_tmp, ev_const, ev_func, get_put, get_args, get_putL, get_putL_nil, Nat.reduceEqDiff, reduceIte, List.getD_cons_zero, List.getD_cons_succ, List.getD_nil]); first | done | with_reducible rfl)) (by ((try simp only [ev_tmp, ev_const, ev_func, get_put, get_args, get_putL, get_putL_nil, Nat.reduceEqDiff, reduceIte, List.getD_cons_zero, List.getD_cons_succ, List.getD_nil]); first | done | with_reducible rfl)) (fun _ => rfl) (fun _ => rfl)) (next := ?_)
  refine go ?_
  refine ra (v := .int .u64 0) (h := rd_bin (by ((try simp only [ev_tmp, ev_const, ev_func, get_put, get_args, get_putL, get_putL_nil, Nat.reduceEqDiff, reduceIte, List.getD_cons_zero, List.getD_cons_succ, List.getD_nil]); first | done | with_reducible rfl)) (by ((try simp only [ev_tmp, ev_const, ev_func, get_put, get_args, get_putL, get_putL_nil, Nat.reduceEqDiff, reduceIte, List.getD_cons_zero, List.getD_cons_succ, List.getD_nil]); first | done | with_reducible rfl)) (fun _ => rfl) (fun _ => rfl)) (next := ?_)
  refine go ?_
  refine ra (v := .int .u64 0) (h := rd_bin (by ((try simp only [ev_tmp, ev_const, ev_func, get_put, get_args, get_putL, get_putL_nil, Nat.reduceEqDiff, reduceIte, List.getD_cons_zero, List.getD_cons_succ, List.getD_nil]); first | done | with_reducible rfl)) (by ((try simp only [ev_tmp, ev_const, ev_func, get_put, get_args, get_putL, get_putL_nil, Nat.reduceEqDiff, reduceIte, List.getD_cons_zero, List.getD_cons_succ, List.getD_nil]); first | done | with_reducible rfl)) (fun _ => rfl) (fun _ => rfl)) (next := ?_)
  refine go ?_
  refine ra (v := .int .u64 0) (h := rd_bin (by ((try simp only [ev_tmp, ev_const, ev_func, get_put, get_args, get_putL, get_putL_nil, Nat.reduceEqDiff, reduceIte, List.getD_cons_zero, List.getD_cons_succ, List.getD_nil]); first | done | with_reducible rfl)) (by ((try simp only [ev_tmp, ev_const, ev_func, get_put, get_args, get_putL, get_putL_nil, Nat.reduceEqDiff, reduceIte, List.getD_cons_zero, List.getD_cons_succ, List.getD_nil]); first | done | with_reducible rfl)) (fun _ => rfl) (fun _ => rfl)) (next := ?_)
  refine go ?_
  refine ra (v := .int .u64 0) (h := rd_bin (by ((try simp only [ev_tmp, ev_const, ev_func, get_put, get_args, get_putL, get_putL_nil, Nat.reduceEqDiff, reduceIte, List.getD_cons_zero, List.getD_cons_succ, List.getD_nil]); first | done | with_reducible rfl)) (by ((try simp only [ev_tmp, ev_const, ev_func, get_put, get_args, get_putL, get_putL_nil, Nat.reduceEqDiff, reduceIte, List.getD_cons_zero, List.getD_cons_succ, List.getD_nil]); first | done | with_reducible rfl)) (fun _ => rfl) (fun _ => rfl)) (next := ?_)
  refine go ?_
  refine ra (v := .int .u64 0) (h := rd_bin (by ((try simp only [ev_tmp, ev_const, ev_func, get_put, get_args, get_putL, get_putL_nil, Nat.reduceEqDiff, reduceIte, List.getD_cons_zero, List.getD_cons_succ, List.getD_nil]); first | done | with_reducible rfl)) (by ((try simp only [ev_tmp, ev_const, ev_func, get_put, get_args, get_putL, get_putL_nil, Nat.reduceEqDiff, reduceIte, List.getD_cons_zero, List.getD_cons_succ, List.getD_nil]); first | done | with_reducible rfl)) (fun _ => rfl) (fun _ => rfl)) (next := ?_)
  refine go ?_
  refine ra (v := .int .u64 7) (h := rd_bin (by ((try simp only [ev_tmp, ev_const, ev_func, get_put, get_args, get_putL, get_putL_nil, Nat.reduceEqDiff, reduceIte, List.getD_cons_zero, List.getD_cons_succ, List.getD_nil]); first | done | with_reducible rfl)) (by ((try simp only [ev_tmp, ev_const, ev_func, get_put, get_args, get_putL, get_putL_nil, Nat.reduceEqDiff, reduceIte, List.getD_cons_zero, List.getD_cons_succ, List.getD_nil]); first | done | with_reducible rfl)) (fun _ => rfl) (fun _ => rfl)) (next := ?_)
  refine go ?_
  exact ret2 ⟨rfl, rfl⟩
theorem bitsMul_7 {w : World} : Calls Tryz.prog 189 #[.int .u64 1, .int .u64 7] w (Ret fun v w' => v = .tuple #[.int .u64 0, .int .u64 7] ∧ w' = w) := by
  refine enter (args := [.int .u64 1, .int .u64 7]) (l := [.tmp 4, .tmp 5]) Tryz.func189 rfl rfl Tryz.ntmps189 (by simp) ?_
  refine go ?_
  refine rc bitsMul64_7 (next := fun v1 w1 h1 => ?_)
  obtain ⟨rfl, rfl⟩ := h1
  refine go ?_
  exact ret2 ⟨rfl, rfl⟩
theorem bitsMul_ok {o : Int} (ho : o = 2 ∨ o = 3 ∨ o = 5 ∨ o = 7) {w : World} : Calls Tryz.prog 189 #[.int .u64 1, .int .u64 o] w (Ret fun v w' => v = .tuple #[.int .u64 0, .int .u64 o] ∧ w' = w) := by
  rcases ho with rfl | rfl | rfl | rfl
  · exact bitsMul_2
  · exact bitsMul_3
  · exact bitsMul_5
  · exact bitsMul_7
end Go.Proofs.YtnphljflkpekmaaGreat

/-
  Walks: slices.Repeat of one integer.
  Conditions: stated at each theorem.
-/
namespace Go.Proofs.YtnphljflkpekmaaGreat
open Go Go.Pc
theorem rep_step {a : Int} {n m k : Nat} (hnm : n + m ≤ k) : (List.replicate n a ++ List.replicate (k - n) 0).take n ++ List.replicate m a ++ (List.replicate n a ++ List.replicate (k - n) (0 : Int)).drop (n + (List.replicate m a).length) = List.replicate (n + m) a ++ List.replicate (k - (n + m)) 0 := by
  have e1 : (List.replicate n a ++ List.replicate (k - n) (0 : Int)).take n = List.replicate n a := List.take_left' (by simp)
  have e2 : (List.replicate n a ++ List.replicate (k - n) (0 : Int)).drop (n + (List.replicate m a).length) = List.replicate (k - (n + m)) 0 := by
    rw [List.length_replicate, ← List.drop_drop, List.drop_left' (by simp), List.drop_replicate]
    congr 1
    omega
  rw [e1, e2, List.replicate_append_replicate]
set_option maxHeartbeats 2000000 in
theorem sliceRepeat_ok {o : Int} (ho : o = 2 ∨ o = 3 ∨ o = 5 ∨ o = 7) {a : Int} {w : World} {vx : Value} {lo hi : Nat} [hx : Ints lo hi w vx [a]] :
    Calls Tryz.prog 163 #[vx, .int .i64 o] w (Ret fun v w' => Ext w w' ∧ GrowI 2 w.heap.size w' v (List.replicate o.toNat a)) := by
  have hob : 2 ≤ o ∧ o ≤ 7 := by omega
  have hl1 : [a].length = 1 := rfl
  refine enter (args := [vx, .int .i64 o]) (l := [.tmp 4]) Tryz.func163 rfl rfl Tryz.ntmps163 (by simp) ?_
  refine go ?_
  refine c_if (fun h4 => ?_) (fun h4 => ?_)
  · omega
  refine go ?_
  refine ra (v := .int .u64 1) (h := rd_conv (u := .int .i64) (by ((try simp only [ev_tmp, ev_const, ev_func, get_put, get_args, get_putL, get_putL_nil, Nat.reduceEqDiff, reduceIte, List.getD_cons_zero, List.getD_cons_succ, List.getD_nil]); first | done | with_reducible rfl)) (by kernel_rfl) (by kernel_rfl) rfl) (next := ?_)
  refine go ?_
  refine ra (v := .int .u64 o) (h := rd_conv (u := .int .i64) (by ((try simp only [ev_tmp, ev_const, ev_func, get_put, get_args, get_putL, get_putL_nil, Nat.reduceEqDiff, reduceIte, List.getD_cons_zero, List.getD_cons_succ, List.getD_nil]); first | done | with_reducible rfl)) (by kernel_rfl) (by kernel_rfl) (by rw [IntKind.wrap_u64]; omega)) (next := ?_)
  refine go ?_
  refine rc (bitsMul_ok ho) (next := fun v1 w1 h1 => ?_)
  obtain ⟨rfl, rfl⟩ := h1
  refine go ?_
  refine ra (v := .bool false) (h := rd_bin (by ((try simp only [ev_tmp, ev_const, ev_func, get_put, get_args, get_putL, get_putL_nil, Nat.reduceEqDiff, reduceIte, List.getD_cons_zero, List.getD_cons_succ, List.getD_nil]); first | done | with_reducible rfl)) (by ((try simp only [ev_tmp, ev_const, ev_func, get_put, get_args, get_putL, get_putL_nil, Nat.reduceEqDiff, reduceIte, List.getD_cons_zero, List.getD_cons_succ, List.getD_nil]); first | done | with_reducible rfl)) (fun _ => rfl) (fun _ => rfl)) (next := ?_)
  refine go ?_
  refine ra (v := .bool false) (h := rd_bin (by ((try simp only [ev_tmp, ev_const, ev_func, get_put, get_args, get_putL, get_putL_nil, Nat.reduceEqDiff, reduceIte, List.getD_cons_zero, List.getD_cons_succ, List.getD_nil]); first | done | with_reducible rfl)) (by ((try simp only [ev_tmp, ev_const, ev_func, get_put, get_args, get_putL, get_putL_nil, Nat.reduceEqDiff, reduceIte, List.getD_cons_zero, List.getD_cons_succ, List.getD_nil]); first | done | with_reducible rfl)) (fun _ => rfl) (fun w => by simp [binOp, Op.intCmp]; omega)) (next := ?_)
  refine go ?_
  refine ra (v := .int .i64 o) (h := rd_conv (u := .int .u64) (by ((try simp only [ev_tmp, ev_const, ev_func, get_put, get_args, get_putL, get_putL_nil, Nat.reduceEqDiff, reduceIte, List.getD_cons_zero, List.getD_cons_succ, List.getD_nil]); first | done | with_reducible rfl)) (by kernel_rfl) (by kernel_rfl) (IntWalk.i64_in _ (by omega))) (next := ?_)
  refine go ?_
  refine st_make_int (by ((try simp only [ev_tmp, ev_const, ev_func, get_put, get_args, get_putL, get_putL_nil, Nat.reduceEqDiff, reduceIte, List.getD_cons_zero, List.getD_cons_succ, List.getD_nil]); first | done | with_reducible rfl)) (by ((try simp only [ev_tmp, ev_const, ev_func, get_put, get_args, get_putL, get_putL_nil, Nat.reduceEqDiff, reduceIte, List.getD_cons_zero, List.getD_cons_succ, List.getD_nil]); first | done | with_reducible rfl)) (by omega) (by omega) (by first | exact True.intro | exact ⟨_, rfl, by ((try simp only [ev_tmp, ev_const, ev_func, get_put, get_args, get_putL, get_putL_nil, Nat.reduceEqDiff, reduceIte, List.getD_cons_zero, List.getD_cons_succ, List.getD_nil, Bool.not_true, Bool.not_false]); first | done | with_reducible rfl)⟩) fun w2 v2 he2 hs2 ho2 => ?_
  have hx2 : Ints lo hi w2 vx [a] := hx.same (he2.same _ _)
  obtain ⟨A, c, hvx, _, _, hcell⟩ := hx2.sl.ex
  obtain ⟨a0, hA, _, _, hc0⟩ := hcell 0 (.int .i64 a) rfl
  obtain ⟨cap, cur, hv2, _, hcap, hcapm, _⟩ := ho2.own.ex
  have hrl : (List.replicate o.toNat (0 : Int)).length = o.toNat := by simp
  have hml : ((List.replicate o.toNat (0 : Int)).map (Value.int .i64)).length = o.toNat := by simp
  have hzl : ([a].map (Value.int .i64)).length = 1 := rfl
  rw [hml] at hv2 hcap
  rw [hA] at hvx
  refine go ?_
  refine st_copyi (cs := [a]) (n := 0) ho2 (Eq.trans (by ((try simp only [ev_tmp, ev_const, ev_func, get_put, get_args, get_putL, get_putL_nil, Nat.reduceEqDiff, reduceIte, List.getD_cons_zero, List.getD_cons_succ, List.getD_nil]); first | done | with_reducible rfl)) hv2) (Eq.trans (by ((try simp only [ev_tmp, ev_const, ev_func, get_put, get_args, get_putL, get_putL_nil, Nat.reduceEqDiff, reduceIte, List.getD_cons_zero, List.getD_cons_succ, List.getD_nil]); first | done | with_reducible rfl)) hvx) ?_ ?_ ?_ (next := fun w3 hch3 ho3 => ?_)
  · rw [hzl]
    show 1 = Nat.min 1 o.toNat
    have : 1 ≤ o.toNat := by omega
    exact (Nat.min_eq_left this).symm
  · intro j u hu
    have hj : j = 0 := by
      cases j with
      | zero => rfl
      | succ j => simp at hu
    subst hj
    have : a = u := by simpa using hu
    rw [← this]; exact hc0
  · rw [hrl]; show 0 + 1 ≤ o.toNat; omega
  have e3 := rep_step (a := a) (n := 0) (m := 1) (k := o.toNat) (by omega)
  simp only [List.replicate_zero, List.nil_append, Nat.sub_zero, List.replicate_succ] at e3
  have ho3' : OwnI 2 w1.heap.size w3 v2 (List.replicate 1 a ++ List.replicate (o.toNat - 1) 0) := by
    have h := ho3
    rw [show (List.replicate o.toNat (0 : Int)).take 0 ++ [a] ++ (List.replicate o.toNat 0).drop (0 + [a].length) = List.replicate 1 a ++ List.replicate (o.toNat - 1) 0 by simp [List.drop_replicate]] at h
    exact h
  have hE3 : Ext w1 w3 := hch3.ext he2 (Nat.le_refl _)
  clear ho2 ho3 hch3 e3
  refine go ?_
  refine r_loop (fun m ρ w' => ∃ n : Nat, Has ρ [(7, v2), (8, .int .i64 n)] ∧ Chg w1.heap.size w3 w' ∧ OwnI 2 w1.heap.size w' v2 (List.replicate n a ++ List.replicate (o.toNat - n) 0) ∧ 1 ≤ n ∧ n ≤ o.toNat ∧ m = o.toNat - n) (o.toNat - 1) ?_ ?_
  · refine ⟨1, ?_, Chg.refl _ _, ho3', Nat.le_refl _, by omega, rfl⟩
    exact hasP
  clear ho3'
  rintro m ρ w4 ⟨n, hH, hch4, ho4, hn1, hno, hm⟩
  refine rwp_has hH fun ρ0 => ?_
  have hxl : (List.replicate n a ++ List.replicate (o.toNat - n) (0 : Int)).length = o.toNat := by simp; omega
  refine go ?_
  refine c_if (fun h5 => ?_) (fun h5 => ?_)
  · have hno' : n < o.toNat := by omega
    refine go ?_
    refine z_order w1.heap.size (List.range 10) (h := fun w5 he5 _ => ?_)
    have ho5 : OwnI 2 w1.heap.size w5 v2 (List.replicate n a ++ List.replicate (o.toNat - n) 0) := OwnI.ext (x := he5) (h := ho4)
    obtain ⟨m, hmd⟩ : ∃ m, min n (o.toNat - n) = m := ⟨_, rfl⟩
    have hm0 : 1 ≤ m ∧ n + m ≤ o.toNat ∧ m ≤ n := by omega
    have hcl : (List.replicate m a).length = m := by simp
    have hadd : ∀ q, (Addr.mk w1.heap.size 0 none).add q = ⟨w1.heap.size, q, none⟩ := fun q => by unfold Addr.add; split <;> simp_all
    have hcut : ∀ h, cut v2 n h = .slice (some ⟨w1.heap.size, n, none⟩) (h - n) (cap - n) := fun h => by
      rw [hv2]
      simp only [cut, sliced]
      rw [if_neg (by omega)]
      simp [hadd]
    have hcutTo : cutTo v2 n = .slice (some ⟨w1.heap.size, 0, none⟩) n cap := by rw [hv2]; rfl
    obtain ⟨A5, c5, hv5, _, _, hcell5⟩ := ho5.own.toSl.ex
    have hlen2 : ∀ w', Len w' v2 o.toNat := fun w' => ⟨some ⟨w1.heap.size, 0, none⟩, cap, hv2, hcap, by have := hcapm; simp only [maxLen] at this; omega, fun _ => ⟨_, rfl⟩⟩
    refine zgo ?_
    refine za (v := cut v2 n o.toNat) (h := ⟨fun w' _ => rd_slice_l (hl := hlen2 w') (by ((try simp only [ev_tmp, ev_const, ev_func, get_put, get_args, get_putL, get_putL_nil, Nat.reduceEqDiff, reduceIte, List.getD_cons_zero, List.getD_cons_succ, List.getD_nil]); first | done | with_reducible rfl)) (by ((try simp only [ev_tmp, ev_const, ev_func, get_put, get_args, get_putL, get_putL_nil, Nat.reduceEqDiff, reduceIte, List.getD_cons_zero, List.getD_cons_succ, List.getD_nil]); first | done | with_reducible rfl)) (by omega) (by omega)⟩) (next := ?_)
    refine zgo ?_
    refine za (v := cutTo v2 n) (h := ⟨fun w' _ => rd_slice_h (hl := hlen2 w') (by ((try simp only [ev_tmp, ev_const, ev_func, get_put, get_args, get_putL, get_putL_nil, Nat.reduceEqDiff, reduceIte, List.getD_cons_zero, List.getD_cons_succ, List.getD_nil]); first | done | with_reducible rfl)) (by ((try simp only [ev_tmp, ev_const, ev_func, get_put, get_args, get_putL, get_putL_nil, Nat.reduceEqDiff, reduceIte, List.getD_cons_zero, List.getD_cons_succ, List.getD_nil]); first | done | with_reducible rfl)) (by omega) (by omega)⟩) (next := ?_)
    refine z_copyi (cs := List.replicate m a) (n := n) ho5 (hx := Eq.trans (by ((try simp only [ev_tmp, ev_const, ev_func, get_put, get_args, get_putL, get_putL_nil, Nat.reduceEqDiff, reduceIte, List.getD_cons_zero, List.getD_cons_succ, List.getD_nil]); first | done | with_reducible rfl)) (hcut _)) (hy := Eq.trans (by ((try simp only [ev_tmp, ev_const, ev_func, get_put, get_args, get_putL, get_putL_nil, Nat.reduceEqDiff, reduceIte, List.getD_cons_zero, List.getD_cons_succ, List.getD_nil]); first | done | with_reducible rfl)) hcutTo) (hn := ?_) (hsrc := ?_) (hf := ?_) (next := fun w6 hch6 ho6 => ?_)
    · rw [hcl, ← hmd]
    · intro j u hu
      have hjm : j < m := by
        rw [List.getElem?_replicate] at hu
        by_cases e : j < m
        · exact e
        · rw [if_neg e] at hu; cases hu
      have hua : a = u := by
        rw [List.getElem?_replicate, if_pos hjm] at hu
        injection hu
      obtain ⟨a5, hA5, _, _, hc5⟩ := hcell5 j (.int .i64 a) (by
        rw [List.getElem?_map, List.getElem?_append_left (by simp; omega), List.getElem?_replicate, if_pos (by omega)]
        rfl)
      rw [hv2] at hv5
      injection hv5 with hv5 _ _
      rw [hA5] at hv5
      injection hv5 with hv5
      rw [hv5, ← hua]
      exact hc5
    · rw [hcl, hxl]; exact hm0.2.1
    rw [rep_step hm0.2.1] at ho6
    refine zgo ?_
    refine z_end ?_
    refine go ?_
    refine loopQ_normal ?_ ⟨n + m, ?_, (hch4.grow he5).trans hch6, ho6, by omega, hm0.2.1, rfl⟩
    · omega
    · exact hasP
  · obtain rfl : n = o.toNat := by omega
    rw [Nat.sub_self, List.replicate_zero, List.append_nil] at ho4
    refine go ?_
    exact ret1 ⟨hch4.ext hE3 (Nat.le_refl _), ⟨ho4.own.toN⟩⟩
end Go.Proofs.YtnphljflkpekmaaGreat

/-
  Walks: the program's relators, values of words, tests of homomorphisms (PresentationRelators, evaluate, respects).
  Conditions: stated at each theorem.
-/
namespace Go.Proofs.YtnphljflkpekmaaGreat
open Go Go.Pc
theorem ints_bdI {e : List Int} {n : Nat} (hl : LetW n e) (hn : n ≤ 6) : ∀ i, i < e.length → -1000000 ≤ e.getD i 0 ∧ e.getD i 0 ≤ 1000000 := fun i hi => by
  have e1 : e.getD i 0 = e[i] := by simp [hi]
  have := hl _ (List.getElem_mem hi)
  omega
theorem letW_atI {n : Nat} {w : List Int} (h : LetW n w) {k : Nat} (hk : k < w.length) : w.getD k 0 ≠ 0 ∧ -(n : Int) ≤ w.getD k 0 ∧ w.getD k 0 ≤ n := by
  have e1 : w.getD k 0 = w[k] := by simp [hk]
  rw [e1]
  exact h _ (List.getElem_mem hk)
theorem rels_bd {p : Pr} (hv : Valid p) : ∀ m, m ≤ p.n → (relL p m).length ≤ 100 := fun m hm => by
  have h := (rels_props hv).1
  have : (relL p m).length ≤ (rels p).length := by
    unfold rels relL
    simp only [List.length_append]
    have e : List.range p.n = List.range m ++ (List.range (p.n - m)).map (m + ·) := by
      rw [← List.range_add, show m + (p.n - m) = p.n by omega]
    rw [e, List.flatMap_append, List.length_append]
    simp only [List.length_append, List.length_map, List.length_range]
    omega
  omega
set_option maxHeartbeats 4000000 in
theorem PresentationRelators_ok {p : Pr} (hv : Valid p) {w : World} {vp : Value} {lo hi : Nat} [hp : Pres lo hi w vp p] :
    Calls Tryz.prog 121 #[vp] w (Ret fun v w' => ∃ (u : Value) (e : Int), v = .tuple #[u, .int .i64 e] ∧ Ext w w' ∧ ∃ rs, rs.map (·.2) = rels p ∧ GrowL 22 w.heap.size w' u rs) := by
  have hn6 := hv.n6
  have hol : p.ord.length = p.n := rfl
  have hwl := hv.lenw
  have hcl := hv.lenc
  replace hp := hp.wide
  obtain ⟨vo, vpw, vc, ps, cs, css, rfl, h1, h2, h3⟩ := hp.ex
  refine enter (args := [.agg #[vo, vpw, vc]]) (l := [.tmp 2, .tmp 3]) Tryz.func121 rfl rfl Tryz.ntmps121 (by simp) ?_
  refine go ?_
  refine st_box3 (by ((try simp only [ev_tmp, ev_const, ev_func, get_put, get_args, get_putL, get_putL_nil, Nat.reduceEqDiff, reduceIte, List.getD_cons_zero, List.getD_cons_succ, List.getD_nil]); first | done | with_reducible rfl)) (by first | exact True.intro | exact ⟨_, rfl, by ((try simp only [ev_tmp, ev_const, ev_func, get_put, get_args, get_putL, get_putL_nil, Nat.reduceEqDiff, reduceIte, List.getD_cons_zero, List.getD_cons_succ, List.getD_nil, Bool.not_true, Bool.not_false]); first | done | with_reducible rfl)⟩) fun w1 b he1 hb1 hs1 hc0 hc1 hc2 => ?_
  have hz1 := he1.size
  refine go ?_
  refine rc (impl_IsPresentation_ok (p := p) (by omega)) (next := fun v0 w0 h0 => ?_)
  obtain ⟨b0, rfl, hb0, he0⟩ := h0
  have hE0 := he1.trans he0
  refine go ?_
  refine c_b (fun e0 => ?_) (fun e0 => ?_)
  · rw [hb0.2 hv] at e0; cases e0
  refine go ?_
  refine r_for p.n (fun i ρ w' => ∃ vl rs, Has ρ [(1, .pointer (some ⟨b, 0, none⟩)), (4, vl), (16, vo), (17, .int .i64 p.n), (18, .int .i64 i)] ∧ Ext w0 w' ∧ GrowL 22 w0.heap.size w' vl rs ∧ rs.map (·.2) = (List.range i).map (relP p)) ?_ ?_
  · refine ⟨nilv, [], ?_, Ext.refl _, GrowL.nil _ _ _ (Nat.le_refl _), rfl⟩
    exact hasP
  rintro i ρ w3 hi ⟨vl, rs, hH, he3, hG3, hrs3⟩
  refine rwp_has hH fun ρ0 => ?_
  have hz3 := he3.size
  have hE3 := hE0.trans he3
  have hrl3 : rs.length = i := by have := congrArg List.length hrs3; simpa using this
  refine go ?_
  refine c_if (fun h4 => ?_) (fun h4 => ?_)
  · have hin : i < p.n := by omega
    have ho := hv.opos hin
    have hoi : p.ord.getD i 0 = p.o i := rfl
    have hop := hv.prime i hin
    have hiw := invec_word hv (hv.w_in i hin)
    have hpw : p.w i = p.pow.getD i [] := rfl
    rw [hpw] at hiw
    have hlw := letW_word hiw.1
    obtain ⟨b', hb', hvb'⟩ := own_some' vl w0.heap.size w3.heap.size hz3 (fun g h => (hG3.lst.lt h).1)
    have hzE0 := hE0.size
    have hz0 := he0.size
    have ap1 : Apart 0 w.heap.size b' := ⟨.inr (by omega)⟩
    have ap2 : Apart b (b + 1) b' := ⟨.inr (by have := hc0.lt; omega)⟩
    refine go ?_
    rw [hoi]
    refine z_order b' [0, 1, 2, 6, 7, 8, 9, 10, 4, 3, 5, 11, 12, 13, 14, 15, 16] (h := fun w4 he4 hs4 => ?_)
    refine zgo ?_
    refine z_slice1i (t := 22) (e := 2) (z := .int .i64 0) (a := (i : Int) + 1) (next := fun w5 v5 he5 hs5 ho5 => ?_)
    have hx5 : Ints w4.heap.size (w4.heap.size + 1) w5 v5 [(i : Int) + 1] := ⟨ho5.toSl⟩
    refine zc (sliceRepeat_ok (o := p.o i) hop) (next := fun v6 w6 h6 => ?_)
    obtain ⟨he6, hG6⟩ := h6
    refine zc (normalWord_ok (e := p.pow.getD i []) (by omega) (fun j hj => by have := hiw.2.2 j hj; omega)) (next := fun v7 w7 h7 => ?_)
    obtain ⟨he7, hG7⟩ := h7
    have hi7 := hG7.fr.ints
    refine zc (invertWord_ok (e := wordV (p.pow.getD i [])) (by omega) (ints_bdI hlw hn6)) (next := fun v8 w8 h8 => ?_)
    obtain ⟨he8, hG8⟩ := h8
    have hG68 := @GrowI.ext _ _ _ _ _ _ (he7.trans he8) hG6
    have hz5 := he5.size
    have hz58 := ((he6.trans he7).trans he8).size
    refine z_appi hG68 hG8.fr.ints hz58 hz5 (by simp only [List.length_replicate, invW_len]; omega) (next := fun v9 w9 hG9 hx9 hz9 => ?_)
    have hx49 := hx9 w4 (he5.trans ((he6.trans he7).trans he8)) hz5
    refine z_grow (hG3.ext he4) hx49 (hG9.fr.mono hz5) (by have := he4.size; omega) (by omega) hvb' (next := fun v10 v11 w11 hG11 hx11 hz11 hgs11 => ?_)
    refine zgo ?_
    refine z_end ?_
    refine go ?_
    refine forQ_normal (by omega) ⟨v11, _, ?_, hx11 w0 ((he3.trans he4).trans hx49) (Nat.le_refl _), hG11, ?_⟩
    · exact hasP
    · rw [List.map_append, hrs3, List.range_succ, List.map_append]; rfl
  · obtain rfl : i = p.n := by omega
    have hrs0 : rs.map (·.2) = relL p 0 := by rw [hrs3]; simp [relL]
    have hrb := rels_bd hv
    clear hrs3
    refine go ?_
    refine r_for p.n (fun i ρ w' => ∃ vl rs, Has ρ [(1, .pointer (some ⟨b, 0, none⟩)), (4, vl), (41, vo), (42, .int .i64 p.n), (43, .int .i64 i)] ∧ Ext w0 w' ∧ GrowL 22 w0.heap.size w' vl rs ∧ rs.map (·.2) = relL p i) ?_ ?_
    · refine ⟨vl, rs, ?_, he3, hG3, hrs0⟩
      exact hasP
    clear hG3 he3 hrs0 hrl3 hz3 hE3
    rintro i ρ w3 hi ⟨vl, rs, hH3, he3, hG3, hrs3⟩
    refine rwp_has hH3 fun ρ1 => ?_
    have hz3 := he3.size
    have hE3 := hE0.trans he3
    refine go ?_
    refine c_if (fun h5 => ?_) (fun h5 => ?_)
    · have hin : i < p.n := by omega
      have hci := hv.lenci i hin
      refine go ?_
      refine r_for (p.n - 1 - i) (fun k ρ w' => ∃ vl rs, Has ρ [(1, .pointer (some ⟨b, 0, none⟩)), (4, vl), (7, .int .i64 i), (41, vo), (42, .int .i64 p.n), (43, .int .i64 i), (50, Pc.rowAt vc cs i), (51, .int .i64 (p.cnj.getD i []).length), (52, .int .i64 k)] ∧ Ext w0 w' ∧ GrowL 22 w0.heap.size w' vl rs ∧ rs.map (·.2) = relL p i ++ relCs p i k) ?_ ?_
      · refine ⟨vl, rs, ?_, he3, hG3, by simpa [relCs] using hrs3⟩
        exact hasP
      clear hG3 he3 hrs3 hz3 hE3
      rintro k ρ w4 hk ⟨vl, rs, hH4, he4, hG4, hrs4⟩
      refine rwp_has hH4 fun ρ2 => ?_
      have hz4 := he4.size
      have hE4 := hE0.trans he4
      have hrl4 : rs.length ≤ 1000 := by
        have h := congrArg List.length hrs4
        have h2 := hrb i (by omega)
        simp only [List.length_map, List.length_append, relCs, List.length_range] at h
        omega
      have hrow : Pc.Rows 0 w1.heap.size w4 (Pc.rowAt vc cs i) (css.getD i []) (p.cnj.getD i []) := ((h3.same ((hE4).same _ _)).vals.at_ i).mono (Nat.zero_le _) (by have := he1.size; omega)
      refine go ?_
      refine c_if (fun h6 => ?_) (fun h6 => ?_)
      · have hkn : k < p.n - 1 - i := by omega
        have hiw := invec_word hv (hv.c_in i (i + 1 + k) (by omega) (by omega))
        have hw : p.c i (i + 1 + k) = (p.cnj.getD i []).getD k [] := by
          show (p.cnj.getD i []).getD (i + 1 + k - (i + 1)) [] = _
          rw [show i + 1 + k - (i + 1) = k by omega]
        rw [hw] at hiw
        have hlw := letW_word hiw.1
        refine go ?_
        refine st_slice3i (a := -((i : Int) + 1)) (b := (i : Int) + k + 2) (c := (i : Int) + 1) (by ((try simp only [ev_tmp, ev_const, ev_func, get_put, get_args, get_putL, get_putL_nil, Nat.reduceEqDiff, reduceIte, List.getD_cons_zero, List.getD_cons_succ, List.getD_nil]); first | done | with_reducible rfl)) (by ((try simp only [ev_tmp, ev_const, ev_func, get_put, get_args, get_putL, get_putL_nil, Nat.reduceEqDiff, reduceIte, List.getD_cons_zero, List.getD_cons_succ, List.getD_nil]); first | done | with_reducible rfl)) (by ((try simp only [ev_tmp, ev_const, ev_func, get_put, get_args, get_putL, get_putL_nil, Nat.reduceEqDiff, reduceIte, List.getD_cons_zero, List.getD_cons_succ, List.getD_nil]); first | done | with_reducible rfl)) ?_ (by first | exact True.intro | exact ⟨_, rfl, by ((try simp only [ev_tmp, ev_const, ev_func, get_put, get_args, get_putL, get_putL_nil, Nat.reduceEqDiff, reduceIte, List.getD_cons_zero, List.getD_cons_succ, List.getD_nil, Bool.not_true, Bool.not_false]); first | done | with_reducible rfl)⟩) fun w5 v5 he5 hG5 => ?_
        · rfl
        have e3 : [-((i : Int) + 1), (i : Int) + k + 2, (i : Int) + 1] = [-(i : Int) - 1, ((i + 1 + k : Nat) : Int) + 1, (i : Int) + 1] := by
          rw [show -((i : Int) + 1) = -(i : Int) - 1 by omega, show (i : Int) + k + 2 = ((i + 1 + k : Nat) : Int) + 1 by omega]
        rw [e3] at hG5
        refine go ?_
        refine rc (normalWord_ok (e := (p.cnj.getD i []).getD k []) (by omega) (fun j hj => by have := hiw.2.2 j hj; omega)) (next := fun v6 w6 h7 => ?_)
        obtain ⟨he6, hG6⟩ := h7
        have hi6 := hG6.fr.ints
        refine go ?_
        refine rc (invertWord_ok (e := wordV ((p.cnj.getD i []).getD k [])) (by omega) (ints_bdI hlw hn6)) (next := fun v7 w7 h8 => ?_)
        obtain ⟨he7, hG7⟩ := h8
        have hG57 := @GrowI.ext _ _ _ _ _ _ (he6.trans he7) hG5
        have hz7 := (he5.trans (he6.trans he7)).size
        refine go ?_
        refine st_appi hG57 hG7.fr.ints hz7 (by simp only [List.length_cons, List.length_nil, invW_len]; omega) (next := fun v8 w8 hG8 hx8 hz8 => ?_)
        have hx48 := hx8 w4 (he5.trans (he6.trans he7)) (Nat.le_refl _)
        refine go ?_
        refine st_grow hG4 hx48 hG8.fr hz4 (by omega) (next := fun v9 v10 w10 hG10 hx10 hz10 hgs10 => ?_)
        refine go ?_
        refine forQ_normal (by omega) ⟨v10, _, ?_, hx10 w0 (he4.trans hx48) (Nat.le_refl _), hG10, ?_⟩
        · exact hasP
        · rw [List.map_append, hrs4, relCs_succ, List.append_assoc]; rfl
      · obtain rfl : k = p.n - 1 - i := by omega
        rw [← relL_succ] at hrs4
        refine go ?_
        refine forQ_normal (by omega) ⟨vl, rs, ?_, he4, hG4, hrs4⟩
        exact hasP
    · obtain rfl : i = p.n := by omega
      refine go ?_
      exact ret2 ⟨vl, 0, rfl, hE3, rs, hrs3, hG3.lower hE0.size hE3.size⟩
theorem _root_.Go.Pc.rd_max {P : Program} {ρ : Env} {w : World} {x y : Operand} {a b : Int} {ty : TypeId} {ts : Array TypeId} (h : ev ρ x = .int .i64 a) (k : ev ρ y = .int .i64 b) : Rd P (.call { callee := .builtin .max, args := #[x, y], argTypes := ts }) ty ρ w (.int .i64 (if b > a then b else a)) := by
  constructor; intro _ _ _ _
  simp [execOp, resolve, invoke, builtin, h, k, Builtin.max_, Builtin.max2]
theorem absI_ok {n : Int} {m : Nat} (h : n = m ∨ n = -(m : Int)) (hm : m ≤ 1000000) {w : World} : Calls Tryz.prog 191 #[.int .i64 n] w (Ret fun v w' => v = .int .i64 m ∧ w' = w) := by
  refine enter (args := [.int .i64 n]) (l := [.tmp 2]) Tryz.func191 rfl rfl Tryz.ntmps191 (by simp) ?_
  refine go ?_
  refine ra (v := .int .i64 (if -n > n then -n else n)) (h := rd_max (by ((try simp only [ev_tmp, ev_const, ev_func, get_put, get_args, get_putL, get_putL_nil, Nat.reduceEqDiff, reduceIte, List.getD_cons_zero, List.getD_cons_succ, List.getD_nil]); first | done | with_reducible rfl)) (by ((try simp only [ev_tmp, ev_const, ev_func, get_put, get_args, get_putL, get_putL_nil, Nat.reduceEqDiff, reduceIte, List.getD_cons_zero, List.getD_cons_succ, List.getD_nil]); first | done | with_reducible rfl))) (next := ?_)
  refine go ?_
  refine ret1 (v := .int .i64 (if -n > n then -n else n)) ⟨?_, rfl⟩
  congr 1
  split <;> omega
set_option maxHeartbeats 2000000 in
theorem evaluate_ok {q : Pr} [hc : ConAll q] {ys : List (El q)} {ws : List Int} (hw : LetW ys.length ws) (hwl : ws.length ≤ 100000) (hyl : ys.length ≤ 1000) {w : World} {vq vw vi : Value} {us : List Value} {xss : List (List Int)} {lo hi lo1 hi1 lo2 hi2 : Nat} [hp : PresP lo hi w vq q] [hx : Ints lo1 hi1 w vw ws] [hu : Pc.Rows lo2 hi2 w vi us xss] (hus : xss = vecs ys) :
    Calls Tryz.prog 166 #[vq, vw, vi] w (Ret fun v w' => Ext w w' ∧ Fr w.heap.size w' v (evalW ys ws).v) := by
  subst hus
  have hv := hc.valid
  have hn6 := hv.n6
  have hol : q.ord.length = q.n := rfl
  have hvl : (vecs ys).length = ys.length := by simp
  replace hp := hp.wide
  replace hx := hx.wide
  replace hu := hu.wide
  have hpP := hp
  obtain ⟨g, og, vo, vpw, vc, ps, cs, css, rfl, hg1, hg2, hc0, hc1, hc2, h1, h2, h3⟩ := hp.ex
  refine enter (args := [.pointer (some ⟨g, og, none⟩), vw, vi]) (l := [.tmp 6]) Tryz.func166 rfl rfl Tryz.ntmps166 (by simp) ?_
  refine go ?_
  refine st_make_int (by ((try simp only [ev_tmp, ev_const, ev_func, get_put, get_args, get_putL, get_putL_nil, Nat.reduceEqDiff, reduceIte, List.getD_cons_zero, List.getD_cons_succ, List.getD_nil]); first | done | with_reducible rfl)) (by ((try simp only [ev_tmp, ev_const, ev_func, get_put, get_args, get_putL, get_putL_nil, Nat.reduceEqDiff, reduceIte, List.getD_cons_zero, List.getD_cons_succ, List.getD_nil]); first | done | with_reducible rfl)) (by omega) (by omega) (by first | exact True.intro | exact ⟨_, rfl, by ((try simp only [ev_tmp, ev_const, ev_func, get_put, get_args, get_putL, get_putL_nil, Nat.reduceEqDiff, reduceIte, List.getD_cons_zero, List.getD_cons_succ, List.getD_nil, Bool.not_true, Bool.not_false]); first | done | with_reducible rfl)⟩) fun w2 v2 he2 hs2 ho2 => ?_
  have hz2 := he2.size
  have hzz : List.replicate q.ord.length (0 : Int) = (1 : El q).v := rfl
  rw [hzz] at ho2
  have ap1 : Apart 0 w.heap.size w.heap.size := ⟨.inr (Nat.le_refl _)⟩
  have hgs : g + 1 ≤ w.heap.size := by have := hc0.lt; omega
  have ap2 : Apart g (g + 1) w.heap.size := ⟨.inr hgs⟩
  refine go ?_
  refine r_for ws.length (fun k ρ w' => ∃ xs, Has ρ [(0, .pointer (some ⟨g, og, none⟩)), (2, vi), (7, v2), (17, vw), (18, .int .i64 ws.length), (19, .int .i64 k)] ∧ Chg w.heap.size w2 w' ∧ OwnI 2 w.heap.size w' v2 xs ∧ xs = (evalW ys (ws.take k)).v) ?_ ?_
  · refine ⟨_, ?_, Chg.refl _ _, ho2, rfl⟩
    exact hasP
  clear ho2
  rintro k ρ w3 hk ⟨xs, hH, hch3, ho3, hxs⟩
  refine rwp_has hH fun ρ0 => ?_
  have hE3 : Ext w w3 := hch3.ext he2 (Nat.le_refl _)
  refine go ?_
  refine c_if (fun h4 => ?_) (fun h4 => ?_)
  · have hkn : k < ws.length := by omega
    have hlk := letW_atI hw hkn
    have hst := evalW_take (ys := ys) hkn
    refine go ?_
    obtain ⟨j, hj⟩ : ∃ j : Nat, ws.getD k 0 = ((j + 1 : Nat) : Int) ∨ ws.getD k 0 = -((j + 1 : Nat) : Int) := ⟨(ws.getD k 0).natAbs - 1, by omega⟩
    have hjn : j < ys.length := by omega
    have hgj : (vecs ys).getD j [] = (ys.getD j 1).v := by rw [vecs_getD ys hjn, getD_one hjn]
    refine rc (absI_ok hj (by omega)) (next := fun v5 w5 h5 => ?_)
    obtain ⟨rfl, rfl⟩ := h5
    have hj1 : j + 1 - 1 = j := rfl
    have hrow : Ints 0 w.heap.size w5 (Pc.rowAt vi us j) ((vecs ys).getD j []) := (hu.same (hE3.same _ _)).vals.at_ j
    refine go ?_
    rw [hj1]
    refine c_if (fun h6 => ?_) (fun h6 => ?_)
    · have hlv : letV ys (ws.getD k 0) = (ys.getD j 1)⁻¹ := by
        unfold letV
        rw [if_neg (by omega), show (-ws.getD k 0 - 1).toNat = j by omega]
      refine go ?_
      refine rc (invert_ok (p := q) (i := 0) (x := ys.getD j 1) hgj) (next := fun v6 w6 h7 => ?_)
      obtain ⟨he6, hf6⟩ := h7
      have hi6 := hf6.ints
      have ho6 : OwnI 2 w.heap.size w6 v2 xs := OwnI.ext (x := he6) (h := ho3)
      have hz3 := hch3.size
      have ap3 : Apart w5.heap.size w6.heap.size w.heap.size := ⟨.inl (by omega)⟩
      clear ho3
      refine go ?_
      refine rc (timesVector_ok (p := q) 0 (i := 0) (x := evalW ys (ws.take k)) (y := (ys.getD j 1)⁻¹) (Nat.zero_le _) hxs rfl (fun k hk => absurd hk (Nat.not_lt_zero _))) (next := fun v7 w7 h8 => ?_)
      obtain ⟨hch7, ho7⟩ := h8
      refine go ?_
      refine forQ_normal (by omega) ⟨_, ?_, (hch3.grow he6).trans hch7, ho7, by rw [hst, hlv]⟩
      exact hasP
    · have hlv : letV ys (ws.getD k 0) = ys.getD j 1 := by
        unfold letV
        rw [if_pos (by omega), show (ws.getD k 0 - 1).toNat = j by omega]
      refine go ?_
      refine rc (timesVector_ok (p := q) 0 (i := 0) (x := evalW ys (ws.take k)) (y := ys.getD j 1) (Nat.zero_le _) hxs hgj (fun k hk => absurd hk (Nat.not_lt_zero _))) (next := fun v7 w7 h8 => ?_)
      obtain ⟨hch7, ho7⟩ := h8
      refine go ?_
      refine forQ_normal (by omega) ⟨_, ?_, hch3.trans hch7, ho7, by rw [hst, hlv]⟩
      exact hasP
  · obtain rfl : k = ws.length := by omega
    rw [List.take_length] at hxs
    refine go ?_
    refine ret1 ⟨hE3, ?_⟩
    rw [← hxs]
    exact ho3.toFr (Nat.le_refl _)
set_option maxHeartbeats 2000000 in
theorem respects_ok {p q : Pr} (hvp : Valid p) [hc : ConAll q] {ys : List (El q)} (hyl : ys.length = p.n) {w : World} {vr vq vi : Value} {ur us : List Value} {rss xss : List (List Int)} {lo hi lo1 hi1 lo2 hi2 : Nat} [hq : PresP lo1 hi1 w vq q] [hr : Pc.Rows lo hi w vr ur rss] [hu : Pc.Rows lo2 hi2 w vi us xss] (hrs : rss = rels p) (hus : xss = vecs ys) :
    Calls Tryz.prog 122 #[vr, vq, vi] w (Ret fun v w' => ∃ b, v = .bool b ∧ (b = true ↔ RelOk p ys) ∧ Ext w w') := by
  subst hus hrs
  have hn6 := hvp.n6
  have hq6 := hc.valid.n6
  have hvl : (vecs ys).length = ys.length := by simp
  have hrp := rels_props hvp
  have hul := hr.vals.len
  refine enter (args := [vr, vq, vi]) (l := [.tmp 6]) Tryz.func122 rfl rfl Tryz.ntmps122 (by simp) ?_
  refine go ?_
  refine r_for (rels p).length (fun k ρ w' => Has ρ [(1, vq), (2, vi), (9, vr), (10, .int .i64 (rels p).length), (11, .int .i64 k)] ∧ Ext w w' ∧ ∀ j, j < k → evalW ys ((rels p).getD j []) = 1) ?_ ?_
  · refine ⟨?_, Ext.refl _, fun j hj => by omega⟩
    exact hasP
  rintro k ρ w3 hk ⟨hH, he3, hI⟩
  refine rwp_has hH fun ρ0 => ?_
  refine go ?_
  refine c_if (fun h4 => ?_) (fun h4 => ?_)
  · have hkn : k < (rels p).length := by omega
    have e1 : (rels p).getD k [] = (rels p)[k] := by simp [hkn]
    have hwk := hrp.2 _ (List.getElem_mem hkn)
    rw [← e1, ← hyl] at hwk
    have hel := (evalW ys ((rels p).getD k [])).inr.len
    refine go ?_
    refine rc (evaluate_ok (q := q) (ys := ys) (ws := (rels p).getD k []) hwk.2 (by omega) (by omega) rfl) (next := fun v5 w5 h5 => ?_)
    obtain ⟨he5, hf5⟩ := h5
    have hi5 := hf5.ints
    refine go ?_
    refine rc (isZero_ok (xs := (evalW ys ((rels p).getD k [])).v) (by omega)) (next := fun v6 w6 h6 => ?_)
    obtain ⟨b6, rfl, hb6, he6⟩ := h6
    rw [← el_one_iff] at hb6
    have hE6 := he5.trans he6
    refine go ?_
    refine c_b (fun h7 => ?_) (fun h7 => ?_)
    · refine go ?_
      refine ret1 ⟨false, rfl, ⟨fun h => (by cases h), fun h => ?_⟩, he3.trans hE6⟩
      rw [hb6.2 (h k hkn)] at h7; cases h7
    · refine go ?_
      refine forQ_normal (by omega) ⟨?_, he3.trans hE6, fun j hj => ?_⟩
      · exact hasP
      · by_cases e : j = k
        · subst e; exact hb6.1 (by simpa using h7)
        · exact hI j (by omega)
  · refine go ?_
    exact ret1 ⟨true, rfl, ⟨fun _ j hj => hI j (by omega), fun _ => rfl⟩, he3⟩
end Go.Proofs.YtnphljflkpekmaaGreat

/-
  Walks: the program's isHom, applyHom, ApplyHom.
  Conditions: stated at each theorem.
-/
namespace Go.Proofs.YtnphljflkpekmaaGreat
open Go Go.Pc
set_option maxHeartbeats 4000000 in
theorem isHom_ok {p q : Pr} {w : World} {b : Nat} {xss : List (List Int)} [hB : HomB w b p q xss] (hl : p.ord.length ≤ 2000000) (hlq : q.ord.length ≤ 2000000) (hxl : xss.length ≤ 2000000) :
    Calls Tryz.prog 75 #[.pointer (some ⟨b, 0, none⟩)] w (Ret fun v w' => ∃ b, v = .bool b ∧ (b = true ↔ HomP p q xss) ∧ Ext w w') := by
  have hol : p.ord.length = p.n := rfl
  have hqp := hB.tgt
  obtain ⟨a0, a1, a2, a3, a4, a5, a6, us, c0, c1, c2, c3, c4, c5, c6, hp, hq, hx⟩ := hB.ex
  obtain ⟨ho, _⟩ := hp.ints3
  refine enter (args := [.pointer (some ⟨b, 0, none⟩)]) (l := [.tmp 2]) Tryz.func75 rfl rfl Tryz.ntmps75 (by simp) ?_
  refine go ?_
  refine d_region fun w1 he1 _ => ?_
  refine dgo ?_
  refine dce (impl_IsConsistent_ok (p := p) hl) (next := fun v5 w5 h5 => ?_)
  obtain ⟨b5, rfl, hb5, he5⟩ := h5
  have hE5 := he1.trans he5
  refine da (next := ?_)
  refine da (next := ?_)
  refine dsp (fun e5 => ?_) (fun e5 => ?_)
  · have e5' : b5 = false := by simpa using e5
    refine dgo ?_
    refine d_end (h := ?_)
    refine go ?_
    refine ret1 ⟨false, rfl, ⟨fun h => (by cases h), fun h => ?_⟩, hE5⟩
    rw [hb5.2 h.1] at e5'; cases e5'
  have hG := hb5.1 (by simpa using e5)
  have hn6 := hG.valid.n6
  refine dgo ?_
  refine dspd (fun h7 => ?_) (fun h7 => ?_)
  · refine dgo ?_
    refine d_end (h := ?_)
    refine go ?_
    refine ret1 ⟨false, rfl, ⟨fun h => (by cases h), fun h => ?_⟩, hE5⟩
    have := h.2.1
    exact absurd (by omega) h7
  have hlen : xss.length = p.n := by
    have h8 := Decidable.not_not.1 h7
    omega
  refine dgo ?_
  refine dce (areElements_ok (p := q) (xss := xss) hlq hxl) (next := fun v6 w6 h6 => ?_)
  obtain ⟨b6, rfl, hb6, he6⟩ := h6
  have hE6 := hE5.trans he6
  refine dgo ?_
  refine d_end (h := ?_)
  refine go ?_
  refine c_b (fun e6 => ?_) (fun e6 => ?_)
  · refine go ?_
    refine ret1 ⟨false, rfl, ⟨fun h => (by cases h), fun h => ?_⟩, hE6⟩
    obtain ⟨_, _, hq', hI, _⟩ := h
    rw [hb6.2 ⟨hq', hI⟩] at e6; cases e6
  obtain ⟨hGq, hI⟩ := hb6.1 (by simpa using e6)
  haveI : ConAll q := ⟨hGq.con⟩
  have hq6 := hGq.valid.n6
  obtain ⟨ys, hys⟩ := els_of hI
  have hyl : ys.length = p.n := by rw [← hlen, hys]; simp
  refine go ?_
  refine rc (PresentationRelators_ok (p := p) hG.valid) (next := fun v11 w11 h11 => ?_)
  obtain ⟨u11, e11, rfl, he11, rs11, hrs11, hG11⟩ := h11
  have hR11 := hG11.rows
  rw [hrs11] at hR11
  have hE11 := hE6.trans he11
  refine go ?_
  refine d_region fun w12 he12 _ => ?_
  refine dgo ?_
  refine dce (respects_ok (p := p) (q := q) hG.valid (ys := ys) hyl rfl hys) (next := fun v13 w13 h13 => ?_)
  obtain ⟨b13, rfl, hb13, he13⟩ := h13
  refine dgo ?_
  refine d_end (h := ?_)
  refine go ?_
  refine ret1 ⟨b13, rfl, ?_, (hE11.trans he12).trans he13⟩
  rw [hb13]
  constructor
  · exact fun h => ⟨hG, hlen, hGq, hI, ys, hys, h⟩
  · rintro ⟨_, _, _, _, hr⟩
    rw [hys, relC_iff] at hr
    exact hr
set_option maxHeartbeats 4000000 in
theorem applyHom_ok {p q : Pr} [hc : ConAll q] {ys : List (El q)} {x : List Int} (hyl : ys.length ≤ 1000) (hxl : x.length = ys.length) (hxr : ∀ i, i < x.length → 0 ≤ x.getD i 0 ∧ x.getD i 0 ≤ 7) {w : World} {b : Nat} {vx : Value} {xss : List (List Int)} {xs : List Int} {lo hi : Nat} [hB : HomB w b p q xss] [hx : Ints lo hi w vx xs] (hus : xss = vecs ys) (hxe : xs = x) :
    Calls Tryz.prog 98 #[.pointer (some ⟨b, 0, none⟩), vx] w (Ret fun v w' => Ext w w' ∧ Fr w.heap.size w' v (imgE ys x).v) := by
  subst hxe hus
  have hn6 := hc.valid.n6
  have hol : q.ord.length = q.n := rfl
  have hvl : (vecs ys).length = ys.length := by simp
  replace hx := hx.wide
  have hqp := hB.tgt
  obtain ⟨a0, a1, a2, a3, a4, a5, a6, us, c0, c1, c2, c3, c4, c5, c6, hp, hq, hi⟩ := hB.ex
  obtain ⟨ho, _⟩ := hq.ints3
  have himg : (imgE ys xs).v = (prodTo ys xs xs.length).v := by
    unfold imgE
    rw [hxl]
  refine enter (args := [.pointer (some ⟨b, 0, none⟩), vx]) (l := [.tmp 4]) Tryz.func98 rfl rfl Tryz.ntmps98 (by simp) ?_
  refine go ?_
  refine st_make_int (by ((try simp only [ev_tmp, ev_const, ev_func, get_put, get_args, get_putL, get_putL_nil, Nat.reduceEqDiff, reduceIte, List.getD_cons_zero, List.getD_cons_succ, List.getD_nil]); first | done | with_reducible rfl)) (by ((try simp only [ev_tmp, ev_const, ev_func, get_put, get_args, get_putL, get_putL_nil, Nat.reduceEqDiff, reduceIte, List.getD_cons_zero, List.getD_cons_succ, List.getD_nil]); first | done | with_reducible rfl)) (by omega) (by omega) (by first | exact True.intro | exact ⟨_, rfl, by ((try simp only [ev_tmp, ev_const, ev_func, get_put, get_args, get_putL, get_putL_nil, Nat.reduceEqDiff, reduceIte, List.getD_cons_zero, List.getD_cons_succ, List.getD_nil, Bool.not_true, Bool.not_false]); first | done | with_reducible rfl)⟩) fun w1 v1 he1 hs1 ho1 => ?_
  have hf1 : Fr w.heap.size w1 v1 (1 : El q).v := ho1.toFr (Nat.le_refl _)
  clear ho1
  refine go ?_
  refine r_for xs.length (fun k ρ w' => Has ρ [(0, .pointer (some ⟨b, 0, none⟩)), (5, v1), (15, vx), (16, .int .i64 xs.length), (17, .int .i64 k)] ∧ Ext w w' ∧ Fr w.heap.size w' v1 (prodTo ys xs k).v) ?_ ?_
  · refine ⟨?_, he1, hf1⟩
    exact hasP
  clear hf1 he1
  rintro k ρ w3 hk ⟨hH, he3, hf3⟩
  refine rwp_has hH fun ρ0 => ?_
  refine go ?_
  refine c_if (fun h4 => ?_) (fun h4 => ?_)
  · have hkn : k < ys.length := by omega
    have hg := vecs_getD ys hkn
    have hak := hxr k (by omega)
    refine go ?_
    refine r_for (xs.getD k 0).toNat (fun j ρ w' => Has ρ [(0, .pointer (some ⟨b, 0, none⟩)), (5, v1), (6, .int .i64 k), (15, vx), (16, .int .i64 xs.length), (17, .int .i64 k), (22, .int .i64 (xs.getD k 0)), (23, .int .i64 j)] ∧ Ext w w' ∧ Fr w.heap.size w' v1 (prodTo ys xs k * Grp.pw ys[k] j).v) ?_ ?_
    · refine ⟨?_, he3, by rw [Grp.pw_zero, Grp.mul_one]; exact hf3⟩
      exact hasP
    clear hf3 he3
    rintro j ρ w4 hj ⟨hH4, he4, hf4⟩
    refine rwp_has hH4 fun ρ1 => ?_
    refine go ?_
    refine c_if (fun h5 => ?_) (fun h5 => ?_)
    · have hui : Ints 0 w.heap.size w (Pc.rowAt a6 us k) ((vecs ys).getD k []) := inferInstance
      refine go ?_
      refine d_regionW he4 fun w5 he5 _ => ?_
      refine dgo ?_
      refine dc (timesVectorF_ok (p := q) (i := 0) (w0 := w) (x := prodTo ys xs k * Grp.pw ys[k] j) (y := ys[k]) (he4.trans he5) (hf4.ext' he5) (Nat.zero_le _) rfl hg) (next := fun v6 w6 h6 => ?_)
      obtain ⟨he6, hf6⟩ := h6
      refine ⟨fun _ => he6, ?_⟩
      refine d_end (h := ?_)
      refine go ?_
      refine forQ_normal (by omega) ⟨?_, he6, by rw [Grp.pw_succ, ← Grp.mul_assoc]; exact hf6⟩
      exact hasP
    · obtain rfl : j = (xs.getD k 0).toNat := by omega
      refine go ?_
      refine forQ_normal (by omega) ⟨?_, he4, ?_⟩
      · exact hasP
      · show Fr w.heap.size w4 v1 (prodTo ys xs k * Grp.pwz (ys.getD k 1) (xs.getD k 0)).v
        rw [getD_one hkn, Grp.pwz_of _ hak.1]
        exact hf4
  · obtain rfl : k = xs.length := by omega
    refine go ?_
    exact ret1 ⟨he3, by rw [himg]; exact hf3⟩
theorem inr_smallH {p : Pr} (hv : Valid p) {xs : List Int} (h : InR p xs) : ∀ i, i < xs.length → 0 ≤ xs.getD i 0 ∧ xs.getD i 0 ≤ 7 := fun i hi => by
  have h1 := h.rng i (by have := h.len; omega)
  have h2 := hv.opos (i := i) (by have := h.len; omega)
  omega
end Go.Proofs.YtnphljflkpekmaaGreat

/-
  Walks: the program's HomImage, SubgroupImage.
  Conditions: stated at each theorem.
-/
namespace Go.Proofs.YtnphljflkpekmaaGreat
open Go Go.Pc
set_option maxHeartbeats 2000000 in
theorem impl_HomImage_ok {p q : Pr} {w : World} {vh : Value} {xss : List (List Int)} {lo hi : Nat} [hh : HomV lo hi w vh p q xss] (hl : p.ord.length ≤ 2000000) (hlq : q.ord.length ≤ 2000000) (hxl : xss.length ≤ 2000000) :
    Calls Tryz.prog 36 #[vh] w (Ret fun v w' => ∃ (u : Value) (k : List (List Int)) (e : Int), v = .tuple #[u, .int .i64 e] ∧ Ans (HomP p q xss) (HiV q xss) [] k e ∧ Ext w w' ∧ ∃ rs, k = rs.map (·.2) ∧ MatO w.heap.size w'.heap.size w' u rs) := by
  have hol : p.ord.length = p.n := rfl
  replace hh := hh.wide
  obtain ⟨a0, a1, a2, a3, a4, a5, a6, us, rfl, hp, hq, hi⟩ := hh.ex
  refine enter (args := [.agg #[a0, a1, a2, a3, a4, a5, a6]]) (l := [.tmp 2, .tmp 3]) Tryz.func36 rfl rfl Tryz.ntmps36 (by simp) ?_
  refine go ?_
  refine st_box (vs := [a0, a1, a2, a3, a4, a5, a6]) (by ((try simp only [ev_tmp, ev_const, ev_func, get_put, get_args, get_putL, get_putL_nil, Nat.reduceEqDiff, reduceIte, List.getD_cons_zero, List.getD_cons_succ, List.getD_nil]); first | done | with_reducible rfl)) (by first | exact True.intro | exact ⟨_, rfl, by ((try simp only [ev_tmp, ev_const, ev_func, get_put, get_args, get_putL, get_putL_nil, Nat.reduceEqDiff, reduceIte, List.getD_cons_zero, List.getD_cons_succ, List.getD_nil, Bool.not_true, Bool.not_false]); first | done | with_reducible rfl)⟩) fun w1 b he1 hb1 hs1 hbk => ?_
  have hB := hh.boxed he1 hbk
  have htp := hB.tgt
  obtain ⟨c0, c1, c2, c3, c4, c5, c6⟩ := hbk.cells7
  refine go ?_
  refine rc (isHom_ok (p := p) (q := q) (xss := xss) hl hlq hxl) (next := fun v5 w5 h5 => ?_)
  obtain ⟨b5, rfl, hb5, he5⟩ := h5
  have hE5 := he1.trans he5
  refine go ?_
  refine c_b (fun e5 => ?_) (fun e5 => ?_)
  · refine go ?_
    refine ret2 ⟨nilv, [], 1, rfl, .inr ⟨fun h => ?_, rfl, rfl⟩, hE5, [], rfl, MatO.nilR _ _ _⟩
    rw [hb5.2 h] at e5; cases e5
  have hA := hb5.1 (by simpa using e5)
  have hA' := hA
  obtain ⟨hG, hlen, hGq, hI, _⟩ := hA'
  haveI : ConAll q := ⟨hGq.con⟩
  have hn6 := hG.valid.n6
  obtain ⟨ys, hys⟩ := els_of hI
  have hyl : ys.length = p.n := by rw [← hlen, hys]; simp
  refine go ?_
  refine rc (generatedM_ok (p := q) (ys := ys) hys (by omega)) (next := fun v7 w7 h7 => ?_)
  obtain ⟨he7, rs7, hrs7, hM7⟩ := h7
  refine go ?_
  exact ret2 ⟨v7, _, 0, rfl, .inl ⟨hA, ⟨inferInstance, ys, hys, rfl⟩, rfl⟩, hE5.trans he7, rs7, hrs7, hM7.lower hE5.size⟩
set_option maxHeartbeats 4000000 in
theorem impl_SubgroupImage_ok {p q : Pr} {w : World} {vh vu : Value} {ut : List Value} {xss uss : List (List Int)} {lo hi lo2 hi2 : Nat} [hh : HomV lo hi w vh p q xss] [hu : Pc.Rows lo2 hi2 w vu ut uss] (hl : p.ord.length ≤ 2000000) (hlq : q.ord.length ≤ 2000000) (hxl : xss.length ≤ 2000000) :
    Calls Tryz.prog 51 #[vh, vu] w (Ret fun v w' => ∃ (u : Value) (k : List (List Int)) (e : Int), v = .tuple #[u, .int .i64 e] ∧ Ans (HomP p q xss ∧ IsSubP p uss) (SiV p q xss uss) [] k e ∧ Ext w w' ∧ ∃ rs, k = rs.map (·.2) ∧ MatO w.heap.size w'.heap.size w' u rs) := by
  have hol : p.ord.length = p.n := rfl
  replace hh := hh.wide
  replace hu := hu.wide
  obtain ⟨a0, a1, a2, a3, a4, a5, a6, us, rfl, hp, hq, hi⟩ := hh.ex
  refine enter (args := [.agg #[a0, a1, a2, a3, a4, a5, a6], vu]) (l := [.tmp 4, .tmp 5]) Tryz.func51 rfl rfl Tryz.ntmps51 (by simp) ?_
  refine go ?_
  refine st_box (vs := [a0, a1, a2, a3, a4, a5, a6]) (by ((try simp only [ev_tmp, ev_const, ev_func, get_put, get_args, get_putL, get_putL_nil, Nat.reduceEqDiff, reduceIte, List.getD_cons_zero, List.getD_cons_succ, List.getD_nil]); first | done | with_reducible rfl)) (by first | exact True.intro | exact ⟨_, rfl, by ((try simp only [ev_tmp, ev_const, ev_func, get_put, get_args, get_putL, get_putL_nil, Nat.reduceEqDiff, reduceIte, List.getD_cons_zero, List.getD_cons_succ, List.getD_nil, Bool.not_true, Bool.not_false]); first | done | with_reducible rfl)⟩) fun w1 b he1 hb1 hs1 hbk => ?_
  have hB := hh.boxed he1 hbk
  have hsp := hB.src
  have htp := hB.tgt
  refine go ?_
  refine rc (isHom_ok (p := p) (q := q) (xss := xss) hl hlq hxl) (next := fun v5 w5 h5 => ?_)
  obtain ⟨b5, rfl, hb5, he5⟩ := h5
  have hE5 := he1.trans he5
  refine ra (next := ?_)
  refine ra (next := ?_)
  refine sp (fun e5 => ?_) (fun e5 => ?_)
  · have e5' : b5 = false := by simpa using e5
    refine go ?_
    refine ret2 ⟨nilv, [], 1, rfl, .inr ⟨fun h => ?_, rfl, rfl⟩, hE5, [], rfl, MatO.nilR _ _ _⟩
    rw [hb5.2 h.1] at e5'; cases e5'
  have hA := hb5.1 (by simpa using e5)
  have hA' := hA
  obtain ⟨hG, hlen, hGq, hI, _⟩ := hA'
  haveI : ConAll p := ⟨hG.con⟩
  haveI : ConAll q := ⟨hGq.con⟩
  have hv := hG.valid
  have hn6 := hv.n6
  obtain ⟨ys, hys⟩ := els_of hI
  have hyl : ys.length = p.n := by rw [← hlen, hys]; simp
  have hu5 : Pc.Rows 0 w.heap.size w5 vu ut uss := hu.same (hE5.same _ _)
  refine go ?_
  refine st_slice1 (u := vu) (by ((try simp only [ev_tmp, ev_const, ev_func, get_put, get_args, get_putL, get_putL_nil, Nat.reduceEqDiff, reduceIte, List.getD_cons_zero, List.getD_cons_succ, List.getD_nil]); first | done | with_reducible rfl)) hu5.sl.cells rfl (by first | exact True.intro | exact ⟨_, rfl, by ((try simp only [ev_tmp, ev_const, ev_func, get_put, get_args, get_putL, get_putL_nil, Nat.reduceEqDiff, reduceIte, List.getD_cons_zero, List.getD_cons_succ, List.getD_nil, Bool.not_true, Bool.not_false]); first | done | with_reducible rfl)⟩) fun w2 v2 he2 hs2 ho2 => ?_
  have hE2 := hE5.trans he2
  have hR := rowss_one (xss := uss) ho2 (hu5.same (he2.same _ _))
  refine go ?_
  refine rc (areSubgroups_ok (p := p) (xsss := [uss]) hl (by simp)) (next := fun v6 w6 h6 => ?_)
  obtain ⟨b6, rfl, hb6, he6⟩ := h6
  rw [areSub1] at hb6
  have hE6 := hE2.trans he6
  refine go ?_
  refine c_b (fun e6 => ?_) (fun e6 => ?_)
  · refine go ?_
    refine ret2 ⟨nilv, [], 1, rfl, .inr ⟨fun h => ?_, rfl, rfl⟩, hE6, [], rfl, MatO.nilR _ _ _⟩
    rw [hb6.2 h.2] at e6; cases e6
  have hS := hb6.1 (by simpa using e6)
  have hS' := hS
  obtain ⟨_, hsq⟩ := hS'
  obtain ⟨zs, hzs, hsz⟩ := isSeq_iff.1 hsq
  have hzl := hsz.len
  have hul : uss.length = zs.length := by rw [hzs]; simp
  refine go ?_
  refine r_for zs.length (fun i ρ w' => ∃ vl rs, Has ρ [(2, .pointer (some ⟨b, 0, none⟩)), (6, vl), (18, vu), (19, .int .i64 uss.length), (20, .int .i64 i)] ∧ Ext w6 w' ∧ GrowL 22 w6.heap.size w' vl rs ∧ rs.map (·.2) = vecs ((zs.take i).map fun z => imgE ys z.v)) ?_ ?_
  · refine ⟨nilv, [], ?_, Ext.refl _, GrowL.nil _ _ _ (Nat.le_refl _), rfl⟩
    exact hasP
  rintro i ρ w3 hi ⟨vl, rs, hH, he3, hG3, hrs3⟩
  refine rwp_has hH fun ρ0 => ?_
  have hz3 := he3.size
  have hE3 := hE6.trans he3
  have hrl : rs.length = i := by have := congrArg List.length hrs3; simp at this; omega
  refine go ?_
  refine c_if (fun h4 => ?_) (fun h4 => ?_)
  · have hin : i < zs.length := by omega
    have hgi : uss.getD i [] = (zs[i]).v := by rw [hzs]; exact vecs_getD zs hin
    have hiz := (zs[i]).inr
    have hil := hiz.len
    refine go ?_
    refine rc (applyHom_ok (p := p) (q := q) (ys := ys) (x := (zs[i]).v) (by omega) (by omega) (inr_smallH hv hiz) hys hgi) (next := fun v5 w5 h6 => ?_)
    obtain ⟨he5', hf5⟩ := h6
    refine go ?_
    refine st_grow hG3 he5' hf5 hz3 (by omega) (next := fun v6 v7 w7 hG7 hx7 hz7 hgs7 => ?_)
    refine go ?_
    refine forQ_normal (by omega) ⟨v7, _, ?_, hx7 w6 (he3.trans he5') (Nat.le_refl _), hG7, ?_⟩
    · exact hasP
    · rw [List.take_succ_eq_append_getElem hin]
      simp only [List.map_append, List.map_cons, List.map_nil, hrs3, vecs]
  · obtain rfl : i = zs.length := by omega
    rw [List.take_length] at hrs3
    have hR3 := hG3.rows
    rw [hrs3] at hR3
    refine go ?_
    refine rc (generatedM_ok (p := q) (ys := zs.map fun z => imgE ys z.v) rfl (by rw [List.length_map]; omega)) (next := fun v8 w8 h8 => ?_)
    obtain ⟨he8, rs8, hrs8, hM8⟩ := h8
    refine go ?_
    exact ret2 ⟨v8, _, 0, rfl, .inl ⟨⟨hA, hS⟩, ⟨inferInstance, inferInstance, ys, zs, hys, hzs, rfl⟩, rfl⟩, hE3.trans he8, rs8, hrs8, hM8.lower hE3.size⟩
end Go.Proofs.YtnphljflkpekmaaGreat

/-
  Walks: the statement's own helpers on homomorphisms: sizes, copies, comparison, marks (szHom, toHom, eqHom, markHom).
  Conditions: stated at each theorem.
-/
namespace Go.Proofs.YtnphljflkpekmaaGreat
open Go Go.Pc
set_option maxHeartbeats 1000000 in
theorem szHom_ok {w : World} {v : Value} {p q : Pr} {xss : List (List Int)} {k : Int} {lo hi : Nat} [hh : HomV lo hi w v p q xss] (hk : 0 ≤ k ∧ k ≤ 2000000) :
    Calls Tryz.prog 28 #[v, .int .i64 k] w (Ret fun v w' => ∃ j : Int, v = .int .i64 j ∧ (j < 0 ∨ 0 ≤ j ∧ j ≤ k ∧ SizeP p k ∧ SizeP q k ∧ (xss.length : Int) ≤ k ∧ ∀ i, ((xss.getD i []).length : Int) ≤ k) ∧ Ext w w') := by
  obtain ⟨a0, a1, a2, a3, a4, a5, a6, us, rfl, hp, hq, hx⟩ := hh.ex
  refine enter (args := [.agg #[a0, a1, a2, a3, a4, a5, a6], .int .i64 k]) (l := [.tmp 4]) Tryz.func28 rfl rfl Tryz.ntmps28 (by simp) ?_
  refine go ?_
  refine st_box (vs := [a0, a1, a2, a3, a4, a5, a6]) (by ((try simp only [ev_tmp, ev_const, ev_func, get_put, get_args, get_putL, get_putL_nil, Nat.reduceEqDiff, reduceIte, List.getD_cons_zero, List.getD_cons_succ, List.getD_nil]); first | done | with_reducible rfl)) (by first | exact True.intro | exact ⟨_, rfl, by ((try simp only [ev_tmp, ev_const, ev_func, get_put, get_args, get_putL, get_putL_nil, Nat.reduceEqDiff, reduceIte, List.getD_cons_zero, List.getD_cons_succ, List.getD_nil, Bool.not_true, Bool.not_false]); first | done | with_reducible rfl)⟩) fun w1 b he1 hb1 hs1 hbk => ?_
  obtain ⟨c0, c1, c2, c3, c4, c5, c6⟩ := hbk.cells7
  refine go ?_
  refine rc (szPresentation_ok (p := p) hk) (next := fun v2 w2 h2 => ?_)
  obtain ⟨j2, rfl, hj2, he2⟩ := h2
  refine go ?_
  refine c_if (fun h5 => ?_) (fun h5 => ?_)
  · refine go ?_
    exact ret1 ⟨-1, rfl, .inl (by omega), he1.trans he2⟩
  have h6 : 0 ≤ j2 ∧ j2 ≤ k ∧ SizeP p k := by
    rcases hj2 with h | h
    · omega
    · exact h
  refine go ?_
  refine rc (szPresentation_ok (p := q) (k := j2) ?_) (next := fun v3 w3 h7 => ?_)
  · omega
  obtain ⟨j3, rfl, hj3, he3⟩ := h7
  refine go ?_
  refine c_if (fun h8 => ?_) (fun h8 => ?_)
  · refine go ?_
    exact ret1 ⟨-1, rfl, .inl (by omega), (he1.trans he2).trans he3⟩
  have h9 : 0 ≤ j3 ∧ j3 ≤ j2 ∧ SizeP q j2 := by
    rcases hj3 with h | h
    · omega
    · exact h
  refine go ?_
  refine rc (szInt64SS_ok (xss := xss) (k := j3) ?_) (next := fun v4 w4 h10 => ?_)
  · omega
  obtain ⟨j4, rfl, hj4, he4⟩ := h10
  refine go ?_
  refine c_if (fun h11 => ?_) (fun h11 => ?_)
  · refine go ?_
    exact ret1 ⟨-1, rfl, .inl (by omega), ((he1.trans he2).trans he3).trans he4⟩
  have h12 : 0 ≤ j4 ∧ j4 ≤ j3 ∧ (xss.length : Int) ≤ j3 ∧ ∀ i, ((xss.getD i []).length : Int) ≤ j3 := by
    rcases hj4 with h | h
    · omega
    · exact h
  refine go ?_
  exact ret1 ⟨j4, rfl, .inr ⟨h12.1, by omega, h6.2.2, h9.2.2.mono (by omega), by omega, fun i => by have := h12.2.2.2 i; omega⟩, ((he1.trans he2).trans he3).trans he4⟩
set_option maxHeartbeats 2000000 in
theorem toHom_ok {w : World} {v : Value} {p q : Pr} {xss : List (List Int)} {lo hi : Nat} [hh : HomV lo hi w v p q xss] (hsp : SizeP p 2000000) (hsq : SizeP q 2000000) (hl : xss.length ≤ 2000000) (hr : ∀ i, (xss.getD i []).length ≤ 2000000) :
    Calls Tryz.prog 30 #[v] w (Ret fun v w' => Ext w w' ∧ ∃ rs, xss = rs.map (·.2) ∧ HomO w.heap.size w'.heap.size w' v p q rs) := by
  obtain ⟨a0, a1, a2, a3, a4, a5, a6, us, rfl, hp, hq, hx⟩ := hh.ex
  refine enter (args := [.agg #[a0, a1, a2, a3, a4, a5, a6]]) (l := [.cell 2 31]) Tryz.func30 rfl rfl Tryz.ntmps30 (by simp) ?_
  refine go ?_
  refine st_box (vs := [a0, a1, a2, a3, a4, a5, a6]) (by ((try simp only [ev_tmp, ev_const, ev_func, get_put, get_args, get_putL, get_putL_nil, Nat.reduceEqDiff, reduceIte, List.getD_cons_zero, List.getD_cons_succ, List.getD_nil]); first | done | with_reducible rfl)) (by first | exact True.intro | exact ⟨_, rfl, by ((try simp only [ev_tmp, ev_const, ev_func, get_put, get_args, get_putL, get_putL_nil, Nat.reduceEqDiff, reduceIte, List.getD_cons_zero, List.getD_cons_succ, List.getD_nil, Bool.not_true, Bool.not_false]); first | done | with_reducible rfl)⟩) fun w1 b he1 hb1 hs1 hbk => ?_
  obtain ⟨c0, c1, c2, c3, c4, c5, c6⟩ := hbk.cells7
  refine go ?_
  refine st_alloc (by first | exact True.intro | exact ⟨_, rfl, by ((try simp only [ev_tmp, ev_const, ev_func, get_put, get_args, get_putL, get_putL_nil, Nat.reduceEqDiff, reduceIte, List.getD_cons_zero, List.getD_cons_succ, List.getD_nil, Bool.not_true, Bool.not_false]); first | done | with_reducible rfl)⟩) fun w2 br he2 hbr hs2 hbk2 => ?_
  refine go ?_
  refine st_alloc (by first | exact True.intro | exact ⟨_, rfl, by ((try simp only [ev_tmp, ev_const, ev_func, get_put, get_args, get_putL, get_putL_nil, Nat.reduceEqDiff, reduceIte, List.getD_cons_zero, List.getD_cons_succ, List.getD_nil, Bool.not_true, Bool.not_false]); first | done | with_reducible rfl)⟩) fun w3 bo he3 hbo hs3 hbk3 => ?_
  have hz1 := he1.size
  have hz2 := he2.size
  have hz3 := he3.size
  have hE3 := (he1.trans he2).trans he3
  refine go ?_
  refine rc (toPresentationO_ok (p := p) hsp) (next := fun v4 w4 h4 => ?_)
  obtain ⟨he4, hP4⟩ := h4
  have hz4 := he4.size
  have hb4 : Blk w4 bo _ := Blk.ext (h := hbk3)
  obtain ⟨u0, u1, u2, _, _, rfl, _⟩ := hP4.ex
  refine go ?_
  refine st_store_sub (h := hb4) (by ((try simp only [ev_tmp, ev_const, ev_func, get_put, get_args, get_putL, get_putL_nil, Nat.reduceEqDiff, reduceIte, List.getD_cons_zero, List.getD_cons_succ, List.getD_nil]); first | done | with_reducible rfl)) (by ((try simp only [ev_tmp, ev_const, ev_func, get_put, get_args, get_putL, get_putL_nil, Nat.reduceEqDiff, reduceIte, List.getD_cons_zero, List.getD_cons_succ, List.getD_nil]); first | done | with_reducible rfl)) ?_ hP4.pres.one3 (by first | exact True.intro | exact ⟨_, rfl, by ((try simp only [ev_tmp, ev_const, ev_func, get_put, get_args, get_putL, get_putL_nil, Nat.reduceEqDiff, reduceIte, List.getD_cons_zero, List.getD_cons_succ, List.getD_nil, Bool.not_true, Bool.not_false]); first | done | with_reducible rfl)⟩) fun w5 hc5 hs5 hb5 => ?_
  · simp
  have hE5 : Ext w w5 := hc5.ext (hE3.trans he4) (by omega)
  have hE15 : Ext w1 w5 := hc5.ext ((he2.trans he3).trans he4) (by omega)
  have hP5 := hP4.wr (.one (B := fun g => g = bo) rfl hc5) (fun g hg => .inl (by omega))
  have hr5 : Blk w5 br _ := (Blk.ext (x := he3.trans he4) (h := hbk2)).chg' hc5 (by omega)
  refine go ?_
  refine rc (toPresentationO_ok (p := q) hsq) (next := fun v6 w6 h6 => ?_)
  obtain ⟨he6, hQ6⟩ := h6
  have hz6 := he6.size
  have hb6 : Blk w6 bo _ := Blk.ext (h := hb5)
  obtain ⟨u3, u4, u5, _, _, rfl, _⟩ := hQ6.ex
  refine go ?_
  refine st_store_sub (h := hb6) (by ((try simp only [ev_tmp, ev_const, ev_func, get_put, get_args, get_putL, get_putL_nil, Nat.reduceEqDiff, reduceIte, List.getD_cons_zero, List.getD_cons_succ, List.getD_nil]); first | done | with_reducible rfl)) (by ((try simp only [ev_tmp, ev_const, ev_func, get_put, get_args, get_putL, get_putL_nil, Nat.reduceEqDiff, reduceIte, List.getD_cons_zero, List.getD_cons_succ, List.getD_nil]); first | done | with_reducible rfl)) ?_ hQ6.pres.one3 (by first | exact True.intro | exact ⟨_, rfl, by ((try simp only [ev_tmp, ev_const, ev_func, get_put, get_args, get_putL, get_putL_nil, Nat.reduceEqDiff, reduceIte, List.getD_cons_zero, List.getD_cons_succ, List.getD_nil, Bool.not_true, Bool.not_false]); first | done | with_reducible rfl)⟩) fun w7 hc7 hs7 hb7 => ?_
  · simp
  have hE7 : Ext w w7 := hc7.ext (hE5.trans he6) (by omega)
  have hE17 : Ext w1 w7 := hc7.ext (hE15.trans he6) (by omega)
  have hP7 := (hP5.wr (.ofExt (B := fun g => g = bo) he6) (fun g hg => .inl (by omega))).wr (.one (B := fun g => g = bo) rfl hc7) (fun g hg => .inl (by omega))
  have hQ7 := hQ6.wr (.one (B := fun g => g = bo) rfl hc7) (fun g hg => .inl (by omega))
  have hr7 : Blk w7 br _ := (Blk.ext (x := he6) (h := hr5)).chg' hc7 (by omega)
  refine go ?_
  refine rc (toInt64SSM_ok (xss := xss) hl hr) (next := fun v8 w8 h8 => ?_)
  obtain ⟨he8, rs, hrs, hM8⟩ := h8
  have hz8 := he8.size
  have hb8 : Blk w8 bo _ := Blk.ext (h := hb7)
  refine go ?_
  refine st_store_fld (h := hb8) (by ((try simp only [ev_tmp, ev_const, ev_func, get_put, get_args, get_putL, get_putL_nil, Nat.reduceEqDiff, reduceIte, List.getD_cons_zero, List.getD_cons_succ, List.getD_nil]); first | done | with_reducible rfl)) (by ((try simp only [ev_tmp, ev_const, ev_func, get_put, get_args, get_putL, get_putL_nil, Nat.reduceEqDiff, reduceIte, List.getD_cons_zero, List.getD_cons_succ, List.getD_nil]); first | done | with_reducible rfl)) ?_ ?_ (by first | exact True.intro | exact ⟨_, rfl, by ((try simp only [ev_tmp, ev_const, ev_func, get_put, get_args, get_putL, get_putL_nil, Nat.reduceEqDiff, reduceIte, List.getD_cons_zero, List.getD_cons_succ, List.getD_nil, Bool.not_true, Bool.not_false]); first | done | with_reducible rfl)⟩) fun w9 hc9 hs9 hb9 => ?_
  · exact hM8.rows.sl.one
  · simp
  have hE9 : Ext w w9 := hc9.ext (hE7.trans he8) (by omega)
  have hP9 := (hP7.wr (.ofExt (B := fun g => g = bo) he8) (fun g hg => .inl (by omega))).wr (.one (B := fun g => g = bo) rfl hc9) (fun g hg => .inl (by omega))
  have hQ9 := (hQ7.wr (.ofExt (B := fun g => g = bo) he8) (fun g hg => .inl (by omega))).wr (.one (B := fun g => g = bo) rfl hc9) (fun g hg => .inl (by omega))
  have hM9 := hM8.wr (.one (B := fun g => g = bo) rfl hc9) (fun g hg => .inl (by omega))
  have hr9 : Blk w9 br _ := (Blk.ext (x := he8) (h := hr7)).chg' hc9 (by omega)
  have hb9' : Blk w9 bo [u0, u1, u2, u3, u4, u5, v8] := hb9
  have o1 := hP9.pres.one3
  have o2 := hQ9.pres.one3
  have o3 := hM9.rows.sl.one
  refine go ?_
  refine ra (v := .agg #[u0, u1, u2, u3, u4, u5, v8]) (h := rd_load_blk (hb := hb9') (by ((try simp only [ev_tmp, ev_const, ev_func, get_put, get_args, get_putL, get_putL_nil, Nat.reduceEqDiff, reduceIte, List.getD_cons_zero, List.getD_cons_succ, List.getD_nil]); first | done | with_reducible rfl)) rfl) (next := ?_)
  refine st_store_agg (vs := [u0, u1, u2, u3, u4, u5, v8]) (cs := _) (hb := hr9) (by ((try simp only [ev_tmp, ev_const, ev_func, get_put, get_args, get_putL, get_putL_nil, Nat.reduceEqDiff, reduceIte, List.getD_cons_zero, List.getD_cons_succ, List.getD_nil]); first | done | with_reducible rfl)) (by ((try simp only [ev_tmp, ev_const, ev_func, get_put, get_args, get_putL, get_putL_nil, Nat.reduceEqDiff, reduceIte, List.getD_cons_zero, List.getD_cons_succ, List.getD_nil]); first | done | with_reducible rfl)) rfl ?_ ?_ (by first | exact True.intro | exact ⟨_, rfl, by ((try simp only [ev_tmp, ev_const, ev_func, get_put, get_args, get_putL, get_putL_nil, Nat.reduceEqDiff, reduceIte, List.getD_cons_zero, List.getD_cons_succ, List.getD_nil, Bool.not_true, Bool.not_false]); first | done | with_reducible rfl)⟩) fun w10 hc10 hs10 hb10 => ?_
  · rfl
  · simp [o1.1, o1.2.1, o1.2.2, o2.1, o2.2.1, o2.2.2, o3]
  refine go ?_
  refine retc (b := br) (hb := hb10) ⟨hc10.ext hE9 (by omega), rs, hrs, ?_⟩ rfl
  refine ⟨u0, u1, u2, u3, u4, u5, v8, w3.heap.size, w4.heap.size, w6.heap.size, w8.heap.size, rfl, by omega, by omega, by omega, by omega, by omega, ?_, ?_, ?_⟩
  · exact hP9.wr (.one (B := fun g => g = br) rfl hc10) (fun g hg => .inl (by omega))
  · have h := hQ9.wr (.one (B := fun g => g = br) rfl hc10) (fun g hg => .inl (by omega))
    rw [hs5] at h
    exact h
  · have h := hM9.wr (.one (B := fun g => g = br) rfl hc10) (fun g hg => .inl (by omega))
    rw [hs7] at h
    exact h
set_option maxHeartbeats 1000000 in
theorem eqHom_ok {w : World} {va vb : Value} {p q p' q' : Pr} {xss yss : List (List Int)} {lo hi lo1 hi1 : Nat} [hh : HomV lo hi w va p q xss] [hh' : HomV lo1 hi1 w vb p' q' yss] (hsp : SizeP p 2000000) (hsq : SizeP q 2000000) (hl : xss.length ≤ 2000000) (hr : ∀ i, (xss.getD i []).length ≤ 2000000) :
    Calls Tryz.prog 19 #[va, vb] w (Ret fun v w' => ∃ b, v = .bool b ∧ (b = true ↔ p = p' ∧ q = q' ∧ xss = yss) ∧ Ext w w') := by
  obtain ⟨a0, a1, a2, a3, a4, a5, a6, us, rfl, hp, hq, hx⟩ := hh.ex
  obtain ⟨d0, d1, d2, d3, d4, d5, d6, us', rfl, hp', hq', hx'⟩ := hh'.ex
  refine enter (args := [.agg #[a0, a1, a2, a3, a4, a5, a6], .agg #[d0, d1, d2, d3, d4, d5, d6]]) (l := [.tmp 4]) Tryz.func19 rfl rfl Tryz.ntmps19 (by simp) ?_
  refine go ?_
  refine st_box (vs := [a0, a1, a2, a3, a4, a5, a6]) (by ((try simp only [ev_tmp, ev_const, ev_func, get_put, get_args, get_putL, get_putL_nil, Nat.reduceEqDiff, reduceIte, List.getD_cons_zero, List.getD_cons_succ, List.getD_nil]); first | done | with_reducible rfl)) (by first | exact True.intro | exact ⟨_, rfl, by ((try simp only [ev_tmp, ev_const, ev_func, get_put, get_args, get_putL, get_putL_nil, Nat.reduceEqDiff, reduceIte, List.getD_cons_zero, List.getD_cons_succ, List.getD_nil, Bool.not_true, Bool.not_false]); first | done | with_reducible rfl)⟩) fun w1 b he1 hb1 hs1 hbk => ?_
  obtain ⟨c0, c1, c2, c3, c4, c5, c6⟩ := hbk.cells7
  refine go ?_
  refine st_box (vs := [d0, d1, d2, d3, d4, d5, d6]) (by ((try simp only [ev_tmp, ev_const, ev_func, get_put, get_args, get_putL, get_putL_nil, Nat.reduceEqDiff, reduceIte, List.getD_cons_zero, List.getD_cons_succ, List.getD_nil]); first | done | with_reducible rfl)) (by first | exact True.intro | exact ⟨_, rfl, by ((try simp only [ev_tmp, ev_const, ev_func, get_put, get_args, get_putL, get_putL_nil, Nat.reduceEqDiff, reduceIte, List.getD_cons_zero, List.getD_cons_succ, List.getD_nil, Bool.not_true, Bool.not_false]); first | done | with_reducible rfl)⟩) fun w2 b' he2 hb2 hs2 hbk' => ?_
  obtain ⟨e0, e1, e2, e3, e4, e5, e6⟩ := hbk'.cells7
  have hE2 := he1.trans he2
  have no : ∀ {w' : World}, ¬ (p = p' ∧ q = q' ∧ xss = yss) → Ext w w' → ∃ b, Value.bool false = .bool b ∧ (b = true ↔ p = p' ∧ q = q' ∧ xss = yss) ∧ Ext w w' := fun h he => ⟨_, rfl, by simpa using fun a b => fun c => h ⟨a, b, c⟩, he⟩
  refine go ?_
  refine rc (eqPresentation_ok (p := p) (q := p') hsp) (next := fun v3 w3 h4 => ?_)
  obtain ⟨b3, rfl, hb3, he3⟩ := h4
  refine go ?_
  refine c_b (fun h5 => ?_) (fun h5 => ?_)
  · refine go ?_
    refine ret1 (no (fun e => ?_) (hE2.trans he3))
    rw [hb3.2 e.1] at h5; cases h5
  have f1 := hb3.1 (by simpa using h5)
  refine go ?_
  refine rc (eqPresentation_ok (p := q) (q := q') hsq) (next := fun v4 w4 h6 => ?_)
  obtain ⟨b4, rfl, hb4, he4⟩ := h6
  refine go ?_
  refine c_b (fun h7 => ?_) (fun h7 => ?_)
  · refine go ?_
    refine ret1 (no (fun e => ?_) ((hE2.trans he3).trans he4))
    rw [hb4.2 e.2.1] at h7; cases h7
  have f2 := hb4.1 (by simpa using h7)
  refine go ?_
  refine rc (eqInt64SS_ok (xss := xss) (yss := yss) hr (by omega)) (next := fun v5 w5 h8 => ?_)
  obtain ⟨b5, rfl, hb5, he5⟩ := h8
  refine go ?_
  refine c_b (fun h9 => ?_) (fun h9 => ?_)
  · refine go ?_
    refine ret1 (no (fun e => ?_) (((hE2.trans he3).trans he4).trans he5))
    rw [hb5.2 e.2.2] at h9; cases h9
  have f3 := hb5.1 (by simpa using h9)
  refine go ?_
  exact ret1 ⟨_, rfl, ⟨fun _ => ⟨f1, f2, f3⟩, fun _ => rfl⟩, ((hE2.trans he3).trans he4).trans he5⟩
set_option maxHeartbeats 1000000 in
theorem markHom_ok {s t : Nat} {w : World} {v : Value} {p q : Pr} {rs : List (Value × List Int)} {k : Int} (hH : HomO s t w v p q rs) (ht : t ≤ w.heap.size) (hk : 0 ≤ k) (hb : k + totP p + totP q + tot (rs.map (·.2)) ≤ 9000000000000000000) :
    Calls Tryz.prog 24 #[v, .int .i64 k] w (Ret fun v' w' => v' = .int .i64 (k + totP p + totP q + tot (rs.map (·.2))) ∧ Wrt (fun b => s ≤ b ∧ b < t) w w') := by
  obtain ⟨a0, a1, a2, a3, a4, a5, a6, m0, m1, m2, m3, rfl, l0, l1, l2, l3, l4, h1, h2, h3⟩ := hH.ex
  refine enter (args := [.agg #[a0, a1, a2, a3, a4, a5, a6], .int .i64 k]) (l := [.tmp 4]) Tryz.func24 rfl rfl Tryz.ntmps24 (by simp) ?_
  refine go ?_
  refine st_box (vs := [a0, a1, a2, a3, a4, a5, a6]) (by ((try simp only [ev_tmp, ev_const, ev_func, get_put, get_args, get_putL, get_putL_nil, Nat.reduceEqDiff, reduceIte, List.getD_cons_zero, List.getD_cons_succ, List.getD_nil]); first | done | with_reducible rfl)) (by first | exact True.intro | exact ⟨_, rfl, by ((try simp only [ev_tmp, ev_const, ev_func, get_put, get_args, get_putL, get_putL_nil, Nat.reduceEqDiff, reduceIte, List.getD_cons_zero, List.getD_cons_succ, List.getD_nil, Bool.not_true, Bool.not_false]); first | done | with_reducible rfl)⟩) fun w1 b he1 hb1 hs1 hbk => ?_
  have hz1 := he1.size
  have x1 := h1.wr (.ofExt (B := fun b => b < m0 ∨ m1 ≤ b) he1) (fun b hb => hb)
  have x2 := h2.wr (.ofExt (B := fun b => b < m1 ∨ m2 ≤ b) he1) (fun b hb => hb)
  have x3 := h3.wr (.ofExt (B := fun b => b < m2 ∨ m3 ≤ b) he1) (fun b hb => hb)
  obtain ⟨c0, c1, c2, c3, c4, c5, c6⟩ := hbk.cells7
  refine go ?_
  refine rc (markPresentation_ok (k := k) x1 hk ?_) (next := fun v2 w2 h2' => ?_)
  · omega
  obtain ⟨rfl, hW2⟩ := h2'
  have y2 := x2.wr hW2 (fun b hb => .inl hb.2)
  have y3 := x3.wr hW2 (fun b hb => .inl (by omega))
  have hbk2 := hbk.wr hW2 (by omega)
  clear c0 c1 c2 c3 c4 c5 c6
  obtain ⟨c0, c1, c2, c3, c4, c5, c6⟩ := hbk2.cells7
  refine go ?_
  refine rc (markPresentation_ok (k := k + totP p) y2 ?_ ?_) (next := fun v3 w3 h3' => ?_)
  · omega
  · omega
  obtain ⟨rfl, hW3⟩ := h3'
  have z3 := y3.wr hW3 (fun b hb => .inl hb.2)
  have hbk3 := hbk2.wr hW3 (by omega)
  clear c0 c1 c2 c3 c4 c5 c6
  obtain ⟨c0, c1, c2, c3, c4, c5, c6⟩ := hbk3.cells7
  refine go ?_
  refine rc (markInt64SS_ok (k := k + totP p + totP q) (pre := []) (post := []) (by simpa using z3.own) z3.sp (fun b hb => .inl hb) ?_ ?_) (next := fun v4 w4 h4' => ?_)
  · omega
  · omega
  obtain ⟨rfl, _, hV4⟩ := h4'
  have hW4 : Wrt (fun b => m2 ≤ b ∧ b < m3) w3 w4 := hV4.mono fun b hb => ⟨(z3.own.blk hb).1, z3.lt b hb⟩
  refine go ?_
  refine ret1 ⟨rfl, ?_⟩
  exact (Wrt.ofExt he1).trans ((hW2.mono fun b hb => ⟨by omega, by omega⟩).trans ((hW3.mono fun b hb => ⟨by omega, by omega⟩).trans (hW4.mono fun b hb => ⟨by omega, by omega⟩)))
end Go.Proofs.YtnphljflkpekmaaGreat

/-
  Arguments that read as homomorphisms: structs of structs, by value.
  Conditions: none; nothing of the program stands here.
-/
namespace Go.Pc
open Go Go.RowKit Go.Deep Go.ChangeShapes Go.WideShapes Go.Joins
theorem array7 {α : Type} {cs : Array α} (h : cs.size = 7) : ∃ c0 c1 c2 c3 c4 c5 c6, cs = #[c0, c1, c2, c3, c4, c5, c6] := by
  obtain ⟨l⟩ := cs
  match l, h with
  | [c0, c1, c2, c3, c4, c5, c6], _ => exact ⟨c0, c1, c2, c3, c4, c5, c6, rfl⟩
section
variable {H : Type} {enc : TypeId × Value → H} {P : Program} {w : World} {base : Nat} {spare : Nat → Bool} {held : Bool}
theorem open_three {t : TypeId} {f0 f1 f2 : Field} {fuel : Nat} {c0 c1 c2 : Value} {x : DataW H × List MemPlace} (hs : P.underlying t = some (.struct #[f0, f1, f2])) (hone : oneCellFields P #[f0, f1, f2] = true)
    (hf : DataW.trod enc P w base spare held fuel t [c0, c1, c2] = some x) :
    ∃ (y0 y1 y2 : DataW H × List MemPlace) (n : Nat), DataW.trod enc P w base spare held n f0.type [c0] = some y0 ∧ DataW.trod enc P w base spare held n f1.type [c1] = some y1 ∧ DataW.trod enc P w base spare held n f2.type [c2] = some y2 := by
  obtain ⟨y0, y1, y2, n, hx, _, h0, h1, h2⟩ := trod_struct3 hs hf
  obtain ⟨o0, k0⟩ := hone_of hone 0 f0 rfl
  obtain ⟨o1, k1⟩ := hone_of hone 1 f1 rfl
  obtain ⟨o2, k2⟩ := hone_of hone 2 f2 rfl
  exact ⟨y0, y1, y2, n, by simpa [o0, k0] using h0, by simpa [o1, k1] using h1, by simpa [o2, k2] using h2⟩
theorem open_hom {r : Reach} {b0 : Nat} {t : TypeId} {f0 f1 f2 : Field} {v : Value} {d : DataW H} {p : List MemPlace} (hs : P.underlying t = some (.struct #[f0, f1, f2])) (hC : P.cellsOf t = 7) (o0 : f0.offset = 0) (k0 : P.cellsOf f0.type = 3) (o1 : f1.offset = 3) (k1 : P.cellsOf f1.type = 3) (o2 : f2.offset = 6) (k2 : P.cellsOf f2.type = 1)
    (hv : Value.okWide P w r b0 t v) (h : DataW.Trod enc P w base spare held t v d p) :
    ∃ (c0 c1 c2 c3 c4 c5 c6 : Value) (y0 y1 y2 : DataW H × List MemPlace) (n : Nat), v = .agg #[c0, c1, c2, c3, c4, c5, c6] ∧
      DataW.trod enc P w base spare held n f0.type [c0, c1, c2] = some y0 ∧ DataW.trod enc P w base spare held n f1.type [c3, c4, c5] = some y1 ∧ DataW.trod enc P w base spare held n f2.type [c6] = some y2 := by
  obtain ⟨cs, rfl, hsz⟩ := okWide_struct hs hv
  obtain ⟨c0, c1, c2, c3, c4, c5, c6, rfl⟩ := array7 (hsz.trans hC)
  obtain ⟨fuel, hf⟩ := h
  obtain ⟨y0, y1, y2, n, hx, _, h0, h1, h2⟩ := trod_struct3 hs hf
  exact ⟨c0, c1, c2, c3, c4, c5, c6, y0, y1, y2, n, rfl, by simpa [Value.cells, o0, k0] using h0, by simpa [Value.cells, o1, k1] using h1, by simpa [Value.cells, o2, k2] using h2⟩
end
end Go.Pc

/-
  The sizes of the presentations of subgroups and quotients.
  Conditions: none.
-/
namespace Go.Proofs.YtnphljflkpekmaaGreat
open Go Go.Pc
theorem tabP_sz {m : Nat} {o : Nat → Int} {f : Nat → List Int} {g : Nat → Nat → List Int} (hm : m ≤ 6) (hf : ∀ i, (f i).length ≤ 6) (hg : ∀ i j, (g i j).length ≤ 6) : SizeP (tabP m o f g) 2000000 ∧ totP (tabP m o f g) ≤ 1000 := by
  have h2 : (tabP m o f g).pow.length = m := by simp [tabP]
  have h3 : (tabP m o f g).cnj.length = m := by simp [tabP]
  refine ⟨⟨?_, ?_, fun i => ?_, ?_, fun i => ?_, fun i j => ?_⟩, ?_⟩
  · have : (tabP m o f g).ord.length = m := tabP_n
    omega
  · omega
  · by_cases h : i < m
    · have e : (tabP m o f g).pow.getD i [] = f i := by simp [tabP, h]
      rw [e]; have := hf i; omega
    · simp [tabP, h]
  · omega
  · by_cases h : i < m
    · have e : (tabP m o f g).cnj.getD i [] = (List.range (m - (i + 1))).map fun k => g i (i + 1 + k) := by simp [tabP, h]
      rw [e, List.length_map, List.length_range]; omega
    · simp [tabP, h]
  · by_cases h : i < m
    · have e : (tabP m o f g).cnj.getD i [] = (List.range (m - (i + 1))).map fun k => g i (i + 1 + k) := by simp [tabP, h]
      rw [e]
      by_cases h' : j < m - (i + 1)
      · have e2 : ((List.range (m - (i + 1))).map fun k => g i (i + 1 + k)).getD j [] = g i (i + 1 + j) := by simp [h']
        rw [e2]; have := hg i (i + 1 + j); omega
      · simp [h']
    · simp [tabP, h]
  · have e1 : (tabP m o f g).ord.length = m := tabP_n
    have e2 : tot (tabP m o f g).pow ≤ (tabP m o f g).pow.length * 6 := tot_le _ fun x hx => by
      simp only [tabP, List.mem_map] at hx
      obtain ⟨i, _, rfl⟩ := hx
      exact hf i
    have e3 : tot (tabP m o f g).cnj.flatten ≤ (tabP m o f g).cnj.length * (6 * 6) := tot_flatten _ fun x hx => by
      simp only [tabP, List.mem_map] at hx
      obtain ⟨i, _, rfl⟩ := hx
      refine ⟨by rw [List.length_map, List.length_range]; omega, fun y hy => ?_⟩
      simp only [List.mem_map] at hy
      obtain ⟨k, _, rfl⟩ := hy
      exact hg _ _
    unfold totP
    omega
theorem noP_sz : SizeP noP 2000000 ∧ totP noP ≤ 1000 := ⟨⟨by simp [noP], by simp [noP], fun i => by simp [noP], by simp [noP], fun i => by simp [noP], fun i j => by simp [noP]⟩, by simp [noP, totP, tot]⟩
theorem quoPr_sz {p : Pr} [hc : ConAll p] (ys : List (El p)) : SizeP (quoPr ys) 2000000 ∧ totP (quoPr ys) ≤ 1000 := by
  have h6 := hc.valid.n6
  have hl := frN_le ys
  exact tabP_sz (by omega) (fun i => by rw [quoPow, prjE_len]; omega) (fun i j => by rw [quoCnj, prjE_len]; omega)
theorem QuotientPresentation_sz0 {p : Pr} {xss : List (List Int)} {r : Pr} {e : Int} (_ : p.ord.length ≤ 2000000) (h : Ans (IsSubP p xss) (QpV p xss) noP r e) : SizeP r 2000000 ∧ totP r ≤ 1000 := by
  rcases h with ⟨_, ⟨_, rfl, _⟩ | ⟨_, ⟨hc, ys, hys, rfl⟩, _⟩⟩ | ⟨_, rfl, _⟩
  · exact noP_sz
  · exact quoPr_sz ys
  · exact noP_sz
end Go.Proofs.YtnphljflkpekmaaGreat

/-
  The upper central series and the lower exponent series.
  Conditions: the tails at all levels are groups.
-/
namespace Go.Proofs.YtnphljflkpekmaaGreat
open Go Go.Pc
section
variable {p : Pr} [hc : ConAll p]
noncomputable def expL (q : Int) (ys : List (El p)) : List (El p) := lowF ys ++ ys.map fun y => Grp.pwz y q
noncomputable def expF (q : Int) (ys : List (El p)) : List (El p) := canEls (Gen (fun a : El p => a ∈ expL q ys))
end
noncomputable def ExpC (p : Pr) (q : Int) (c : ConAll p) : (List (El p) → List (El p)) × List (El p) := (expF q, gensL p)
/-- What a series for a prime is, with its code. -/
def ExV (p : Pr) (q : Int) (r : List (List (List Int))) (e : Int) : Prop := (¬ (q = 2 ∨ q = 3 ∨ q = 5 ∨ q = 7) ∧ r = [] ∧ e = 2) ∨ ((q = 2 ∨ q = 3 ∨ q = 5 ∨ q = 7) ∧ SrV p (ExpC p q) r e)
theorem ExV.uniq {p : Pr} {q : Int} (a b : List (List (List Int))) (c d : Int) (h : ExV p q a c) (g : ExV p q b d) : a = b ∧ c = d := by
  rcases h with ⟨h1, rfl, rfl⟩ | ⟨h1, h2⟩ <;> rcases g with ⟨g1, rfl, rfl⟩ | ⟨g1, g2⟩
  · exact ⟨rfl, rfl⟩
  · exact absurd g1 h1
  · exact absurd h1 g1
  · exact h2.uniq _ _ _ _ g2
end Go.Proofs.YtnphljflkpekmaaGreat

/-
  Walks: the check of marks on lists of lists of lists (heldInt64SSS); sizes of series.
  Conditions: stated at each theorem.
-/
namespace Go.Proofs.YtnphljflkpekmaaGreat
open Go Go.Pc
def markC (k : Int) : List (List (List Int)) → List (List (List Int))
  | [] => []
  | x :: l => markL k x :: markC (k + tot x) l
def mkC (k : Int) : List (Value × List (Value × List Int)) → List (Value × List (Value × List Int))
  | [] => []
  | q :: l => (q.1, mkR k q.2) :: mkC (k + tot (q.2.map (·.2))) l
theorem mkC_fst : ∀ (gs : List (Value × List (Value × List Int))) (k : Int), (mkC k gs).map (·.1) = gs.map (·.1)
  | [], _ => rfl
  | q :: l, k => by simp [mkC, mkC_fst l]
theorem mkC_mid : ∀ (gs : List (Value × List (Value × List Int))) (k : Int), ((mkC k gs).map fun q => q.2.map (·.1)) = gs.map fun q => q.2.map (·.1)
  | [], _ => rfl
  | q :: l, k => by
    show (mkR k q.2).map (·.1) :: ((mkC (k + tot (q.2.map (·.2))) l).map fun q => q.2.map (·.1)) = _
    rw [mkR_fst, mkC_mid l]; rfl
theorem mkC_snd : ∀ (gs : List (Value × List (Value × List Int))) (k : Int), ((mkC k gs).map fun q => q.2.map (·.2)) = markC k (gs.map fun q => q.2.map (·.2))
  | [], _ => rfl
  | q :: l, k => by
    show (mkR k q.2).map (·.2) :: ((mkC (k + tot (q.2.map (·.2))) l).map fun q => q.2.map (·.2)) = _
    rw [mkR_snd, mkC_snd l]; rfl
theorem flat_cons (q : Value × List (Value × List Int)) (l : List (Value × List (Value × List Int))) : flat (q :: l) = q.2 ++ flat l := by simp [flat]
theorem flat_mkC : ∀ (gs : List (Value × List (Value × List Int))) (k : Int), flat (mkC k gs) = mkR k (flat gs)
  | [], _ => rfl
  | q :: l, k => by
    rw [flat_cons, mkR_append, ← flat_mkC l]
    show flat ((q.1, mkR k q.2) :: mkC (k + tot (q.2.map (·.2))) l) = _
    rw [flat_cons]
theorem markC_len : ∀ (l : List (List (List Int))) (k : Int), (markC k l).length = l.length
  | [], _ => rfl
  | x :: l, k => by simp [markC, markC_len l]
theorem markC_getD : ∀ (l : List (List (List Int))) (k : Int) (i : Nat), i < l.length → (markC k l).getD i [] = markL (k + tot (l.take i).flatten) (l.getD i [])
  | [], _, _, h => by simp at h
  | x :: l, k, 0, _ => by simp [markC, tot]
  | x :: l, k, i + 1, h => by
    have := markC_getD l (k + tot x) i (by simpa using h)
    simp only [markC, List.getD_cons_succ, this, List.take_succ_cons, List.flatten_cons, tot_append]
    rw [Int.add_assoc]; simp
theorem tot_takeF_le (l : List (List (List Int))) (k : Nat) : tot (l.take k).flatten ≤ tot l.flatten := by
  have e : l.flatten = (l.take k).flatten ++ (l.drop k).flatten := by rw [← List.flatten_append, List.take_append_drop]
  rw [e, tot_append]; omega
theorem tot_takeF_succ (l : List (List (List Int))) {k : Nat} (hk : k < l.length) : tot (l.take (k + 1)).flatten = tot (l.take k).flatten + tot (l.getD k []) := by
  rw [List.take_succ_eq_append_getElem hk, List.flatten_append, tot_append]
  simp [hk]
theorem mkC_mem {gs : List (Value × List (Value × List Int))} {k : Int} {q : Value × List (Value × List Int)} (hq : q ∈ mkC k gs) : ∃ q', q' ∈ gs ∧ q.1 = q'.1 ∧ q.2.map (·.1) = q'.2.map (·.1) := by
  induction gs generalizing k with
  | nil => cases hq
  | cons g l ih =>
    rcases List.mem_cons.1 hq with rfl | hq
    · exact ⟨g, List.mem_cons_self, rfl, mkR_fst _ _⟩
    · obtain ⟨q', h1, h2⟩ := ih hq
      exact ⟨q', List.mem_cons_of_mem _ h1, h2⟩
theorem RowsO.ofFlat {s : Nat} {w : World} {gs : List (Value × List (Value × List Int))} (h : RowsO s w (flat gs)) {q : Value × List (Value × List Int)} (hq : q ∈ gs) : RowsO s w q.2 := by
  have hs : List.Sublist q.2 (flat gs) := List.sublist_flatten_of_mem (List.mem_map.2 ⟨q, hq, rfl⟩)
  exact ⟨fun r hr => h.fr r (hs.subset hr), h.sep.sublist hs⟩
set_option maxHeartbeats 1000000 in
theorem heldInt64SSS_ok {w : World} {v : Value} {k : Int} {lo hi : Nat} {us : List Value} {uss : List (List Value)} {xsss ysss : List (List (List Int))} [hx : Rowss lo hi w v us uss xsss] (hxs : xsss = markC k ysss) (hk : 0 ≤ k) (hb : k + tot ysss.flatten ≤ 9000000000000000000) :
    Calls Tryz.prog 87 #[v, .int .i64 k] w (Ret fun v' w' => v' = .int .i64 (k + tot ysss.flatten) ∧ Ext w w') := by
  have hl : xsss.length = ysss.length := by rw [hxs, markC_len]
  have hul := hx.vals.len
  have hm := sl_len hx.sl
  have hg : ∀ i, i < ysss.length → xsss.getD i [] = markL (k + tot (ysss.take i).flatten) (ysss.getD i []) := fun i hi => by rw [hxs, markC_getD _ _ _ hi]
  refine enter (args := [v, .int .i64 k]) (l := [.tmp 4]) Tryz.func87 rfl rfl Tryz.ntmps87 (by simp) ?_
  refine go ?_
  refine r_for ysss.length (fun i ρ w' => Has ρ [(0, v), (1, .int .i64 (k + tot (ysss.take i).flatten)), (5, .int .i64 i)] ∧ Ext w w') ?_ ?_
  · refine ⟨?_, Ext.refl _⟩
    simp only [List.take_zero, List.flatten_nil, tot]
    exact hasP
  rintro i ρ w2 hi ⟨hH, he2⟩
  refine rwp_has hH fun ρ0 => ?_
  have ht := tot_takeF_le ysss i
  refine go ?_
  refine c_if (fun h4 => ?_) (fun h4 => ?_)
  · have hin : i < ysss.length := by omega
    have hts := tot_takeF_succ ysss hin
    have ht2 := tot_takeF_le ysss (i + 1)
    refine go ?_
    refine rc (heldInt64SS_ok (xss := xsss.getD i []) (yss := ysss.getD i []) (hg i hin) ?_ ?_) (next := fun v3 w3 h3 => ?_)
    · omega
    · omega
    obtain ⟨rfl, he3⟩ := h3
    refine go ?_
    refine c_if (fun h5 => ?_) (fun h5 => ?_)
    · omega
    · refine go ?_
      refine forQ_normal (by omega) ⟨?_, he2.trans he3⟩
      exact hasP
  · refine go ?_
    obtain rfl : i = ysss.length := by omega
    refine ret1 ⟨?_, he2⟩
    rw [List.take_length]
end Go.Proofs.YtnphljflkpekmaaGreat
