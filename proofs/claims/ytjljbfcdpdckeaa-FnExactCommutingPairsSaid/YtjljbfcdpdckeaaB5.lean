/-
  Texts of one proof, put together by program: W48, Copy, Map, Cls4, I03, I08d, I08e, I12e, I13, I14, I16, I17, Fun, Cat, I19, I15, I18, I20, I23, I27, Shl, I50, I51, Open.
  Conditions: those told at each part.
-/
import Derived.Test.YtjljbfcdpdckeaaB4
import Derived.Laws.CopyRow
import Derived.Lib.AppendZeros
import Derived.Test.YtjljbfcdpdckeaaProg
import Derived.Shelf.SlSortCmp.Whole1
import Derived.Deep.Slices
set_option linter.unusedVariables false
set_option linter.unusedSimpArgs false
set_option linter.unusedSectionVars false
set_option linter.constructorNameAsVariable false
set_option linter.unnecessarySimpa false
set_option linter.deprecated false
/-
  Walks: the reference's l10Number, l18Marks, l18Classes, l18Code, l18Element, ConjugacyClass, ClassNumber, CommutingPairs.
  Conditions: stated at each theorem.
-/
namespace Go.Proofs.Ytjljbfcdpdckeaa
open Go Go.Pc
section
variable {P : Program} {N : Nat} {ops : Array Oper} {π : List Nat} {K : Env → World → Prop} {ρ : Env} {w w0 w1 : World} {l : List Oper}
variable {d : Nat} {ty : TypeId} {pos : String} {after : Array Edge} {g : Option (Nat × Bool)}
theorem st_make_bool {t e n : Nat} {x y : Operand} {k : Int} [ht : SlT P t e] [he : ElT P e 1 1 (.bool false)] [hm : NatOf k n] (h : ev ρ x = .int .i64 k) (h' : ev ρ y = .int .i64 k) (h0 : 0 ≤ k) (h1 : k ≤ 5864062014805) (hg : Wants ops ρ g)
    (next : ∀ w' v, Ext w w' → w'.heap.size = w.heap.size + 1 → Own e w.heap.size w' v (List.replicate n (.bool false)) → rops P N ops K l (put ρ d v) w') : rops P N ops K (⟨some d, .makeSlice t x y, ty, pos, after, g⟩ :: l) ρ w := by
  have hn : k = (n : Int) := by have := hm.eq; omega
  refine st_ex hg (ex_make (n := n) h h' rfl h0 (by omega) (by omega)) (next _ _ (Ext.alloc _ _) (by simp) ?_)
  have := own_alloc w (List.replicate n (.bool false)) e (by simp [maxLen]; omega)
  simpa using this
end
set_option maxHeartbeats 1000000 in
theorem l10Number_ok {p : Pr} [hc : ConAll p] {x : El p} {w : World} {vp vx : Value} {xs : List Int} {lo hi lo1 hi1 : Nat} [hp : Pres lo hi w vp p] [hx : Ints lo1 hi1 w vx xs] (hxe : xs = x.v) :
    Calls Try.prog 62 #[vp, vx] w (Ret fun v w' => v = .int .i64 ((numE x : Nat) : Int) ∧ Ext w w') := by
  subst hxe
  have hv := hc.valid
  have hn6 := hv.n6
  have hol : p.ord.length = p.n := rfl
  have hxl := x.inr.len
  have hl : ∀ d, d ∈ List.range p.n → d < p.n := fun d hd => List.mem_range.1 hd
  obtain ⟨vo, vpw, vc, ps, cs, css, rfl, h1, h2, h3⟩ := hp.ex
  refine enter (args := [.agg #[vo, vpw, vc], vx]) (l := [.tmp 4]) Try.func62 rfl rfl Try.ntmps62 (by simp) ?_
  refine go ?_
  refine st_box3 (by ((try simp only [ev_tmp, ev_const, ev_func, get_put, get_args, get_putL, get_putL_nil, Nat.reduceEqDiff, reduceIte, List.getD_cons_zero, List.getD_cons_succ, List.getD_nil]); first | done | with_reducible rfl)) (by first | exact True.intro | exact ⟨_, rfl, by ((try simp only [ev_tmp, ev_const, ev_func, get_put, get_args, get_putL, get_putL_nil, Nat.reduceEqDiff, reduceIte, List.getD_cons_zero, List.getD_cons_succ, List.getD_nil, Bool.not_true, Bool.not_false]); first | done | with_reducible rfl)⟩) fun w1 b he1 hb1 hs1 hc0 hc1 hc2 => ?_
  refine go ?_
  refine r_for p.n (fun k ρ w' => Has ρ [(1, vx), (2, .pointer (some ⟨b, 0, none⟩)), (5, .int .i64 (numF p ((List.range p.n).take k) x)), (6, .int .i64 k)] ∧ Ext w1 w') ?_ ?_
  · refine ⟨?_, Ext.refl _⟩
    exact hasP
  rintro k ρ w2 hk ⟨hH, he2⟩
  refine rwp_has hH fun ρ0 => ?_
  have hE2 := he1.trans he2
  refine go ?_
  refine c_if (fun h4 => ?_) (fun h4 => ?_)
  · have hkn : k < p.n := by omega
    have hod := hv.opos hkn
    have hcr : 0 ≤ co x k ∧ co x k < p.o k := x.inr.rng k hkn
    have hb := numF_rng hv (List.range p.n) x hl (by simpa using hn6) (k := k) (by simpa using hk)
    have hm : 0 ≤ numF p ((List.range p.n).take k) x * p.o k ∧ numF p ((List.range p.n).take k) x * p.o k ≤ 117648 * 7 := ⟨Int.mul_nonneg (by omega) (by omega), Int.mul_le_mul hb.2 hod.2 (by omega) (by omega)⟩
    have hmb : -9223372036854775808 ≤ numF p ((List.range p.n).take k) x * p.o k ∧ numF p ((List.range p.n).take k) x * p.o k ≤ 9223372036854775807 := ⟨by omega, by omega⟩
    obtain ⟨q, hq⟩ : ∃ q, numF p ((List.range p.n).take k) x * p.o k = q := ⟨_, rfl⟩
    have hstep := numF_take (List.range p.n) x (k := k) (by simpa using hkn)
    rw [show (List.range p.n)[k]'(by simpa using hkn) = k by simp, hq] at hstep
    refine go ?_
    refine d_region fun w3 he3 _ => ?_
    refine dgo ?_
    rw [show p.ord.getD k 0 = p.o k from rfl]
    refine da (h := rs_mul (by ((try simp only [ev_tmp, ev_const, ev_func, get_put, get_args, get_putL, get_putL_nil, Nat.reduceEqDiff, reduceIte, List.getD_cons_zero, List.getD_cons_succ, List.getD_nil]); first | done | with_reducible rfl)) (by ((try simp only [ev_tmp, ev_const, ev_func, get_put, get_args, get_putL, get_putL_nil, Nat.reduceEqDiff, reduceIte, List.getD_cons_zero, List.getD_cons_succ, List.getD_nil]); first | done | with_reducible rfl)) hmb) (next := ?_)
    rw [hq] at hm ⊢
    have hcr' : 0 ≤ x.v.getD k 0 ∧ x.v.getD k 0 < p.o k := hcr
    rw [show co x k = x.v.getD k 0 from rfl] at hstep
    refine dgo ?_
    refine d_end (h := ?_)
    refine go ?_
    refine forQ_normal (by omega) ⟨?_, he2.trans he3⟩
    rw [hstep]
    exact hasP
  · obtain rfl : k = p.n := by omega
    rw [show (List.range p.n).take p.n = List.range p.n by rw [List.take_of_length_le]; simp]
    refine go ?_
    exact ret1 ⟨by rw [numE_cast], hE2⟩
theorem l18Code_ok {p : Pr} {w : World} {vp : Value} {lo hi : Nat} [hp : Pres lo hi w vp p] (hl : p.ord.length ≤ 2000000) :
    Calls Try.prog 96 #[vp] w (Ret fun v w' => ∃ k : Int, v = .int .i64 k ∧ ((¬ IsGrp p ∧ k = 1) ∨ ∃ (_ : IsGrp p) (_ : ConAll p), (128 < ordN p ∧ k = 3) ∨ (ordN p ≤ 128 ∧ k = 0)) ∧ Ext w w') := by
  obtain ⟨vo, vpw, vc, ps, cs, css, rfl, h1, h2, h3⟩ := hp.ex
  refine enter (args := [.agg #[vo, vpw, vc]]) (l := [.tmp 2]) Try.func96 rfl rfl Try.ntmps96 (by simp) ?_
  refine go ?_
  refine st_box3 (by ((try simp only [ev_tmp, ev_const, ev_func, get_put, get_args, get_putL, get_putL_nil, Nat.reduceEqDiff, reduceIte, List.getD_cons_zero, List.getD_cons_succ, List.getD_nil]); first | done | with_reducible rfl)) (by first | exact True.intro | exact ⟨_, rfl, by ((try simp only [ev_tmp, ev_const, ev_func, get_put, get_args, get_putL, get_putL_nil, Nat.reduceEqDiff, reduceIte, List.getD_cons_zero, List.getD_cons_succ, List.getD_nil, Bool.not_true, Bool.not_false]); first | done | with_reducible rfl)⟩) fun w1 b he1 hb1 hs1 hc0 hc1 hc2 => ?_
  refine go ?_
  refine rc (l08Group_ok (p := p) hl) (next := fun v5 w5 h5 => ?_)
  obtain ⟨b5, rfl, hb5, he5⟩ := h5
  have hE5 := he1.trans he5
  refine go ?_
  refine c_b (fun e5 => ?_) (fun e5 => ?_)
  · refine go ?_
    refine ret1 ⟨1, rfl, .inl ⟨fun h => ?_, rfl⟩, hE5⟩
    rw [hb5.2 h] at e5; cases e5
  have hG := hb5.1 (by simpa using e5)
  haveI hcon : ConAll p := ⟨hG.con⟩
  obtain ⟨hoe, ho1, ho2⟩ := ordN_rng p
  refine go ?_
  refine rc (l10Order_ok (p := p) hG.valid) (next := fun v6 w6 h6 => ?_)
  obtain ⟨rfl, he6⟩ := h6
  rw [hoe]
  refine go ?_
  refine c_if (fun h7 => ?_) (fun h7 => ?_)
  · refine go ?_
    exact ret1 ⟨3, rfl, .inr ⟨hG, hcon, .inl ⟨by omega, rfl⟩⟩, hE5.trans he6⟩
  · refine go ?_
    exact ret1 ⟨0, rfl, .inr ⟨hG, hcon, .inr ⟨by omega, rfl⟩⟩, hE5.trans he6⟩
theorem l18Element_ok {p : Pr} {w : World} {vp vx : Value} {xs : List Int} {lo hi lo1 hi1 : Nat} [hp : Pres lo hi w vp p] [hx : Ints lo1 hi1 w vx xs] (hl : p.ord.length ≤ 2000000) :
    Calls Try.prog 60 #[vp, vx] w (Ret fun v w' => ∃ k : Int, v = .int .i64 k ∧ ((¬ GrpE p xs ∧ k = 1) ∨ ∃ (_ : GrpE p xs) (_ : ConAll p) (x : El p), xs = x.v ∧ ((128 < ordN p ∧ k = 3) ∨ (ordN p ≤ 128 ∧ k = 0))) ∧ Ext w w') := by
  obtain ⟨vo, vpw, vc, ps, cs, css, rfl, h1, h2, h3⟩ := hp.ex
  refine enter (args := [.agg #[vo, vpw, vc], vx]) (l := [.tmp 4]) Try.func60 rfl rfl Try.ntmps60 (by simp) ?_
  refine go ?_
  refine st_box3 (by ((try simp only [ev_tmp, ev_const, ev_func, get_put, get_args, get_putL, get_putL_nil, Nat.reduceEqDiff, reduceIte, List.getD_cons_zero, List.getD_cons_succ, List.getD_nil]); first | done | with_reducible rfl)) (by first | exact True.intro | exact ⟨_, rfl, by ((try simp only [ev_tmp, ev_const, ev_func, get_put, get_args, get_putL, get_putL_nil, Nat.reduceEqDiff, reduceIte, List.getD_cons_zero, List.getD_cons_succ, List.getD_nil, Bool.not_true, Bool.not_false]); first | done | with_reducible rfl)⟩) fun w1 b he1 hb1 hs1 hc0 hc1 hc2 => ?_
  refine go ?_
  refine rc (spec_IsElement_ok (p := p) (xs := xs) hl) (next := fun v5 w5 h5 => ?_)
  obtain ⟨b5, rfl, hb5, he5⟩ := h5
  have hE5 := he1.trans he5
  refine go ?_
  refine c_b (fun e5 => ?_) (fun e5 => ?_)
  · refine go ?_
    refine ret1 ⟨1, rfl, .inl ⟨fun h => ?_, rfl⟩, hE5⟩
    rw [hb5.2 h] at e5; cases e5
  have hGE := hb5.1 (by simpa using e5)
  refine go ?_
  refine rc (l18Code_ok (p := p) hl) (next := fun v6 w6 h6 => ?_)
  obtain ⟨k, rfl, hk, he6⟩ := h6
  refine go ?_
  refine ret1 ⟨k, rfl, ?_, hE5.trans he6⟩
  rcases hk with ⟨h, _⟩ | ⟨hG, hcon, h⟩
  · exact absurd hGE.1 h
  · exact .inr ⟨hGE, hcon, ⟨xs, hGE.2, fun i hi => absurd hi (Nat.not_lt_zero i)⟩, rfl, h⟩
set_option maxHeartbeats 4000000 in
theorem l18Marks_ok {p : Pr} [hc : ConAll p] {x : El p} {w : World} {vp vx : Value} {xs : List Int} {lo hi lo1 hi1 : Nat} [hp : Pres lo hi w vp p] [hx : Ints lo1 hi1 w vx xs] (hxe : xs = x.v) :
    Calls Try.prog 116 #[vp, vx] w (Ret fun v w' => Ext w w' ∧ Sl w.heap.size w'.heap.size w' v ((markF x (ordN p)).map Value.bool)) := by
  subst hxe
  have hv := hc.valid
  have hn6 := hv.n6
  obtain ⟨hoe, ho1, ho2⟩ := ordN_rng p
  replace hp := hp.wide
  replace hx := hx.wide
  obtain ⟨vo, vpw, vc, ps, cs, css, rfl, h1, h2, h3⟩ := hp.ex
  refine enter (args := [.agg #[vo, vpw, vc], vx]) (l := [.tmp 4]) Try.func116 rfl rfl Try.ntmps116 (by simp) ?_
  refine go ?_
  refine st_box3 (by ((try simp only [ev_tmp, ev_const, ev_func, get_put, get_args, get_putL, get_putL_nil, Nat.reduceEqDiff, reduceIte, List.getD_cons_zero, List.getD_cons_succ, List.getD_nil]); first | done | with_reducible rfl)) (by first | exact True.intro | exact ⟨_, rfl, by ((try simp only [ev_tmp, ev_const, ev_func, get_put, get_args, get_putL, get_putL_nil, Nat.reduceEqDiff, reduceIte, List.getD_cons_zero, List.getD_cons_succ, List.getD_nil, Bool.not_true, Bool.not_false]); first | done | with_reducible rfl)⟩) fun w1 b he1 hb1 hs1 hc0 hc1 hc2 => ?_
  have hz1 := he1.size
  refine go ?_
  refine rc (l10Order_ok (p := p) hv) (next := fun v4 w4 h5 => ?_)
  obtain ⟨rfl, he4⟩ := h5
  rw [hoe]
  have hz4 := he4.size
  have hE4 := he1.trans he4
  refine go ?_
  refine st_make_bool (n := ordN p) (by ((try simp only [ev_tmp, ev_const, ev_func, get_put, get_args, get_putL, get_putL_nil, Nat.reduceEqDiff, reduceIte, List.getD_cons_zero, List.getD_cons_succ, List.getD_nil]); first | done | with_reducible rfl)) (by ((try simp only [ev_tmp, ev_const, ev_func, get_put, get_args, get_putL, get_putL_nil, Nat.reduceEqDiff, reduceIte, List.getD_cons_zero, List.getD_cons_succ, List.getD_nil]); first | done | with_reducible rfl)) (by omega) (by omega) (by first | exact True.intro | exact ⟨_, rfl, by ((try simp only [ev_tmp, ev_const, ev_func, get_put, get_args, get_putL, get_putL_nil, Nat.reduceEqDiff, reduceIte, List.getD_cons_zero, List.getD_cons_succ, List.getD_nil, Bool.not_true, Bool.not_false]); first | done | with_reducible rfl)⟩) fun w5 v5 he5 hs5 ho5 => ?_
  have hE5 := hE4.trans he5
  obtain ⟨b', hb'⟩ : ∃ b', b' = w4.heap.size := ⟨_, rfl⟩
  rw [← hb'] at ho5
  have ap1 : Apart 0 w.heap.size b' := ⟨.inr (by omega)⟩
  have ap2 : Apart b (b + 1) b' := ⟨.inr (by omega)⟩
  refine go ?_
  refine r_for (ordN p) (fun t ρ w' => Has ρ [(1, vx), (2, .pointer (some ⟨b, 0, none⟩)), (5, v5), (6, .int .i64 t)] ∧ Chg b' w5 w' ∧ Own 4 b' w' v5 ((markF x t).map Value.bool)) ?_ ?_
  · refine ⟨?_, Chg.refl _ _, by rw [markF_zero, List.map_replicate]; exact ho5⟩
    exact hasP
  clear ho5
  rintro t ρ w6 ht ⟨hH, hch6, hO6⟩
  refine rwp_has hH fun ρ0 => ?_
  refine go ?_
  refine rc (l10Order_ok (p := p) hv) (next := fun v7 w7 h7 => ?_)
  obtain ⟨rfl, he7⟩ := h7
  rw [hoe]
  have hO7 : Own 4 b' w7 v5 ((markF x t).map Value.bool) := @Own.ext _ _ _ _ _ _ he7 hO6
  have hch7 := hch6.grow he7
  clear hO6 hch6
  refine go ?_
  refine c_if (fun h8 => ?_) (fun h8 => ?_)
  · have htn : t < ordN p := by omega
    have hml := markF_len x t
    have hln := hO7.toSl.toLen
    have hnl := numE_lt (Grp.cj x (allE p t))
    simp only [List.length_map] at hln
    refine go ?_
    refine z_order b' (List.range 11) (h := fun w8 he8 _ => ?_)
    refine zgo ?_
    refine zc (l10At_ok (p := p) (t := t) (by omega)) (next := fun v9 w9 h9 => ?_)
    obtain ⟨he9, hf9⟩ := h9
    have hi9 := hf9.ints
    refine zc (l10Conj_ok (p := p) (x := x) (y := allE p t) rfl rfl) (next := fun v10 w10 h10 => ?_)
    obtain ⟨he10, hf10⟩ := h10
    have hi10 := hf10.ints
    refine zc (l10Number_ok (p := p) (x := Grp.cj x (allE p t)) rfl) (hR := fun _ _ ⟨_, h⟩ => h) (next := fun v11 w11 h11 => ?_)
    obtain ⟨rfl, he11⟩ := h11
    have hx11 := ((he8.trans he9).trans he10).trans he11
    have hO11 : Own 4 b' w11 v5 ((markF x t).map Value.bool) := @Own.ext _ _ _ _ _ _ hx11 hO7
    refine zgo ?_
    refine z_store_val (h := hO11) (hx := (by ((try simp only [ev_tmp, ev_const, ev_func, get_put, get_args, get_putL, get_putL_nil, Nat.reduceEqDiff, reduceIte, List.getD_cons_zero, List.getD_cons_succ, List.getD_nil]); first | done | with_reducible rfl))) (hy := (by ((try simp only [ev_tmp, ev_const, ev_func, get_put, get_args, get_putL, get_putL_nil, Nat.reduceEqDiff, reduceIte, List.getD_cons_zero, List.getD_cons_succ, List.getD_nil]); first | done | with_reducible rfl))) (hu := rfl) (hm := ?_) (next := fun w12 hc12 hs12 ho12 => ?_)
    · rw [List.length_map]; omega
    refine z_end ?_
    refine go ?_
    refine forQ_normal (by omega) ⟨?_, (hch7.grow hx11).trans hc12, ?_⟩
    · exact hasP
    · rw [markF_step, List.map_set]; exact ho12
  · obtain rfl : t = ordN p := by omega
    refine go ?_
    refine ret1 ⟨hch7.ext hE5 (by omega), (hO7.toN.toSl).mono (by omega) (Nat.le_refl _)⟩
set_option maxHeartbeats 4000000 in
theorem spec_ConjugacyClass_ok {p : Pr} {w : World} {vp vx : Value} {xs : List Int} {lo hi lo1 hi1 : Nat} [hp : Pres lo hi w vp p] [hx : Ints lo1 hi1 w vx xs] (hl : p.ord.length ≤ 2000000) :
    Calls Try.prog 52 #[vp, vx] w (Ret fun v w' => ∃ (u : Value) (k : List (List Int)) (e : Int), v = .tuple #[u, .int .i64 e] ∧ Ans (GrpE p xs) (CcV p xs) [] k e ∧ Ext w w' ∧ ∃ us', Pc.Rows w.heap.size w'.heap.size w' u us' k) := by
  replace hx := hx.wide
  obtain ⟨vo, vpw, vc, ps, cs, css, rfl, h1, h2, h3⟩ := hp.ex
  refine enter (args := [.agg #[vo, vpw, vc], vx]) (l := [.tmp 4, .tmp 5]) Try.func52 rfl rfl Try.ntmps52 (by simp) ?_
  refine go ?_
  refine st_box3 (by ((try simp only [ev_tmp, ev_const, ev_func, get_put, get_args, get_putL, get_putL_nil, Nat.reduceEqDiff, reduceIte, List.getD_cons_zero, List.getD_cons_succ, List.getD_nil]); first | done | with_reducible rfl)) (by first | exact True.intro | exact ⟨_, rfl, by ((try simp only [ev_tmp, ev_const, ev_func, get_put, get_args, get_putL, get_putL_nil, Nat.reduceEqDiff, reduceIte, List.getD_cons_zero, List.getD_cons_succ, List.getD_nil, Bool.not_true, Bool.not_false]); first | done | with_reducible rfl)⟩) fun w1 b he1 hb1 hs1 hc0 hc1 hc2 => ?_
  refine go ?_
  refine rc (l18Element_ok (p := p) (xs := xs) hl) (next := fun v5 w5 h5 => ?_)
  obtain ⟨c5, rfl, hc5, he5⟩ := h5
  have hE5 := he1.trans he5
  refine go ?_
  refine c_if (fun h6 => ?_) (fun h6 => ?_)
  · refine go ?_
    rcases hc5 with ⟨h7, rfl⟩ | ⟨hG, hcon, x, hxe, ⟨h7, rfl⟩ | ⟨h7, rfl⟩⟩
    · exact ret2 ⟨nilv, [], 1, rfl, .inr ⟨h7, rfl, rfl⟩, hE5, [], Rows.nilR _ _ _⟩
    · exact ret2 ⟨nilv, [], 3, rfl, .inl ⟨hG, hcon, x, hxe, .inl ⟨h7, rfl, rfl⟩⟩, hE5, [], Rows.nilR _ _ _⟩
    · exact absurd rfl h6
  obtain ⟨hG, hcon, x, rfl, h7⟩ : ∃ (_ : GrpE p xs) (_ : ConAll p) (x : El p), xs = x.v ∧ ordN p ≤ 128 := by
    rcases hc5 with ⟨h7, rfl⟩ | ⟨hG, hcon, x, hxe, ⟨h7, rfl⟩ | ⟨h7, rfl⟩⟩
    · exact absurd (by decide) h6
    · exact absurd (by decide) h6
    · exact ⟨hG, hcon, x, hxe, h7⟩
  have hv := hcon.valid
  have hn6 := hv.n6
  obtain ⟨hoe, ho1, ho2⟩ := ordN_rng p
  have hx5 : Ints 0 w.heap.size w5 vx x.v := hx.same (hE5.same _ _)
  refine go ?_
  refine rc (l18Marks_ok (p := p) (x := x) rfl) (next := fun v8 w8 h8 => ?_)
  obtain ⟨he8, hS8⟩ := h8
  have hE8 := hE5.trans he8
  have hz8 := he8.size
  have hml := markF_len x (ordN p)
  refine go ?_
  refine st_slice0 (by first | exact True.intro | exact ⟨_, rfl, by ((try simp only [ev_tmp, ev_const, ev_func, get_put, get_args, get_putL, get_putL_nil, Nat.reduceEqDiff, reduceIte, List.getD_cons_zero, List.getD_cons_succ, List.getD_nil, Bool.not_true, Bool.not_false]); first | done | with_reducible rfl)⟩) fun w9 v9 he9 hs9 ho9 => ?_
  have hz9 := he9.size
  have hE9 := hE8.trans he9
  refine go ?_
  refine r_for (ordN p) (fun t ρ w' => ∃ vl rs, Has ρ [(2, .pointer (some ⟨b, 0, none⟩)), (7, v8), (8, vl), (9, .int .i64 t)] ∧ Ext w8 w' ∧ GrowL 22 w8.heap.size w' vl rs ∧ rs.map (·.2) = vecs (selL (Cnj x) t)) ?_ ?_
  · refine ⟨v9, [], ?_, he9, GrowL.start ho9 (Nat.le_refl _), by simp [selL]⟩
    exact hasP
  clear ho9
  rintro t ρ w10 ht ⟨vl, rs, hH, he10, hG10, hrs⟩
  refine rwp_has hH fun ρ0 => ?_
  have hS10 := hS8.same (he10.same _ _)
  have hlen10 := hS10.toLen
  have hmlv : ((markF x (ordN p)).map Value.bool).length = ordN p := by rw [List.length_map, hml]
  rw [hmlv] at hlen10
  have hrl : rs.length ≤ t := by have := congrArg List.length hrs; have := selL_len (Cnj x) t; simp at *; omega
  refine go ?_
  refine c_if (fun h11 => ?_) (fun h11 => ?_)
  · have htn : t < ordN p := by omega
    have hrow : Pc.rowAt v8 ((markF x (ordN p)).map Value.bool) t = .bool ((markF x (ordN p)).getD t false) := by
      simp [Pc.rowAt, show t < (markF x (ordN p)).length by omega]
    have hmk := markF_all x htn
    refine go ?_
    refine ra (v := Pc.rowAt v8 ((markF x (ordN p)).map Value.bool) t) (h := rd_load_sl (us := (markF x (ordN p)).map Value.bool) (by ((try simp only [ev_tmp, ev_const, ev_func, get_put, get_args, get_putL, get_putL_nil, Nat.reduceEqDiff, reduceIte, List.getD_cons_zero, List.getD_cons_succ, List.getD_nil]); first | done | with_reducible rfl)) (by omega)) (next := ?_)
    rw [hrow]
    refine go ?_
    refine c_b (fun h12 => ?_) (fun h12 => ?_)
    · have hP := hmk.1 h12
      refine go ?_
      refine rc (l10At_ok (p := p) (t := t) (by omega)) (next := fun v13 w13 h13 => ?_)
      obtain ⟨he13, hf13⟩ := h13
      refine go ?_
      refine st_grow hG10 he13 hf13 (by have := he10.size; omega) (by omega) (next := fun v14 v15 w15 hG15 hx15 hz15 hgs15 => ?_)
      refine go ?_
      refine forQ_normal (by omega) ⟨v15, _, ?_, hx15 w8 (he10.trans he13) (Nat.le_refl _), hG15, by rw [selL_yes' hP, List.map_append, hrs]; rfl⟩
      exact hasP
    · have hP : ¬ Cnj x (allE p t) := fun h => by rw [hmk.2 h] at h12; cases h12
      refine go ?_
      refine forQ_normal (by omega) ⟨vl, rs, ?_, he10, hG10, by rw [selL_no hP]; exact hrs⟩
      exact hasP
  · obtain rfl : t = ordN p := by omega
    have hR := hG10.rows
    rw [hrs] at hR
    refine go ?_
    exact ret2 ⟨vl, _, 0, rfl, .inl ⟨hG, hcon, x, rfl, .inr ⟨h7, rfl, rfl⟩⟩, hE8.trans he10, _, hR.mono hE8.size (Nat.le_refl _)⟩
set_option maxHeartbeats 8000000 in
theorem l18Classes_ok {p : Pr} [hc : ConAll p] (hN : ordN p ≤ 128) {w : World} {vp : Value} {lo hi : Nat} [hp : Pres lo hi w vp p] :
    Calls Try.prog 61 #[vp] w (Ret fun v w' => ∃ u : Value, v = .tuple #[u, .int .i64 ((idxTo p (ordN p)).2 : Nat)] ∧ Ext w w' ∧ Fr w.heap.size w' u (clsF p (ordN p) 0)) := by
  have hv := hc.valid
  have hn6 := hv.n6
  obtain ⟨hoe, ho1, ho2⟩ := ordN_rng p
  replace hp := hp.wide
  obtain ⟨vo, vpw, vc, ps, cs, css, rfl, h1, h2, h3⟩ := hp.ex
  refine enter (args := [.agg #[vo, vpw, vc]]) (l := [.tmp 2, .tmp 3]) Try.func61 rfl rfl Try.ntmps61 (by simp) ?_
  refine go ?_
  refine st_box3 (by ((try simp only [ev_tmp, ev_const, ev_func, get_put, get_args, get_putL, get_putL_nil, Nat.reduceEqDiff, reduceIte, List.getD_cons_zero, List.getD_cons_succ, List.getD_nil]); first | done | with_reducible rfl)) (by first | exact True.intro | exact ⟨_, rfl, by ((try simp only [ev_tmp, ev_const, ev_func, get_put, get_args, get_putL, get_putL_nil, Nat.reduceEqDiff, reduceIte, List.getD_cons_zero, List.getD_cons_succ, List.getD_nil, Bool.not_true, Bool.not_false]); first | done | with_reducible rfl)⟩) fun w1 b he1 hb1 hs1 hc0 hc1 hc2 => ?_
  have hz1 := he1.size
  refine go ?_
  refine rc (l10Order_ok (p := p) hv) (next := fun v4 w4 h5 => ?_)
  obtain ⟨rfl, he4⟩ := h5
  rw [hoe]
  have hz4 := he4.size
  have hE4 := he1.trans he4
  refine go ?_
  refine st_make_int (n := ordN p) (by ((try simp only [ev_tmp, ev_const, ev_func, get_put, get_args, get_putL, get_putL_nil, Nat.reduceEqDiff, reduceIte, List.getD_cons_zero, List.getD_cons_succ, List.getD_nil]); first | done | with_reducible rfl)) (by ((try simp only [ev_tmp, ev_const, ev_func, get_put, get_args, get_putL, get_putL_nil, Nat.reduceEqDiff, reduceIte, List.getD_cons_zero, List.getD_cons_succ, List.getD_nil]); first | done | with_reducible rfl)) (by omega) (by omega) (by first | exact True.intro | exact ⟨_, rfl, by ((try simp only [ev_tmp, ev_const, ev_func, get_put, get_args, get_putL, get_putL_nil, Nat.reduceEqDiff, reduceIte, List.getD_cons_zero, List.getD_cons_succ, List.getD_nil, Bool.not_true, Bool.not_false]); first | done | with_reducible rfl)⟩) fun w5 v5 he5 hs5 ho5 => ?_
  have hE5 := hE4.trans he5
  obtain ⟨b', hb'⟩ : ∃ b', b' = w4.heap.size := ⟨_, rfl⟩
  rw [← hb'] at ho5
  have ap1 : Apart 0 w.heap.size b' := ⟨.inr (by omega)⟩
  have ap2 : Apart b (b + 1) b' := ⟨.inr (by omega)⟩
  refine go ?_
  refine r_for (ordN p) (fun t ρ w' => Has ρ [(1, .pointer (some ⟨b, 0, none⟩)), (4, v5), (5, .int .i64 t)] ∧ Chg b' w5 w' ∧ OwnI 2 b' w' v5 (List.replicate t (-1) ++ List.replicate (ordN p - t) 0)) ?_ ?_
  · refine ⟨?_, Chg.refl _ _, by simpa using ho5⟩
    exact hasP
  clear ho5
  rintro t ρ w6 ht ⟨hH, hch6, hO6⟩
  refine rwp_has hH fun ρ0 => ?_
  have hll : (List.replicate t (-1 : Int) ++ List.replicate (ordN p - t) 0).length = ordN p := by simp; omega
  refine go ?_
  refine c_if (fun h7 => ?_) (fun h7 => ?_)
  · have htn : t < ordN p := by omega
    refine go ?_
    refine st_store_int (h := hO6) (by ((try simp only [ev_tmp, ev_const, ev_func, get_put, get_args, get_putL, get_putL_nil, Nat.reduceEqDiff, reduceIte, List.getD_cons_zero, List.getD_cons_succ, List.getD_nil]); first | done | with_reducible rfl)) (by ((try simp only [ev_tmp, ev_const, ev_func, get_put, get_args, get_putL, get_putL_nil, Nat.reduceEqDiff, reduceIte, List.getD_cons_zero, List.getD_cons_succ, List.getD_nil]); first | done | with_reducible rfl)) (by omega) (by first | exact True.intro | exact ⟨_, rfl, by ((try simp only [ev_tmp, ev_const, ev_func, get_put, get_args, get_putL, get_putL_nil, Nat.reduceEqDiff, reduceIte, List.getD_cons_zero, List.getD_cons_succ, List.getD_nil, Bool.not_true, Bool.not_false]); first | done | with_reducible rfl)⟩) fun w8 hc8 hs8 ho8 => ?_
    refine go ?_
    refine forQ_normal (by omega) ⟨?_, hch6.trans hc8, ?_⟩
    · exact hasP
    · have e : (List.replicate t (-1 : Int) ++ List.replicate (ordN p - t) 0).set t (-1) = List.replicate (t + 1) (-1) ++ List.replicate (ordN p - (t + 1)) 0 := by
        rw [show ordN p - t = (ordN p - (t + 1)) + 1 by omega, List.replicate_succ, List.set_append_right _ _ (by simp), List.length_replicate, Nat.sub_self, List.set_cons_zero, List.replicate_succ' (n := t), List.append_assoc]
        rfl
      rw [← e]; exact ho8
  obtain rfl : t = ordN p := by omega
  rw [Nat.sub_self, List.replicate_zero, List.append_nil, ← clsF_start] at hO6
  clear hll
  refine go ?_
  refine r_for (ordN p) (fun t ρ w' => Has ρ [(1, .pointer (some ⟨b, 0, none⟩)), (4, v5), (6, .int .i64 ((idxTo p t).2 : Nat)), (7, .int .i64 t)] ∧ Chg b' w5 w' ∧ OwnI 2 b' w' v5 (clsF p t 0)) ?_ ?_
  · refine ⟨?_, hch6, hO6⟩
    exact hasP
  clear hO6 hch6
  rintro t ρ w7 ht ⟨hH, hch7, hO7⟩
  refine rwp_has hH fun ρ0 => ?_
  have hll := clsF_len (p := p) t 0
  have hcnt := (idxT_rng (p := p) t 1).2.2
  refine go ?_
  refine c_if (fun h8 => ?_) (fun h8 => ?_)
  · have htn : t < ordN p := by omega
    have hget := clsF_get t htn
    have hrng := idxT_rng (p := p) t (allE p t)
    refine go ?_
    rw [hget]
    refine go ?_
    refine c_if (fun h9 => ?_) (fun h9 => ?_)
    · refine go ?_
      refine forQ_normal (by omega) ⟨?_, hch7, by rw [clsF_old h9]; exact hO7⟩
      rw [idx_old h9]
      exact hasP
    · obtain ⟨k1, k2, k3⟩ := idx_new h9
      refine go ?_
      refine d_order [0, 1, 2, 3, 4, 5] (h := fun w10 he10 _ => ?_)
      refine dgo ?_
      refine dce (l10At_ok (p := p) (t := t) (by omega)) (next := fun v11 w11 h11 => ?_)
      obtain ⟨he11, hf11⟩ := h11
      have hi11 := hf11.ints
      refine dce (l18Marks_ok (p := p) (x := allE p t) rfl) (next := fun v12 w12 h12 => ?_)
      obtain ⟨he12, hS12⟩ := h12
      refine dgo ?_
      refine d_end (h := ?_)
      have hx12 := (he10.trans he11).trans he12
      have hz11 := (he10.trans he11).size
      have hz7 := hch7.size
      have ap3 : Apart w11.heap.size w12.heap.size b' := ⟨.inl (by omega)⟩
      have hml := markF_len (allE p t) (ordN p)
      have hmlv : ((markF (allE p t) (ordN p)).map Value.bool).length = ordN p := by rw [List.length_map, hml]
      refine go ?_
      refine r_for (ordN p) (fun k ρ w' => Has ρ [(1, .pointer (some ⟨b, 0, none⟩)), (4, v5), (6, .int .i64 ((idxTo p t).2 : Nat)), (7, .int .i64 t), (8, v12), (9, .int .i64 k)] ∧ Chg b' w12 w' ∧ OwnI 2 b' w' v5 (clsF p t k)) ?_ ?_
      · refine ⟨?_, Chg.refl _ _, @OwnI.ext _ _ _ _ _ _ hx12 hO7⟩
        exact hasP
      clear hO7
      rintro k ρ w13 hk ⟨hH13, hch13, hO13⟩
      refine rwp_has hH13 fun ρ1 => ?_
      have hS13 := hS12.same (hch13.same (.inl (by omega)))
      have hlen13 := hS13.toLen
      rw [hmlv] at hlen13
      have hll13 := clsF_len (p := p) t k
      refine go ?_
      refine c_if (fun h14 => ?_) (fun h14 => ?_)
      · have hkn : k < ordN p := by omega
        have hrow : Pc.rowAt v12 ((markF (allE p t) (ordN p)).map Value.bool) k = .bool ((markF (allE p t) (ordN p)).getD k false) := by
          simp [Pc.rowAt, show k < (markF (allE p t) (ordN p)).length by omega]
        have hmk := markF_all (allE p t) hkn
        refine go ?_
        refine ra (v := Pc.rowAt v12 ((markF (allE p t) (ordN p)).map Value.bool) k) (h := rd_load_sl (us := (markF (allE p t) (ordN p)).map Value.bool) (by ((try simp only [ev_tmp, ev_const, ev_func, get_put, get_args, get_putL, get_putL_nil, Nat.reduceEqDiff, reduceIte, List.getD_cons_zero, List.getD_cons_succ, List.getD_nil]); first | done | with_reducible rfl)) (by omega)) (next := ?_)
        rw [hrow]
        refine go ?_
        refine c_b (fun h15 => ?_) (fun h15 => ?_)
        · have hP := hmk.1 h15
          refine go ?_
          refine st_store_int (h := hO13) (by ((try simp only [ev_tmp, ev_const, ev_func, get_put, get_args, get_putL, get_putL_nil, Nat.reduceEqDiff, reduceIte, List.getD_cons_zero, List.getD_cons_succ, List.getD_nil]); first | done | with_reducible rfl)) (by ((try simp only [ev_tmp, ev_const, ev_func, get_put, get_args, get_putL, get_putL_nil, Nat.reduceEqDiff, reduceIte, List.getD_cons_zero, List.getD_cons_succ, List.getD_nil]); first | done | with_reducible rfl)) (by omega) (by first | exact True.intro | exact ⟨_, rfl, by ((try simp only [ev_tmp, ev_const, ev_func, get_put, get_args, get_putL, get_putL_nil, Nat.reduceEqDiff, reduceIte, List.getD_cons_zero, List.getD_cons_succ, List.getD_nil, Bool.not_true, Bool.not_false]); first | done | with_reducible rfl)⟩) fun w16 hc16 hs16 ho16 => ?_
          refine go ?_
          refine forQ_normal (by omega) ⟨?_, hch13.trans hc16, by rw [clsF_yes h9 hkn hP]; exact ho16⟩
          exact hasP
        · have hP : ¬ Cnj (allE p t) (allE p k) := fun h => by rw [hmk.2 h] at h15; cases h15
          refine go ?_
          refine forQ_normal (by omega) ⟨?_, hch13, by rw [clsF_no h9 hP]; exact hO13⟩
          exact hasP
      · obtain rfl : k = ordN p := by omega
        refine go ?_
        refine forQ_normal (by omega) ⟨?_, (hch7.grow hx12).trans hch13, by rw [← clsF_end]; exact hO13⟩
        rw [k1]
        exact hasP
  · obtain rfl : t = ordN p := by omega
    refine go ?_
    exact ret2 ⟨v5, rfl, hch7.ext hE5 (by omega), (hO7.toFr (by omega))⟩
set_option maxHeartbeats 2000000 in
theorem spec_ClassNumber_ok {p : Pr} {w : World} {vp vx : Value} {xs : List Int} {lo hi lo1 hi1 : Nat} [hp : Pres lo hi w vp p] [hx : Ints lo1 hi1 w vx xs] (hl : p.ord.length ≤ 2000000) :
    Calls Try.prog 12 #[vp, vx] w (Ret fun v w' => ∃ (k e : Int), v = .tuple #[.int .i64 k, .int .i64 e] ∧ Ans (GrpE p xs) (CnV p xs) 0 k e ∧ Ext w w') := by
  replace hx := hx.wide
  obtain ⟨vo, vpw, vc, ps, cs, css, rfl, h1, h2, h3⟩ := hp.ex
  refine enter (args := [.agg #[vo, vpw, vc], vx]) (l := [.tmp 4, .tmp 5]) Try.func12 rfl rfl Try.ntmps12 (by simp) ?_
  refine go ?_
  refine st_box3 (by ((try simp only [ev_tmp, ev_const, ev_func, get_put, get_args, get_putL, get_putL_nil, Nat.reduceEqDiff, reduceIte, List.getD_cons_zero, List.getD_cons_succ, List.getD_nil]); first | done | with_reducible rfl)) (by first | exact True.intro | exact ⟨_, rfl, by ((try simp only [ev_tmp, ev_const, ev_func, get_put, get_args, get_putL, get_putL_nil, Nat.reduceEqDiff, reduceIte, List.getD_cons_zero, List.getD_cons_succ, List.getD_nil, Bool.not_true, Bool.not_false]); first | done | with_reducible rfl)⟩) fun w1 b he1 hb1 hs1 hc0 hc1 hc2 => ?_
  refine go ?_
  refine rc (l18Element_ok (p := p) (xs := xs) hl) (next := fun v5 w5 h5 => ?_)
  obtain ⟨c5, rfl, hc5, he5⟩ := h5
  have hE5 := he1.trans he5
  refine go ?_
  refine c_if (fun h6 => ?_) (fun h6 => ?_)
  · refine go ?_
    rcases hc5 with ⟨h7, rfl⟩ | ⟨hG, hcon, x, hxe, ⟨h7, rfl⟩ | ⟨h7, rfl⟩⟩
    · exact ret2 ⟨0, 1, rfl, .inr ⟨h7, rfl, rfl⟩, hE5⟩
    · exact ret2 ⟨0, 3, rfl, .inl ⟨hG, hcon, x, hxe, .inl ⟨h7, rfl, rfl⟩⟩, hE5⟩
    · exact absurd rfl h6
  obtain ⟨hG, hcon, x, rfl, h7⟩ : ∃ (_ : GrpE p xs) (_ : ConAll p) (x : El p), xs = x.v ∧ ordN p ≤ 128 := by
    rcases hc5 with ⟨h7, rfl⟩ | ⟨hG, hcon, x, hxe, ⟨h7, rfl⟩ | ⟨h7, rfl⟩⟩
    · exact absurd (by decide) h6
    · exact absurd (by decide) h6
    · exact ⟨hG, hcon, x, hxe, h7⟩
  have hv := hcon.valid
  have hn6 := hv.n6
  obtain ⟨hoe, ho1, ho2⟩ := ordN_rng p
  have hx5 : Ints 0 w.heap.size w5 vx x.v := hx.same (hE5.same _ _)
  refine go ?_
  refine rc (l18Classes_ok (p := p) h7) (next := fun v8 w8 h8 => ?_)
  obtain ⟨u8, rfl, he8, hf8⟩ := h8
  have hi8 := hf8.ints
  have hE8 := hE5.trans he8
  have hx8 : Ints 0 w.heap.size w8 vx x.v := hx.same (hE8.same _ _)
  refine go ?_
  refine rc (l10Number_ok (p := p) (x := x) rfl) (next := fun v9 w9 h9 => ?_)
  obtain ⟨rfl, he9⟩ := h9
  have hnl := numE_lt x
  have hll := clsF_len (p := p) (ordN p) 0
  have hget := clsF_get (ordN p) hnl
  rw [allE_numE] at hget
  have hi9 := hi8.same (he9.same _ _)
  refine go ?_
  rw [hget]
  refine go ?_
  exact ret2 ⟨_, 0, rfl, .inl ⟨hG, hcon, x, rfl, .inr ⟨h7, rfl, rfl⟩⟩, hE8.trans he9⟩
/-- Pairs counted row by row. -/
noncomputable def pairT (p : Pr) [hc : ConAll p] (t k : Nat) : Nat := sm cenN ((elsA p).take t) + sm (fun y => one (allE p t * y = y * allE p t)) ((elsA p).take k)
section
variable {p : Pr} [hc : ConAll p]
theorem elsA_get {t : Nat} (h : t < ordN p) : (elsA p)[t]'(by simpa [elsA] using h) = allE p t := by simp [elsA]
theorem sm_snoc {α : Type} (f : α → Nat) (a : α) : ∀ l : List α, sm f (l ++ [a]) = sm f l + f a
  | [] => by simp [sm]
  | b :: l => by rw [List.cons_append, sm, sm, sm_snoc f a l]; omega
theorem pairT_zero : pairT p 0 0 = 0 := rfl
theorem pairT_step {t k : Nat} (hk : k < ordN p) : pairT p t (k + 1) = pairT p t k + one (allE p t * allE p k = allE p k * allE p t) := by
  unfold pairT
  rw [List.take_succ_eq_append_getElem (by simpa [elsA] using hk), sm_snoc, elsA_get hk]
  omega
theorem pairT_row {t : Nat} (ht : t < ordN p) : pairT p t (ordN p) = pairT p (t + 1) 0 := by
  unfold pairT
  rw [List.take_of_length_le (i := ordN p) (by simp [elsA]), List.take_succ_eq_append_getElem (i := t) (by simpa [elsA] using ht), sm_snoc, elsA_get ht]
  rfl
theorem pairT_all : pairT p (ordN p) 0 = ordN p * (idxTo p (ordN p)).2 := by
  unfold pairT
  rw [List.take_of_length_le (i := ordN p) (by simp [elsA]), pairs_all]
  rfl
theorem pairT_le (t k : Nat) : pairT p t k ≤ t * ordN p + k := by
  have h1 : ∀ x : El p, cenN x ≤ ordN p := fun x => by
    have h : cenN x ≤ sm (fun _ => 1) (elsA p) := sm_le fun y _ => one_le _
    rw [sm_const] at h
    simpa [elsA] using h
  have h2 : sm cenN ((elsA p).take t) ≤ sm (fun _ => ordN p) ((elsA p).take t) := sm_le fun x _ => h1 x
  have h3 : sm (fun y => one (allE p t * y = y * allE p t)) ((elsA p).take k) ≤ sm (fun _ => 1) ((elsA p).take k) := sm_le fun y _ => one_le _
  rw [sm_const, List.length_take] at h2 h3
  have h4 : min t (elsA p).length * ordN p ≤ t * ordN p := Nat.mul_le_mul_right _ (Nat.min_le_left _ _)
  have h5 : min k (elsA p).length ≤ k := Nat.min_le_left _ _
  unfold pairT
  omega
end
set_option maxHeartbeats 4000000 in
theorem spec_CommutingPairs_ok {p : Pr} {w : World} {vp : Value} {lo hi : Nat} [hp : Pres lo hi w vp p] (hl : p.ord.length ≤ 2000000) :
    Calls Try.prog 38 #[vp] w (Ret fun v w' => ∃ (k e : Int), v = .tuple #[.int .i64 k, .int .i64 e] ∧ Ans (IsGrp p) (CpV p) 0 k e ∧ Ext w w') := by
  obtain ⟨vo, vpw, vc, ps, cs, css, rfl, h1, h2, h3⟩ := hp.ex
  refine enter (args := [.agg #[vo, vpw, vc]]) (l := [.tmp 2, .tmp 3]) Try.func38 rfl rfl Try.ntmps38 (by simp) ?_
  refine go ?_
  refine st_box3 (by ((try simp only [ev_tmp, ev_const, ev_func, get_put, get_args, get_putL, get_putL_nil, Nat.reduceEqDiff, reduceIte, List.getD_cons_zero, List.getD_cons_succ, List.getD_nil]); first | done | with_reducible rfl)) (by first | exact True.intro | exact ⟨_, rfl, by ((try simp only [ev_tmp, ev_const, ev_func, get_put, get_args, get_putL, get_putL_nil, Nat.reduceEqDiff, reduceIte, List.getD_cons_zero, List.getD_cons_succ, List.getD_nil, Bool.not_true, Bool.not_false]); first | done | with_reducible rfl)⟩) fun w1 b he1 hb1 hs1 hc0 hc1 hc2 => ?_
  refine go ?_
  refine rc (l18Code_ok (p := p) hl) (next := fun v5 w5 h5 => ?_)
  obtain ⟨c5, rfl, hc5, he5⟩ := h5
  have hE5 := he1.trans he5
  refine go ?_
  refine c_if (fun h6 => ?_) (fun h6 => ?_)
  · refine go ?_
    rcases hc5 with ⟨h7, rfl⟩ | ⟨hG, hcon, ⟨h7, rfl⟩ | ⟨h7, rfl⟩⟩
    · exact ret2 ⟨0, 1, rfl, .inr ⟨h7, rfl, rfl⟩, hE5⟩
    · exact ret2 ⟨0, 3, rfl, .inl ⟨hG, hcon, .inl ⟨h7, rfl, rfl⟩⟩, hE5⟩
    · exact absurd rfl h6
  obtain ⟨hG, hcon, h7⟩ : ∃ (_ : IsGrp p) (_ : ConAll p), ordN p ≤ 128 := by
    rcases hc5 with ⟨h7, rfl⟩ | ⟨hG, hcon, ⟨h7, rfl⟩ | ⟨h7, rfl⟩⟩
    · exact absurd (by decide) h6
    · exact absurd (by decide) h6
    · exact ⟨hG, hcon, h7⟩
  have hv := hcon.valid
  have hn6 := hv.n6
  obtain ⟨hoe, ho1, ho2⟩ := ordN_rng p
  refine go ?_
  refine r_for (ordN p) (fun t ρ w' => Has ρ [(1, .pointer (some ⟨b, 0, none⟩)), (5, .int .i64 ((pairT p t 0 : Nat) : Int)), (6, .int .i64 t)] ∧ Ext w5 w') ?_ ?_
  · refine ⟨?_, Ext.refl _⟩
    rw [pairT_zero]
    exact hasP
  rintro t ρ w6 ht ⟨hH, he6⟩
  refine rwp_has hH fun ρ0 => ?_
  have hE6 := hE5.trans he6
  refine go ?_
  refine rc (l10Order_ok (p := p) hv) (next := fun v7 w7 h8 => ?_)
  obtain ⟨rfl, he7⟩ := h8
  rw [hoe]
  have hE7 := hE6.trans he7
  refine go ?_
  refine c_if (fun h9 => ?_) (fun h9 => ?_)
  · have htn : t < ordN p := by omega
    have htle : t * ordN p ≤ 128 * 128 := Nat.mul_le_mul (by omega) h7
    refine go ?_
    refine r_for (ordN p) (fun k ρ w' => Has ρ [(1, .pointer (some ⟨b, 0, none⟩)), (5, .int .i64 ((pairT p t k : Nat) : Int)), (6, .int .i64 t), (7, .int .i64 k)] ∧ Ext w7 w') ?_ ?_
    · refine ⟨?_, Ext.refl _⟩
      exact hasP
    rintro k ρ w8 hk ⟨hH8, he8⟩
    refine rwp_has hH8 fun ρ1 => ?_
    have hE8 := hE7.trans he8
    have hple := pairT_le (p := p) t k
    refine go ?_
    refine rc (l10Order_ok (p := p) hv) (next := fun v9 w9 h10 => ?_)
    obtain ⟨rfl, he9⟩ := h10
    rw [hoe]
    have hE9 := hE8.trans he9
    refine go ?_
    refine c_if (fun h11 => ?_) (fun h11 => ?_)
    · have hkn : k < ordN p := by omega
      refine go ?_
      refine d_order [0, 1, 3, 4, 2, 5, 6, 7] (h := fun w10 he10 _ => ?_)
      refine dgo ?_
      refine dce (l10At_ok (p := p) (t := t) (by omega)) (next := fun v11 w11 h12 => ?_)
      obtain ⟨he11, hf11⟩ := h12
      refine dgo ?_
      refine dce (l10At_ok (p := p) (t := k) (by omega)) (next := fun v12 w12 h13 => ?_)
      obtain ⟨he12, hf12⟩ := h13
      refine dgo ?_
      refine d_end (h := ?_)
      have hx12 := (he10.trans he11).trans he12
      have hi11 := (hf11.ext' he12).ints
      have hi12 := hf12.ints
      have hE12 := hE9.trans hx12
      refine go ?_
      refine d_order [0, 1, 2, 4, 5, 6, 3, 7, 8] (h := fun w13 he13 _ => ?_)
      refine dgo ?_
      refine dce (l08Mul_ok (p := p) (x := allE p t) (y := allE p k) rfl rfl) (next := fun v14 w14 h14 => ?_)
      obtain ⟨he14, hf14⟩ := h14
      have hi14 := hf14.ints
      refine dce (l08Mul_ok (p := p) (x := allE p k) (y := allE p t) rfl rfl) (next := fun v15 w15 h15 => ?_)
      obtain ⟨he15, hf15⟩ := h15
      refine dce (l01Same_ok (xs := (allE p t * allE p k).v) (ys := (allE p k * allE p t).v) (by rw [(allE p t * allE p k).inr.len]; omega)) (next := fun v16 w16 h16 => ?_)
      obtain ⟨b16, rfl, hb16, he16⟩ := h16
      have hb16' : b16 = true ↔ allE p t * allE p k = allE p k * allE p t := hb16.trans ⟨fun h => T.ext h, fun h => by rw [h]⟩
      refine dgo ?_
      refine d_end (h := ?_)
      have hx16 := ((he13.trans he14).trans he15).trans he16
      refine go ?_
      refine c_b (fun h17 => ?_) (fun h17 => ?_)
      · have hst := pairT_step (p := p) (t := t) hkn
        rw [one_pos (hb16'.1 h17)] at hst
        refine go ?_
        refine forQ_normal (by omega) ⟨?_, (he8.trans he9).trans (hx12.trans hx16)⟩
        rw [hst]
        exact hasP
      · have hst := pairT_step (p := p) (t := t) hkn
        rw [one_neg (fun h => by rw [hb16'.2 h] at h17; cases h17), Nat.add_zero] at hst
        refine go ?_
        refine forQ_normal (by omega) ⟨?_, (he8.trans he9).trans (hx12.trans hx16)⟩
        rw [hst]
        exact hasP
    · obtain rfl : k = ordN p := by omega
      refine go ?_
      refine forQ_normal (by omega) ⟨?_, he6.trans (he7.trans (he8.trans he9))⟩
      rw [← pairT_row htn]
      exact hasP
  · obtain rfl : t = ordN p := by omega
    rw [pairT_all]
    refine go ?_
    exact ret2 ⟨_, 0, rfl, .inl ⟨hG, hcon, .inr ⟨h7, rfl, rfl⟩⟩, hE7⟩
end Go.Proofs.Ytjljbfcdpdckeaa

/-
  The builtin copy into a list of the call's own; operations on literal words.
  Conditions: none; nothing of the program stands here.
-/
namespace Go.Pc
open Go Go.RowKit
section
variable {P : Program} {N : Nat} {ops : Array Oper} {π : List Nat} {K : Env → World → Prop} {ρ : Env} {w w0 : World} {l : List Oper}
variable {i : Nat} {ty : TypeId} {pos : String} {after : Array Edge} {g : Option (Nat × Bool)} {d : Nat}
theorem rd_bin {o : BinOp} {x y : Operand} {a b v : Value} {tx tyy : TypeId} (hx : ev ρ x = a) (hy : ev ρ y = b) (ho : ∀ w, (eqGuard o tx x y a b).run P w = .ok () w) (hv : ∀ w, (binOp o tx a b).run P w = .ok v w) : Rd P (.binOp o tx x y tyy) ty ρ w v := by
  constructor; intro _ _ _ _
  simp [execOp, hx, hy, hv, ho]
theorem rd_conv {x : Operand} {n m : Int} {k k' : IntKind} {src dst : TypeId} {u : TypeDesc} (hx : ev ρ x = .int k n) (hs : P.underlying src = some u) (hd : P.underlying dst = some (.int k')) (hv : k'.wrap n = m) : Rd P (.convert src dst x) ty ρ w (.int k' m) := by
  constructor; intro _ _ _ _
  simp [execOp, hx, convert, run_underlying hs, run_underlying hd, Conv.intToInt, hv]
end
end Go.Pc

/-
  Maps from int64 to bool that hold true at some numbers: made, asked, written at a new number.
  Conditions: none; nothing of the program stands here.
-/
namespace Go.Pc
open Go Go.RowKit
class MapT (P : Program) (t : TypeId) (k e : outParam TypeId) : Prop where
  eq : P.underlying t = some (.map k e)
class IntT (P : Program) (t : TypeId) : Prop where
  ex : ∃ k, P.underlying t = some (.int k)
class BoolT (P : Program) (t : TypeId) : Prop where
  ex : ∃ i, P.info? t = some i ∧ i.zero = some (.bool false)
/-- The map in block b is true at the numbers ks, in the order in which they came. -/
structure MapB (w : World) (b : Nat) (ks : List Int) : Prop where
  ex : ∃ es c, w.heap[b]? = some (.map es c) ∧ es.toList.map (fun e => (e.key, e.val)) = ks.map fun k => (Value.int .i64 k, Value.bool true)
section
variable {w w' : World} {b b' : Nat} {ks : List Int}
theorem MapB.lt (h : MapB w b ks) : b < w.heap.size := by
  obtain ⟨es, c, h1, _⟩ := h.ex
  exact (Array.getElem?_eq_some_iff.1 h1).1
theorem MapB.ext (h : MapB w b ks) (x : Ext w w') : MapB w' b ks := by
  obtain ⟨es, c, h1, h2⟩ := h.ex
  exact ⟨es, c, by rw [x.below.block b h.lt]; exact h1, h2⟩
theorem MapB.chg (h : MapB w b ks) (c : Chg b' w w') (hn : b ≠ b') : MapB w' b ks := by
  obtain ⟨es, k, h1, h2⟩ := h.ex
  exact ⟨es, k, by rw [c.by_.block b h.lt (by simpa using hn)]; exact h1, h2⟩
theorem MapB.wr {B : Nat → Prop} (h : MapB w b ks) (k : Wrt B w w') (hb : ¬ B b) : MapB w' b ks := by
  obtain ⟨es, c, h1, h2⟩ := h.ex
  exact ⟨es, c, by rw [k.block h.lt hb]; exact h1, h2⟩
theorem find_no {ks : List Int} {k : Int} : ∀ {es : List MapEntry} {ks : List Int} (_ : es.map (fun e => (e.key, e.val)) = ks.map fun k => (Value.int .i64 k, Value.bool true)) (_ : k ∉ ks) (j : IntKind) (i : Nat), Instr.findNow (.int j) (.int .i64 k) es i = some none
  | [], _, _, _, _, _ => rfl
  | e :: es, [], h, _, _, _ => by simp at h
  | e :: es, a :: ks, h, hn, j, i => by
    simp only [List.map_cons, List.cons.injEq, Prod.mk.injEq] at h
    have e0 : k ≠ a := fun e => hn (by rw [e]; exact List.mem_cons_self)
    have e1 : (k == a) = false := by simpa using e0
    rw [Instr.findNow, h.1.1]
    simp only [Instr.sameNow, if_true, e1]
    exact find_no (ks := ks) h.2 (fun hm => hn (List.mem_cons_of_mem _ hm)) j (i + 1)
theorem find_yes {k : Int} : ∀ {es : List MapEntry} {ks : List Int} (_ : es.map (fun e => (e.key, e.val)) = ks.map fun k => (Value.int .i64 k, Value.bool true)) (_ : k ∈ ks) (j : IntKind) (i : Nat), ∃ n, Instr.findNow (.int j) (.int .i64 k) es i = some (some (n, .bool true))
  | [], _, h, hk, _, _ => by
    have : _ = [] := (List.map_eq_nil_iff.1 h.symm)
    rw [this] at hk; cases hk
  | e :: es, [], h, _, _, _ => by simp at h
  | e :: es, a :: ks, h, hk, j, i => by
    simp only [List.map_cons, List.cons.injEq, Prod.mk.injEq] at h
    by_cases e1 : k = a
    · subst e1
      refine ⟨i, ?_⟩
      rw [Instr.findNow, h.1.1]
      simp only [Instr.sameNow, if_true, beq_self_eq_true]
      rw [h.1.2]
    · have e2 : (k == a) = false := by simpa using e1
      obtain ⟨n, hn⟩ := find_yes (ks := ks) h.2 ((List.mem_cons.1 hk).resolve_left e1) j (i + 1)
      refine ⟨n, ?_⟩
      rw [Instr.findNow, h.1.1]
      simp only [Instr.sameNow, if_true, e2]
      exact hn
end
section
variable {P : Program} {N : Nat} {ops : Array Oper} {K : Env → World → Prop} {l : List Oper} {ρ : Env} {w w1 : World} {d : Nat} {ty : TypeId} {pos : String} {after : Array Edge} {g : Option (Nat × Bool)} {b : Nat} {ks : List Int}
theorem mapB_alloc (w : World) : MapB (w.alloc (.map #[] 0)) w.heap.size [] := ⟨#[], 0, heap_alloc_new w _, rfl⟩
theorem st_makeMap {t : TypeId} (hg : Wants ops ρ g) (next : ∀ w' b, Ext w w' → b = w.heap.size → w'.heap.size = b + 1 → MapB w' b [] → rops P N ops K l (put ρ d (.map (some b))) w') :
    rops P N ops K (⟨some d, .makeMap t none, ty, pos, after, g⟩ :: l) ρ w := by
  refine st_ex (v := .map (some w.heap.size)) (w' := w.alloc (.map #[] 0)) hg ⟨fun _ _ _ _ => ?_⟩ (next _ _ (Ext.alloc _ _) rfl (by simp) (mapB_alloc w))
  simp [execOp, Instr.makeMap]
theorem getMap {P : Program} {w : World} {r : Nat} {es : Array MapEntry} {c : Nat} (hb : w.heap[r]? = some (.map es c)) : (getObj r).run P w = .ok (.map es c) w := by simp [getObj, Sem.run, hb]
theorem setMap {P : Program} {w : World} {r : Nat} {es : Array MapEntry} {c : Nat} (o : Obj) (hb : w.heap[r]? = some (.map es c)) : (setObj r o).run P w = .ok () { w with heap := w.heap.setIfInBounds r o } := by simp [setObj, Sem.run, hb]
theorem checkKey_int {P : Program} {t : TypeId} [ht : IntT P t] (e : Bool) (k : Int) (w : World) : (Instr.checkKey e 10000 t (.int .i64 k)).run P w = .ok () w := by
  obtain ⟨j, hj⟩ := ht.ex
  show (Instr.checkKey e (9999 + 1) t (.int .i64 k)).run P w = _
  rw [Instr.checkKey]
  simp [run_underlying hj]
theorem rd_lookup {t kt et : TypeId} {m x : Operand} {k : Int} [ht : MapT P t kt et] [hk : IntT P kt] [he : BoolT P et] (hm : ev ρ m = .map (some b)) (hx : ev ρ x = .int .i64 k) (hb : MapB w b ks) : Rd P (.lookup t m x false) ty ρ w (.bool (decide (k ∈ ks))) := by
  obtain ⟨es, c, h1, h2⟩ := hb.ex
  obtain ⟨j, hj⟩ := hk.ex
  obtain ⟨i, hi, hz⟩ := he.ex
  constructor; intro _ _ _ _
  by_cases h : k ∈ ks
  · obtain ⟨n, hn⟩ := find_yes h2 h j 0
    simp [execOp, hm, hx, Instr.lookup, run_underlying ht.eq, run_underlying hj, getMap h1, checkKey_int, Instr.findKey, hn, h]
  · have hn := find_no h2 h j 0 (ks := ks)
    simp [execOp, hm, hx, Instr.lookup, run_underlying ht.eq, run_underlying hj, getMap h1, checkKey_int, Instr.findKey, hn, h, zeroValue, typeInfo, hi, hz]
theorem wr_mapUpdate {t kt et : TypeId} {m x y : Operand} {k : Int} [ht : MapT P t kt et] [hk : IntT P kt] (hm : ev ρ m = .map (some b)) (hx : ev ρ x = .int .i64 k) (hy : ev ρ y = .bool true) (hb : MapB w b ks) (hn : k ∉ ks) :
    ∃ w', (Instr.mapUpdate t (ev ρ m) (ev ρ x) (ev ρ y)).run P w = .ok () w' ∧ Chg b w w' ∧ w'.heap.size = w.heap.size ∧ MapB w' b (ks ++ [k]) := by
  have hlt := hb.lt
  obtain ⟨es, c, h1, h2⟩ := hb.ex
  obtain ⟨j, hj⟩ := hk.ex
  have hf := find_no h2 hn j 0 (ks := ks)
  refine ⟨{ w with heap := w.heap.setIfInBounds b (.map (es.push { key := .int .i64 k, val := .bool true, born := c }) (c + 1)) }, ?_, ⟨⟨rfl, rfl, rfl, by simp, fun i hi hne => ?_⟩⟩, by simp, ⟨es.push { key := .int .i64 k, val := .bool true, born := c }, c + 1, by simp [hlt], ?_⟩⟩
  · simp [hm, hx, hy, Instr.mapUpdate, run_underlying ht.eq, run_underlying hj, getMap h1, checkKey_int, Instr.findKey, hf, setMap _ h1]
  · have : b ≠ i := fun e => hne (by rw [e])
    simp [Array.getElem?_setIfInBounds, this]
  · simp [h2]
theorem st_mapUpdate {t kt et : TypeId} {m x y : Operand} {k : Int} [ht : MapT P t kt et] [hk : IntT P kt] (hm : ev ρ m = .map (some b)) (hx : ev ρ x = .int .i64 k) (hy : ev ρ y = .bool true) (hb : MapB w b ks) (hn : k ∉ ks) (hg : Wants ops ρ g)
    (next : ∀ w', Chg b w w' → w'.heap.size = w.heap.size → MapB w' b (ks ++ [k]) → rops P N ops K l ρ w') : rops P N ops K (⟨none, .mapUpdate t m x y, ty, pos, after, g⟩ :: l) ρ w := by
  obtain ⟨w', h1, h2, h3, h4⟩ := wr_mapUpdate (P := P) (t := t) hm hx hy hb hn
  exact st_wr hg ⟨fun _ _ _ _ => by simp [execOp, h1]⟩ (next w' h2 h3 h4)
theorem st_insert {t kt et : TypeId} {m x y : Operand} {k : Int} [ht : MapT P t kt et] [hk : IntT P kt] (hm : ev ρ m = .map (some b)) (hx : ev ρ x = .int .i64 k) (hy : ev ρ y = .bool true) (hb : MapB w b ks) (hn : k ∉ ks) (hg : Wants ops ρ g)
    (next : ∀ w', Chg b w w' → w'.heap.size = w.heap.size → MapB w' b (ks ++ [k]) → rops P N ops K l ρ w') : rops P N ops K (⟨none, .insert t m x y, ty, pos, after, g⟩ :: l) ρ w := by
  obtain ⟨w', h1, h2, h3, h4⟩ := wr_mapUpdate (P := P) (t := t) hm hx hy hb hn
  exact st_wr hg ⟨fun _ _ _ _ => by simp [execOp, h1]⟩ (next w' h2 h3 h4)
end
end Go.Pc

/-
  A class while it is collected: its list, its map of numbers, what they take up.
  Conditions: the tails at all levels are groups.
-/
namespace Go.Proofs.Ytjljbfcdpdckeaa
open Go Go.Pc
section
variable {e s bm : Nat} {w w0 w1 w2 w3 w4 : World} {v v' u : Value} {xs : List Int} {rs : List (Value × List Int)}
theorem grow_blk {b : Nat} (h : Pc.GStep w w1 v v') (hb : v'.ownBlock = some b) : v.ownBlock = some b ∨ w.heap.size ≤ b := by
  obtain ⟨w5, x, _, e | e⟩ := h.ex
  · exact .inl (e ▸ hb)
  · rw [e] at hb; injection hb with hb
    have := x.size
    exact .inr (by omega)
theorem _root_.Go.Pc.GrL.pend (h : GrL e s w0 v rs) (x01 : Ext w0 w1) (hu : Fr w0.heap.size w1 u xs) (hs : s ≤ w0.heap.size) (x12 : Ext w1 w2) (c : Chg bm w2 w3) (hbm : ¬ FL v rs bm) (hb0 : bm < w0.heap.size)
    (ho : OwnN e s w4 v' (rs.map (·.1) ++ [u])) (hg : Pc.GStep w3 w4 v v') : GrL e s w4 v' (rs ++ [(u, xs)]) := by
  have hr1 := (h.rows.push x01 hs hu).ext x12
  have hnew : ∀ b, BlkOf (rs ++ [(u, xs)]) b → BlkOf rs b ∨ w0.heap.size ≤ b := fun b hb => by
    rcases blkOf_append'.1 hb with hb | ⟨r, hr, hn, eb⟩
    · exact .inl hb
    · obtain rfl := List.mem_singleton.1 hr
      obtain ⟨g, e1, e2, _⟩ := hu.block hn
      rw [eb] at e1; injection e1 with e1
      exact .inr (by omega)
  have hr3 := hr1.wr (.one (B := fun g => g = bm) rfl c) fun b hb e => by
    rcases hnew b hb with h' | h'
    · exact hbm (.inr (e ▸ h'))
    · omega
  obtain ⟨w5, x5, hg5, hv⟩ := hg.ex
  have hr5 := hr3.ext x5
  refine ⟨by simpa using ho, hr5.wr (Wrt.grown hg5) fun b hb hB => ?_, fun b hb hB => ?_⟩
  · rcases hnew b hb with h' | h'
    · exact h.off b hB h'
    · have := (h.own.lt b hB).2; omega
  · rcases hv with e | e
    · rw [e] at hb
      rcases hnew b hB with h' | h'
      · exact h.off b hb h'
      · have := (h.own.lt b hb).2; omega
    · rw [e] at hb; injection hb with hb
      have := (hr5.blk hB).2
      omega
theorem _root_.Go.Pc.FL.pend {b : Nat} (hu : Fr w0.heap.size w1 u xs) (hg : Pc.GStep w3 w4 v v') (hz : w0.heap.size ≤ w3.heap.size) (h : FL v' (rs ++ [(u, xs)]) b) : FL v rs b ∨ w0.heap.size ≤ b := by
  rcases h with h | h
  · rcases grow_blk hg h with h | h
    · exact .inl (.inl h)
    · exact .inr (by omega)
  · rcases blkOf_append'.1 h with hb | ⟨r, hr, hn, eb⟩
    · exact .inl (.inr hb)
    · obtain rfl := List.mem_singleton.1 hr
      obtain ⟨g, e1, e2, _⟩ := hu.block hn
      rw [eb] at e1; injection e1 with e1
      exact .inr (by omega)
theorem _root_.Go.Pc.MapB.gstep {ks : List Int} (h : MapB w bm ks) (hg : Pc.GStep w w1 v v') (hn : v.ownBlock ≠ some bm) : MapB w1 bm ks := by
  obtain ⟨w5, x5, hg5, _⟩ := hg.ex
  exact (h.ext x5).wr (Wrt.grown hg5) hn
end
section
variable {p : Pr} [hc : ConAll p]
/-- What the list of a class holds while it is collected. -/
structure CoI (x : El p) (ys : List (El p)) (k t : Nat) : Prop where
  mem : x ∈ ys
  cnj : ∀ y, y ∈ ys → Cnj x y
  nod : (ys.map numE).Nodup
  all : ∀ j, j < k → ∀ g, g ∈ gensL p → Grp.cj (ys.getD j 1) g ∈ ys
  part : ∀ i, i < t → Grp.cj (ys.getD k 1) ((gensL p).getD i 1) ∈ ys
theorem CoI.start (x : El p) : CoI x [x] 0 0 := ⟨List.mem_singleton.2 rfl, fun y hy => by rw [List.mem_singleton.1 hy]; exact Cnj.refl x, by simp, fun j hj => by omega, fun i hi => by omega⟩
theorem CoI.seen {x : El p} {ys : List (El p)} {k t : Nat} (h : CoI x ys k t) (hm : Grp.cj (ys.getD k 1) ((gensL p).getD t 1) ∈ ys) : CoI x ys k (t + 1) :=
  ⟨h.mem, h.cnj, h.nod, h.all, fun i hi => by
    by_cases e : i = t
    · subst e; exact hm
    · exact h.part i (by omega)⟩
theorem CoI.new {x y : El p} {ys : List (El p)} {k t : Nat} (h : CoI x ys k t) (hk : k < ys.length) (hy : y = Grp.cj (ys.getD k 1) ((gensL p).getD t 1)) (hn : numE y ∉ ys.map numE) : CoI x (ys ++ [y]) k (t + 1) := by
  have hg : ∀ j, j < ys.length → (ys ++ [y]).getD j 1 = ys.getD j 1 := fun j hj => by simp [hj, show j < ys.length + 1 by omega, List.getElem_append_left hj]
  refine ⟨List.mem_append_left _ h.mem, fun z hz => ?_, ?_, fun j hj g hgm => ?_, fun i hi => ?_⟩
  · rcases List.mem_append.1 hz with hz | hz
    · exact h.cnj z hz
    · rw [List.mem_singleton.1 hz, hy]
      have e : ys.getD k 1 = ys[k] := by simp [hk]
      exact (h.cnj _ (e ▸ List.getElem_mem hk)).trans ⟨_, rfl⟩
  · rw [List.map_append, List.map_cons, List.map_nil]
    refine List.nodup_append.2 ⟨h.nod, by simp, fun a ha b hb e => ?_⟩
    rw [List.mem_singleton.1 hb] at e
    exact hn (e ▸ ha)
  · rw [hg j (by omega)]
    exact List.mem_append_left _ (h.all j hj g hgm)
  · rw [hg k hk]
    by_cases e : i = t
    · subst e
      rw [← hy]
      exact List.mem_append_right _ (List.mem_singleton.2 rfl)
    · exact List.mem_append_left _ (h.part i (by omega))
theorem CoI.next {x : El p} {ys : List (El p)} {k t : Nat} (h : CoI x ys k t) (ht : (gensL p).length ≤ t) : CoI x ys (k + 1) 0 := by
  refine ⟨h.mem, h.cnj, h.nod, fun j hj g hg => ?_, fun i hi => by omega⟩
  by_cases e : j = k
  · subst e
    obtain ⟨i, hi, rfl⟩ := List.getElem_of_mem hg
    have := h.part i (by omega)
    rwa [show (gensL p).getD i 1 = (gensL p)[i] by simp [hi]] at this
  · exact h.all j (by omega) g hg
theorem CoI.fin {x : El p} {ys l : List (El p)} {k : Nat} (h : CoI x ys k 0) (hk : ys.length ≤ k) (hl : l.Pairwise fun a b => numE a < numE b) (hm : ∀ y, y ∈ l ↔ y ∈ ys) : l = clsL x :=
  clsL_eq hl ((hm x).2 h.mem) (fun y hy => h.cnj y ((hm y).1 hy)) fun y hy g hg => by
    obtain ⟨j, hj, rfl⟩ := List.getElem_of_mem ((hm y).1 hy)
    have := h.all j (by omega) g hg
    rw [show ys.getD j 1 = ys[j] by simp [hj]] at this
    exact (hm _).2 this
theorem CoI.len {x : El p} {ys : List (El p)} {k t : Nat} (h : CoI x ys k t) : 1 ≤ ys.length ∧ ys.length ≤ ordN p := ⟨List.length_pos_of_mem h.mem, nodup_len h.nod⟩
theorem CoI.num {x y : El p} {ys : List (El p)} {k t : Nat} (_ : CoI x ys k t) : ((numE y : Nat) : Int) ∈ ys.map (fun y => ((numE y : Nat) : Int)) ↔ y ∈ ys := by
  constructor
  · intro h
    obtain ⟨z, hz, e⟩ := List.mem_map.1 h
    have : numE z = numE y := by omega
    rw [← numE_inj this]; exact hz
  · exact fun h => List.mem_map.2 ⟨y, h, rfl⟩
theorem sorted_lt {us : List Value} {ys : List (El p)} {zs : List (Value × El p)} (hl : us.length = ys.length) (hz : zs.Perm (us.zip ys)) (hs : zs.Pairwise fun a b => numE a.2 ≤ numE b.2) (hn : (ys.map numE).Nodup) :
    (zs.map (·.2)).Pairwise (fun a b => numE a < numE b) ∧ ∀ y, y ∈ zs.map (·.2) ↔ y ∈ ys := by
  have hp : (zs.map (·.2)).Perm ys := by
    have := hz.map (·.2)
    rwa [List.map_snd_zip (by omega)] at this
  refine ⟨?_, fun y => hp.mem_iff⟩
  have h1 : ((zs.map (·.2)).map numE).Nodup := (hp.map numE).nodup_iff.2 hn
  rw [List.Nodup, List.pairwise_map, List.pairwise_map] at h1
  rw [List.pairwise_map]
  exact (hs.and h1).imp fun {a b} ⟨h2, h3⟩ => by omega
/-- A class in memory while it is collected. -/
structure CoM (e s : Nat) (w : World) (bm : Nat) (v : Value) (rs : List (Value × List Int)) (ys : List (El p)) : Prop where
  g : GrL e s w v rs
  m : MapB w bm (ys.map fun y => ((numE y : Nat) : Int))
  off : ¬ FL v rs bm
  eq : rs.map (·.2) = vecs ys
  sb : s ≤ bm
variable {e s bm : Nat} {w w0 w1 w2 w3 w4 : World} {v v' u : Value} {rs : List (Value × List Int)} {ys : List (El p)}
theorem CoM.ext (h : CoM e s w bm v rs ys) (x : Ext w w1) : CoM e s w1 bm v rs ys := ⟨h.g.wr (.ofExt (B := fun _ => False) x) fun _ _ h => h.elim, h.m.ext x, h.off, h.eq, h.sb⟩
theorem CoM.len (h : CoM e s w bm v rs ys) : rs.length = ys.length := by
  have := congrArg List.length h.eq
  simpa [vecs] using this
theorem CoM.push {y : El p} (h : CoM e s w0 bm v rs ys) (x01 : Ext w0 w1) (hu : Fr w0.heap.size w1 u y.v) (hs : s ≤ w0.heap.size) (x12 : Ext w1 w2) (c : Chg bm w2 w3) (hm : MapB w3 bm (ys.map (fun y => ((numE y : Nat) : Int)) ++ [((numE y : Nat) : Int)]))
    (ho : OwnN e s w4 v' (rs.map (·.1) ++ [u])) (hg : Pc.GStep w3 w4 v v') : CoM e s w4 bm v' (rs ++ [(u, y.v)]) (ys ++ [y]) := by
  have hb0 : bm < w0.heap.size := h.m.lt
  have hz : w0.heap.size ≤ w3.heap.size := Nat.le_trans x01.size (Nat.le_trans x12.size c.size)
  refine ⟨h.g.pend x01 hu hs x12 c h.off hb0 ho hg, ?_, fun hb => ?_, by rw [List.map_append, h.eq]; simp [vecs], h.sb⟩
  · rw [List.map_append]
    exact MapB.gstep hm hg fun e => h.off (.inl e)
  · rcases FL.pend hu hg hz hb with hb | hb
    · exact h.off hb
    · omega
end
end Go.Proofs.Ytjljbfcdpdckeaa

/-
  Walk: the program's check of a presentation (IsPresentation).
  Conditions: stated at each theorem.
-/
namespace Go.Proofs.Ytjljbfcdpdckeaa
open Go Go.Pc
theorem foldl_mono : ∀ (l : List Int) (a : Int), (∀ o ∈ l, 1 ≤ o) → 1 ≤ a → a ≤ l.foldl (· * ·) a :=
  fun l a h ha => (capMul_foldl l a h ha).2.1
theorem prod_take {l : List Int} {k : Nat} (h : ∀ o ∈ l, 1 ≤ o) : 1 ≤ (l.take k).foldl (· * ·) 1 ∧ (l.take k).foldl (· * ·) 1 ≤ l.foldl (· * ·) 1 := by
  have h1 := foldl_mono (l.take k) 1 (fun o ho => h o (List.mem_of_mem_take ho)) (by omega)
  have h2 := foldl_mono (l.drop k) ((l.take k).foldl (· * ·) 1) (fun o ho => h o (List.mem_of_mem_drop ho)) h1
  rw [← List.foldl_append, List.take_append_drop] at h2
  exact ⟨h1, h2⟩
set_option maxHeartbeats 2000000 in
theorem impl_IsPresentation_ok {w : World} {v : Value} {p : Pr} {lo hi : Nat} [hp : Pres lo hi w v p] (hl : p.ord.length ≤ 2000000) :
    Calls Try.prog 31 #[v] w (Ret fun v' w' => ∃ b, v' = .bool b ∧ (b = true ↔ Valid p) ∧ Ext w w') := by
  have hol : p.ord.length = p.n := rfl
  obtain ⟨vo, vpw, vc, ps, cs, css, rfl, h1, h2, h3⟩ := hp.ex
  refine enter (args := [.agg #[vo, vpw, vc]]) (l := [.tmp 2]) Try.func31 rfl rfl Try.ntmps31 (by simp) ?_
  refine go ?_
  refine st_box3 (by ((try simp only [ev_tmp, ev_const, ev_func, get_put, get_args, get_putL, get_putL_nil, Nat.reduceEqDiff, reduceIte, List.getD_cons_zero, List.getD_cons_succ, List.getD_nil]); first | done | with_reducible rfl)) (by first | exact True.intro | exact ⟨_, rfl, by ((try simp only [ev_tmp, ev_const, ev_func, get_put, get_args, get_putL, get_putL_nil, Nat.reduceEqDiff, reduceIte, List.getD_cons_zero, List.getD_cons_succ, List.getD_nil, Bool.not_true, Bool.not_false]); first | done | with_reducible rfl)⟩) fun w1 b he1 hb1 hs1 hc0 hc1 hc2 => ?_
  have no : ∀ {w' : World}, ¬ Valid p → Ext w w' → ∃ b, Value.bool false = .bool b ∧ (b = true ↔ Valid p) ∧ Ext w w' := fun h he => ⟨_, rfl, by simp [h], he⟩
  have hpp := hp.boxed he1 hc0 hc1 hc2
  refine go ?_
  refine spd (fun hn => ?_) (fun hn => ?_)
  · refine go ?_
    exact ret1 (no (fun h => by have := h.n6; omega) he1)
  refine go ?_
  refine spd (fun hn2 => ?_) (fun hn2 => ?_)
  · refine go ?_
    exact ret1 (no (fun h => by have := h.lenw; omega) he1)
  refine go ?_
  refine c_if (fun hn3 => ?_) (fun hn3 => ?_)
  · refine go ?_
    exact ret1 (no (fun h => by have := h.lenc; omega) he1)
  refine go ?_
  refine r_for p.n (fun k ρ w' => Has ρ [(1, .pointer (some ⟨b, 0, none⟩)), (3, .int .i64 p.n), (4, .int .i64 ((p.ord.take k).foldl (· * ·) 1)), (30, vo), (31, .int .i64 p.n), (32, .int .i64 k)] ∧ Ext w1 w' ∧
    (p.ord.take k).foldl (· * ·) 1 ≤ 729 ∧ ∀ i, i < k → p.ord.getD i 0 = 2 ∨ p.ord.getD i 0 = 3 ∨ p.ord.getD i 0 = 5 ∨ p.ord.getD i 0 = 7) ?_ ?_
  · refine ⟨?_, Ext.refl _, by simp, fun i hi => by omega⟩
    exact hasP
  rintro k ρ w2 hk ⟨hH, he2, hpr, hpre⟩
  refine rwp_has hH fun ρ0 => ?_
  refine go ?_
  refine c_if (fun hk1 => ?_) (fun hk1 => ?_)
  · have hkn : k < p.n := by omega
    have hps : (p.ord.take (k + 1)).foldl (· * ·) 1 = (p.ord.take k).foldl (· * ·) 1 * p.ord.getD k 0 := foldl_take_succ _ _ _ _ _ hkn
    refine go ?_
    refine rc IsGroupPrime_ok (next := fun v3 w3 h3 => ?_)
    obtain ⟨b3, rfl, hb3, he3⟩ := h3
    refine go ?_
    refine sp (fun h4 => ?_) (fun h4 => ?_)
    · refine go ?_
      refine ret1 (no (fun h => ?_) ((he1.trans he2).trans he3))
      have := hb3.2 (h.prime k (by omega))
      rw [this] at h4; cases h4
    · have h5 := hb3.1 (by simpa using h4)
      have hone : 1 ≤ (p.ord.take k).foldl (· * ·) 1 := by
        refine foldl_mono _ 1 (fun o ho => ?_) (by omega)
        obtain ⟨i, hi, rfl⟩ := List.getElem_of_mem ho
        rw [List.length_take] at hi
        have := hpre i (by omega)
        simp only [List.getElem_take]
        have e : p.ord.getD i 0 = p.ord[i] := by simp [show i < p.ord.length by omega]
        rw [e] at this; omega
      have hm1 : 0 ≤ (p.ord.take k).foldl (· * ·) 1 * p.ord.getD k 0 := Int.mul_nonneg (by omega) (by omega)
      have hm2 : (p.ord.take k).foldl (· * ·) 1 * p.ord.getD k 0 ≤ 729 * 7 := Int.mul_le_mul hpr (by omega) (by omega) (by omega)
      have hmr : -9223372036854775808 ≤ (p.ord.take k).foldl (· * ·) 1 * p.ord.getD k 0 ∧ (p.ord.take k).foldl (· * ·) 1 * p.ord.getD k 0 ≤ 9223372036854775807 := by omega
      refine go ?_
      refine ra (h := rd_mul (by ((try simp only [ev_tmp, ev_const, ev_func, get_put, get_args, get_putL, get_putL_nil, Nat.reduceEqDiff, reduceIte, List.getD_cons_zero, List.getD_cons_succ, List.getD_nil]); first | done | with_reducible rfl)) (by ((try simp only [ev_tmp, ev_const, ev_func, get_put, get_args, get_putL, get_putL_nil, Nat.reduceEqDiff, reduceIte, List.getD_cons_zero, List.getD_cons_succ, List.getD_nil]); first | done | with_reducible rfl)) hmr) (next := ?_)
      refine go ?_
      refine c_if (fun h6 => ?_) (fun h6 => ?_)
      · refine go ?_
        refine ret1 (no (fun h => ?_) ((he1.trans he2).trans he3))
        have := (prod_take (k := k + 1) (fun o ho => (primes_bd h.prime o ho).1)).2
        have h8 := h.prod
        rw [hps] at this
        omega
      · refine go ?_
        refine ra (h := rd_mul (by ((try simp only [ev_tmp, ev_const, ev_func, get_put, get_args, get_putL, get_putL_nil, Nat.reduceEqDiff, reduceIte, List.getD_cons_zero, List.getD_cons_succ, List.getD_nil]); first | done | with_reducible rfl)) (by ((try simp only [ev_tmp, ev_const, ev_func, get_put, get_args, get_putL, get_putL_nil, Nat.reduceEqDiff, reduceIte, List.getD_cons_zero, List.getD_cons_succ, List.getD_nil]); first | done | with_reducible rfl)) hmr) (next := ?_)
        refine go ?_
        refine forQ_normal (by omega) ⟨?_, he2.trans he3, by rw [hps]; omega, fun i hi => ?_⟩
        · rw [hps]; exact hasP
        · by_cases e : i = k
          · subst e; exact h5
          · exact hpre i (by omega)
  · have hkn : k = p.n := by omega
    subst hkn
    have hprod : p.ord.foldl (· * ·) 1 ≤ 729 := by
      rw [← hol, List.take_length] at hpr; exact hpr
    have hbd : ∀ i, i < p.n → 2 ≤ p.o i ∧ p.o i ≤ 7 := fun i hi => by have := hpre i hi; unfold Pr.o; omega
    refine go ?_
    refine r_for p.n (fun k ρ w' => Has ρ [(1, .pointer (some ⟨b, 0, none⟩)), (3, .int .i64 p.n), (49, .int .i64 p.n), (50, .int .i64 k)] ∧ Ext w1 w' ∧ ∀ q, q < k → RowOk p q) ?_ ?_
    · refine ⟨?_, he2, fun i hi => by omega⟩
      exact hasP
    clear he2
    rintro k ρ w4 hk ⟨hH, he4, hrow⟩
    refine rwp_has hH fun ρ1 => ?_
    refine go ?_
    refine c_if (fun hk2 => ?_) (fun hk2 => ?_)
    · have hkn : k < p.n := by omega
      refine go ?_
      refine rc (tailVector_ok (p := p) (xs := p.pow.getD k []) rfl hkn hbd (by omega)) (next := fun v6 w6 h6 => ?_)
      obtain ⟨b6, rfl, hb6, he6⟩ := h6
      refine go ?_
      refine sp (fun h7 => ?_) (fun h7 => ?_)
      · refine go ?_
        refine ret1 (no (fun h => ?_) ((he1.trans he4).trans he6))
        have := hb6.2 ⟨h.w_in k hkn, h.w_zu k hkn⟩
        rw [this] at h7; cases h7
      · have h8 := exp_iff.2 (hb6.1 (by simpa using h7))
        refine go ?_
        refine c_if (fun h9 => ?_) (fun h9 => ?_)
        · refine go ?_
          refine ret1 (no (fun h => ?_) ((he1.trans he4).trans he6))
          have := ((valid_iff.1 h).2.2.2.2.2 k (by omega)).2.1
          omega
        · refine go ?_
          refine r_for (p.cnj.getD k []).length (fun m ρ w' => Has ρ [(1, .pointer (some ⟨b, 0, none⟩)), (3, .int .i64 p.n), (49, .int .i64 p.n), (50, .int .i64 k), (7, .int .i64 k), (78, Pc.rowAt vc cs k), (79, .int .i64 (p.cnj.getD k []).length), (80, .int .i64 m)] ∧ Ext w1 w' ∧ ∀ j, j < m → ExpP p.ord ((p.cnj.getD k []).getD j []) k) ?_ ?_
          · refine ⟨?_, he4.trans he6, fun i hi => by omega⟩
            exact hasP
          clear he4 he6
          rintro m ρ w7 hm ⟨hH, he7, hin⟩
          refine rwp_has hH fun ρ2 => ?_
          refine go ?_
          refine c_if (fun hm2 => ?_) (fun hm2 => ?_)
          · refine go ?_
            refine rc (tailVector_ok (p := p) (xs := (p.cnj.getD k []).getD m []) rfl hkn hbd (by omega)) (next := fun v9 w9 h9 => ?_)
            obtain ⟨b9, rfl, hb9, he9⟩ := h9
            refine go ?_
            refine c_b (fun h10 => ?_) (fun h10 => ?_)
            · refine go ?_
              refine ret1 (no (fun h => ?_) ((he1.trans he7).trans he9))
              have := hb9.2 (exp_iff.1 (((valid_iff.1 h).2.2.2.2.2 k (by omega)).2.2 m (by omega)))
              rw [this] at h10; cases h10
            · have h11 := exp_iff.2 (hb9.1 (by simpa using h10))
              refine go ?_
              refine forQ_normal (by omega) ⟨?_, he7.trans he9, fun j hj => ?_⟩
              · exact hasP
              · by_cases e : j = m
                · subst e; exact h11
                · exact hin j (by omega)
          · refine go ?_
            refine forQ_normal (by omega) ⟨?_, he7, fun q hq => ?_⟩
            · exact hasP
            · by_cases e : q = k
              · subst e
                exact ⟨h8, by omega, fun j hj => hin j (by omega)⟩
              · exact hrow q (by omega)
    · refine go ?_
      refine ret1 ⟨_, rfl, ?_, he1.trans he4⟩
      simp only [true_iff]
      exact valid_iff.2 ⟨by omega, by omega, by omega, hpre, hprod, fun q hq => hrow q (by omega)⟩
end Go.Proofs.Ytjljbfcdpdckeaa

/-
  Walks: the program's consistency (levelFault, consistentFrom, IsConsistent).
  Conditions: stated at each theorem.
-/
namespace Go.Proofs.Ytjljbfcdpdckeaa
open Go Go.Pc
def QC (p : Pr) (i : Nat) [h : Con p (i + 1)] (j k : Nat) : Prop := ∀ (hj : i < j ∧ j < p.n) (hk : i < k ∧ k < p.n), j < k → (Grp.cj (Tc h.valid hk) (Tc h.valid hj)).v = img p i (p.c j k)
def QI (p : Pr) (i : Nat) [h : Con p (i + 1)] (hi : i < p.n) (j : Nat) : Prop := ∀ (hj : i + 1 ≤ j ∧ j < p.n), rep (p.o i).toNat (img p i) (unitv p j 1) = (Grp.cj (gen h.valid (i + 1) j hj) (Tw h.valid hi)).v
theorem chk_iff2 {p : Pr} {i : Nat} [h : Con p (i + 1)] (hi : i < p.n) : Chk p i hi ↔ (∀ j, LP p i j) ∧ (∀ j k, QC p i j k) ∧ img p i (p.w i) = p.w i ∧ ∀ j, QI p i hi j := by
  constructor
  · intro hc
    refine ⟨fun j hj => congrArg T.v (hc.P j hj), fun j k hj hk hjk => congrArg T.v (hc.C j k hj hk hjk), congrArg T.v hc.F, fun j hj => ?_⟩
    have := congrArg T.v (hc.I j hj)
    rw [rep_Timg] at this
    exact this
  · rintro ⟨h1, h2, h3, h4⟩
    refine ⟨fun j hj => T.ext (h1 j hj), fun j k hj hk hjk => T.ext (h2 j k hj hk hjk), T.ext h3, fun j hj => T.ext ?_⟩
    rw [rep_Timg]
    exact h4 j hj
set_option maxHeartbeats 8000000 in
theorem levelFault_ok {p : Pr} {i : Nat} [hc : Con p (i + 1)] (hi : i < p.n) {w : World} {vp : Value} {ki : Int} {lo hi' : Nat} [hp : PresP lo hi' w vp p] (hki : ki = i) :
    Calls Try.prog 84 #[vp, .int .i64 ki] w (Ret fun v w' => ∃ k l f s : Int, v = faultV k l f s ∧ (k = 0 ↔ Chk p i hi) ∧ (k ≠ 0 → l = i) ∧ (k = 0 → l = 0 ∧ f = 0 ∧ s = 0) ∧ Ext w w') := by
  subst hki
  have hv := hc.valid
  have hn6 := hv.n6
  have hol : p.ord.length = p.n := rfl
  have hwl : p.pow.length = p.n := hv.lenw
  have hcl : p.cnj.length = p.n := hv.lenc
  have hci : (p.cnj.getD i []).length = p.n - 1 - i := hv.lenci i hi
  have hoi := hv.opos hi
  have hoe : p.o i = p.ord.getD i 0 := rfl
  obtain ⟨b, og, vo, vpw, vc, ps, cs, css, rfl, hb1, hb2, hc0, hc1, hc2, h1, h2, h3⟩ := hp.ex
  refine enter (args := [.pointer (some ⟨b, og, none⟩), .int .i64 i]) (l := [.cell 4 46]) Try.func84 rfl rfl Try.ntmps84 (by simp) ?_
  refine go ?_
  refine st_alloc (by first | exact True.intro | exact ⟨_, rfl, by ((try simp only [ev_tmp, ev_const, ev_func, get_put, get_args, get_putL, get_putL_nil, Nat.reduceEqDiff, reduceIte, List.getD_cons_zero, List.getD_cons_succ, List.getD_nil, Bool.not_true, Bool.not_false]); first | done | with_reducible rfl)⟩) fun w2 bf he2 hbf hs2 hbk => ?_
  have bad : ∀ {w3 : World} {k f s : Int}, Ext w w3 → k ≠ 0 → ¬ Chk p i hi → ∃ k' l' f' s' : Int, faultV k i f s = faultV k' l' f' s' ∧ (k' = 0 ↔ Chk p i hi) ∧ (k' ≠ 0 → l' = i) ∧ (k' = 0 → l' = 0 ∧ f' = 0 ∧ s' = 0) ∧ Ext w w3 :=
    fun he hk hn => ⟨_, _, _, _, rfl, ⟨fun h => absurd h hk, fun h => absurd h hn⟩, fun _ => rfl, fun h => absurd h hk, he⟩
  have hTcv : ∀ j (hj : i < j ∧ j < p.n), (p.cnj.getD i []).getD (j - i - 1) [] = (Tc hv hj).v := fun j hj => rfl
  refine go ?_
  refine r_for (p.n - (i + 1)) (fun k ρ w' => Has ρ [(0, .pointer (some ⟨b, og, none⟩)), (1, .int .i64 i), (4, .pointer (some ⟨bf, 0, none⟩)), (5, .int .i64 p.n), (6, .int .i64 i), (7, .int .i64 (i + 1 + k : Nat))] ∧ Ext w2 w' ∧ ∀ j, j < i + 1 + k → LP p i j) ?_ ?_
  · refine ⟨?_, Ext.refl _, fun j hj hj' => by omega⟩
    exact hasP
  rintro k ρ w3 hk ⟨hH, he3, hP⟩
  refine rwp_has hH fun ρ0 => ?_
  refine go ?_
  refine c_if (fun hj => ?_) (fun hj => ?_)
  · have hjn : i < i + 1 + k ∧ i + 1 + k < p.n := ⟨by omega, by omega⟩
    have hoj : 2 ≤ p.ord.getD (i + 1 + k) 0 ∧ p.ord.getD (i + 1 + k) 0 ≤ 7 := hv.opos hjn.2
    have hcv : (p.cnj.getD i []).getD (i + 1 + k - i - 1) [] = (Tc hv hjn).v := rfl
    refine go ?_
    refine d_order [0, 1, 2, 3, 4, 5, 6, 7, 8, 9, 10, 11, 12, 13, 14, 15, 16, 17, 18, 19, 20, 22, 23, 24, 25, 26, 27, 28, 29, 30, 21, 31, 32, 33] (h := fun w4 he4 _ => ?_)
    refine dgo ?_
    refine dce (power_ok (x := Tc hv hjn) (by omega) hcv ?_) (next := fun v5 w5 h5 => ?_)
    · omega
    obtain ⟨he5, hf5⟩ := h5
    refine dce (imageBy_ok hi (xs := p.w (i + 1 + k)) ?_ (hv.w_in _ hjn.2)) (next := fun v7 w7 h7 => ?_)
    · rfl
    obtain ⟨he7, hf7⟩ := h7
    have hlen := (Grp.pw (Tc hv hjn) (p.ord.getD (i + 1 + k) 0).toNat).inr.len
    refine dce (equalI_ok (xs := (Grp.pw (Tc hv hjn) (p.ord.getD (i + 1 + k) 0).toNat).v) (ys := img p i (p.w (i + 1 + k))) ?_) (next := fun v8 w8 h8 => ?_)
    · omega
    obtain ⟨b8, rfl, hb8, he8⟩ := h8
    have hE8 : Ext w2 w8 := (((he3.trans he4).trans he5).trans he7).trans he8
    refine dgo ?_
    refine d_end (h := ?_)
    refine go ?_
    refine c_b (fun h9 => ?_) (fun h9 => ?_)
    · refine go ?_
      refine ra (v := faultV 1 i (i + 1 + k : Nat) 0) (h := rd_build (by simp only [ev_tmp, ev_const, ev_func, get_put, get_args, get_putL, get_putL_nil, Nat.reduceEqDiff, reduceIte, List.getD_cons_zero, List.getD_cons_succ, List.getD_nil, List.map_toArray, List.map_cons, List.map_nil]; rfl) (fun _ => by kernel_rfl)) (next := ?_)
      refine st_store_agg (vs := [.int .i64 1, .int .i64 i, .int .i64 (i + 1 + k : Nat), .int .i64 0]) (cs := _) (by ((try simp only [ev_tmp, ev_const, ev_func, get_put, get_args, get_putL, get_putL_nil, Nat.reduceEqDiff, reduceIte, List.getD_cons_zero, List.getD_cons_succ, List.getD_nil]); first | done | with_reducible rfl)) (by ((try simp only [ev_tmp, ev_const, ev_func, get_put, get_args, get_putL, get_putL_nil, Nat.reduceEqDiff, reduceIte, List.getD_cons_zero, List.getD_cons_succ, List.getD_nil]); first | done | with_reducible rfl)) rfl ?_ rfl (by first | exact True.intro | exact ⟨_, rfl, by ((try simp only [ev_tmp, ev_const, ev_func, get_put, get_args, get_putL, get_putL_nil, Nat.reduceEqDiff, reduceIte, List.getD_cons_zero, List.getD_cons_succ, List.getD_nil, Bool.not_true, Bool.not_false]); first | done | with_reducible rfl)⟩) fun w9 hc9 hs9 hb9 => ?_
      · rfl
      refine go ?_
      refine retc (bad (k := 1) (f := (i + 1 + k : Nat)) (s := 0) (hc9.ext (he2.trans hE8) (by omega)) (by decide) fun h => ?_) rfl
      have := hb8.2 (((chk_iff2 hi).1 h).1 _ hjn)
      rw [this] at h9; cases h9
    · have h10 := hb8.1 (by simpa using h9)
      refine go ?_
      refine forQ_normal (by omega) ⟨?_, hE8, fun j hj => ?_⟩
      · exact hasP
      · by_cases e : j = i + 1 + k
        · subst e; exact fun _ => h10
        · exact hP j (by omega)
  refine go ?_
  have hP' : ∀ j, LP p i j := fun j => by
    by_cases e : j < i + 1 + k
    · exact hP j e
    · exact fun h => by omega
  clear hP hH hk hj
  refine r_for (p.n - (i + 1)) (fun k ρ w' => Has ρ [(0, .pointer (some ⟨b, og, none⟩)), (1, .int .i64 i), (4, .pointer (some ⟨bf, 0, none⟩)), (5, .int .i64 p.n), (6, .int .i64 i), (8, .int .i64 (i + 1 + k : Nat))] ∧ Ext w2 w' ∧ ∀ j k', j < i + 1 + k → QC p i j k') ?_ ?_
  · refine ⟨?_, he3, fun j k' hj hj' => by omega⟩
    exact hasP
  clear he3 ρ0 k
  rintro k ρ w4 hk ⟨hH, he4, hC⟩
  refine rwp_has hH fun ρ1 => ?_
  refine go ?_
  refine c_if (fun hj => ?_) (fun hj => ?_)
  · have hjn : i < i + 1 + k ∧ i + 1 + k < p.n := ⟨by omega, by omega⟩
    refine go ?_
    refine r_for (p.n - (i + 1 + k + 1)) (fun l ρ w' => Has ρ [(0, .pointer (some ⟨b, og, none⟩)), (1, .int .i64 i), (4, .pointer (some ⟨bf, 0, none⟩)), (5, .int .i64 p.n), (6, .int .i64 i), (8, .int .i64 (i + 1 + k : Nat)), (9, .int .i64 (i + 1 + k + 1 + l : Nat))] ∧ Ext w2 w' ∧ ∀ k', k' < i + 1 + k + 1 + l → QC p i (i + 1 + k) k') ?_ ?_
    · refine ⟨?_, he4, fun k' hk' h1 h2 h3 => by omega⟩
      exact hasP
    clear he4
    rintro l ρ w5 hl ⟨hH5, he5, hC5⟩
    refine rwp_has hH5 fun ρ2 => ?_
    refine go ?_
    refine c_if (fun hk2 => ?_) (fun hk2 => ?_)
    · have hkn : i < i + 1 + k + 1 + l ∧ i + 1 + k + 1 + l < p.n := ⟨by omega, by omega⟩
      have hjk : i + 1 + k < i + 1 + k + 1 + l := by omega
      have hcj := hv.lenci (i + 1 + k) hjn.2
      have hcv1 : (p.cnj.getD i []).getD (i + 1 + k - i - 1) [] = (Tc hv hjn).v := rfl
      have hcv2 : (p.cnj.getD i []).getD (i + 1 + k + 1 + l - i - 1) [] = (Tc hv hkn).v := rfl
      refine go ?_
      refine d_order [0, 1, 2, 3, 4, 5, 6, 7, 8, 9, 10, 11, 12, 13, 14, 15, 16, 17, 18, 19, 20, 21, 22, 23, 24, 25, 26, 28, 29, 30, 31, 32, 33, 34, 35, 36, 37, 38, 39, 40, 41, 42, 27, 43, 44, 45] (h := fun w6 he6 _ => ?_)
      refine dgo ?_
      refine dce (conjugate_ok (x := Tc hv hkn) (y := Tc hv hjn) (by omega) hcv2 hcv1) (next := fun v7 w7 h7 => ?_)
      obtain ⟨he7, hf7⟩ := h7
      refine dce (imageBy_ok hi (xs := p.c (i + 1 + k) (i + 1 + k + 1 + l)) ?_ (hv.c_in _ _ hjk hkn.2)) (next := fun v8 w8 h8 => ?_)
      · rfl
      obtain ⟨he8, hf8⟩ := h8
      have hlen := (Grp.cj (Tc hv hkn) (Tc hv hjn)).inr.len
      refine dce (equalI_ok (xs := (Grp.cj (Tc hv hkn) (Tc hv hjn)).v) (ys := img p i (p.c (i + 1 + k) (i + 1 + k + 1 + l))) ?_) (next := fun v9 w9 h9 => ?_)
      · omega
      obtain ⟨b9, rfl, hb9, he9⟩ := h9
      have hE9 : Ext w2 w9 := (((he5.trans he6).trans he7).trans he8).trans he9
      refine dgo ?_
      refine d_end (h := ?_)
      refine go ?_
      refine c_b (fun h10 => ?_) (fun h10 => ?_)
      · refine go ?_
        refine ra (v := faultV 2 i (i + 1 + k : Nat) (i + 1 + k + 1 + l : Nat)) (h := rd_build (by simp only [ev_tmp, ev_const, ev_func, get_put, get_args, get_putL, get_putL_nil, Nat.reduceEqDiff, reduceIte, List.getD_cons_zero, List.getD_cons_succ, List.getD_nil, List.map_toArray, List.map_cons, List.map_nil]; rfl) (fun _ => by kernel_rfl)) (next := ?_)
        refine st_store_agg (vs := [.int .i64 2, .int .i64 i, .int .i64 (i + 1 + k : Nat), .int .i64 (i + 1 + k + 1 + l : Nat)]) (cs := _) (by ((try simp only [ev_tmp, ev_const, ev_func, get_put, get_args, get_putL, get_putL_nil, Nat.reduceEqDiff, reduceIte, List.getD_cons_zero, List.getD_cons_succ, List.getD_nil]); first | done | with_reducible rfl)) (by ((try simp only [ev_tmp, ev_const, ev_func, get_put, get_args, get_putL, get_putL_nil, Nat.reduceEqDiff, reduceIte, List.getD_cons_zero, List.getD_cons_succ, List.getD_nil]); first | done | with_reducible rfl)) rfl ?_ rfl (by first | exact True.intro | exact ⟨_, rfl, by ((try simp only [ev_tmp, ev_const, ev_func, get_put, get_args, get_putL, get_putL_nil, Nat.reduceEqDiff, reduceIte, List.getD_cons_zero, List.getD_cons_succ, List.getD_nil, Bool.not_true, Bool.not_false]); first | done | with_reducible rfl)⟩) fun w10 hc10 hs10 hb10 => ?_
        · rfl
        refine go ?_
        refine retc (bad (k := 2) (f := (i + 1 + k : Nat)) (s := (i + 1 + k + 1 + l : Nat)) (hc10.ext (he2.trans hE9) (by omega)) (by decide) fun h => ?_) rfl
        have := hb9.2 (((chk_iff2 hi).1 h).2.1 _ _ hjn hkn hjk)
        rw [this] at h10; cases h10
      · have h11 := hb9.1 (by simpa using h10)
        refine go ?_
        refine forQ_normal (by omega) ⟨?_, hE9, fun k' hk' => ?_⟩
        · exact hasP
        · by_cases e : k' = i + 1 + k + 1 + l
          · subst e; exact fun _ _ _ => h11
          · exact hC5 k' (by omega)
    · refine go ?_
      refine forQ_normal (by omega) ⟨?_, he5, fun j k' hj2 => ?_⟩
      · exact hasP
      · by_cases e : j = i + 1 + k
        · subst e
          by_cases e2 : k' < i + 1 + k + 1 + l
          · exact hC5 k' e2
          · exact fun _ _ _ => by omega
        · exact hC j k' (by omega)
  refine go ?_
  have hC' : ∀ j k', QC p i j k' := fun j k' => by
    by_cases e : j < i + 1 + k
    · exact hC j k' e
    · exact fun h _ _ => by omega
  clear hC hH hk hj
  refine rc (imageBy_ok hi (xs := p.w i) ?_ (hv.w_in _ hi)) (next := fun v5 w5 h5 => ?_)
  · rfl
  obtain ⟨he5, hf5⟩ := h5
  have hlen := (img_in hv i (p.w i)).1.len
  refine go ?_
  refine rc (equalI_ok (xs := img p i (p.w i)) (ys := p.w i) ?_) (next := fun v6 w6 h6 => ?_)
  · omega
  obtain ⟨b6, rfl, hb6, he6⟩ := h6
  have hE6 : Ext w2 w6 := (he4.trans he5).trans he6
  clear he4 he5 he6 hf5
  refine go ?_
  refine c_b (fun h7 => ?_) (fun h7 => ?_)
  · refine go ?_
    refine ra (v := faultV 3 i 0 0) (h := rd_build (by simp only [ev_tmp, ev_const, ev_func, get_put, get_args, get_putL, get_putL_nil, Nat.reduceEqDiff, reduceIte, List.getD_cons_zero, List.getD_cons_succ, List.getD_nil, List.map_toArray, List.map_cons, List.map_nil]; rfl) (fun _ => by kernel_rfl)) (next := ?_)
    refine st_store_agg (vs := [.int .i64 3, .int .i64 i, .int .i64 0, .int .i64 0]) (cs := _) (by ((try simp only [ev_tmp, ev_const, ev_func, get_put, get_args, get_putL, get_putL_nil, Nat.reduceEqDiff, reduceIte, List.getD_cons_zero, List.getD_cons_succ, List.getD_nil]); first | done | with_reducible rfl)) (by ((try simp only [ev_tmp, ev_const, ev_func, get_put, get_args, get_putL, get_putL_nil, Nat.reduceEqDiff, reduceIte, List.getD_cons_zero, List.getD_cons_succ, List.getD_nil]); first | done | with_reducible rfl)) rfl ?_ rfl (by first | exact True.intro | exact ⟨_, rfl, by ((try simp only [ev_tmp, ev_const, ev_func, get_put, get_args, get_putL, get_putL_nil, Nat.reduceEqDiff, reduceIte, List.getD_cons_zero, List.getD_cons_succ, List.getD_nil, Bool.not_true, Bool.not_false]); first | done | with_reducible rfl)⟩) fun w9 hc9 hs9 hb9 => ?_
    · rfl
    refine go ?_
    refine retc (bad (k := 3) (f := 0) (s := 0) (hc9.ext (he2.trans hE6) (by omega)) (by decide) fun h => ?_) rfl
    have := hb6.2 ((chk_iff2 hi).1 h).2.2.1
    rw [this] at h7; cases h7
  have hF := hb6.1 (by simpa using h7)
  clear h7
  refine go ?_
  refine r_for (p.n - (i + 1)) (fun k ρ w' => Has ρ [(0, .pointer (some ⟨b, og, none⟩)), (1, .int .i64 i), (4, .pointer (some ⟨bf, 0, none⟩)), (5, .int .i64 p.n), (6, .int .i64 i), (10, Pc.rowAt vpw ps i), (11, .int .i64 (i + 1 + k : Nat))] ∧ Ext w2 w' ∧ ∀ j, j < i + 1 + k → QI p i hi j) ?_ ?_
  · refine ⟨?_, hE6, fun j hj h1 => by omega⟩
    exact hasP
  clear hE6
  rintro l ρ w8 hk ⟨hH, he8, hI⟩
  refine rwp_has hH fun ρ2 => ?_
  refine go ?_
  refine c_if (fun hj => ?_) (fun hj => ?_)
  · have hjn : i + 1 ≤ i + 1 + l ∧ i + 1 + l < p.n := ⟨by omega, by omega⟩
    refine go ?_
    refine rc (unitVector_ok (n := p.n) (i := i + 1 + l) rfl rfl ?_ hjn.2) (next := fun v9 w9 h9 => ?_)
    · omega
    obtain ⟨he9, hf9⟩ := h9
    have hg0 : (zeros p.n).set (i + 1 + l) 1 = unitv p (i + 1 + l) 1 := rfl
    rw [hg0] at hf9
    have hz8 := he8.size
    refine go ?_
    refine r_for (p.o i).toNat (fun q ρ w' => ∃ vx, Has ρ [(0, .pointer (some ⟨b, og, none⟩)), (1, .int .i64 i), (4, .pointer (some ⟨bf, 0, none⟩)), (5, .int .i64 p.n), (6, .int .i64 i), (10, Pc.rowAt vpw ps i), (11, .int .i64 (i + 1 + l : Nat)), (12, vx), (159, .int .i64 (p.ord.getD i 0)), (160, .int .i64 q)] ∧ Ext w8 w' ∧ Fr w8.heap.size w' vx (rep q (img p i) (unitv p (i + 1 + l) 1))) ?_ ?_
    · refine ⟨v9, ?_, he9, hf9⟩
      exact hasP
    clear he9 hf9
    rintro q ρ w10 hq ⟨vx, hH, he10, hf10⟩
    refine rwp_has hH fun ρ3 => ?_
    have hin : InR p (rep q (img p i) (unitv p (i + 1 + l) 1)) ∧ ZU (i + 1) (rep q (img p i) (unitv p (i + 1 + l) 1)) := by
      refine rep_inv (fun v => InR p v ∧ ZU (i + 1) v) (fun x _ => img_in hv i x) ⟨?_, unitv_zu p hjn.1 1⟩ q
      exact unitv_in hv (by omega) (fun h => by have := hv.opos h; omega)
    have hxi := hf10.ints
    refine go ?_
    refine c_if (fun hq2 => ?_) (fun hq2 => ?_)
    · refine go ?_
      refine rc (imageBy_ok hi (xs := rep q (img p i) (unitv p (i + 1 + l) 1)) ?_ hin.1) (next := fun v11 w11 h11 => ?_)
      · rfl
      obtain ⟨he11, hf11⟩ := h11
      refine go ?_
      refine forQ_normal (by omega) ⟨v11, ?_, he10.trans he11, hf11.mono he10.size⟩
      exact hasP
    · have hqe : q = (p.o i).toNat := by omega
      subst hqe
      refine go ?_
      refine rc (unitVector_ok (n := p.n) (i := i + 1 + l) rfl rfl ?_ hjn.2) (next := fun v11 w11 h11 => ?_)
      · omega
      obtain ⟨he11, hf11⟩ := h11
      refine go ?_
      refine rc (conjugate_ok (x := gen hv (i + 1) (i + 1 + l) hjn) (y := Tw hv hi) (xs := (zeros p.n).set (i + 1 + l) 1) (ys := p.w i) (by omega) rfl rfl) (next := fun v12 w12 h12 => ?_)
      obtain ⟨he12, hf12⟩ := h12
      have hlen2 := hin.1.len
      refine go ?_
      refine rc (equalI_ok (xs := rep (p.o i).toNat (img p i) (unitv p (i + 1 + l) 1)) (ys := (Grp.cj (gen hv (i + 1) (i + 1 + l) hjn) (Tw hv hi)).v) ?_) (next := fun v13 w13 h13 => ?_)
      · omega
      obtain ⟨b13, rfl, hb13, he13⟩ := h13
      have hE13 : Ext w2 w13 := (((he8.trans he10).trans he11).trans he12).trans he13
      refine go ?_
      refine c_b (fun h14 => ?_) (fun h14 => ?_)
      · refine go ?_
        refine ra (v := faultV 4 i (i + 1 + l : Nat) 0) (h := rd_build (by simp only [ev_tmp, ev_const, ev_func, get_put, get_args, get_putL, get_putL_nil, Nat.reduceEqDiff, reduceIte, List.getD_cons_zero, List.getD_cons_succ, List.getD_nil, List.map_toArray, List.map_cons, List.map_nil]; rfl) (fun _ => by kernel_rfl)) (next := ?_)
        refine st_store_agg (vs := [.int .i64 4, .int .i64 i, .int .i64 (i + 1 + l : Nat), .int .i64 0]) (cs := _) (by ((try simp only [ev_tmp, ev_const, ev_func, get_put, get_args, get_putL, get_putL_nil, Nat.reduceEqDiff, reduceIte, List.getD_cons_zero, List.getD_cons_succ, List.getD_nil]); first | done | with_reducible rfl)) (by ((try simp only [ev_tmp, ev_const, ev_func, get_put, get_args, get_putL, get_putL_nil, Nat.reduceEqDiff, reduceIte, List.getD_cons_zero, List.getD_cons_succ, List.getD_nil]); first | done | with_reducible rfl)) rfl ?_ rfl (by first | exact True.intro | exact ⟨_, rfl, by ((try simp only [ev_tmp, ev_const, ev_func, get_put, get_args, get_putL, get_putL_nil, Nat.reduceEqDiff, reduceIte, List.getD_cons_zero, List.getD_cons_succ, List.getD_nil, Bool.not_true, Bool.not_false]); first | done | with_reducible rfl)⟩) fun w15 hc15 hs15 hb15 => ?_
        · rfl
        refine go ?_
        refine retc (bad (k := 4) (f := (i + 1 + l : Nat)) (s := 0) (hc15.ext (he2.trans hE13) (by omega)) (by decide) fun h => ?_) rfl
        have := hb13.2 (((chk_iff2 hi).1 h).2.2.2 (i + 1 + l) hjn)
        rw [this] at h14; cases h14
      · have h15 := hb13.1 (by simpa using h14)
        refine go ?_
        refine forQ_normal (by omega) ⟨?_, hE13, fun j hj2 => ?_⟩
        · exact hasP
        · by_cases e : j = i + 1 + l
          · subst e; exact fun _ => h15
          · exact hI j (by omega)
  · refine go ?_
    refine ra (v := faultV 0 0 0 0) (h := rd_build (by rfl) (fun _ => by kernel_rfl)) (next := ?_)
    refine st_store_agg (vs := [.int .i64 0, .int .i64 0, .int .i64 0, .int .i64 0]) (cs := _) (by ((try simp only [ev_tmp, ev_const, ev_func, get_put, get_args, get_putL, get_putL_nil, Nat.reduceEqDiff, reduceIte, List.getD_cons_zero, List.getD_cons_succ, List.getD_nil]); first | done | with_reducible rfl)) (by ((try simp only [ev_tmp, ev_const, ev_func, get_put, get_args, get_putL, get_putL_nil, Nat.reduceEqDiff, reduceIte, List.getD_cons_zero, List.getD_cons_succ, List.getD_nil]); first | done | with_reducible rfl)) rfl ?_ rfl (by first | exact True.intro | exact ⟨_, rfl, by ((try simp only [ev_tmp, ev_const, ev_func, get_put, get_args, get_putL, get_putL_nil, Nat.reduceEqDiff, reduceIte, List.getD_cons_zero, List.getD_cons_succ, List.getD_nil, Bool.not_true, Bool.not_false]); first | done | with_reducible rfl)⟩) fun w15 hc15 hs15 hb15 => ?_
    · rfl
    refine go ?_
    exact retc ⟨0, 0, 0, 0, rfl, ⟨fun _ => (chk_iff2 hi).2 ⟨hP', hC', hF, fun j h1 => hI j (by omega) h1⟩, fun _ => rfl⟩, fun h => absurd rfl h, fun _ => ⟨rfl, rfl, rfl⟩, hc15.ext (he2.trans he8) (by omega)⟩ rfl
end Go.Proofs.Ytjljbfcdpdckeaa

/-
  Walks: the program's consistency of a presentation (consistentFrom, IsConsistent).
  Conditions: stated at each theorem.
-/
namespace Go.Proofs.Ytjljbfcdpdckeaa
open Go Go.Pc
theorem fault_guard : (Try.prog.eqGuardType Try.prog.depth 46) = false := by kernel_rfl
theorem fault_held : (Try.prog.stoodInHeld 46) = false := by kernel_rfl
theorem fault_fields : Try.prog.underlying 46 = some (.struct (Try.prog.fieldsOf 46)) := by simp [Program.fieldsOf, Try.underlying46]
theorem rd_eqFault {ρ : Env} {w : World} {ty : TypeId} {x y : Operand} {k l f s : Int} (h : ev ρ x = faultV k l f s) (h' : ev ρ y = faultV 0 0 0 0) :
    Rd Try.prog (.binOp .eql 46 x y 46) ty ρ w (.bool (decide (k = 0 ∧ l = 0 ∧ f = 0 ∧ s = 0))) := by
  constructor; intro _ _ _ _
  have h2 := fun d a b w => run_equalIn_int (P := Try.prog) w d 2 .i64 .i64 a b Try.underlying2
  simp [execOp, h, h', run_eqGuard_agg _ _ _ _ _ _ _ fault_guard, run_eql_struct, run_equalIn_agg _ _ _ _ _ fault_fields fault_held, Program.fieldsOf, Try.underlying46, Op.eqFields, h2, go_sem]
  by_cases hk : k = 0 <;> by_cases hl : l = 0 <;> by_cases hf : f = 0 <;> by_cases hs : s = 0 <;> simp [hk, hl, hf, hs]
set_option maxHeartbeats 1000000 in
theorem consistentFrom_ok {p : Pr} (hv : Valid p) {w : World} {vp : Value} {lo hi' : Nat} [hp : PresP lo hi' w vp p] :
    Calls Try.prog 83 #[vp] w (Ret fun v w' => ∃ i : Nat, v = .int .i64 i ∧ i ≤ p.n ∧ Levs p i ∧ (i ≠ 0 → ¬ Lev p (i - 1)) ∧ Ext w w') := by
  have hn6 := hv.n6
  have hol : p.ord.length = p.n := rfl
  obtain ⟨b, og, vo, vpw, vc, ps, cs, css, rfl, hb1, hb2, hc0, hc1, hc2, h1, h2, h3⟩ := hp.ex
  refine enter (args := [.pointer (some ⟨b, og, none⟩)]) (l := [.tmp 2]) Try.func83 rfl rfl Try.ntmps83 (by simp) ?_
  refine go ?_
  refine r_for p.n (fun k ρ w' => Has ρ [(0, .pointer (some ⟨b, og, none⟩)), (3, .int .i64 (p.n - k : Nat))] ∧ Ext w w' ∧ Levs p (p.n - k)) ?_ ?_
  · refine ⟨?_, Ext.refl _, fun j h h' => by omega⟩
    exact hasP
  rintro k ρ w3 hk ⟨hH, he3, hL⟩
  refine rwp_has hH fun ρ0 => ?_
  refine go ?_
  refine spd (fun h4 => ?_) (fun h4 => ?_)
  · obtain ⟨i, hie⟩ : ∃ i : Nat, p.n - k = i + 1 := ⟨p.n - k - 1, by omega⟩
    have hi : i < p.n := by omega
    rw [hie] at hL h4 ⊢
    have hc : Con p (i + 1) := Levs.con hv hL
    refine go ?_
    refine rc (levelFault_ok (p := p) (i := i) hi ?_) (next := fun v5 w5 h5 => ?_)
    · omega
    obtain ⟨k5, l5, f5, s5, rfl, hz, hl5, h05, he5⟩ := h5
    refine go ?_
    refine ra (v := faultV 0 0 0 0) (h := rd_build (by rfl) (fun _ => by kernel_rfl)) (next := ?_)
    refine go ?_
    refine ra (h := rd_eqFault (k := k5) (l := l5) (f := f5) (s := s5) (by ((try simp only [ev_tmp, ev_const, ev_func, get_put, get_args, get_putL, get_putL_nil, Nat.reduceEqDiff, reduceIte, List.getD_cons_zero, List.getD_cons_succ, List.getD_nil]); first | done | with_reducible rfl)) (by ((try simp only [ev_tmp, ev_const, ev_func, get_put, get_args, get_putL, get_putL_nil, Nat.reduceEqDiff, reduceIte, List.getD_cons_zero, List.getD_cons_succ, List.getD_nil]); first | done | with_reducible rfl))) (next := ?_)
    refine go ?_
    refine c_if (fun h8 => ?_) (fun h8 => ?_)
    · refine go ?_
      refine forQ_normal (by omega) ⟨?_, he3.trans he5, fun j hj hjn => ?_⟩
      · exact hasP
      · by_cases e : j = i
        · subst e; exact ⟨hc, hi, hz.1 h8.1⟩
        · exact hL j (by omega) hjn
    · refine go ?_
      refine ret1 ⟨i + 1, rfl, by omega, hL, fun _ => ?_, he3.trans he5⟩
      rintro ⟨_, _, h9⟩
      have h0 := hz.2 h9
      exact h8 ⟨h0, h05 h0⟩
  · refine go ?_
    have hkn : p.n - k = 0 := by omega
    rw [hkn] at hL ⊢
    exact ret1 ⟨0, rfl, by omega, hL, fun h => absurd rfl h, he3⟩
set_option maxHeartbeats 1000000 in
theorem impl_IsConsistent_ok {w : World} {vp : Value} {p : Pr} {lo hi' : Nat} [hp : Pres lo hi' w vp p] (hl : p.ord.length ≤ 2000000) :
    Calls Try.prog 29 #[vp] w (Ret fun v w' => ∃ b, v = .bool b ∧ (b = true ↔ IsGrp p) ∧ Ext w w') := by
  obtain ⟨vo, vpw, vc, ps, cs, css, rfl, h1, h2, h3⟩ := hp.ex
  refine enter (args := [.agg #[vo, vpw, vc]]) (l := [.tmp 2]) Try.func29 rfl rfl Try.ntmps29 (by simp) ?_
  refine go ?_
  refine st_box3 (by ((try simp only [ev_tmp, ev_const, ev_func, get_put, get_args, get_putL, get_putL_nil, Nat.reduceEqDiff, reduceIte, List.getD_cons_zero, List.getD_cons_succ, List.getD_nil]); first | done | with_reducible rfl)) (by first | exact True.intro | exact ⟨_, rfl, by ((try simp only [ev_tmp, ev_const, ev_func, get_put, get_args, get_putL, get_putL_nil, Nat.reduceEqDiff, reduceIte, List.getD_cons_zero, List.getD_cons_succ, List.getD_nil, Bool.not_true, Bool.not_false]); first | done | with_reducible rfl)⟩) fun w1 b he1 hb1 hs1 hc0 hc1 hc2 => ?_
  have hpp := hp.boxed he1 hc0 hc1 hc2
  refine go ?_
  refine rc (impl_IsPresentation_ok hl) (next := fun v5 w5 h5 => ?_)
  obtain ⟨b5, rfl, hb5, he5⟩ := h5
  refine go ?_
  refine sp (fun e5 => ?_) (fun e5 => ?_)
  · have hv := hb5.1 e5
    refine go ?_
    refine rc (consistentFrom_ok hv) (next := fun v6 w6 h6 => ?_)
    obtain ⟨i, rfl, hi, hL, hno, he6⟩ := h6
    refine go ?_
    refine ret1 ⟨_, rfl, ?_, (he1.trans he5).trans he6⟩
    rw [decide_eq_true_eq]
    constructor
    · intro h
      have : i = 0 := by omega
      subst this
      exact ⟨hv, hL⟩
    · intro h
      by_cases e : i = 0
      · omega
      · exact absurd (h.levs (i - 1) (by omega) (by omega)) (hno e)
  · refine go ?_
    refine ret1 ⟨_, rfl, ?_, he1.trans he5⟩
    simp only [Bool.false_eq_true, false_iff]
    intro h
    have := hb5.2 h.valid
    rw [e5] at this; cases this
end Go.Proofs.Ytjljbfcdpdckeaa

/-
  Walks: the program's test of subgroups (areSubgroups, IsSubgroup).
  Conditions: stated at each theorem.
-/
namespace Go.Proofs.Ytjljbfcdpdckeaa
open Go Go.Pc
theorem PresP.val {lo hi b : Nat} {w : World} {p : Pr} {vo vp vc : Value} {ps cs : List Value} {css : List (List Value)} (h1 : Ints lo hi w vo p.ord) (h2 : Pc.Rows lo hi w vp ps p.pow) (h3 : Rowss lo hi w vc cs css p.cnj) : Pres lo hi w (.agg #[vo, vp, vc]) p := ⟨⟨vo, vp, vc, ps, cs, css, rfl, h1, h2, h3⟩⟩
end Go.Proofs.Ytjljbfcdpdckeaa

/-
  Walks: the program's order of a subgroup (sizeOf, SubgroupOrder).
  Conditions: stated at each theorem.
-/
namespace Go.Proofs.Ytjljbfcdpdckeaa
open Go Go.Pc
end Go.Proofs.Ytjljbfcdpdckeaa

/-
  Walks: the program's IsMember and IsSubset.
  Conditions: what the arguments read as.
-/
namespace Go.Proofs.Ytjljbfcdpdckeaa
open Go Go.Pc
end Go.Proofs.Ytjljbfcdpdckeaa

/-
  Walks: the program's generators, conjugates, conjugate subgroup, test of normality, test of elements.
  Conditions: stated at each theorem.
-/
namespace Go.Proofs.Ytjljbfcdpdckeaa
open Go Go.Pc
set_option maxHeartbeats 1000000 in
theorem generators_ok {p : Pr} [hc : ConAll p] {w : World} {vp : Value} {lo hi : Nat} [hp : PresP lo hi w vp p] :
    Calls Try.prog 153 #[vp] w (Ret fun v w' => Ext w w' ∧ ∃ rs, vecs (gensL p) = rs.map (·.2) ∧ MatO w.heap.size w'.heap.size w' v rs) := by
  have hn6 := hc.valid.n6
  have hol : p.ord.length = p.n := rfl
  obtain ⟨g, og, vo, vpw, vc, ps, cs, css, rfl, hg1, hg2, hc0, hc1, hc2, h1, h2, h3⟩ := hp.ex
  refine enter (args := [.pointer (some ⟨g, og, none⟩)]) (l := [.tmp 2]) Try.func153 rfl rfl Try.ntmps153 (by simp) ?_
  refine go ?_
  refine r_for p.n (fun k ρ w' => ∃ vl rs, Has ρ [(0, .pointer (some ⟨g, og, none⟩)), (3, vl), (9, .int .i64 p.n), (10, .int .i64 k)] ∧ Ext w w' ∧ GrowL 22 w.heap.size w' vl rs ∧ rs.map (·.2) = (List.range k).map fun i => (zeros p.n).set i 1) ?_ ?_
  · refine ⟨nilv, [], ?_, Ext.refl _, GrowL.nil _ _ _ (Nat.le_refl _), by simp⟩
    exact hasP
  rintro k ρ w3 hk ⟨vl, rs, hH, he3, hG, hrs⟩
  refine rwp_has hH fun ρ0 => ?_
  have hz3 := he3.size
  have hrl : rs.length = k := by have := congrArg List.length hrs; simp at this; omega
  refine go ?_
  refine c_if (fun h4 => ?_) (fun h4 => ?_)
  · refine go ?_
    refine rc (unitVector_ok (n := p.n) (i := k) ?_ ?_ (by omega) (by omega)) (next := fun v4 w4 h5 => ?_)
    · omega
    · rfl
    obtain ⟨he4, hf4⟩ := h5
    refine go ?_
    refine st_grow hG he4 hf4 hz3 (by omega) (next := fun v6 v7 w7 hG7 hx7 hz7 hgs7 => ?_)
    refine go ?_
    refine forQ_normal (by omega) ⟨v7, _, ?_, hx7 w (he3.trans he4) (Nat.le_refl _), hG7, ?_⟩
    · exact hasP
    · rw [List.range_succ, List.map_append, List.map_append, hrs]; simp
  · obtain rfl : k = p.n := by omega
    refine go ?_
    refine ret1 ⟨he3, rs, ?_, hG.mat⟩
    rw [hrs]
    unfold vecs gensL
    rw [List.map_map]
    exact List.map_congr_left fun i hi => gOf_val (List.mem_range.1 hi)
set_option maxHeartbeats 1000000 in
theorem areElements_ok {p : Pr} {w : World} {vp vl : Value} {us : List Value} {xss : List (List Int)} {lo hi lo1 hi1 : Nat} [hp : PresP lo hi w vp p] [hl : Pc.Rows lo1 hi1 w vl us xss] (hol : p.ord.length ≤ 2000000) (hxl : xss.length ≤ 2000000) :
    Calls Try.prog 65 #[vp, vl] w (Ret fun v w' => ∃ b, v = .bool b ∧ (b = true ↔ GrpL p xss) ∧ Ext w w') := by
  obtain ⟨g, og, vo, vpw, vc, ps, cs, css, rfl, hg1, hg2, hc0, hc1, hc2, h1, h2, h3⟩ := hp.ex
  have hpv := PresP.val (b := g) h1 h2 h3
  refine enter (args := [.pointer (some ⟨g, og, none⟩), vl]) (l := [.tmp 4]) Try.func65 rfl rfl Try.ntmps65 (by simp) ?_
  refine go ?_
  refine rc (impl_IsConsistent_ok (p := p) hol) (next := fun v1 w1 h4 => ?_)
  obtain ⟨b1, rfl, hb1, he1⟩ := h4
  refine go ?_
  refine c_b (fun e1 => ?_) (fun e1 => ?_)
  · refine go ?_
    refine ret1 ⟨_, rfl, ?_, he1⟩
    simp only [Bool.false_eq_true, false_iff]
    rintro ⟨h, _⟩
    rw [hb1.2 h] at e1; cases e1
  have hG := hb1.1 (by simpa using e1)
  have hv := hG.valid
  refine go ?_
  refine r_for xss.length (fun q ρ w' => Has ρ [(0, .pointer (some ⟨g, og, none⟩)), (12, vl), (13, .int .i64 xss.length), (14, .int .i64 q)] ∧ Ext w w' ∧ ∀ i, i < q → InR p (xss.getD i [])) ?_ ?_
  · refine ⟨?_, he1, fun i hi => by omega⟩
    exact hasP
  clear he1
  rintro q ρ w3 hq ⟨hH3, he3, hQ⟩
  refine rwp_has hH3 fun ρ1 => ?_
  refine go ?_
  refine c_if (fun h6 => ?_) (fun h6 => ?_)
  · refine go ?_
    refine rc (isExponents_ok (p := p) (xs := xss.getD q []) (fun i hi => hv.opos hi) hol) (next := fun v4 w4 h7 => ?_)
    obtain ⟨b4, rfl, hb4, he4⟩ := h7
    refine go ?_
    refine c_b (fun h8 => ?_) (fun h8 => ?_)
    · refine go ?_
      refine ret1 ⟨_, rfl, ?_, he3.trans he4⟩
      simp only [Bool.false_eq_true, false_iff]
      rintro ⟨_, h⟩
      rw [hb4.2 (h q (by omega))] at h8; cases h8
    · have h9 := hb4.1 (by simpa using h8)
      refine go ?_
      refine forQ_normal (by omega) ⟨?_, he3.trans he4, fun i hi => ?_⟩
      · exact hasP
      · by_cases e : i = q
        · subst e; exact h9
        · exact hQ i (by omega)
  · refine go ?_
    refine ret1 ⟨_, rfl, ?_, he3⟩
    simp only [true_iff]
    exact ⟨hG, fun i hi => hQ i (by omega)⟩
end Go.Proofs.Ytjljbfcdpdckeaa

/-
  Walks: the program's GeneratedSubgroup, ConjugateSubgroup, IsNormalSubgroup, SubgroupIndex, SubgroupDepths.
  Conditions: what the arguments read as.
-/
namespace Go.Proofs.Ytjljbfcdpdckeaa
open Go Go.Pc
end Go.Proofs.Ytjljbfcdpdckeaa

/-
  More rules: function values that capture variables; variables of one cell.
  Conditions: none; nothing of the program stands here.
-/
namespace Go.Pc
open Go Go.RowKit
section
variable {P : Program} {N : Nat} {ops : Array Oper} {K : Env → World → Prop} {ρ : Env} {w : World} {l : List Oper}
variable {ty : TypeId} {pos : String} {after : Array Edge} {g : Option (Nat × Bool)} {d : Nat}
theorem cl_clo {f : FuncId} {x : Operand} {xs : Array Operand} {ats : Array TypeId} {args caps : Array Value} [hf : FnT P f] (hx : ev ρ x = .func (.func f) #[] caps) (ha : xs.map (ev ρ) ++ caps = args) :
    Cl P (.call { callee := .value x, args := xs, argTypes := ats }) ty ρ f args := by
  constructor; intro w _ _ _ _
  obtain ⟨fn, c, h1, h2, h3⟩ := hf.ex
  simp [execOp, resolve, hx, Deferred.ofValue, invoke, callFunc, h1, h2, h3, ha]
theorem rd_makeFunc {f : FuncId} {xs : Array Operand} {caps : Array Value} (h : xs.map (ev ρ) = caps) : Rd P (.makeFunc (.func f) #[] xs) ty ρ w (.func (.func f) #[] caps) := by
  constructor; intro _ _ _ _
  simp [execOp, Instr.makeFunc, h]
end
end Go.Pc

/-
  More rules: lists put together ('append(u, v...)', slices.Grow), in plain and in drawn regions.
  Conditions: none; nothing of the program stands here.
-/
namespace Go.Pc
open Go Go.RowKit
section
variable {av : Nat → Prop} {e base : Nat} {w w' : World} {v v' : Value} {us vs : List Value} {xss yss : List (List Int)}
theorem RowsAp.append (h : RowsAp av w us xss) (k : RowsAp av w vs yss) : RowsAp av w (us ++ vs) (xss ++ yss) := by
  refine ⟨by simp [h.len, k.len], fun i => ?_⟩
  by_cases hi : i < us.length
  · have e1 : (us ++ vs).getD i nilv = us.getD i nilv := by simp [List.getElem?_append_left hi]
    have e2 : (xss ++ yss).getD i [] = xss.getD i [] := by simp [List.getElem?_append_left (show i < xss.length by rw [← h.len]; exact hi)]
    rw [e1, e2]; exact h.at_ i
  · have e1 : (us ++ vs).getD i nilv = vs.getD (i - us.length) nilv := by simp [List.getElem?_append_right (Nat.le_of_not_lt hi)]
    have e2 : (xss ++ yss).getD i [] = yss.getD (i - us.length) [] := by rw [h.len]; simp [List.getElem?_append_right (show xss.length ≤ i by rw [← h.len]; omega)]
    rw [e1, e2]; exact k.at_ _
end
section
variable {P : Program} {N : Nat} {ops : Array Oper} {π : List Nat} {K : Env → World → Prop} {ρ : Env} {w w0 w1 : World} {l : List Oper}
variable {i : Nat} {ty : TypeId} {pos : String} {after : Array Edge} {g : Option (Nat × Bool)} {d : Nat}
end
end Go.Pc

/-
  Walks: the program's slices.Concat, closure under conjugation, commutator subgroup; SubgroupJoin, NormalClosure, CommutatorSubgroup.
  Conditions: stated at each theorem.
-/
namespace Go.Proofs.Ytjljbfcdpdckeaa
open Go Go.Pc
theorem SeqAt.ext {p : Pr} {bs b0 base : Nat} {av : Nat → Prop} {w w' : World} {vp vb : Value} {t : Tab p} (h : SeqAt bs b0 base av w vp vb t) (x : Ext w w') : SeqAt bs b0 base av w' vp vb t := by
  obtain ⟨c0, c1, hn, ho, us, hL, hnil⟩ := h
  exact ⟨c0.same (x.same _ _) x.size, c1.same (x.same _ _) x.size, hn, ho, us, hL.ext x, hnil⟩
end Go.Proofs.Ytjljbfcdpdckeaa

/-
  Walks: the program's CosetRepresentative.
  Conditions: what the arguments read as.
-/
namespace Go.Proofs.Ytjljbfcdpdckeaa
open Go Go.Pc
end Go.Proofs.Ytjljbfcdpdckeaa

/-
  Walks: the program's CosetNumber, MemberElement, MemberExponents.
  Conditions: what the arguments read as.
-/
namespace Go.Proofs.Ytjljbfcdpdckeaa
open Go Go.Pc
end Go.Proofs.Ytjljbfcdpdckeaa

/-
  Walks: the program's order, index code, transversal; Transversal.
  Conditions: stated at each theorem.
-/
namespace Go.Proofs.Ytjljbfcdpdckeaa
open Go Go.Pc
set_option maxHeartbeats 1000000 in
theorem orderOf_ok {p : Pr} (hv : Valid p) {w : World} {vp : Value} {lo hi : Nat} [hp : PresP lo hi w vp p] :
    Calls Try.prog 101 #[vp] w (Ret fun v w' => v = .int .i64 (ordL p (List.range p.n)) ∧ Ext w w') := by
  have hn6 := hv.n6
  have hol : p.ord.length = p.n := rfl
  have hrl : (List.range p.n).length = p.n := by simp
  obtain ⟨g, og, vo, vpw, vc, ps, cs, css, rfl, hg1, hg2, hc0, hc1, hc2, h1, h2, h3⟩ := hp.ex
  refine enter (args := [.pointer (some ⟨g, og, none⟩)]) (l := [.tmp 2]) Try.func101 rfl rfl Try.ntmps101 (by simp) ?_
  refine go ?_
  refine r_for p.n (fun k ρ w' => Has ρ [(3, .int .i64 (ordL p ((List.range p.n).take k))), (9, vo), (10, .int .i64 p.ord.length), (11, .int .i64 k)] ∧ Ext w w') ?_ ?_
  · refine ⟨?_, Ext.refl _⟩
    exact hasP
  rintro k ρ w2 hk ⟨hH, he2⟩
  refine rwp_has hH fun ρ0 => ?_
  refine go ?_
  refine c_if (fun h4 => ?_) (fun h4 => ?_)
  · have hkn : k < p.n := by omega
    have hod := hv.opos hkn
    have hr := ordL_rng hv (l := List.range p.n) (fun d hd => List.mem_range.1 hd) (by omega) (k := k) (by omega)
    have hm : 0 ≤ ordL p ((List.range p.n).take k) * p.o k ∧ ordL p ((List.range p.n).take k) * p.o k ≤ 117649 * 7 := ⟨Int.mul_nonneg (by omega) (by omega), Int.mul_le_mul hr.2 hod.2 (by omega) (by omega)⟩
    have hmb : -9223372036854775808 ≤ ordL p ((List.range p.n).take k) * p.o k ∧ ordL p ((List.range p.n).take k) * p.o k ≤ 9223372036854775807 := ⟨by omega, by omega⟩
    have hst := ordL_take (p := p) (List.range p.n) (show k < (List.range p.n).length by omega)
    rw [show (List.range p.n).getD k 0 = k by simp [hkn]] at hst
    refine go ?_
    rw [show p.ord.getD k 0 = p.o k from rfl]
    refine ra (h := rd_mul (by ((try simp only [ev_tmp, ev_const, ev_func, get_put, get_args, get_putL, get_putL_nil, Nat.reduceEqDiff, reduceIte, List.getD_cons_zero, List.getD_cons_succ, List.getD_nil]); first | done | with_reducible rfl)) (by ((try simp only [ev_tmp, ev_const, ev_func, get_put, get_args, get_putL, get_putL_nil, Nat.reduceEqDiff, reduceIte, List.getD_cons_zero, List.getD_cons_succ, List.getD_nil]); first | done | with_reducible rfl)) hmb) (next := ?_)
    refine go ?_
    refine forQ_normal (by omega) ⟨?_, he2⟩
    rw [hst]
    exact hasP
  · refine go ?_
    have e : (List.range p.n).take k = List.range p.n := by rw [show k = p.n by omega, List.take_of_length_le (by omega)]
    rw [e]
    exact ret1 ⟨rfl, he2⟩
end Go.Proofs.Ytjljbfcdpdckeaa

/-
  Walks: the program's element with a number, all elements, subgroups of all elements with a property; Center.
  Conditions: stated at each theorem.
-/
namespace Go.Proofs.Ytjljbfcdpdckeaa
open Go Go.Pc
set_option maxHeartbeats 2000000 in
theorem elementAt_ok {p : Pr} [hc : ConAll p] {t : Nat} (ht : t ≤ 1000000) {w : World} {vp : Value} {lo hi : Nat} [hp : PresP lo hi w vp p] :
    Calls Try.prog 115 #[vp, .int .i64 t] w (Ret fun v w' => Ext w w' ∧ Fr w.heap.size w' v (allE p t).v) := by
  have hv := hc.valid
  have hn6 := hv.n6
  have hol : p.ord.length = p.n := rfl
  rw [allE_val]
  obtain ⟨l, hl⟩ : ∃ l, List.range p.n = l := ⟨_, rfl⟩
  have hll : l.length = p.n := by rw [← hl]; simp
  have hlt : ∀ d, d ∈ l → d < p.n := fun d hd => by rw [← hl] at hd; exact List.mem_range.1 hd
  have hnd : l.Nodup := by rw [← hl]; exact List.nodup_range
  have hlg : ∀ i, i < p.n → l.getD i 0 = i := fun i hi => by rw [← hl]; simp [hi]
  rw [hl]
  replace hp := hp.wide
  obtain ⟨g, og, vo, vpw, vc, ps, cs, css, rfl, hg1, hg2, hc0, hc1, hc2, h1, h2, h3⟩ := hp.ex
  refine enter (args := [.pointer (some ⟨g, og, none⟩), .int .i64 t]) (l := [.tmp 4]) Try.func115 rfl rfl Try.ntmps115 (by simp) ?_
  refine go ?_
  refine st_make_int (by ((try simp only [ev_tmp, ev_const, ev_func, get_put, get_args, get_putL, get_putL_nil, Nat.reduceEqDiff, reduceIte, List.getD_cons_zero, List.getD_cons_succ, List.getD_nil]); first | done | with_reducible rfl)) (by ((try simp only [ev_tmp, ev_const, ev_func, get_put, get_args, get_putL, get_putL_nil, Nat.reduceEqDiff, reduceIte, List.getD_cons_zero, List.getD_cons_succ, List.getD_nil]); first | done | with_reducible rfl)) (by omega) (by omega) (by first | exact True.intro | exact ⟨_, rfl, by ((try simp only [ev_tmp, ev_const, ev_func, get_put, get_args, get_putL, get_putL_nil, Nat.reduceEqDiff, reduceIte, List.getD_cons_zero, List.getD_cons_succ, List.getD_nil, Bool.not_true, Bool.not_false]); first | done | with_reducible rfl)⟩) fun w2 v2 he2 hs2 ho2 => ?_
  have hz2 := he2.size
  have hzz : List.replicate p.ord.length (0 : Int) = zeros p.n := rfl
  rw [hzz] at ho2
  have hzl := zeros_len p.n
  have ap1 : Apart 0 w.heap.size w.heap.size := ⟨.inr (Nat.le_refl _)⟩
  have hgs : g + 1 ≤ w.heap.size := by have := hc0.lt; omega
  have ap2 : Apart g (g + 1) w.heap.size := ⟨.inr hgs⟩
  refine go ?_
  refine r_for p.n (fun k ρ w' => ∃ (tk : Int) (xs : List Int), Has ρ [(0, .pointer (some ⟨g, og, none⟩)), (1, .int .i64 tk), (5, v2), (6, .int .i64 (p.n - 1 - k))] ∧ Chg w.heap.size w2 w' ∧ OwnI 2 w.heap.size w' v2 xs ∧ xs.length = p.n ∧ 0 ≤ tk ∧ tk ≤ 1000000 ∧ fillTo p l (p.n - k) tk xs = elTo p l l.length t) ?_ ?_
  · refine ⟨t, zeros p.n, ?_, Chg.refl _ _, ho2, hzl, by omega, by omega, ?_⟩
    · exact hasP
    · have := fill_eq hnd hlt (t : Int)
      rwa [hll] at this ⊢
  clear ho2
  rintro k ρ w4 hk ⟨tk, xs, hH, hch4, ho4, hxl, ht0, ht1, hfill⟩
  refine rwp_has hH fun ρ0 => ?_
  refine go ?_
  refine c_if (fun h4 => ?_) (fun h4 => ?_)
  · have hkn : k < p.n := by omega
    obtain ⟨i, hi⟩ : ∃ i, p.n - 1 - k = i := ⟨_, rfl⟩
    have hil : i < p.n := by omega
    have hcast : ((p.n : Int) - 1 - k) = (i : Int) := by omega
    have hod := hv.opos hil
    have hmod : 0 ≤ tk % p.o i ∧ tk % p.o i < p.o i := ⟨Int.emod_nonneg _ (by omega), Int.emod_lt_of_pos _ (by omega)⟩
    have hdiv : 0 ≤ tk / p.o i ∧ tk / p.o i ≤ 1000000 := ⟨Int.ediv_nonneg ht0 (by omega), Int.le_trans (Int.ediv_le_self _ ht0) ht1⟩
    have hstep : fillTo p l (p.n - (k + 1)) (tk / p.o i) (xs.set i (tk % p.o i)) = elTo p l l.length t := by
      rw [← hfill, show p.n - k = i + 1 by omega, show p.n - (k + 1) = i by omega]
      show _ = fillTo p l i (tk / p.o (l.getD i 0)) (xs.set (l.getD i 0) (tk % p.o (l.getD i 0)))
      rw [hlg i hil]
    rw [hcast]
    refine go ?_
    first
      | rw [show p.ord.getD i 0 = p.o i from rfl]
      | rw [show p.ord.getD ((i : Int).toNat) 0 = p.o i from rfl]
    refine go ?_
    refine st_store_int (h := ho4) (by ((try simp only [ev_tmp, ev_const, ev_func, get_put, get_args, get_putL, get_putL_nil, Nat.reduceEqDiff, reduceIte, List.getD_cons_zero, List.getD_cons_succ, List.getD_nil]); first | done | with_reducible rfl)) (by ((try simp only [ev_tmp, ev_const, ev_func, get_put, get_args, get_putL, get_putL_nil, Nat.reduceEqDiff, reduceIte, List.getD_cons_zero, List.getD_cons_succ, List.getD_nil]); first | done | with_reducible rfl)) ?_ (by first | exact True.intro | exact ⟨_, rfl, by ((try simp only [ev_tmp, ev_const, ev_func, get_put, get_args, get_putL, get_putL_nil, Nat.reduceEqDiff, reduceIte, List.getD_cons_zero, List.getD_cons_succ, List.getD_nil, Bool.not_true, Bool.not_false]); first | done | with_reducible rfl)⟩) fun w6 hc6 hs6 ho6 => ?_
    · omega
    have hch6 : Chg w.heap.size w2 w6 := hch4.trans hc6
    clear hch4 hc6 ho4
    refine go ?_
    first
      | rw [show p.ord.getD i 0 = p.o i from rfl]
      | rw [show p.ord.getD ((i : Int).toNat) 0 = p.o i from rfl]
    refine go ?_
    refine forQ_normal (by omega) ⟨tk / p.o i, _, ?_, hch6, ho6, by simp [hxl], hdiv.1, hdiv.2, hstep⟩
    exact hasP
  · refine go ?_
    obtain rfl : k = p.n := by omega
    rw [Nat.sub_self] at hfill
    have hx : xs = elTo p l l.length t := hfill
    refine ret1 ⟨hch4.ext he2 (Nat.le_refl _), ?_⟩
    rw [← hx]
    exact ho4.toFr (Nat.le_refl _)
set_option maxHeartbeats 2000000 in
theorem allElements_ok {p : Pr} [hc : ConAll p] {w : World} {vp : Value} {lo hi : Nat} [hp : PresP lo hi w vp p] :
    Calls Try.prog 118 #[vp] w (Ret fun v w' => Ext w w' ∧ ∃ rs, vecs ((List.range (ordN p)).map (allE p)) = rs.map (·.2) ∧ MatO w.heap.size w'.heap.size w' v rs) := by
  have hv := hc.valid
  obtain ⟨hoe, ho1, ho2⟩ := ordN_rng p
  have hpw := hp.wide
  refine enter (args := [vp]) (l := [.tmp 2]) Try.func118 rfl rfl Try.ntmps118 (by simp) ?_
  refine go ?_
  refine rc (orderOf_ok (p := p) hv) (next := fun v2 w2 h4 => ?_)
  obtain ⟨rfl, he2⟩ := h4
  rw [hoe]
  have hz2 := he2.size
  refine go ?_
  refine r_for (ordN p) (fun k ρ w' => ∃ vl rs, Has ρ [(0, vp), (3, vl), (6, .int .i64 (ordN p)), (7, .int .i64 k)] ∧ Ext w2 w' ∧ GrowL 22 w2.heap.size w' vl rs ∧ rs.map (·.2) = vecs ((List.range k).map (allE p))) ?_ ?_
  · refine ⟨nilv, [], ?_, Ext.refl _, GrowL.nil _ _ _ (Nat.le_refl _), by simp⟩
    exact hasP
  rintro k ρ w3 hk ⟨vl, rs, hH, he3, hG, hrs⟩
  refine rwp_has hH fun ρ0 => ?_
  have hz3 := he3.size
  have hrl : rs.length = k := by have := congrArg List.length hrs; simp at this; omega
  have hE3 := he2.trans he3
  refine go ?_
  refine c_if (fun h4 => ?_) (fun h4 => ?_)
  · refine go ?_
    refine rc (elementAt_ok (p := p) (t := k) (by omega)) (next := fun v4 w4 h5 => ?_)
    obtain ⟨he4, hf4⟩ := h5
    refine go ?_
    refine st_grow hG he4 hf4 hz3 (by omega) (next := fun v6 v7 w7 hG7 hx7 hz7 hgs7 => ?_)
    refine go ?_
    refine forQ_normal (by omega) ⟨v7, _, ?_, hx7 w2 (he3.trans he4) (Nat.le_refl _), hG7, ?_⟩
    · exact hasP
    · rw [List.range_succ, List.map_append, List.map_append, hrs]; simp
  · obtain rfl : k = ordN p := by omega
    refine go ?_
    exact ret1 ⟨hE3, rs, hrs.symm, hG.mat.lower hz2⟩
end Go.Proofs.Ytjljbfcdpdckeaa

/-
  Walks: the program's ElementCentralizer, SubgroupCentralizer, SubgroupNormalizer, SubgroupConjugator, CountInner.
  Conditions: stated at each theorem.
-/
namespace Go.Proofs.Ytjljbfcdpdckeaa
open Go Go.Pc
end Go.Proofs.Ytjljbfcdpdckeaa

/-
  The kit's contract of slices.SortFunc laid in this program (printed by mkshl.py; the numbers are those of the seat Ytjljbfcdpdckeaa).
  Conditions: none.
-/
namespace Go.Proofs.Ytjljbfcdpdckeaa
open Go Go.Shelf
def shl_ren : Go.Shelf.Ren := ⟨fun | 6 => 154 | 15 => 173 | 14 => 172 | 28 => 193 | 29 => 194 | 20 => 185 | 21 => 186 | 22 => 187 | 23 => 188 | 24 => 189 | 25 => 190 | 26 => 191 | 27 => 192 | 46 => 209 | 47 => 210 | 48 => 211 | 49 => 212 | 50 => 213 | 57 => 222 | n => n, fun | 22 => 23 | 24 => 22 | 25 => 126 | 3 => 3 | 39 => 146 | 0 => 0 | 53 => 187 | 55 => 57 | 4 => 4 | 46 => 181 | 45 => 180 | 50 => 124 | 5 => 5 | 9 => 9 | 66 => 201 | 70 => 205 | 76 => 215 | 77 => 216 | n => n, fun | n => n⟩
theorem shl : SlLaysF.n6 Try.prog shl_ren := {
  mixed := by kernel_rfl
  f6 := ⟨Try.f154.name, by decide, Try.func154.trans (congrArg some (by kernel_rfl))⟩
  f14 := ⟨Try.f172.name, by decide, Try.func172.trans (congrArg some (by kernel_rfl))⟩
  f15 := Try.func173.trans (congrArg some (by kernel_rfl))
  f20 := ⟨Try.f185.name, by decide, Try.func185.trans (congrArg some (by kernel_rfl))⟩
  f21 := ⟨Try.f186.name, by decide, Try.func186.trans (congrArg some (by kernel_rfl))⟩
  f22 := ⟨Try.f187.name, by decide, Try.func187.trans (congrArg some (by kernel_rfl))⟩
  f23 := ⟨Try.f188.name, by decide, Try.func188.trans (congrArg some (by kernel_rfl))⟩
  f24 := ⟨Try.f189.name, by decide, Try.func189.trans (congrArg some (by kernel_rfl))⟩
  f25 := ⟨Try.f190.name, by decide, Try.func190.trans (congrArg some (by kernel_rfl))⟩
  f26 := ⟨Try.f191.name, by decide, Try.func191.trans (congrArg some (by kernel_rfl))⟩
  f27 := ⟨Try.f192.name, by decide, Try.func192.trans (congrArg some (by kernel_rfl))⟩
  f28 := Try.func193.trans (congrArg some (by kernel_rfl))
  f29 := Try.func194.trans (congrArg some (by kernel_rfl))
  f46 := ⟨Try.f209.name, by decide, Try.func209.trans (congrArg some (by kernel_rfl))⟩
  f47 := Try.func210.trans (congrArg some (by kernel_rfl))
  f48 := Try.func211.trans (congrArg some (by kernel_rfl))
  f49 := ⟨Try.f212.name, by decide, Try.func212.trans (congrArg some (by kernel_rfl))⟩
  f50 := ⟨Try.f213.name, by decide, Try.func213.trans (congrArg some (by kernel_rfl))⟩
  f57 := ⟨Try.f222.name, by decide, Try.func222.trans (congrArg some (by kernel_rfl))⟩
  t0 := Try.underlying0
  a0 := Try.isAgg0
  z0 := Try.sizeOf0
  v0 := Try.zeroValue0
  t3 := Try.underlying3
  a3 := Try.isAgg3
  z3 := Try.sizeOf3
  v3 := Try.zeroValue3
  t4 := Try.underlying4
  a4 := Try.isAgg4
  z4 := Try.sizeOf4
  v4 := Try.zeroValue4
  t5 := Try.underlying5
  a5 := Try.isAgg5
  z5 := Try.sizeOf5
  v5 := Try.zeroValue5
  t9 := Try.underlying9
  a9 := Try.isAgg9
  z9 := Try.sizeOf9
  v9 := Try.zeroValue9
  t22 := Try.underlying23
  a22 := Try.isAgg23
  z22 := Try.sizeOf23
  v22 := Try.zeroValue23
  a24 := Try.isAgg22
  z24 := Try.sizeOf22
  t25 := Try.underlying126
  a25 := Try.isAgg126
  z25 := Try.sizeOf126
  v25 := Try.zeroValue126
  t39 := Try.underlying146
  a39 := Try.isAgg146
  z39 := Try.sizeOf146
  v39 := Try.zeroValue146
  t45 := Try.underlying180
  a45 := Try.isAgg180
  z45 := Try.sizeOf180
  v45 := Try.zeroValue180
  t46 := Try.underlying181
  a46 := Try.isAgg181
  z46 := Try.sizeOf181
  v46 := Try.zeroValue181
  t50 := Try.underlying124
  a50 := Try.isAgg124
  z50 := Try.sizeOf124
  v50 := Try.zeroValue124
  t53 := Try.underlying187
  a53 := Try.isAgg187
  z53 := Try.sizeOf187
  v53 := Try.zeroValue187
  t55 := Try.underlying57
  a55 := Try.isAgg57
  z55 := Try.sizeOf57
  v55 := Try.zeroValue57
  t66 := Try.underlying201
  a66 := Try.isAgg201
  z66 := Try.sizeOf201
  v66 := Try.zeroValue201
  t70 := Try.underlying205
  a70 := Try.isAgg205
  z70 := Try.sizeOf205
  v70 := Try.zeroValue205
  t76 := Try.underlying215
  a76 := Try.isAgg215
  z76 := Try.sizeOf215
  v76 := Try.zeroValue215
  t77 := Try.underlying216
  a77 := Try.isAgg216
  z77 := Try.sizeOf216
  v77 := Try.zeroValue216 }
end Go.Proofs.Ytjljbfcdpdckeaa

/-
  Walks: cmp.Compare, slices.Compare, numberOf, slices.SortFunc at lists of elements, classOf, ConjugacyClass.
  Conditions: stated at each theorem.
-/
namespace Go.Proofs.Ytjljbfcdpdckeaa
open Go Go.Pc
theorem isNaN_ok {k : Int} {w : World} : Calls Try.prog 174 #[.int .i64 k] w (Ret fun v w' => v = .bool false ∧ w' = w) := by
  refine enter (args := [.int .i64 k]) (l := [.tmp 2]) Try.func174 rfl rfl Try.ntmps174 (by simp) ?_
  refine go ?_
  exact ret1 (v := .bool (decide (k ≠ k))) ⟨by simp, rfl⟩
set_option maxHeartbeats 400000 in
theorem cmpCompare_ok {a b : Int} {w : World} : Calls Try.prog 155 #[.int .i64 a, .int .i64 b] w (Ret fun v w' => v = .int .i64 (cmpI a b) ∧ w' = w) := by
  refine enter (args := [.int .i64 a, .int .i64 b]) (l := [.tmp 4]) Try.func155 rfl rfl Try.ntmps155 (by simp) ?_
  refine go ?_
  refine rc isNaN_ok (next := fun v2 w2 h2 => ?_)
  obtain ⟨rfl, rfl⟩ := h2
  refine go ?_
  refine rc isNaN_ok (next := fun v3 w3 h3 => ?_)
  obtain ⟨rfl, rfl⟩ := h3
  refine go ?_
  refine c_if (fun h4 => ?_) (fun h4 => ?_)
  · refine go ?_
    exact ret1 ⟨by unfold cmpI; rw [if_pos h4], rfl⟩
  refine go ?_
  refine c_if (fun h5 => ?_) (fun h5 => ?_)
  · refine go ?_
    exact ret1 ⟨by unfold cmpI; rw [if_neg h4, if_pos (by omega)], rfl⟩
  refine go ?_
  exact ret1 ⟨by unfold cmpI; rw [if_neg h4, if_neg (by omega)], rfl⟩
theorem cmpL_drop {l m : List Int} : ∀ k, (∀ i, i < k → l.getD i 0 = m.getD i 0) → k ≤ l.length → k ≤ m.length → cmpL l m = cmpL (l.drop k) (m.drop k)
  | 0, _, _, _ => rfl
  | k + 1, h, h1, h2 => by
    rw [cmpL_drop k (fun i hi => h i (by omega)) (by omega) (by omega)]
    have e1 : l.drop k = l[k] :: l.drop (k + 1) := (List.getElem_cons_drop (h := by omega)).symm
    have e2 : m.drop k = m[k] :: m.drop (k + 1) := (List.getElem_cons_drop (h := by omega)).symm
    have h3 := h k (by omega)
    have e3 : l.getD k 0 = l[k] := by simp [show k < l.length by omega]
    have e4 : m.getD k 0 = m[k] := by simp [show k < m.length by omega]
    rw [e1, e2, cmpL, if_pos (cmpI_zero.2 (by rw [← e3, ← e4, h3]))]
set_option maxHeartbeats 1000000 in
theorem compareL_ok {w : World} {va vb : Value} {xs ys : List Int} {lo hi lo1 hi1 : Nat} [hx : Ints lo hi w va xs] [hy : Ints lo1 hi1 w vb ys] (hl : xs.length ≤ 1000000) :
    Calls Try.prog 122 #[va, vb] w (Ret fun v w' => v = .int .i64 (cmpL xs ys) ∧ w' = w) := by
  refine enter (args := [va, vb]) (l := [.tmp 4]) Try.func122 rfl rfl Try.ntmps122 (by simp) ?_
  refine go ?_
  refine r_for xs.length (fun k ρ w' => Has ρ [(0, va), (1, vb), (9, va), (10, .int .i64 xs.length), (11, .int .i64 k)] ∧ w' = w ∧ k ≤ ys.length ∧ ∀ i, i < k → xs.getD i 0 = ys.getD i 0) ?_ ?_
  · refine ⟨?_, rfl, Nat.zero_le _, fun i hi => by omega⟩
    exact hasP
  rintro k ρ w2 hk ⟨hH, rfl, hky, hI⟩
  refine rwp_has hH fun ρ0 => ?_
  refine go ?_
  refine c_if (fun h4 => ?_) (fun h4 => ?_)
  · have hkn : k < xs.length := by omega
    have e1 : xs.drop k = xs[k] :: xs.drop (k + 1) := (List.getElem_cons_drop (h := hkn)).symm
    have e3 : xs.getD k 0 = xs[k] := by simp [hkn]
    refine go ?_
    refine c_if (fun h5 => ?_) (fun h5 => ?_)
    · have e2 : ys.drop k = [] := List.drop_eq_nil_of_le (by omega)
      refine go ?_
      refine ret1 ⟨?_, rfl⟩
      rw [cmpL_drop k hI (by omega) hky, e1, e2]
      rfl
    have hky2 : k < ys.length := by omega
    have e2 : ys.drop k = ys[k] :: ys.drop (k + 1) := (List.getElem_cons_drop (h := hky2)).symm
    have e4 : ys.getD k 0 = ys[k] := by simp [hky2]
    refine go ?_
    refine rc cmpCompare_ok (next := fun v6 w6 h6 => ?_)
    obtain ⟨rfl, rfl⟩ := h6
    refine go ?_
    refine c_if (fun h7 => ?_) (fun h7 => ?_)
    · refine go ?_
      refine ret1 ⟨?_, rfl⟩
      rw [cmpL_drop k hI (by omega) hky, e1, e2, cmpL, ← e3, ← e4, if_neg h7]
    · refine go ?_
      refine forQ_normal (by omega) ⟨?_, rfl, hky2, fun i hi => ?_⟩
      · exact hasP
      · by_cases e : i = k
        · subst e; exact cmpI_zero.1 (by omega)
        · exact hI i (by omega)
  · obtain rfl : k = xs.length := by omega
    have e1 : xs.drop xs.length = [] := List.drop_length
    refine go ?_
    refine c_if (fun h5 => ?_) (fun h5 => ?_)
    · have e2 : ys.drop xs.length = ys[xs.length] :: ys.drop (xs.length + 1) := (List.getElem_cons_drop (h := by omega)).symm
      refine go ?_
      refine ret1 ⟨?_, rfl⟩
      rw [cmpL_drop _ hI (Nat.le_refl _) hky, e1, e2]
      rfl
    · have e2 : ys.drop xs.length = [] := List.drop_eq_nil_of_le (by omega)
      refine go ?_
      refine ret1 ⟨?_, rfl⟩
      rw [cmpL_drop _ hI (Nat.le_refl _) hky, e1, e2]
      rfl
set_option maxHeartbeats 1000000 in
theorem numberOf_ok {p : Pr} [hc : ConAll p] {x : El p} {w : World} {vp vx : Value} {xs : List Int} {lo hi lo1 hi1 : Nat} [hp : PresP lo hi w vp p] [hx : Ints lo1 hi1 w vx xs] (hxe : xs = x.v) :
    Calls Try.prog 114 #[vp, vx] w (Ret fun v w' => v = .int .i64 ((numE x : Nat) : Int) ∧ Ext w w') := by
  subst hxe
  have hv := hc.valid
  have hn6 := hv.n6
  have hol : p.ord.length = p.n := rfl
  have hxl := x.inr.len
  have hl : ∀ d, d ∈ List.range p.n → d < p.n := fun d hd => List.mem_range.1 hd
  obtain ⟨g, og, vo, vpw, vc, ps, cs, css, rfl, hg1, hg2, hc0, hc1, hc2, h1, h2, h3⟩ := hp.ex
  refine enter (args := [.pointer (some ⟨g, og, none⟩), vx]) (l := [.tmp 4]) Try.func114 rfl rfl Try.ntmps114 (by simp) ?_
  refine go ?_
  refine r_for p.n (fun k ρ w' => Has ρ [(0, .pointer (some ⟨g, og, none⟩)), (5, .int .i64 (numF p ((List.range p.n).take k) x)), (8, vx), (9, .int .i64 x.v.length), (10, .int .i64 k)] ∧ Ext w w') ?_ ?_
  · refine ⟨?_, Ext.refl _⟩
    exact hasP
  rintro k ρ w2 hk ⟨hH, he2⟩
  refine rwp_has hH fun ρ0 => ?_
  refine go ?_
  refine c_if (fun h4 => ?_) (fun h4 => ?_)
  · have hkn : k < p.n := by omega
    have hod := hv.opos hkn
    have hcr : 0 ≤ co x k ∧ co x k < p.o k := x.inr.rng k hkn
    have hb := numF_rng hv (List.range p.n) x hl (by simpa using hn6) (k := k) (by simpa using hk)
    have hm : 0 ≤ numF p ((List.range p.n).take k) x * p.o k ∧ numF p ((List.range p.n).take k) x * p.o k ≤ 117648 * 7 := ⟨Int.mul_nonneg (by omega) (by omega), Int.mul_le_mul hb.2 hod.2 (by omega) (by omega)⟩
    have hmb : -9223372036854775808 ≤ numF p ((List.range p.n).take k) x * p.o k ∧ numF p ((List.range p.n).take k) x * p.o k ≤ 9223372036854775807 := ⟨by omega, by omega⟩
    obtain ⟨q, hq⟩ : ∃ q, numF p ((List.range p.n).take k) x * p.o k = q := ⟨_, rfl⟩
    have hstep := numF_take (List.range p.n) x (k := k) (by simpa using hkn)
    rw [show (List.range p.n)[k]'(by simpa using hkn) = k by simp, hq] at hstep
    refine go ?_
    rw [show p.ord.getD k 0 = p.o k from rfl]
    refine ra (h := rd_mul (by ((try simp only [ev_tmp, ev_const, ev_func, get_put, get_args, get_putL, get_putL_nil, Nat.reduceEqDiff, reduceIte, List.getD_cons_zero, List.getD_cons_succ, List.getD_nil]); first | done | with_reducible rfl)) (by ((try simp only [ev_tmp, ev_const, ev_func, get_put, get_args, get_putL, get_putL_nil, Nat.reduceEqDiff, reduceIte, List.getD_cons_zero, List.getD_cons_succ, List.getD_nil]); first | done | with_reducible rfl)) hmb) (next := ?_)
    rw [hq] at hm ⊢
    rw [show x.v.getD k 0 = co x k from rfl]
    refine go ?_
    refine forQ_normal (by omega) ⟨?_, he2⟩
    rw [hstep]
    exact hasP
  · obtain rfl : k = p.n := by omega
    rw [show (List.range p.n).take p.n = List.range p.n by rw [List.take_of_length_le]; simp]
    refine go ?_
    exact ret1 ⟨by rw [numE_cast], he2⟩
theorem boolT {P : Program} {t : TypeId} (h : (P.info? t).map (·.zero) = some (some (.bool false))) : BoolT P t := by
  cases hx : P.info? t with
  | none => rw [hx] at h; cases h
  | some i => rw [hx] at h; simp at h; exact ⟨⟨i, hx, h⟩⟩
instance : MapT Try.prog 156 2 4 := ⟨Try.underlying156⟩
instance : IntT Try.prog 2 := ⟨⟨_, Try.underlying2⟩⟩
instance : BoolT Try.prog 4 := boolT (by kernel_rfl)
theorem cmp_ok {p : Pr} {w : World} {va vb : Value} {x y : El p} {lo hi lo' hi' : Nat} (hx : Ints lo hi w va x.v) (hy : Ints lo' hi' w vb y.v) (hn : p.n ≤ 6) : Calls Try.prog 122 #[va, vb] w fun e w' => e = .returned (.int .i64 (cmpL x.v y.v)) ∧ w' = w := by
  have hl := x.inr.len
  refine (compareL_ok (xs := x.v) (ys := y.v) (by omega)).mono fun e w' h => ?_
  cases e with
  | returned v => obtain ⟨rfl, rfl⟩ := h; exact ⟨rfl, rfl⟩
  | _ => exact h.elim
theorem fnT_enter {P : Program} {f : FuncId} [hf : FnT P f] (args : Array Value) (w : World) : (callFunc f args).run P w = .ok (.enter f args) w := by
  obtain ⟨fn, c, h1, h2, h3⟩ := hf.ex
  simp [callFunc, h1, h2, h3]
set_option maxHeartbeats 8000000 in
theorem classOf_ok {p : Pr} [hc : ConAll p] {x : El p} {w : World} {vp vx : Value} {xs : List Int} {lo hi lo1 hi1 : Nat} [hp : PresP lo hi w vp p] [hx : Ints lo1 hi1 w vx xs] (hxe : xs = x.v) :
    Calls Try.prog 117 #[vp, vx] w (Ret fun v w' => Ext w w' ∧ ∃ rs, vecs (clsL x) = rs.map (·.2) ∧ MatO w.heap.size w'.heap.size w' v rs) := by
  subst hxe
  have hv := hc.valid
  have hn6 := hv.n6
  have hxl := x.inr.len
  have hgl := gensL_len p
  obtain ⟨hoe, ho1, ho2⟩ := ordN_rng p
  replace hp := hp.wide
  replace hx := hx.wide
  refine enter (args := [vp, vx]) (l := [.tmp 4]) Try.func117 rfl rfl Try.ntmps117 (by simp) ?_
  refine go ?_
  refine rc (cloneI_ok (xs := x.v) (by omega)) (next := fun v1 w1 h1 => ?_)
  obtain ⟨he1, hf1⟩ := h1
  have hz1 := he1.size
  refine go ?_
  refine st_slice1o (u := v1) (by ((try simp only [ev_tmp, ev_const, ev_func, get_put, get_args, get_putL, get_putL_nil, Nat.reduceEqDiff, reduceIte, List.getD_cons_zero, List.getD_cons_succ, List.getD_nil]); first | done | with_reducible rfl)) hf1.ints.sl.cells rfl (by first | exact True.intro | exact ⟨_, rfl, by ((try simp only [ev_tmp, ev_const, ev_func, get_put, get_args, get_putL, get_putL_nil, Nat.reduceEqDiff, reduceIte, List.getD_cons_zero, List.getD_cons_succ, List.getD_nil, Bool.not_true, Bool.not_false]); first | done | with_reducible rfl)⟩) fun w2 v2 he2 hs2 ho2 => ?_
  have hE2 := he1.trans he2
  have hz2 := he2.size
  have hR2 : RowsO w.heap.size w2 [(v1, x.v)] := ((RowsO.nil w.heap.size w).push he1 (Nat.le_refl _) hf1).ext he2
  have hG2 : GrL 22 w.heap.size w2 v2 [(v1, x.v)] := ⟨ho2.toN.mono hz1, hR2, fun b hb hB => by
    rw [ho2.toN_block] at hb; injection hb with hb
    obtain ⟨r, hr, hn, eb⟩ := hB
    obtain rfl := List.mem_singleton.1 hr
    obtain ⟨g, e1, _, e3⟩ := hf1.block hn
    rw [eb] at e1; injection e1 with e1
    omega⟩
  clear ho2 hR2
  refine go ?_
  refine st_makeMap (by first | exact True.intro | exact ⟨_, rfl, by ((try simp only [ev_tmp, ev_const, ev_func, get_put, get_args, get_putL, get_putL_nil, Nat.reduceEqDiff, reduceIte, List.getD_cons_zero, List.getD_cons_succ, List.getD_nil, Bool.not_true, Bool.not_false]); first | done | with_reducible rfl)⟩) fun w3 bm he3 hbm hs3 hM3 => ?_
  have hE3 := hE2.trans he3
  have hz3 := he3.size
  refine go ?_
  refine rc (numberOf_ok (p := p) (x := x) rfl) (next := fun v4 w4 h4 => ?_)
  obtain ⟨rfl, he4⟩ := h4
  have hz4 := he4.size
  refine go ?_
  refine st_insert (k := ((numE x : Nat) : Int)) (by ((try simp only [ev_tmp, ev_const, ev_func, get_put, get_args, get_putL, get_putL_nil, Nat.reduceEqDiff, reduceIte, List.getD_cons_zero, List.getD_cons_succ, List.getD_nil]); first | done | with_reducible rfl)) (by ((try simp only [ev_tmp, ev_const, ev_func, get_put, get_args, get_putL, get_putL_nil, Nat.reduceEqDiff, reduceIte, List.getD_cons_zero, List.getD_cons_succ, List.getD_nil]); first | done | with_reducible rfl)) (by ((try simp only [ev_tmp, ev_const, ev_func, get_put, get_args, get_putL, get_putL_nil, Nat.reduceEqDiff, reduceIte, List.getD_cons_zero, List.getD_cons_succ, List.getD_nil]); first | done | with_reducible rfl)) (hM3.ext he4) (by simp) (by first | exact True.intro | exact ⟨_, rfl, by ((try simp only [ev_tmp, ev_const, ev_func, get_put, get_args, get_putL, get_putL_nil, Nat.reduceEqDiff, reduceIte, List.getD_cons_zero, List.getD_cons_succ, List.getD_nil, Bool.not_true, Bool.not_false]); first | done | with_reducible rfl)⟩) fun w5 hc5 hs5 hM5 => ?_
  have hE5 : Ext w w5 := hc5.ext (hE3.trans he4) (by omega)
  have hoff2 : ¬ FL v2 [(v1, x.v)] bm := fun h => by have := (hG2.lt h).2; omega
  have hI5 : CoM 22 w.heap.size w5 bm v2 [(v1, x.v)] [x] := ⟨(hG2.wr (.ofExt (B := fun _ => False) (he3.trans he4)) fun _ _ h => h.elim).wr (.one (B := fun g => g = bm) rfl hc5) fun b hb e => hoff2 (e ▸ hb), by simpa using hM5, hoff2, by simp [vecs], by omega⟩
  clear hG2 hM3 hM5
  refine go ?_
  refine r_for (ordN p) (fun k ρ w' => ∃ vl rs ys, Has ρ [(0, vp), (5, vl), (6, .map (some bm)), (7, .int .i64 k)] ∧ Ext w w' ∧ CoM 22 w.heap.size w' bm vl rs ys ∧ CoI x ys k 0) ?_ ?_
  · refine ⟨v2, _, [x], ?_, hE5, hI5, CoI.start x⟩
    exact hasP
  clear hI5
  rintro k ρ w6 hk ⟨vl, rs, ys, hH, hE6, hM6, hI6⟩
  refine rwp_has hH fun ρ0 => ?_
  have hlen6 := hM6.g.own.toSl.toLen
  have hrl := hM6.len
  have hyl := hI6.len
  simp only [List.length_map] at hlen6
  refine go ?_
  refine c_if (fun h7 => ?_) (fun h7 => ?_)
  · have hkn : k < ys.length := by omega
    have hgk := vecs_getD ys hkn
    refine go ?_
    refine rc (generators_ok (p := p)) (next := fun v8 w8 h8 => ?_)
    obtain ⟨he8, rs8, hrs8, hM8⟩ := h8
    have hR8 := hM8.rows
    rw [← hrs8] at hR8
    have hvl8 : (vecs (gensL p)).length = p.n := by simp [hgl]
    refine go ?_
    refine r_for p.n (fun t ρ w' => ∃ vl rs ys, Has ρ [(0, vp), (5, vl), (6, .map (some bm)), (7, .int .i64 k), (27, v8), (28, .int .i64 (vecs (gensL p)).length), (29, .int .i64 t)] ∧ Ext w w' ∧ CoM 22 w.heap.size w' bm vl rs ys ∧ CoI x ys k t ∧ k < ys.length ∧ Pc.Rows w6.heap.size w8.heap.size w' v8 (rs8.map (·.1)) (vecs (gensL p)) ∧ w8.heap.size ≤ w'.heap.size ∧ ∀ b, FL vl rs b → b < w6.heap.size ∨ w8.heap.size ≤ b) ?_ ?_
    · refine ⟨vl, rs, ys, ?_, hE6.trans he8, hM6.ext he8, hI6, hkn, hR8, Nat.le_refl _, fun b hb => .inl (hM6.g.lt hb).2⟩
      exact hasP
    have hbm6 : bm < w6.heap.size := hM6.m.lt
    clear hM6 hI6 hR8 hlen6 hgk
    rintro t ρ w9 ht ⟨vl9, rs9, ys9, hH9, hE9, hM9, hI9, hk9, hR9, hz9, hap9⟩
    refine rwp_has hH9 fun ρ1 => ?_
    have hrl9 := hM9.len
    have hyl9 := hI9.len
    have hbm9 := hM9.m.lt
    refine go ?_
    refine c_if (fun h10 => ?_) (fun h10 => ?_)
    · have htn : t < (gensL p).length := by omega
      have hgt := vecs_getD (gensL p) htn
      have hgk := vecs_getD ys9 hk9
      have eg1 : (gensL p).getD t 1 = (gensL p)[t] := by simp [htn]
      have eg2 : ys9.getD k 1 = ys9[k] := by simp [hk9]
      have hRl := (hM9.g.grow (by have := hE9.size; omega)).rows
      rw [hM9.eq] at hRl
      have hyv : (vecs ys9).length = ys9.length := by simp
      refine go ?_
      refine rc (conjugate_ok (p := p) (i := 0) (x := ys9[k]) (y := (gensL p)[t]) (Nat.zero_le _) hgk hgt) (next := fun v11 w11 h11 => ?_)
      obtain ⟨he11, hf11⟩ := h11
      have hi11 := hf11.ints
      have hz11 := he11.size
      refine go ?_
      refine rc (numberOf_ok (p := p) (x := Grp.cj ys9[k] (gensL p)[t]) rfl) (next := fun v12 w12 h12 => ?_)
      obtain ⟨rfl, he12⟩ := h12
      have hx12 := he11.trans he12
      have hM12 := hM9.ext hx12
      have hz12 := he12.size
      refine go ?_
      refine ra (h := rd_lookup (by ((try simp only [ev_tmp, ev_const, ev_func, get_put, get_args, get_putL, get_putL_nil, Nat.reduceEqDiff, reduceIte, List.getD_cons_zero, List.getD_cons_succ, List.getD_nil]); first | done | with_reducible rfl)) (by ((try simp only [ev_tmp, ev_const, ev_func, get_put, get_args, get_putL, get_putL_nil, Nat.reduceEqDiff, reduceIte, List.getD_cons_zero, List.getD_cons_succ, List.getD_nil]); first | done | with_reducible rfl)) hM12.m) (next := ?_)
      refine go ?_
      refine c_b (fun hin => ?_) (fun hin => ?_)
      · have hin : ((numE (Grp.cj ys9[k] (gensL p)[t]) : Nat) : Int) ∉ ys9.map (fun y => ((numE y : Nat) : Int)) := by simpa using hin
        have hnum : numE (Grp.cj ys9[k] (gensL p)[t]) ∉ ys9.map numE := fun h => hin (by
          obtain ⟨z, hz, e⟩ := List.mem_map.1 h
          exact List.mem_map.2 ⟨z, hz, by rw [e]⟩)
        refine go ?_
        refine st_mapUpdate (k := ((numE (Grp.cj ys9[k] (gensL p)[t]) : Nat) : Int)) (by ((try simp only [ev_tmp, ev_const, ev_func, get_put, get_args, get_putL, get_putL_nil, Nat.reduceEqDiff, reduceIte, List.getD_cons_zero, List.getD_cons_succ, List.getD_nil]); first | done | with_reducible rfl)) (by ((try simp only [ev_tmp, ev_const, ev_func, get_put, get_args, get_putL, get_putL_nil, Nat.reduceEqDiff, reduceIte, List.getD_cons_zero, List.getD_cons_succ, List.getD_nil]); first | done | with_reducible rfl)) (by ((try simp only [ev_tmp, ev_const, ev_func, get_put, get_args, get_putL, get_putL_nil, Nat.reduceEqDiff, reduceIte, List.getD_cons_zero, List.getD_cons_succ, List.getD_nil]); first | done | with_reducible rfl)) hM12.m hin (by first | exact True.intro | exact ⟨_, rfl, by ((try simp only [ev_tmp, ev_const, ev_func, get_put, get_args, get_putL, get_putL_nil, Nat.reduceEqDiff, reduceIte, List.getD_cons_zero, List.getD_cons_succ, List.getD_nil, Bool.not_true, Bool.not_false]); first | done | with_reducible rfl)⟩) fun w13 hc13 hs13 hm13 => ?_
        have hO13 : OwnN 22 w.heap.size w13 vl9 (rs9.map (·.1)) := hM12.g.own.other hc13 fun e => hM12.off (.inl e)
        have hbm8 : bm < w6.heap.size := hbm6
        refine go ?_
        refine st_growu (u := v11) hO13 hi11.sl.cells hi11.sl.one (by have := hE9.size; omega) (by rw [List.length_map]; omega) (fun v14 v15 w15 ho15 hx15 hz15 hst15 => ?_)
        have hM15 := hM9.push he11 hf11 hE9.size he12 hc13 hm13 ho15 hst15
        have hI15 := hI9.new hk9 (y := Grp.cj ys9[k] (gensL p)[t]) (by rw [eg1, eg2]) hnum
        have hE13 : Ext w w13 := hc13.ext (hE9.trans hx12) hM9.sb
        have hwr : Wrt (fun b => b < w6.heap.size ∨ w8.heap.size ≤ b) w9 w15 := by
          obtain ⟨w14, x14, hg14, _⟩ := hst15.ex
          exact ((Wrt.step (.ofExt hx12) (.inl hbm8) hc13).trans (.ofExt x14)).trans ((Wrt.grown hg14).mono fun b hb => hap9 b (.inl hb))
        refine go ?_
        refine forQ_normal (by omega) ⟨v15, _, _, ?_, hx15 w hE13 (Nat.le_refl _), hM15, hI15, by rw [List.length_append]; omega, hR9.same (hwr.same fun b hb => by omega), Nat.le_trans hz9 hwr.size, fun b hb => ?_⟩
        · exact hasP
        · rcases FL.pend hf11 hst15 (Nat.le_trans hz11 (Nat.le_trans hz12 hc13.size)) hb with hb | hb
          · exact hap9 b hb
          · omega
      · have hmem := hI9.num.1 (of_decide_eq_true (by simpa using hin))
        refine go ?_
        refine forQ_normal (by omega) ⟨vl9, rs9, ys9, ?_, hE9.trans hx12, hM12, hI9.seen (by rw [eg1, eg2]; exact hmem), hk9, hR9.same (hx12.same _ _), by omega, hap9⟩
        exact hasP
    · obtain rfl : t = p.n := by omega
      refine go ?_
      refine forQ_normal (by omega) ⟨vl9, rs9, ys9, ?_, hE9, hM9, hI9.next (by omega)⟩
      exact hasP
  · have hRl := (hM6.g.grow (by have := hE6.size; omega))
    obtain ⟨b6, hb6, hvb6, ho6⟩ := hM6.g.own.toOwn (by
      intro h
      have := congrArg List.length h
      rw [List.length_map, List.length_nil] at this
      omega)
    refine go ?_
    refine rc (sortEl_ok (p := p) (ys := ys) shl fnT_enter (fun hx hy => cmp_ok hx hy hn6) ho6 (by rw [List.length_map]; omega) (grL_ap hM6.g hE6.size hM6.eq hvb6) (by rw [List.length_map]; omega)) (next := fun v7 w7 h8 => ?_)
    obtain ⟨rfl, zs, hperm, hpw, hc7, ho7⟩ := h8
    have hG7 := grL_sorted hM6.g hM6.eq hperm hc7 hvb6 ho7
    obtain ⟨hsl, hsm⟩ := sorted_lt (us := rs.map (·.1)) (by rw [List.length_map]; exact hrl) hperm hpw hI6.nod
    have hfin := hI6.fin (by omega) hsl hsm
    have hz7 := hc7.size
    have hE7 : Ext w w7 := hc7.ext hE6 (hM6.g.own.lt b6 hvb6).1
    refine go ?_
    refine ret1 ⟨hE7, _, ?_, (hG7.grow hE7.size).mat⟩
    rw [← hfin, List.map_map]
    simp only [vecs, List.map_map]
    rfl
end Go.Proofs.Ytjljbfcdpdckeaa

/-
  Walks: slices.BinarySearchFunc, slices.IndexFunc at lists of classes, classNumber, classesOf; the program's ConjugacyClass, ClassNumber, CommutingPairs.
  Conditions: stated at each theorem.
-/
namespace Go.Proofs.Ytjljbfcdpdckeaa
open Go Go.Pc
section
variable {p : Pr} [hc : ConAll p]
theorem idxIn_first {x : El p} : ∀ (l : List (List (El p))) (i : Nat), i < l.length → x ∈ l.getD i [] → (∀ m, m < i → x ∉ l.getD m []) → idxIn l x = i
  | [], i, h, _, _ => by simp at h
  | c :: l, 0, _, h, _ => by
    have h : x ∈ c := h
    simp only [idxIn, if_pos h]; rfl
  | c :: l, i + 1, hi, h, hm => by
    have h0 : x ∉ c := hm 0 (by omega)
    have ih := idxIn_first l i (by simpa using hi) (by simpa using h) (fun m hm' => by simpa using hm (m + 1) (by omega))
    simp only [idxIn, if_neg h0]
    rw [ih, if_pos (by omega)]; push_cast; rfl
theorem idxIn_none {x : El p} : ∀ (l : List (List (El p))), (∀ i, i < l.length → x ∉ l.getD i []) → idxIn l x = -1
  | [], _ => rfl
  | c :: l, h => by
    have h0 : x ∉ c := h 0 (by simp)
    have ih := idxIn_none l fun i hi => by simpa using h (i + 1) (by simpa using hi)
    simp only [idxIn, if_neg h0]
    rw [ih, if_neg (by omega)]
theorem sorted_get {ys : List (El p)} (hs : ys.Pairwise fun a b => numE a < numE b) {i j : Nat} (h : i < j) (hj : j < ys.length) : numE (ys.getD i 1) < numE (ys.getD j 1) := by
  have := List.pairwise_iff_getElem.1 hs i j (by omega) hj h
  simpa [hj, show i < ys.length by omega] using this
theorem sorted_get' {ys : List (El p)} (hs : ys.Pairwise fun a b => numE a < numE b) {i j : Nat} (h : i ≤ j) (hj : j < ys.length) : numE (ys.getD i 1) ≤ numE (ys.getD j 1) := by
  by_cases e : i = j
  · rw [e]; exact Nat.le_refl _
  · exact Nat.le_of_lt (sorted_get hs (by omega) hj)
set_option maxHeartbeats 4000000 in
theorem binSearch_ok {x : El p} {ys : List (El p)} (hs : ys.Pairwise fun a b => numE a < numE b) (hyl : ys.length ≤ 1000000) {w : World} {vl vx : Value} {us : List Value} {xss : List (List Int)} {xs : List Int} {lo hi lo1 hi1 : Nat} [hR : Pc.Rows lo hi w vl us xss] [hx : Ints lo1 hi1 w vx xs] (hus : xss = vecs ys) (hxe : xs = x.v) :
    Calls Try.prog 121 #[vl, vx, .func (.func 122) #[] #[]] w (Ret fun v w' => ∃ (i : Int) (b : Bool), v = .tuple #[.int .i64 i, .bool b] ∧ (b = true ↔ x ∈ ys) ∧ w' = w) := by
  subst hus hxe
  have hn6 := hc.valid.n6
  have hxl := x.inr.len
  have hyv : (vecs ys).length = ys.length := by simp
  have hvl := hR.vals.len
  have hget : ∀ m, m < ys.length → (vecs ys).getD m [] = (ys.getD m 1).v := fun m hm => by rw [vecs_getD ys hm]; simp [hm]
  have hlen : ∀ m, m < ys.length → ((vecs ys).getD m []).length ≤ 1000000 := fun m hm => by rw [hget m hm, (ys.getD m 1).inr.len]; omega
  refine enter (args := [vl, vx, .func (.func 122) #[] #[]]) (l := [.tmp 6, .tmp 7]) Try.func121 rfl rfl Try.ntmps121 (by simp) ?_
  refine go ?_
  refine r_loop (fun n ρ w' => ∃ i j : Nat, Has ρ [(0, vl), (1, vx), (2, .func (.func 122) #[] #[]), (8, .int .i64 ys.length), (9, .int .i64 i), (10, .int .i64 j)] ∧ w' = w ∧ i ≤ j ∧ j ≤ ys.length ∧ n = j - i ∧ (∀ m, m < i → numE (ys.getD m 1) < numE x) ∧ ∀ m, j ≤ m → m < ys.length → numE x ≤ numE (ys.getD m 1)) ys.length ?_ ?_
  · refine ⟨0, ys.length, ?_, rfl, Nat.zero_le _, Nat.le_refl _, by omega, fun m hm => by omega, fun m h1 h2 => by omega⟩
    exact hasP
  rintro n ρ w2 ⟨i, j, hH, rfl, hij, hjl, rfl, hlo, hhi⟩
  refine rwp_has hH fun ρ0 => ?_
  refine go ?_
  refine c_if (fun h4 => ?_) (fun h4 => ?_)
  · obtain ⟨h, hh⟩ : ∃ h, (i + j) / 2 = h := ⟨_, rfl⟩
    have hhl : h < ys.length := by omega
    have hg := hget h hhl
    have hln := hlen h hhl
    refine go ?_
    refine ra (v := .int .u64 ((i + j : Nat) : Int)) (h := rd_conv (u := .int .i64) (by ((try simp only [ev_tmp, ev_const, ev_func, get_put, get_args, get_putL, get_putL_nil, Nat.reduceEqDiff, reduceIte, List.getD_cons_zero, List.getD_cons_succ, List.getD_nil]); first | done | with_reducible rfl)) (by kernel_rfl) (by kernel_rfl) (by rw [IntKind.wrap_u64]; omega)) (next := ?_)
    refine ra (v := .int .u64 (h : Int)) (h := rd_bin (a := .int .u64 ((i + j : Nat) : Int)) (b := .int .u64 1) (by ((try simp only [ev_tmp, ev_const, ev_func, get_put, get_args, get_putL, get_putL_nil, Nat.reduceEqDiff, reduceIte, List.getD_cons_zero, List.getD_cons_succ, List.getD_nil]); first | done | with_reducible rfl)) (by ((try simp only [ev_tmp, ev_const, ev_func, get_put, get_args, get_putL, get_putL_nil, Nat.reduceEqDiff, reduceIte, List.getD_cons_zero, List.getD_cons_succ, List.getD_nil]); first | done | with_reducible rfl)) (fun _ => rfl) (fun _ => by rw [binOp_shr, shift_shr _ _ _ _ (by decide) (by decide), show ((i + j : Nat) : Int) / 2 ^ (1 : Int).toNat = (h : Int) by rw [show (2 : Int) ^ (1 : Int).toNat = 2 from rfl]; omega]; rfl)) (next := ?_)
    refine ra (v := .int .i64 (h : Int)) (h := rd_conv (u := .int .u64) (by ((try simp only [ev_tmp, ev_const, ev_func, get_put, get_args, get_putL, get_putL_nil, Nat.reduceEqDiff, reduceIte, List.getD_cons_zero, List.getD_cons_succ, List.getD_nil]); first | done | with_reducible rfl)) (by kernel_rfl) (by kernel_rfl) (IntWalk.i64_in _ (by omega))) (next := ?_)
    refine go ?_
    refine rc (compareL_ok hln) (next := fun v5 w5 h5 => ?_)
    obtain ⟨rfl, rfl⟩ := h5
    rw [hg]
    refine go ?_
    refine c_if (fun h6 => ?_) (fun h6 => ?_)
    · have h7 := numE_lt_iff.1 h6
      refine go ?_
      refine loopQ_normal (m := j - (h + 1)) (by omega) ⟨h + 1, j, ?_, rfl, by omega, hjl, rfl, fun m hm => ?_, hhi⟩
      · exact hasP
      · have := sorted_get' hs (i := m) (j := h) (by omega) hhl; omega
    · have h7 : ¬ numE (ys.getD h 1) < numE x := fun k => h6 (numE_lt_iff.2 k)
      refine go ?_
      refine loopQ_normal (m := h - i) (by omega) ⟨i, h, ?_, rfl, by omega, by omega, rfl, hlo, fun m h1 h2 => ?_⟩
      · exact hasP
      · have := sorted_get' hs (i := h) (j := m) h1 h2; omega
  · obtain rfl : i = j := by omega
    have hmem : x ∈ ys ↔ i < ys.length ∧ ys.getD i 1 = x := by
      constructor
      · intro hm
        obtain ⟨m, hml, rfl⟩ := List.getElem_of_mem hm
        have e : ys.getD m 1 = ys[m] := by simp [hml]
        have h1 : ¬ m < i := fun h => by have := hlo m h; rw [e] at this; omega
        have h2 : m ≤ i := by
          refine Decidable.byContradiction fun h => ?_
          have h3 := hhi i (Nat.le_refl _) (by omega)
          have h4 := sorted_get hs (i := i) (j := m) (by omega) hml
          rw [e] at h4
          omega
        obtain rfl : m = i := by omega
        exact ⟨hml, e⟩
      · rintro ⟨h1, h2⟩
        rw [← h2]
        simp [h1]
    refine go ?_
    refine spd (fun h5 => ?_) (fun h5 => ?_)
    · have hil : i < ys.length := by omega
      have hln := hlen i hil
      refine go ?_
      refine rc (compareL_ok hln) (next := fun v5 w5 h6 => ?_)
      obtain ⟨rfl, rfl⟩ := h6
      rw [hget i hil]
      refine go ?_
      refine ret2 ⟨_, _, rfl, ?_, rfl⟩
      rw [hmem, decide_eq_true_iff, cmpL_el]
      exact ⟨fun h => ⟨hil, h⟩, fun h => h.2⟩
    · refine go ?_
      refine ret2 ⟨_, false, rfl, ?_, rfl⟩
      rw [hmem]
      simp only [Bool.false_eq_true, false_iff]
      rintro ⟨h6, _⟩
      omega
set_option maxHeartbeats 400000 in
theorem classFn_ok {x : El p} {ys : List (El p)} (hs : ys.Pairwise fun a b => numE a < numE b) (hyl : ys.length ≤ 1000000) {w : World} {vl vx : Value} {us : List Value} {xss : List (List Int)} {xs : List Int} {bx lo hi lo1 hi1 : Nat} [hR : Pc.Rows lo hi w vl us xss] [hx : Ints lo1 hi1 w vx xs] [hcx : Cell w bx 0 vx] (hus : xss = vecs ys) (hxe : xs = x.v) :
    Calls Try.prog 120 #[vl, .pointer (some ⟨bx, 0, none⟩)] w (Ret fun v w' => ∃ b, v = .bool b ∧ (b = true ↔ x ∈ ys) ∧ Ext w w') := by
  refine enter (args := [vl, .pointer (some ⟨bx, 0, none⟩)]) (l := [.tmp 3]) Try.func120 rfl rfl Try.ntmps120 (by simp) ?_
  refine go ?_
  refine rc (binSearch_ok (x := x) hs hyl hus hxe) (next := fun v1 w1 h1 => ?_)
  obtain ⟨i, b, rfl, hb, rfl⟩ := h1
  refine go ?_
  exact ret1 ⟨b, rfl, hb, Ext.refl _⟩
set_option maxHeartbeats 400000 in
theorem indexFuncC_ok {f : FuncId} {caps : Array Value} [hf : FnT Try.prog f] {w : World} {v : Value} {us : List Value} {uss : List (List Value)} {xsss : List (List (List Int))} {lo hi : Nat} {bad : Nat → Prop} [hx : Pc.Rowss lo hi w v us uss xsss] (hl : xsss.length ≤ 2000000)
    (hcall : ∀ {w' : World}, Ext w w' → ∀ i, i < xsss.length → Calls Try.prog f (#[Pc.rowAt v us i] ++ caps) w' (Ret fun r w'' => ∃ b, r = .bool b ∧ (b = true ↔ bad i) ∧ Ext w' w'')) :
    Calls Try.prog 119 #[v, .func (.func f) #[] caps] w (Ret fun r w' => ∃ j : Int, r = .int .i64 j ∧ ((j = -1 ∧ ∀ i, i < xsss.length → ¬ bad i) ∨ ∃ i : Nat, j = i ∧ i < xsss.length ∧ bad i ∧ ∀ m, m < i → ¬ bad m) ∧ Ext w w') := by
  have hvl := hx.vals.len
  refine enter (args := [v, .func (.func f) #[] caps]) (l := [.tmp 4]) Try.func119 rfl rfl Try.ntmps119 (by simp) ?_
  refine go ?_
  refine r_for xsss.length (fun k ρ w' => Has ρ [(0, v), (1, .func (.func f) #[] caps), (7, .int .i64 xsss.length), (8, .int .i64 k)] ∧ Ext w w' ∧ ∀ i, i < k → ¬ bad i) ?_ ?_
  · refine ⟨?_, Ext.refl _, fun i hi => by omega⟩
    exact hasP
  rintro k ρ w2 hk ⟨hH, he2, hI⟩
  refine rwp_has hH fun ρ0 => ?_
  refine go ?_
  refine c_if (fun h4 => ?_) (fun h4 => ?_)
  · have hkn : k < xsss.length := by omega
    refine go ?_
    refine rc (hcall he2 k hkn) (ho := cl_clo (by ((try simp only [ev_tmp, ev_const, ev_func, get_put, get_args, get_putL, get_putL_nil, Nat.reduceEqDiff, reduceIte, List.getD_cons_zero, List.getD_cons_succ, List.getD_nil]); first | done | with_reducible rfl)) (by simp only [List.map_toArray, List.map_cons, List.map_nil, ev_tmp, ev_const, ev_func, get_put, get_args, get_putL, get_putL_nil, Nat.reduceEqDiff, reduceIte, List.getD_cons_zero, List.getD_cons_succ, List.getD_nil])) (next := fun v3 w3 h3 => ?_)
    obtain ⟨b3, rfl, hb3, he3⟩ := h3
    refine go ?_
    refine c_b (fun h5 => ?_) (fun h5 => ?_)
    · refine go ?_
      exact ret1 ⟨k, rfl, .inr ⟨k, rfl, hkn, hb3.1 h5, hI⟩, he2.trans he3⟩
    · refine go ?_
      refine forQ_normal (by omega) ⟨?_, he2.trans he3, fun i hi => ?_⟩
      · exact hasP
      · by_cases e : i = k
        · subst e; exact fun h => by rw [hb3.2 h] at h5; cases h5
        · exact hI i (by omega)
  · refine go ?_
    exact ret1 ⟨-1, rfl, .inl ⟨rfl, fun i hi => hI i (by omega)⟩, he2⟩
set_option maxHeartbeats 1000000 in
theorem classNumber_ok {x : El p} {l : List (List (El p))} (hs : ∀ c, c ∈ l → c.Pairwise (fun a b => numE a < numE b) ∧ c.length ≤ 1000000) (hl : l.length ≤ 1000000) {w : World} {vl vx : Value} {us : List Value} {uss : List (List Value)} {xsss : List (List (List Int))} {xs : List Int} {lo hi lo1 hi1 : Nat} [hR : Pc.Rowss lo hi w vl us uss xsss] [hx : Ints lo1 hi1 w vx xs] (hus : xsss = l.map vecs) (hxe : xs = x.v) :
    Calls Try.prog 67 #[vl, vx] w (Ret fun v w' => v = .int .i64 (idxIn l x) ∧ Ext w w') := by
  subst hus hxe
  have hll : (l.map vecs).length = l.length := by simp
  replace hR := hR.wide
  replace hx := hx.wide
  have hxc := hx.sl.cells
  refine enter (args := [vl, vx]) (l := [.tmp 4]) Try.func67 rfl rfl Try.ntmps67 (by simp) ?_
  refine r_seq ?_
  refine r_region rfl ?_
  refine st_box1 (v := vx) (by ((try simp only [ev_tmp, ev_const, ev_func, get_put, get_args, get_putL, get_putL_nil, Nat.reduceEqDiff, reduceIte, List.getD_cons_zero, List.getD_cons_succ, List.getD_nil]); first | done | with_reducible rfl)) hxc (by first | exact True.intro | exact ⟨_, rfl, by ((try simp only [ev_tmp, ev_const, ev_func, get_put, get_args, get_putL, get_putL_nil, Nat.reduceEqDiff, reduceIte, List.getD_cons_zero, List.getD_cons_succ, List.getD_nil, Bool.not_true, Bool.not_false]); first | done | with_reducible rfl)⟩) fun w1 bx he1 hb1 hs1 hbk1 => ?_
  have hcx := hbk1.cell (k := 0) rfl
  refine go ?_
  refine ra (h := rd_makeFunc (caps := #[.pointer (some ⟨bx, 0, none⟩)]) (by simp only [List.map_toArray, List.map_cons, List.map_nil, ev_tmp, ev_const, ev_func, get_put, get_args, get_putL, get_putL_nil, Nat.reduceEqDiff, reduceIte, List.getD_cons_zero, List.getD_cons_succ, List.getD_nil])) (next := ?_)
  refine go ?_
  refine rc (indexFuncC_ok (xsss := l.map vecs) (bad := fun i => x ∈ l.getD i []) (by omega) (fun {w'} x0 i hi => ?_)) (next := fun v3 w3 h3 => ?_)
  · have hx' := he1.trans x0
    have hin : i < l.length := by omega
    have ei : (l.map vecs).getD i [] = vecs (l.getD i []) := by simp [hin]
    haveI : Ints 0 w.heap.size w' vx x.v := hx.same (hx'.same _ _)
    haveI : Cell w' bx 0 vx := hcx.same (x0.same _ _) x0.size
    have hR' : Pc.Rowss 0 w.heap.size w' vl us uss (l.map vecs) := hR.same (hx'.same _ _)
    haveI : Pc.Rows 0 w.heap.size w' (Pc.rowAt vl us i) (uss.getD i []) ((l.map vecs).getD i []) := hR'.vals.at_ i
    obtain ⟨h1, h2⟩ := hs (l.getD i []) (by simp [hin])
    exact classFn_ok (x := x) h1 h2 ei rfl
  obtain ⟨j, rfl, hj, he3⟩ := h3
  refine go ?_
  refine ret1 ⟨?_, he1.trans he3⟩
  rcases hj with ⟨rfl, h⟩ | ⟨i, rfl, h1, h2, h3⟩
  · rw [idxIn_none l fun i hi => h i (by omega)]
  · rw [idxIn_first l i (by omega) h2 h3]
theorem clsOut_sorted : ∀ (k : Nat) (c : List (El p)), c ∈ clsOut p k → c.Pairwise (fun a b => numE a < numE b) ∧ c.length ≤ 1000000
  | 0, c, h => by cases h
  | k + 1, c, h => by
    have h : c ∈ clsOut p k ++ open Classical in if 0 ≤ (idxTo p k).1 (allE p k) then [] else [clsL (allE p k)] := h
    rcases List.mem_append.1 h with h | h
    · exact clsOut_sorted k c h
    · split at h
      · cases h
      · rw [List.mem_singleton.1 h]
        refine ⟨clsL_sorted _, ?_⟩
        have h1 := selL_len (Cnj (allE p k)) (ordN p)
        have h2 := (ordN_rng p).2.2
        unfold clsL
        omega
end
theorem _root_.Go.Pc.Rowss.mono {lo hi lo' hi' : Nat} {w : World} {v : Value} {us : List Value} {uss : List (List Value)} {xsss : List (List (List Int))} (h : Pc.Rowss lo hi w v us uss xsss) (h1 : lo' ≤ lo) (h2 : hi ≤ hi') : Pc.Rowss lo' hi' w v us uss xsss :=
  ⟨h.sl.mono h1 h2, h.vals.len, h.vals.len', fun i => (h.vals.at_ i).mono h1 h2⟩
/-- What classesOf gives. -/
def ClV (p : Pr) (k : List (List (List Int))) (e : Int) : Prop := ∃ _ : ConAll p, (128 < ordN p ∧ k = [] ∧ e = 3) ∨ (ordN p ≤ 128 ∧ k = (clsOut p (ordN p)).map vecs ∧ e = 0)
set_option maxHeartbeats 4000000 in
theorem classesOf_ok {p : Pr} {w : World} {vp : Value} {lo hi : Nat} [hp : PresP lo hi w vp p] (hl : p.ord.length ≤ 2000000) :
    Calls Try.prog 66 #[vp] w (Ret fun v w' => ∃ (u : Value) (k : List (List (List Int))) (e : Int), v = .tuple #[u, .int .i64 e] ∧ Ans (IsGrp p) (ClV p) [] k e ∧ Ext w w' ∧ ∃ us uss, Pc.Rowss w.heap.size w'.heap.size w' u us uss k) := by
  have hol : p.ord.length = p.n := rfl
  replace hp := hp.wide
  have hpw := hp
  obtain ⟨g, og, vo, vpw, vc, ps, cs, css, rfl, hg1, hg2, hc0, hc1, hc2, h1, h2, h3⟩ := hp.ex
  have hpv := PresP.val (b := g) h1 h2 h3
  have hnG : ∀ w', GrowV 23 w.heap.size w.heap.size w' nilv [] [] [] := fun w' => ⟨OwnN.nil _ _ _, rfl, rfl, fun i hi => by simp at hi⟩
  have hnR : ∀ w', Ext w w' → ∃ us uss, Pc.Rowss w.heap.size w'.heap.size w' nilv us uss [] := fun w' x => ⟨[], [], (hnG w').rowss (Nat.le_refl _) x.size⟩
  refine enter (args := [.pointer (some ⟨g, og, none⟩)]) (l := [.tmp 2, .tmp 3]) Try.func66 rfl rfl Try.ntmps66 (by simp) ?_
  refine go ?_
  refine rc (impl_IsConsistent_ok (p := p) hl) (next := fun v5 w5 h5 => ?_)
  obtain ⟨b5, rfl, hb5, he5⟩ := h5
  refine go ?_
  refine c_b (fun e5 => ?_) (fun e5 => ?_)
  · refine go ?_
    refine ret2 ⟨nilv, [], 1, rfl, .inr ⟨fun h => ?_, rfl, rfl⟩, he5, hnR _ he5⟩
    rw [hb5.2 h] at e5; cases e5
  have hG := hb5.1 (by simpa using e5)
  haveI hcon : ConAll p := ⟨hG.con⟩
  obtain ⟨hoe, ho1, ho2⟩ := ordN_rng p
  refine go ?_
  refine rc (orderOf_ok (p := p) hG.valid) (next := fun v6 w6 h6 => ?_)
  obtain ⟨rfl, he6⟩ := h6
  rw [hoe]
  have hE6 := he5.trans he6
  refine go ?_
  refine c_if (fun h7 => ?_) (fun h7 => ?_)
  · refine go ?_
    exact ret2 ⟨nilv, [], 3, rfl, .inl ⟨hG, hcon, .inl ⟨by omega, rfl, rfl⟩⟩, hE6, hnR _ hE6⟩
  refine go ?_
  refine rc (allElements_ok (p := p)) (next := fun v8 w8 h8 => ?_)
  obtain ⟨he8, rs8, hrs8, hM8⟩ := h8
  have hR8 := hM8.rows
  rw [← hrs8] at hR8
  have hE8 := hE6.trans he8
  have hz8 := hE8.size
  have hvl : (vecs ((List.range (ordN p)).map (allE p))).length = ordN p := by simp
  refine go ?_
  refine r_for (ordN p) (fun k ρ w' => ∃ vl us uss, Has ρ [(0, .pointer (some ⟨g, og, none⟩)), (4, vl), (16, v8), (17, .int .i64 (ordN p)), (18, .int .i64 k)] ∧ Ext w8 w' ∧ GrowV 23 w8.heap.size w8.heap.size w' vl us uss ((clsOut p k).map vecs)) ?_ ?_
  · refine ⟨nilv, [], [], ?_, Ext.refl _, ⟨OwnN.nil _ _ _, rfl, rfl, fun i hi => by simp at hi⟩⟩
    exact hasP
  rintro k ρ w9 hk ⟨vl, us, uss, hH, he9, hG9⟩
  refine rwp_has hH fun ρ0 => ?_
  have hE9 := hE8.trans he9
  have hz9 := he9.size
  have hRR := hG9.rowss (Nat.le_refl _) hz9
  have hcl : (clsOut p k).length ≤ 128 := by
    have h1 := (clsOut_spec (p := p) k).1
    have h2 := (idxT_rng (p := p) k 1).2.2
    omega
  have hul : us.length ≤ 128 := by have := hG9.len; rw [List.length_map] at this; omega
  refine go ?_
  refine c_if (fun h10 => ?_) (fun h10 => ?_)
  · have hkn : k < ordN p := by omega
    have hxk : (vecs ((List.range (ordN p)).map (allE p))).getD k [] = (allE p k).v := by
      rw [vecs_getD _ (by simpa using hkn)]; simp
    refine go ?_
    refine rc (classNumber_ok (x := allE p k) (l := clsOut p k) (clsOut_sorted k) (by omega) rfl hxk) (next := fun v11 w11 h11 => ?_)
    obtain ⟨rfl, he11⟩ := h11
    rw [(clsOut_spec k).2]
    refine go ?_
    refine c_if (fun h12 => ?_) (fun h12 => ?_)
    · have hst : clsOut p (k + 1) = clsOut p k ++ [clsL (allE p k)] := by simp only [clsOut, if_neg (show ¬ 0 ≤ (idxTo p k).1 (allE p k) by omega)]
      refine go ?_
      refine rc (classOf_ok (p := p) (x := allE p k) hxk) (next := fun v13 w13 h13 => ?_)
      obtain ⟨he13, rs13, hrs13, hM13⟩ := h13
      have hR13 := hM13.rows
      rw [← hrs13] at hR13
      have hG11 := hG9.ext he11
      refine go ?_
      refine st_growv hG11 he13 hR13 (by have := he11.size; omega) (by have := he11.size; omega) (by omega) (next := fun v14 v15 w15 wm hG15 hx15 hz15 hxm hgm hvm => ?_)
      refine go ?_
      refine forQ_normal (by omega) ⟨v15, _, _, ?_, hx15 w8 (he9.trans (he11.trans he13)) (Nat.le_refl _), by rw [hst, List.map_append]; exact hG15⟩
      exact hasP
    · have hst : clsOut p (k + 1) = clsOut p k := by simp only [clsOut, if_pos (show 0 ≤ (idxTo p k).1 (allE p k) by omega), List.append_nil]
      refine go ?_
      refine forQ_normal (by omega) ⟨vl, us, uss, ?_, he9.trans he11, by rw [hst]; exact hG9.ext he11⟩
      exact hasP
  · obtain rfl : k = ordN p := by omega
    refine go ?_
    exact ret2 ⟨vl, _, 0, rfl, .inl ⟨hG, hcon, .inr ⟨by omega, rfl, rfl⟩⟩, hE9, us, uss, hRR.mono hz8 (Nat.le_refl _)⟩
set_option maxHeartbeats 1000000 in
theorem impl_ConjugacyClass_ok {p : Pr} {w : World} {vp vx : Value} {xs : List Int} {lo hi lo1 hi1 : Nat} [hp : Pres lo hi w vp p] [hx : Ints lo1 hi1 w vx xs] (hl : p.ord.length ≤ 2000000) :
    Calls Try.prog 53 #[vp, vx] w (Ret fun v w' => ∃ (u : Value) (k : List (List Int)) (e : Int), v = .tuple #[u, .int .i64 e] ∧ Ans (GrpE p xs) (CcV p xs) [] k e ∧ Ext w w' ∧ ∃ rs, k = rs.map (·.2) ∧ MatO w.heap.size w'.heap.size w' u rs) := by
  replace hx := hx.wide
  obtain ⟨vo, vpw, vc, ps, cs, css, rfl, h1, h2, h3⟩ := hp.ex
  refine enter (args := [.agg #[vo, vpw, vc], vx]) (l := [.tmp 4, .tmp 5]) Try.func53 rfl rfl Try.ntmps53 (by simp) ?_
  refine go ?_
  refine st_box3 (by ((try simp only [ev_tmp, ev_const, ev_func, get_put, get_args, get_putL, get_putL_nil, Nat.reduceEqDiff, reduceIte, List.getD_cons_zero, List.getD_cons_succ, List.getD_nil]); first | done | with_reducible rfl)) (by first | exact True.intro | exact ⟨_, rfl, by ((try simp only [ev_tmp, ev_const, ev_func, get_put, get_args, get_putL, get_putL_nil, Nat.reduceEqDiff, reduceIte, List.getD_cons_zero, List.getD_cons_succ, List.getD_nil, Bool.not_true, Bool.not_false]); first | done | with_reducible rfl)⟩) fun w1 b he1 hb1 hs1 hc0 hc1 hc2 => ?_
  have hpp := hp.boxed he1 hc0 hc1 hc2
  have hx1 : Ints 0 w.heap.size w1 vx xs := hx.same (he1.same _ _)
  refine go ?_
  refine st_slice1 (u := vx) (by ((try simp only [ev_tmp, ev_const, ev_func, get_put, get_args, get_putL, get_putL_nil, Nat.reduceEqDiff, reduceIte, List.getD_cons_zero, List.getD_cons_succ, List.getD_nil]); first | done | with_reducible rfl)) hx1.sl.cells rfl (by first | exact True.intro | exact ⟨_, rfl, by ((try simp only [ev_tmp, ev_const, ev_func, get_put, get_args, get_putL, get_putL_nil, Nat.reduceEqDiff, reduceIte, List.getD_cons_zero, List.getD_cons_succ, List.getD_nil, Bool.not_true, Bool.not_false]); first | done | with_reducible rfl)⟩) fun w2 v2 he2 hs2 ho2 => ?_
  have hR2 := rows_one1 hx1 he2 ho2
  have hE2 := he1.trans he2
  refine go ?_
  refine rc (areElements_ok (p := p) (xss := [xs]) hl (by simp)) (next := fun v5 w5 h5 => ?_)
  obtain ⟨b5, rfl, hb5, he5⟩ := h5
  have hb5' : b5 = true ↔ GrpE p xs := hb5.trans ⟨fun h => ⟨h.1, h.2 0 (by simp)⟩, fun h => ⟨h.1, fun i hi => by
    obtain rfl : i = 0 := by simpa using hi
    exact h.2⟩⟩
  have hE5 := hE2.trans he5
  refine go ?_
  refine c_b (fun e5 => ?_) (fun e5 => ?_)
  · refine go ?_
    refine ret2 ⟨nilv, [], 1, rfl, .inr ⟨fun h => ?_, rfl, rfl⟩, hE5, [], rfl, MatO.nilR _ _ _⟩
    rw [hb5'.2 h] at e5; cases e5
  obtain ⟨hG, hI⟩ := hb5'.1 (by simpa using e5)
  haveI hcon : ConAll p := ⟨hG.con⟩
  obtain ⟨x, rfl⟩ : ∃ x : El p, xs = x.v := ⟨⟨xs, hI, fun i hi => absurd hi (Nat.not_lt_zero i)⟩, rfl⟩
  have hx5 : Ints 0 w.heap.size w5 vx x.v := hx.same (hE5.same _ _)
  obtain ⟨hoe, ho1, ho2⟩ := ordN_rng p
  refine go ?_
  refine rc (orderOf_ok (p := p) hG.valid) (next := fun v6 w6 h6 => ?_)
  obtain ⟨rfl, he6⟩ := h6
  rw [hoe]
  have hE6 := hE5.trans he6
  refine go ?_
  refine c_if (fun h7 => ?_) (fun h7 => ?_)
  · refine go ?_
    exact ret2 ⟨nilv, [], 3, rfl, .inl ⟨⟨hG, hI⟩, hcon, x, rfl, .inl ⟨by omega, rfl, rfl⟩⟩, hE6, [], rfl, MatO.nilR _ _ _⟩
  refine go ?_
  refine rc (classOf_ok (p := p) (x := x) rfl) (next := fun v7 w7 h8 => ?_)
  obtain ⟨he7, rs7, hrs7, hM7⟩ := h8
  refine go ?_
  exact ret2 ⟨v7, _, 0, rfl, .inl ⟨⟨hG, hI⟩, hcon, x, rfl, .inr ⟨by omega, hrs7.symm, rfl⟩⟩, hE6.trans he7, rs7, rfl, hM7.lower hE6.size⟩
set_option maxHeartbeats 1000000 in
theorem impl_ClassNumber_ok {p : Pr} {w : World} {vp vx : Value} {xs : List Int} {lo hi lo1 hi1 : Nat} [hp : Pres lo hi w vp p] [hx : Ints lo1 hi1 w vx xs] (hl : p.ord.length ≤ 2000000) :
    Calls Try.prog 15 #[vp, vx] w (Ret fun v w' => ∃ (k e : Int), v = .tuple #[.int .i64 k, .int .i64 e] ∧ Ans (GrpE p xs) (CnV p xs) 0 k e ∧ Ext w w') := by
  replace hx := hx.wide
  obtain ⟨vo, vpw, vc, ps, cs, css, rfl, h1, h2, h3⟩ := hp.ex
  refine enter (args := [.agg #[vo, vpw, vc], vx]) (l := [.tmp 4, .tmp 5]) Try.func15 rfl rfl Try.ntmps15 (by simp) ?_
  refine go ?_
  refine st_box3 (by ((try simp only [ev_tmp, ev_const, ev_func, get_put, get_args, get_putL, get_putL_nil, Nat.reduceEqDiff, reduceIte, List.getD_cons_zero, List.getD_cons_succ, List.getD_nil]); first | done | with_reducible rfl)) (by first | exact True.intro | exact ⟨_, rfl, by ((try simp only [ev_tmp, ev_const, ev_func, get_put, get_args, get_putL, get_putL_nil, Nat.reduceEqDiff, reduceIte, List.getD_cons_zero, List.getD_cons_succ, List.getD_nil, Bool.not_true, Bool.not_false]); first | done | with_reducible rfl)⟩) fun w1 b he1 hb1 hs1 hc0 hc1 hc2 => ?_
  have hpp := hp.boxed he1 hc0 hc1 hc2
  have hx1 : Ints 0 w.heap.size w1 vx xs := hx.same (he1.same _ _)
  refine go ?_
  refine st_slice1 (u := vx) (by ((try simp only [ev_tmp, ev_const, ev_func, get_put, get_args, get_putL, get_putL_nil, Nat.reduceEqDiff, reduceIte, List.getD_cons_zero, List.getD_cons_succ, List.getD_nil]); first | done | with_reducible rfl)) hx1.sl.cells rfl (by first | exact True.intro | exact ⟨_, rfl, by ((try simp only [ev_tmp, ev_const, ev_func, get_put, get_args, get_putL, get_putL_nil, Nat.reduceEqDiff, reduceIte, List.getD_cons_zero, List.getD_cons_succ, List.getD_nil, Bool.not_true, Bool.not_false]); first | done | with_reducible rfl)⟩) fun w2 v2 he2 hs2 ho2 => ?_
  have hR2 := rows_one1 hx1 he2 ho2
  have hE2 := he1.trans he2
  refine go ?_
  refine rc (areElements_ok (p := p) (xss := [xs]) hl (by simp)) (next := fun v5 w5 h5 => ?_)
  obtain ⟨b5, rfl, hb5, he5⟩ := h5
  have hb5' : b5 = true ↔ GrpE p xs := hb5.trans ⟨fun h => ⟨h.1, h.2 0 (by simp)⟩, fun h => ⟨h.1, fun i hi => by
    obtain rfl : i = 0 := by simpa using hi
    exact h.2⟩⟩
  have hE5 := hE2.trans he5
  refine go ?_
  refine c_b (fun e5 => ?_) (fun e5 => ?_)
  · refine go ?_
    refine ret2 ⟨0, 1, rfl, .inr ⟨fun h => ?_, rfl, rfl⟩, hE5⟩
    rw [hb5'.2 h] at e5; cases e5
  obtain ⟨hG, hI⟩ := hb5'.1 (by simpa using e5)
  haveI hcon : ConAll p := ⟨hG.con⟩
  obtain ⟨x, rfl⟩ : ∃ x : El p, xs = x.v := ⟨⟨xs, hI, fun i hi => absurd hi (Nat.not_lt_zero i)⟩, rfl⟩
  have hx5 : Ints 0 w.heap.size w5 vx x.v := hx.same (hE5.same _ _)
  obtain ⟨hoe, ho1, ho2⟩ := ordN_rng p
  refine go ?_
  refine rc (classesOf_ok (p := p) hl) (next := fun v6 w6 h6 => ?_)
  obtain ⟨u6, k6, e6, rfl, ha6, he6, us6, uss6, hR6⟩ := h6
  have hE6 := hE5.trans he6
  refine go ?_
  refine c_if (fun h8 => ?_) (fun h8 => ?_)
  · refine go ?_
    rcases ha6 with ⟨_, hc', ⟨h7, _, rfl⟩ | ⟨h7, _, rfl⟩⟩ | ⟨h7, _⟩
    · exact ret2 ⟨0, 3, rfl, .inl ⟨⟨hG, hI⟩, hcon, x, rfl, .inl ⟨h7, rfl, rfl⟩⟩, hE6⟩
    · exact absurd rfl h8
    · exact absurd hG h7
  obtain ⟨h7, rfl⟩ : ordN p ≤ 128 ∧ k6 = (clsOut p (ordN p)).map vecs := by
    rcases ha6 with ⟨_, hc', ⟨h7, _, rfl⟩ | ⟨h7, h9, rfl⟩⟩ | ⟨h7, _⟩
    · exact absurd (by decide) h8
    · exact ⟨h7, h9⟩
    · exact absurd hG h7
  have hcl : (clsOut p (ordN p)).length ≤ 128 := by
    have h1 := (clsOut_spec (p := p) (ordN p)).1
    have h2 := (idxT_rng (p := p) (ordN p) 1).2.2
    omega
  have hx6 : Ints 0 w.heap.size w6 vx x.v := hx.same (hE6.same _ _)
  refine go ?_
  refine rc (classNumber_ok (x := x) (l := clsOut p (ordN p)) (clsOut_sorted _) (by omega) rfl rfl) (next := fun v11 w11 h11 => ?_)
  obtain ⟨rfl, he11⟩ := h11
  rw [(clsOut_spec _).2]
  refine go ?_
  exact ret2 ⟨_, 0, rfl, .inl ⟨⟨hG, hI⟩, hcon, x, rfl, .inr ⟨h7, rfl, rfl⟩⟩, hE6.trans he11⟩
set_option maxHeartbeats 1000000 in
theorem impl_CommutingPairs_ok {p : Pr} {w : World} {vp : Value} {lo hi : Nat} [hp : Pres lo hi w vp p] (hl : p.ord.length ≤ 2000000) :
    Calls Try.prog 39 #[vp] w (Ret fun v w' => ∃ (k e : Int), v = .tuple #[.int .i64 k, .int .i64 e] ∧ Ans (IsGrp p) (CpV p) 0 k e ∧ Ext w w') := by
  obtain ⟨vo, vpw, vc, ps, cs, css, rfl, h1, h2, h3⟩ := hp.ex
  refine enter (args := [.agg #[vo, vpw, vc]]) (l := [.tmp 2, .tmp 3]) Try.func39 rfl rfl Try.ntmps39 (by simp) ?_
  refine go ?_
  refine st_box3 (by ((try simp only [ev_tmp, ev_const, ev_func, get_put, get_args, get_putL, get_putL_nil, Nat.reduceEqDiff, reduceIte, List.getD_cons_zero, List.getD_cons_succ, List.getD_nil]); first | done | with_reducible rfl)) (by first | exact True.intro | exact ⟨_, rfl, by ((try simp only [ev_tmp, ev_const, ev_func, get_put, get_args, get_putL, get_putL_nil, Nat.reduceEqDiff, reduceIte, List.getD_cons_zero, List.getD_cons_succ, List.getD_nil, Bool.not_true, Bool.not_false]); first | done | with_reducible rfl)⟩) fun w1 b he1 hb1 hs1 hc0 hc1 hc2 => ?_
  have hpp := hp.boxed he1 hc0 hc1 hc2
  refine go ?_
  refine rc (classesOf_ok (p := p) hl) (next := fun v6 w6 h6 => ?_)
  obtain ⟨u6, k6, e6, rfl, ha6, he6, us6, uss6, hR6⟩ := h6
  have hE6 := he1.trans he6
  refine go ?_
  refine c_if (fun h8 => ?_) (fun h8 => ?_)
  · refine go ?_
    rcases ha6 with ⟨hG, hcon, ⟨h7, _, rfl⟩ | ⟨h7, _, rfl⟩⟩ | ⟨h7, _, rfl⟩
    · exact ret2 ⟨0, 3, rfl, .inl ⟨hG, hcon, .inl ⟨h7, rfl, rfl⟩⟩, hE6⟩
    · exact absurd rfl h8
    · exact ret2 ⟨0, 1, rfl, .inr ⟨h7, rfl, rfl⟩, hE6⟩
  obtain ⟨hG, hcon, h7, rfl⟩ : ∃ (_ : IsGrp p) (_ : ConAll p), ordN p ≤ 128 ∧ k6 = (clsOut p (ordN p)).map vecs := by
    rcases ha6 with ⟨hG, hc', ⟨h7, _, rfl⟩ | ⟨h7, h9, rfl⟩⟩ | ⟨h7, _, rfl⟩
    · exact absurd (by decide) h8
    · exact ⟨hG, hc', h7, h9⟩
    · exact absurd (by decide) h8
  obtain ⟨hoe, ho1, ho2⟩ := ordN_rng p
  have h1 := (clsOut_spec (p := p) (ordN p)).1
  have h2 := (idxT_rng (p := p) (ordN p) 1).2.2
  have hlen6 := hR6.sl.toLen
  have hul : us6.length = (idxTo p (ordN p)).2 := by have := hR6.vals.len; rw [List.length_map] at this; omega
  rw [hul] at hlen6
  refine go ?_
  refine rc (orderOf_ok (p := p) hG.valid) (next := fun v8 w8 h8 => ?_)
  obtain ⟨rfl, he8⟩ := h8
  rw [hoe]
  have hlen8 := (hR6.sl.same (he8.same _ _)).toLen
  rw [hul] at hlen8
  have hmul : ((ordN p : Nat) : Int) * (((idxTo p (ordN p)).2 : Nat) : Int) = ((ordN p * (idxTo p (ordN p)).2 : Nat) : Int) := (Int.natCast_mul _ _).symm
  have hle : ordN p * (idxTo p (ordN p)).2 ≤ 128 * 128 := Nat.mul_le_mul h7 (by omega)
  refine go ?_
  refine ra (v := .int .i64 ((ordN p * (idxTo p (ordN p)).2 : Nat) : Int)) (h := by rw [← hmul]; exact rd_mul (by ((try simp only [ev_tmp, ev_const, ev_func, get_put, get_args, get_putL, get_putL_nil, Nat.reduceEqDiff, reduceIte, List.getD_cons_zero, List.getD_cons_succ, List.getD_nil]); first | done | with_reducible rfl)) (by ((try simp only [ev_tmp, ev_const, ev_func, get_put, get_args, get_putL, get_putL_nil, Nat.reduceEqDiff, reduceIte, List.getD_cons_zero, List.getD_cons_succ, List.getD_nil]); first | done | with_reducible rfl)) (by rw [hmul]; omega)) (next := ?_)
  refine go ?_
  exact ret2 ⟨_, 0, rfl, .inl ⟨hG, hcon, .inr ⟨h7, rfl, rfl⟩⟩, hE6.trans he8⟩
end Go.Proofs.Ytjljbfcdpdckeaa

/-
  Arguments that read as slices of integers, slices of slices, slices of slices of slices: what the calculus knows of them.
  Conditions: none; nothing of the program stands here.
-/
namespace Go.Pc
open Go Go.RowKit Go.Deep Go.ChangeShapes Go.WideShapes
section
variable {H : Type} {enc : TypeId × Value → H} {P : Program} {w : World} {base : Nat} {held : Bool} {fuel : Nat} {v : Value} {x : DataW H × List MemPlace}
theorem ints_of_trod {t e : TypeId} (ht : P.underlying t = some (.slice e)) (he : P.underlying e = some (.int .i64)) (hc : P.cellsOf e = 1) (h : DataW.trod enc P w base (fun _ => true) held fuel t [v] = some x) : ∃ xs, Ints 0 w.heap.size w v xs := by
  rcases open_ints ht he hc h with ⟨hcs, _⟩ | ⟨a, len, cap, zs, hcs, _, hl, hm, hz, _, hcell, _⟩
  · have : v = nilv := by simpa using hcs
    subst this
    exact ⟨[], (Ints.nil_ w).mono (Nat.le_refl 0) (Nat.zero_le _)⟩
  · have : v = .slice (some a) len cap := by simpa using hcs
    subst this
    simp only [if_true] at hz
    have hlen : (zs.take len).length = len := by rw [List.length_take]; omega
    refine ⟨zs.take len, ⟨⟨some a, cap, by rw [List.length_map, hlen], by rw [List.length_map, hlen]; omega, by simp only [maxLen] at hm; omega, fun k u hu => ?_⟩⟩⟩
    rw [List.getElem?_map, List.getElem?_take] at hu
    split at hu
    · have hk : k < zs.length := by omega
      have hck := hcell k hk
      rw [List.getElem?_eq_getElem hk] at hu
      simp only [Option.map_some, Option.some.injEq] at hu
      have e : zs.getD k 0 = zs[k] := by simp [hk]
      rw [e, hu] at hck
      exact ⟨a, rfl, Nat.zero_le _, by have := block_lt hck; rwa [add_block] at this, hck⟩
    · cases hu
theorem sl_of {a : Addr} {len cap m : Nat} {V : Nat → Value} (hl : len ≤ cap) (hm : cap ≤ maxLen) (hlm : len ≤ m) (hx : ∀ i, i < m → w.cell? (a.add i) = some (V i)) : Sl 0 w.heap.size w (.slice (some a) len cap) ((List.range len).map V) := by
  refine ⟨⟨some a, cap, by simp, by simpa using hl, by simp only [maxLen] at hm; omega, fun k u hu => ?_⟩⟩
  rw [List.getElem?_map] at hu
  by_cases hk : k < len
  · rw [List.getElem?_range hk] at hu
    simp only [Option.map_some, Option.some.injEq] at hu
    have hck := hx k (by omega)
    rw [hu] at hck
    exact ⟨a, rfl, Nat.zero_le _, by have := block_lt hck; rwa [add_block] at this, hck⟩
  · rw [List.getElem?_eq_none (by simp; omega)] at hu; cases hu
theorem getD_map_range {α : Type} {n i : Nat} {f : Nat → α} {d : α} (h : i < n) : ((List.range n).map f).getD i d = f i := by simp [h]
theorem getD_map_range' {α : Type} {n i : Nat} {f : Nat → α} {d : α} (h : ¬ i < n) : ((List.range n).map f).getD i d = d := by
  rw [List.getD_eq_getElem?_getD, List.getElem?_eq_none (by simp; omega)]; rfl
theorem Rows.nil_ (w : World) : Rows 0 w.heap.size w nilv [] [] :=
  ⟨⟨⟨none, 0, rfl, Nat.le_refl _, by omega, fun k u hu => by simp at hu⟩⟩, rfl, fun i => by simpa using (Ints.nil_ w).mono (Nat.le_refl 0) (Nat.zero_le _)⟩
theorem rows_of_trod {t e q : TypeId} (ht : P.underlying t = some (.slice e)) (he : P.underlying e = some (.slice q)) (hq : P.underlying q = some (.int .i64)) (ce : P.cellsOf e = 1) (cq : P.cellsOf q = 1)
    (h : DataW.trod enc P w base (fun _ => true) held fuel t [v] = some x) : ∃ us xss, Rows 0 w.heap.size w v us xss := by
  rcases open_slice1 ht ce h with ⟨hcs, _⟩ | ⟨a, len, cap, m, n, V, D, Pl, hcs, _, hl, hm, hmm, _, hx⟩
  · have : v = nilv := by simpa using hcs
    subst this
    exact ⟨[], [], Rows.nil_ w⟩
  · have : v = .slice (some a) len cap := by simpa using hcs
    subst this
    simp only [if_true] at hmm
    have hlm : len ≤ m := by omega
    obtain ⟨X, hX⟩ := choose_lt (α := List Int) (n := len) (p := fun i xs => Ints 0 w.heap.size w (V i) xs) fun i hi => ints_of_trod he hq cq (hx i (by omega)).2
    refine ⟨(List.range len).map V, (List.range len).map X, sl_of hl hm hlm fun i hi => (hx i hi).1, by simp, fun i => ?_⟩
    by_cases hi : i < len
    · rw [getD_map_range hi, getD_map_range hi]; exact hX i hi
    · rw [getD_map_range' hi, getD_map_range' hi]; exact (Ints.nil_ w).mono (Nat.le_refl 0) (Nat.zero_le _)
theorem rowss_of_trod {t e q r : TypeId} (ht : P.underlying t = some (.slice e)) (he : P.underlying e = some (.slice q)) (hq : P.underlying q = some (.slice r)) (hr : P.underlying r = some (.int .i64)) (ce : P.cellsOf e = 1) (cq : P.cellsOf q = 1) (cr : P.cellsOf r = 1)
    (h : DataW.trod enc P w base (fun _ => true) held fuel t [v] = some x) : ∃ us uss xsss, Rowss 0 w.heap.size w v us uss xsss := by
  rcases open_slice1 ht ce h with ⟨hcs, _⟩ | ⟨a, len, cap, m, n, V, D, Pl, hcs, _, hl, hm, hmm, _, hx⟩
  · have : v = nilv := by simpa using hcs
    subst this
    exact ⟨[], [], [], ⟨⟨none, 0, rfl, Nat.le_refl _, by omega, fun k u hu => by simp at hu⟩⟩, rfl, rfl, fun i => by simpa using Rows.nil_ w⟩
  · have : v = .slice (some a) len cap := by simpa using hcs
    subst this
    simp only [if_true] at hmm
    have hlm : len ≤ m := by omega
    obtain ⟨X, hX⟩ := choose_lt (α := List Value × List (List Int)) (n := len) (p := fun i y => Rows 0 w.heap.size w (V i) y.1 y.2) fun i hi => by
      obtain ⟨us, xss, hR⟩ := rows_of_trod he hq hr cq cr (hx i (by omega)).2
      exact ⟨(us, xss), hR⟩
    refine ⟨(List.range len).map V, (List.range len).map fun i => (X i).1, (List.range len).map fun i => (X i).2, sl_of hl hm hlm fun i hi => (hx i hi).1, by simp, by simp, fun i => ?_⟩
    by_cases hi : i < len
    · rw [getD_map_range hi, getD_map_range hi, getD_map_range hi]; exact hX i hi
    · rw [getD_map_range' hi, getD_map_range' hi, getD_map_range' hi]; exact Rows.nil_ w
end
end Go.Pc
