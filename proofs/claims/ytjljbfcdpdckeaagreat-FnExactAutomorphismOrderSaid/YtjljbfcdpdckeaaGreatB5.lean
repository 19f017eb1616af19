/-
  Texts of one proof, put together by program: I08e, I12e, I13, I14, I16, I17, I15, I18, I20, Fork, Copy, I30, I31, I32, I33, I34, I52, L01, L02, L03, L04, L05, Open.
  Conditions: those told at each part.
-/
import Derived.Test.YtjljbfcdpdckeaaGreatB4
import Derived.Laws.CopyRow
import Derived.Deep.Slices
set_option linter.unusedVariables false
set_option linter.unusedSimpArgs false
set_option linter.unusedSectionVars false
set_option linter.constructorNameAsVariable false
set_option linter.unnecessarySimpa false
set_option linter.deprecated false
/-
  Walks: the program's consistency of a presentation (consistentFrom, IsConsistent).
  Conditions: stated at each theorem.
-/
namespace Go.Proofs.YtjljbfcdpdckeaaGreat
open Go Go.Pc
theorem fault_guard : (Tryz.prog.eqGuardType Tryz.prog.depth 70) = false := by kernel_rfl
theorem fault_held : (Tryz.prog.stoodInHeld 70) = false := by kernel_rfl
theorem fault_fields : Tryz.prog.underlying 70 = some (.struct (Tryz.prog.fieldsOf 70)) := by simp [Program.fieldsOf, Tryz.underlying70]
theorem rd_eqFault {ρ : Env} {w : World} {ty : TypeId} {x y : Operand} {k l f s : Int} (h : ev ρ x = faultV k l f s) (h' : ev ρ y = faultV 0 0 0 0) :
    Rd Tryz.prog (.binOp .eql 70 x y 70) ty ρ w (.bool (decide (k = 0 ∧ l = 0 ∧ f = 0 ∧ s = 0))) := by
  constructor; intro _ _ _ _
  have h2 := fun d a b w => run_equalIn_int (P := Tryz.prog) w d 2 .i64 .i64 a b Tryz.underlying2
  simp [execOp, h, h', run_eqGuard_agg _ _ _ _ _ _ _ fault_guard, run_eql_struct, run_equalIn_agg _ _ _ _ _ fault_fields fault_held, Program.fieldsOf, Tryz.underlying70, Op.eqFields, h2, go_sem]
  by_cases hk : k = 0 <;> by_cases hl : l = 0 <;> by_cases hf : f = 0 <;> by_cases hs : s = 0 <;> simp [hk, hl, hf, hs]
set_option maxHeartbeats 1000000 in
theorem consistentFrom_ok {p : Pr} (hv : Valid p) {w : World} {vp : Value} {lo hi' : Nat} [hp : PresP lo hi' w vp p] :
    Calls Tryz.prog 67 #[vp] w (Ret fun v w' => ∃ i : Nat, v = .int .i64 i ∧ i ≤ p.n ∧ Levs p i ∧ (i ≠ 0 → ¬ Lev p (i - 1)) ∧ Ext w w') := by
  have hn6 := hv.n6
  have hol : p.ord.length = p.n := rfl
  obtain ⟨b, og, vo, vpw, vc, ps, cs, css, rfl, hb1, hb2, hc0, hc1, hc2, h1, h2, h3⟩ := hp.ex
  refine enter (args := [.pointer (some ⟨b, og, none⟩)]) (l := [.tmp 2]) Tryz.func67 rfl rfl Tryz.ntmps67 (by simp) ?_
  refine go ?_
  refine r_for p.n (fun k ρ w' => Has ρ [(0, .pointer (some ⟨b, og, none⟩)), (3, .int .i64 (p.n - k : Nat))] ∧ Ext w w' ∧ Levs p (p.n - k)) ?_ ?_
  · refine ⟨?_, Ext.refl _, fun j h h' => by omega⟩
    exact hasP
  rintro k ρ w3 hk ⟨hH, he3, hL⟩
  refine rwp_has hH fun ρ0 => ?_
  refine go ?_
  refine spd (fun h4 => ?_) (fun h4 => ?_)
  · obtain ⟨i, hie⟩ : ∃ i : Nat, p.n - k = i + 1 := ⟨p.n - k - 1, by omega⟩
    have hi : i < p.n := by omega
    rw [hie] at hL h4 ⊢
    have hc : Con p (i + 1) := Levs.con hv hL
    refine go ?_
    refine rc (levelFault_ok (p := p) (i := i) hi ?_) (next := fun v5 w5 h5 => ?_)
    · omega
    obtain ⟨k5, l5, f5, s5, rfl, hz, hl5, h05, he5⟩ := h5
    refine go ?_
    refine ra (v := faultV 0 0 0 0) (h := rd_build (by rfl) (fun _ => by kernel_rfl)) (next := ?_)
    refine go ?_
    refine ra (h := rd_eqFault (k := k5) (l := l5) (f := f5) (s := s5) (by ((try simp only [ev_tmp, ev_const, ev_func, get_put, get_args, get_putL, get_putL_nil, Nat.reduceEqDiff, reduceIte, List.getD_cons_zero, List.getD_cons_succ, List.getD_nil]); first | done | with_reducible rfl)) (by ((try simp only [ev_tmp, ev_const, ev_func, get_put, get_args, get_putL, get_putL_nil, Nat.reduceEqDiff, reduceIte, List.getD_cons_zero, List.getD_cons_succ, List.getD_nil]); first | done | with_reducible rfl))) (next := ?_)
    refine go ?_
    refine c_if (fun h8 => ?_) (fun h8 => ?_)
    · refine go ?_
      refine forQ_normal (by omega) ⟨?_, he3.trans he5, fun j hj hjn => ?_⟩
      · exact hasP
      · by_cases e : j = i
        · subst e; exact ⟨hc, hi, hz.1 h8.1⟩
        · exact hL j (by omega) hjn
    · refine go ?_
      refine ret1 ⟨i + 1, rfl, by omega, hL, fun _ => ?_, he3.trans he5⟩
      rintro ⟨_, _, h9⟩
      have h0 := hz.2 h9
      exact h8 ⟨h0, h05 h0⟩
  · refine go ?_
    have hkn : p.n - k = 0 := by omega
    rw [hkn] at hL ⊢
    exact ret1 ⟨0, rfl, by omega, hL, fun h => absurd rfl h, he3⟩
set_option maxHeartbeats 1000000 in
theorem impl_IsConsistent_ok {w : World} {vp : Value} {p : Pr} {lo hi' : Nat} [hp : Pres lo hi' w vp p] (hl : p.ord.length ≤ 2000000) :
    Calls Tryz.prog 42 #[vp] w (Ret fun v w' => ∃ b, v = .bool b ∧ (b = true ↔ IsGrp p) ∧ Ext w w') := by
  obtain ⟨vo, vpw, vc, ps, cs, css, rfl, h1, h2, h3⟩ := hp.ex
  refine enter (args := [.agg #[vo, vpw, vc]]) (l := [.tmp 2]) Tryz.func42 rfl rfl Tryz.ntmps42 (by simp) ?_
  refine go ?_
  refine st_box3 (by ((try simp only [ev_tmp, ev_const, ev_func, get_put, get_args, get_putL, get_putL_nil, Nat.reduceEqDiff, reduceIte, List.getD_cons_zero, List.getD_cons_succ, List.getD_nil]); first | done | with_reducible rfl)) (by first | exact True.intro | exact ⟨_, rfl, by ((try simp only [ev_tmp, ev_const, ev_func, get_put, get_args, get_putL, get_putL_nil, Nat.reduceEqDiff, reduceIte, List.getD_cons_zero, List.getD_cons_succ, List.getD_nil, Bool.not_true, Bool.not_false]); first | done | with_reducible rfl)⟩) fun w1 b he1 hb1 hs1 hc0 hc1 hc2 => ?_
  have hpp := hp.boxed he1 hc0 hc1 hc2
  refine go ?_
  refine rc (impl_IsPresentation_ok hl) (next := fun v5 w5 h5 => ?_)
  obtain ⟨b5, rfl, hb5, he5⟩ := h5
  refine go ?_
  refine sp (fun e5 => ?_) (fun e5 => ?_)
  · have hv := hb5.1 e5
    refine go ?_
    refine rc (consistentFrom_ok hv) (next := fun v6 w6 h6 => ?_)
    obtain ⟨i, rfl, hi, hL, hno, he6⟩ := h6
    refine go ?_
    refine ret1 ⟨_, rfl, ?_, (he1.trans he5).trans he6⟩
    rw [decide_eq_true_eq]
    constructor
    · intro h
      have : i = 0 := by omega
      subst this
      exact ⟨hv, hL⟩
    · intro h
      by_cases e : i = 0
      · omega
      · exact absurd (h.levs (i - 1) (by omega) (by omega)) (hno e)
  · refine go ?_
    refine ret1 ⟨_, rfl, ?_, he1.trans he5⟩
    simp only [Bool.false_eq_true, false_iff]
    intro h
    have := hb5.2 h.valid
    rw [e5] at this; cases this
end Go.Proofs.YtjljbfcdpdckeaaGreat

/-
  Walks: the program's test of subgroups (areSubgroups, IsSubgroup).
  Conditions: stated at each theorem.
-/
namespace Go.Proofs.YtjljbfcdpdckeaaGreat
open Go Go.Pc
theorem PresP.val {lo hi b : Nat} {w : World} {p : Pr} {vo vp vc : Value} {ps cs : List Value} {css : List (List Value)} (h1 : Ints lo hi w vo p.ord) (h2 : Pc.Rows lo hi w vp ps p.pow) (h3 : Rowss lo hi w vc cs css p.cnj) : Pres lo hi w (.agg #[vo, vp, vc]) p := ⟨⟨vo, vp, vc, ps, cs, css, rfl, h1, h2, h3⟩⟩
end Go.Proofs.YtjljbfcdpdckeaaGreat

/-
  Walks: the program's order of a subgroup (sizeOf, SubgroupOrder).
  Conditions: stated at each theorem.
-/
namespace Go.Proofs.YtjljbfcdpdckeaaGreat
open Go Go.Pc
set_option maxHeartbeats 1000000 in
theorem sizeOf_ok {p : Pr} [hc : ConAll p] {ys : List (El p)} (hs : SeqEl ys) {w : World} {vp vu : Value} {us : List Value} {xss : List (List Int)} {lo hi lo1 hi1 : Nat} [hp : PresP lo hi w vp p] [hu : Pc.Rows lo1 hi1 w vu us xss] (hus : xss = vecs ys) :
    Calls Tryz.prog 47 #[vp, vu] w (Ret fun v w' => v = .int .i64 (ordOf p ys) ∧ Ext w w') := by
  subst hus
  have hv := hc.valid
  have hn6 := hv.n6
  have hol : p.ord.length = p.n := rfl
  have hlen := hs.len
  have hvl : (vecs ys).length = ys.length := by simp
  obtain ⟨g, og, vo, vpw, vc, ps, cs, css, rfl, hg1, hg2, hc0, hc1, hc2, h1, h2, h3⟩ := hp.ex
  refine enter (args := [.pointer (some ⟨g, og, none⟩), vu]) (l := [.tmp 4]) Tryz.func47 rfl rfl Tryz.ntmps47 (by simp) ?_
  refine go ?_
  refine rc (pivots_ok (xss := vecs ys) ?_ ?_) (next := fun v2 w2 h5 => ?_)
  · omega
  · intro i hi
    rw [vecs_getD ys (by omega), (ys[i]'(by omega)).inr.len]
    exact ⟨(hs.ok.lead1 _ (List.getElem_mem _)).1, by omega⟩
  obtain ⟨he2, hf2⟩ := h5
  have hpi := hf2.ints
  have hpl : ((vecs ys).map fun x => (lead x : Int)).length = ys.length := by simp
  have hpg : ∀ i (h : i < ys.length), ((vecs ys).map fun x => (lead x : Int)).getD i 0 = (lead (ys[i]).v : Int) := fun i h => by simp [vecs, h]
  refine go ?_
  refine r_for ys.length (fun k ρ w' => Has ρ [(0, .pointer (some ⟨g, og, none⟩)), (5, .int .i64 (ordOf p (ys.take k))), (9, v2), (10, .int .i64 ((vecs ys).map fun x => (lead x : Int)).length), (11, .int .i64 k)] ∧ Ext w2 w') ?_ ?_
  · refine ⟨?_, Ext.refl _⟩
    exact hasP
  rintro k ρ w3 hk ⟨hH, he3⟩
  refine rwp_has hH fun ρ0 => ?_
  refine go ?_
  refine c_if (fun h4 => ?_) (fun h4 => ?_)
  · have hkn : k < ys.length := by omega
    have hpk := hpg k hkn
    obtain ⟨hdn, hy1⟩ := hs.ok.lead1 _ (List.getElem_mem hkn)
    obtain ⟨d, hd⟩ : ∃ d, lead (ys[k]).v = d := ⟨_, rfl⟩
    rw [hd] at hdn hpk
    have hod := hv.opos hdn
    have hr := ordOf_rng (k := k) (by omega) (by omega) fun y hy => (hs.ok.lead1 y hy).1
    have hm : 0 ≤ ordOf p (ys.take k) * p.o d ∧ ordOf p (ys.take k) * p.o d ≤ 117649 * 7 := ⟨Int.mul_nonneg (by omega) (by omega), Int.mul_le_mul hr.2 hod.2 (by omega) (by omega)⟩
    have hmb : -9223372036854775808 ≤ ordOf p (ys.take k) * p.o d ∧ ordOf p (ys.take k) * p.o d ≤ 9223372036854775807 := ⟨by omega, by omega⟩
    refine go ?_
    rw [hpk]
    refine go ?_
    rw [show p.ord.getD ((d : Int).toNat) 0 = p.o d from rfl]
    refine ra (h := rd_mul (by ((try simp only [ev_tmp, ev_const, ev_func, get_put, get_args, get_putL, get_putL_nil, Nat.reduceEqDiff, reduceIte, List.getD_cons_zero, List.getD_cons_succ, List.getD_nil]); first | done | with_reducible rfl)) (by ((try simp only [ev_tmp, ev_const, ev_func, get_put, get_args, get_putL, get_putL_nil, Nat.reduceEqDiff, reduceIte, List.getD_cons_zero, List.getD_cons_succ, List.getD_nil]); first | done | with_reducible rfl)) hmb) (next := ?_)
    refine go ?_
    refine forQ_normal (by omega) ⟨?_, he3⟩
    have ht := ordOf_take ys hkn
    rw [hd] at ht
    rw [ht]
    exact hasP
  · refine go ?_
    rw [show k = ys.length by omega, List.take_length]
    exact ret1 ⟨rfl, he2.trans he3⟩
end Go.Proofs.YtjljbfcdpdckeaaGreat

/-
  Walks: the program's IsMember and IsSubset.
  Conditions: what the arguments read as.
-/
namespace Go.Proofs.YtjljbfcdpdckeaaGreat
open Go Go.Pc
end Go.Proofs.YtjljbfcdpdckeaaGreat

/-
  Walks: the program's generators, conjugates, conjugate subgroup, test of normality, test of elements.
  Conditions: stated at each theorem.
-/
namespace Go.Proofs.YtjljbfcdpdckeaaGreat
open Go Go.Pc
set_option maxHeartbeats 1000000 in
theorem generators_ok {p : Pr} [hc : ConAll p] {w : World} {vp : Value} {lo hi : Nat} [hp : PresP lo hi w vp p] :
    Calls Tryz.prog 20 #[vp] w (Ret fun v w' => Ext w w' ∧ ∃ rs, vecs (gensL p) = rs.map (·.2) ∧ MatO w.heap.size w'.heap.size w' v rs) := by
  have hn6 := hc.valid.n6
  have hol : p.ord.length = p.n := rfl
  obtain ⟨g, og, vo, vpw, vc, ps, cs, css, rfl, hg1, hg2, hc0, hc1, hc2, h1, h2, h3⟩ := hp.ex
  refine enter (args := [.pointer (some ⟨g, og, none⟩)]) (l := [.tmp 2]) Tryz.func20 rfl rfl Tryz.ntmps20 (by simp) ?_
  refine go ?_
  refine r_for p.n (fun k ρ w' => ∃ vl rs, Has ρ [(0, .pointer (some ⟨g, og, none⟩)), (3, vl), (9, .int .i64 p.n), (10, .int .i64 k)] ∧ Ext w w' ∧ GrowL 22 w.heap.size w' vl rs ∧ rs.map (·.2) = (List.range k).map fun i => (zeros p.n).set i 1) ?_ ?_
  · refine ⟨nilv, [], ?_, Ext.refl _, GrowL.nil _ _ _ (Nat.le_refl _), by simp⟩
    exact hasP
  rintro k ρ w3 hk ⟨vl, rs, hH, he3, hG, hrs⟩
  refine rwp_has hH fun ρ0 => ?_
  have hz3 := he3.size
  have hrl : rs.length = k := by have := congrArg List.length hrs; simp at this; omega
  refine go ?_
  refine c_if (fun h4 => ?_) (fun h4 => ?_)
  · refine go ?_
    refine rc (unitVector_ok (n := p.n) (i := k) ?_ ?_ (by omega) (by omega)) (next := fun v4 w4 h5 => ?_)
    · omega
    · rfl
    obtain ⟨he4, hf4⟩ := h5
    refine go ?_
    refine st_grow hG he4 hf4 hz3 (by omega) (next := fun v6 v7 w7 hG7 hx7 hz7 hgs7 => ?_)
    refine go ?_
    refine forQ_normal (by omega) ⟨v7, _, ?_, hx7 w (he3.trans he4) (Nat.le_refl _), hG7, ?_⟩
    · exact hasP
    · rw [List.range_succ, List.map_append, List.map_append, hrs]; simp
  · obtain rfl : k = p.n := by omega
    refine go ?_
    refine ret1 ⟨he3, rs, ?_, hG.mat⟩
    rw [hrs]
    unfold vecs gensL
    rw [List.map_map]
    exact List.map_congr_left fun i hi => gOf_val (List.mem_range.1 hi)
set_option maxHeartbeats 1000000 in
theorem areElements_ok {p : Pr} {w : World} {vp vl : Value} {us : List Value} {xss : List (List Int)} {lo hi lo1 hi1 : Nat} [hp : PresP lo hi w vp p] [hl : Pc.Rows lo1 hi1 w vl us xss] (hol : p.ord.length ≤ 2000000) (hxl : xss.length ≤ 2000000) :
    Calls Tryz.prog 43 #[vp, vl] w (Ret fun v w' => ∃ b, v = .bool b ∧ (b = true ↔ GrpL p xss) ∧ Ext w w') := by
  obtain ⟨g, og, vo, vpw, vc, ps, cs, css, rfl, hg1, hg2, hc0, hc1, hc2, h1, h2, h3⟩ := hp.ex
  have hpv := PresP.val (b := g) h1 h2 h3
  refine enter (args := [.pointer (some ⟨g, og, none⟩), vl]) (l := [.tmp 4]) Tryz.func43 rfl rfl Tryz.ntmps43 (by simp) ?_
  refine go ?_
  refine rc (impl_IsConsistent_ok (p := p) hol) (next := fun v1 w1 h4 => ?_)
  obtain ⟨b1, rfl, hb1, he1⟩ := h4
  refine go ?_
  refine c_b (fun e1 => ?_) (fun e1 => ?_)
  · refine go ?_
    refine ret1 ⟨_, rfl, ?_, he1⟩
    simp only [Bool.false_eq_true, false_iff]
    rintro ⟨h, _⟩
    rw [hb1.2 h] at e1; cases e1
  have hG := hb1.1 (by simpa using e1)
  have hv := hG.valid
  refine go ?_
  refine r_for xss.length (fun q ρ w' => Has ρ [(0, .pointer (some ⟨g, og, none⟩)), (12, vl), (13, .int .i64 xss.length), (14, .int .i64 q)] ∧ Ext w w' ∧ ∀ i, i < q → InR p (xss.getD i [])) ?_ ?_
  · refine ⟨?_, he1, fun i hi => by omega⟩
    exact hasP
  clear he1
  rintro q ρ w3 hq ⟨hH3, he3, hQ⟩
  refine rwp_has hH3 fun ρ1 => ?_
  refine go ?_
  refine c_if (fun h6 => ?_) (fun h6 => ?_)
  · refine go ?_
    refine rc (isExponents_ok (p := p) (xs := xss.getD q []) (fun i hi => hv.opos hi) hol) (next := fun v4 w4 h7 => ?_)
    obtain ⟨b4, rfl, hb4, he4⟩ := h7
    refine go ?_
    refine c_b (fun h8 => ?_) (fun h8 => ?_)
    · refine go ?_
      refine ret1 ⟨_, rfl, ?_, he3.trans he4⟩
      simp only [Bool.false_eq_true, false_iff]
      rintro ⟨_, h⟩
      rw [hb4.2 (h q (by omega))] at h8; cases h8
    · have h9 := hb4.1 (by simpa using h8)
      refine go ?_
      refine forQ_normal (by omega) ⟨?_, he3.trans he4, fun i hi => ?_⟩
      · exact hasP
      · by_cases e : i = q
        · subst e; exact h9
        · exact hQ i (by omega)
  · refine go ?_
    refine ret1 ⟨_, rfl, ?_, he3⟩
    simp only [true_iff]
    exact ⟨hG, fun i hi => hQ i (by omega)⟩
end Go.Proofs.YtjljbfcdpdckeaaGreat

/-
  Walks: the program's GeneratedSubgroup, ConjugateSubgroup, IsNormalSubgroup, SubgroupIndex, SubgroupDepths.
  Conditions: what the arguments read as.
-/
namespace Go.Proofs.YtjljbfcdpdckeaaGreat
open Go Go.Pc
theorem ordOf_pos' {p : Pr} [hc : ConAll p] {ys : List (El p)} (hs : SeqEl ys) : 1 ≤ ordOf p ys ∧ ordOf p ys ≤ 117649 := by
  have h := ordOf_rng (ys := ys) (k := ys.length) (by have := hs.len; have := hc.valid.n6; omega) (Nat.le_refl _) fun y hy => (hs.ok.lead1 y hy).1
  rwa [List.take_length] at h
end Go.Proofs.YtjljbfcdpdckeaaGreat

/-
  Walks: the program's CosetRepresentative.
  Conditions: what the arguments read as.
-/
namespace Go.Proofs.YtjljbfcdpdckeaaGreat
open Go Go.Pc
end Go.Proofs.YtjljbfcdpdckeaaGreat

/-
  Walks: the program's CosetNumber, MemberElement, MemberExponents.
  Conditions: what the arguments read as.
-/
namespace Go.Proofs.YtjljbfcdpdckeaaGreat
open Go Go.Pc
end Go.Proofs.YtjljbfcdpdckeaaGreat

/-
  Walks: the program's order, index code, transversal; Transversal.
  Conditions: stated at each theorem.
-/
namespace Go.Proofs.YtjljbfcdpdckeaaGreat
open Go Go.Pc
set_option maxHeartbeats 1000000 in
theorem orderOf_ok {p : Pr} (hv : Valid p) {w : World} {vp : Value} {lo hi : Nat} [hp : PresP lo hi w vp p] :
    Calls Tryz.prog 44 #[vp] w (Ret fun v w' => v = .int .i64 (ordL p (List.range p.n)) ∧ Ext w w') := by
  have hn6 := hv.n6
  have hol : p.ord.length = p.n := rfl
  have hrl : (List.range p.n).length = p.n := by simp
  obtain ⟨g, og, vo, vpw, vc, ps, cs, css, rfl, hg1, hg2, hc0, hc1, hc2, h1, h2, h3⟩ := hp.ex
  refine enter (args := [.pointer (some ⟨g, og, none⟩)]) (l := [.tmp 2]) Tryz.func44 rfl rfl Tryz.ntmps44 (by simp) ?_
  refine go ?_
  refine r_for p.n (fun k ρ w' => Has ρ [(3, .int .i64 (ordL p ((List.range p.n).take k))), (9, vo), (10, .int .i64 p.ord.length), (11, .int .i64 k)] ∧ Ext w w') ?_ ?_
  · refine ⟨?_, Ext.refl _⟩
    exact hasP
  rintro k ρ w2 hk ⟨hH, he2⟩
  refine rwp_has hH fun ρ0 => ?_
  refine go ?_
  refine c_if (fun h4 => ?_) (fun h4 => ?_)
  · have hkn : k < p.n := by omega
    have hod := hv.opos hkn
    have hr := ordL_rng hv (l := List.range p.n) (fun d hd => List.mem_range.1 hd) (by omega) (k := k) (by omega)
    have hm : 0 ≤ ordL p ((List.range p.n).take k) * p.o k ∧ ordL p ((List.range p.n).take k) * p.o k ≤ 117649 * 7 := ⟨Int.mul_nonneg (by omega) (by omega), Int.mul_le_mul hr.2 hod.2 (by omega) (by omega)⟩
    have hmb : -9223372036854775808 ≤ ordL p ((List.range p.n).take k) * p.o k ∧ ordL p ((List.range p.n).take k) * p.o k ≤ 9223372036854775807 := ⟨by omega, by omega⟩
    have hst := ordL_take (p := p) (List.range p.n) (show k < (List.range p.n).length by omega)
    rw [show (List.range p.n).getD k 0 = k by simp [hkn]] at hst
    refine go ?_
    rw [show p.ord.getD k 0 = p.o k from rfl]
    refine ra (h := rd_mul (by ((try simp only [ev_tmp, ev_const, ev_func, get_put, get_args, get_putL, get_putL_nil, Nat.reduceEqDiff, reduceIte, List.getD_cons_zero, List.getD_cons_succ, List.getD_nil]); first | done | with_reducible rfl)) (by ((try simp only [ev_tmp, ev_const, ev_func, get_put, get_args, get_putL, get_putL_nil, Nat.reduceEqDiff, reduceIte, List.getD_cons_zero, List.getD_cons_succ, List.getD_nil]); first | done | with_reducible rfl)) hmb) (next := ?_)
    refine go ?_
    refine forQ_normal (by omega) ⟨?_, he2⟩
    rw [hst]
    exact hasP
  · refine go ?_
    have e : (List.range p.n).take k = List.range p.n := by rw [show k = p.n by omega, List.take_of_length_le (by omega)]
    rw [e]
    exact ret1 ⟨rfl, he2⟩
end Go.Proofs.YtjljbfcdpdckeaaGreat

/-
  Drawn regions in which two operations may come up: both orders; reads at their place.
  Conditions: none; nothing of the program stands here.
-/
namespace Go.Pc
open Go Go.RowKit
section
variable {P : Program} {N : Nat} {ops : Array Oper} {π π' : List Nat} {S : World → Prop} {K : Env → World → Prop} {ρ : Env} {w : World}
variable {i : Nat} {d : Nat} {op : Op} {ty : TypeId} {pos : String} {after : Array Edge} {g : Option (Nat × Bool)}
/-- One operation at place i has been carried out. -/
def dstp (P : Program) (N : Nat) (ops : Array Oper) (π : List Nat) (S : World → Prop) (K : Env → World → Prop) (i : Nat) (ρ : Env) (w : World) : Prop :=
  S w → ∀ a, Ok N a ρ → Closed ops (listedTo ops.size (π.take (i + 1))) → wpOp P ops (liftQ N (onK K)) (π.getD i 0) (fun a' w' => (lastOf ops π ≠ some (π.getD i 0) → S w') ∧ wpAnyL P ops (liftQ N (onK K)) S (lastOf ops π) (π.length - (i + 1)) (listedTo ops.size (π.take (i + 1))) a' w') a w
theorem dstp_step {o : Oper} (hi : opAt ops π i = some o) (hg : Wants ops ρ o.guard)
    (h : S w → ∀ a, Ok N a ρ → o.wp P a w (fun a' w' => S w' ∧ ∃ ρ', Ok N a' ρ' ∧ (S w' → dops P N ops π S K (i + 1) ρ' w')) (liftQ N (onK K))) : dstp P N ops π S K i ρ w := by
  intro hS a ha hcl
  obtain ⟨hlt, hi⟩ := opAt_some hi
  unfold wpOp
  simp only [hi, Wants.wanted ha hg, if_true]
  refine .inl (Oper.wp_mono ?_ (h hS a ha))
  rintro a' w' ⟨hS', ρ', hok, hnx⟩
  have h5 := hnx hS'
  unfold dops at h5
  exact ⟨fun _ => hS', h5 hS' _ hok hcl⟩
theorem dstp_ex {v : Value} {w' : World} (hi : opAt ops π i = some ⟨some d, op, ty, pos, after, g⟩) (hd : d < N) (hg : Wants ops ρ g) (h : Ex P op ty ρ w v w') (hS' : S w → S w')
    (next : dops P N ops π S K (i + 1) (put ρ d v) w') : dstp P N ops π S K i ρ w := by
  refine dstp_step hi hg fun hS a ha => ?_
  unfold Oper.wp
  rw [ha.eval, h.run]
  exact ⟨hS' hS, _, ha.put hd v, fun _ => next⟩
theorem dt_fork (hl : i < π.length) (hl' : π'.length = π.length) (ht : listedTo ops.size (π'.take i) = listedTo ops.size (π.take i)) (hr : (Region.ready .any ops (listedTo ops.size (π.take i)) == [π.getD i 0, π'.getD i 0]) = true)
    (h1 : dstp P N ops π S K i ρ w) (h2 : dstp P N ops π' S K i ρ w) (hll : lastOf ops π' = lastOf ops π := by decide +kernel) : dops P N ops π S K i ρ w := by
  unfold dops
  intro hS a ha hcl
  have hnn : π.length - i = (π.length - (i + 1)) + 1 := by omega
  rw [hnn]
  refine wpAnyL_all (rs := [π.getD i 0, π'.getD i 0]) (by simpa only [beq_iff_eq] using hr) (by simp) ?_
  have hr' : Region.ready .any ops (listedTo ops.size (π.take i)) = [π.getD i 0, π'.getD i 0] := by simpa only [beq_iff_eq] using hr
  intro j hj
  have hcl' := hcl.step (j := j) (by rw [hr']; exact hj)
  rcases List.mem_cons.1 hj with rfl | hj
  · rw [listed_next _ _ _ hl] at hcl' ⊢
    exact h1 hS a ha hcl'
  · obtain rfl := List.mem_singleton.1 hj
    rw [← ht, listed_next _ _ _ (by omega)] at hcl'
    rw [← ht, listed_next _ _ _ (by omega), ← hl', ← hll]
    exact h2 hS a ha hcl'
end
end Go.Pc

/-
  The builtin copy into a list of the call's own; operations on literal words.
  Conditions: none; nothing of the program stands here.
-/
namespace Go.Pc
open Go Go.RowKit
section
variable {P : Program} {N : Nat} {ops : Array Oper} {π : List Nat} {K : Env → World → Prop} {ρ : Env} {w w0 : World} {l : List Oper}
variable {i : Nat} {ty : TypeId} {pos : String} {after : Array Edge} {g : Option (Nat × Bool)} {d : Nat}
theorem rd_bin {o : BinOp} {x y : Operand} {a b v : Value} {tx tyy : TypeId} (hx : ev ρ x = a) (hy : ev ρ y = b) (ho : ∀ w, (eqGuard o tx x y a b).run P w = .ok () w) (hv : ∀ w, (binOp o tx a b).run P w = .ok v w) : Rd P (.binOp o tx x y tyy) ty ρ w v := by
  constructor; intro _ _ _ _
  simp [execOp, hx, hy, hv, ho]
theorem rd_conv {x : Operand} {n m : Int} {k k' : IntKind} {src dst : TypeId} {u : TypeDesc} (hx : ev ρ x = .int k n) (hs : P.underlying src = some u) (hd : P.underlying dst = some (.int k')) (hv : k'.wrap n = m) : Rd P (.convert src dst x) ty ρ w (.int k' m) := by
  constructor; intro _ _ _ _
  simp [execOp, hx, convert, run_underlying hs, run_underlying hd, Conv.intToInt, hv]
theorem splice_take {α : Type} (L us cs : List α) {n o : Nat} (h : L.take n = us) (hn : us.length = n) (hf : o + cs.length ≤ n) : (L.take o ++ cs ++ L.drop (o + cs.length)).take n = us.take o ++ cs ++ us.drop (o + cs.length) := by
  obtain ⟨r, rfl⟩ : ∃ r, L = us ++ r := ⟨L.drop n, by rw [← h, List.take_append_drop]⟩
  have e1 : (us ++ r).take o = us.take o := List.take_append_of_le_length (by omega)
  have e2 : (us ++ r).drop (o + cs.length) = us.drop (o + cs.length) ++ r := List.drop_append_of_le_length (by omega)
  rw [e1, e2, ← List.append_assoc]
  refine List.take_left' ?_
  simp only [List.length_append, List.length_take, List.length_drop]
  omega
theorem run_copyI {t e b bytes n dl dc sl sc : Nat} {x y : Operand} {z v : Value} {a : Addr} {xs cs : List Int} [ht : SlT P t e] [he : ElT P e 1 bytes z] (ho : OwnI e b w v xs) (hx : ev ρ x = .slice (some ⟨b, n, none⟩) dl dc) (hy : ev ρ y = .slice (some a) sl sc)
    (hn : cs.length = Nat.min sl dl) (hsrc : ∀ (j : Nat) (u : Int), cs[j]? = some u → w.cell? (a.add j) = some (.int .i64 u)) (hf : n + cs.length ≤ xs.length) :
    ∃ w', Ex P (.call { callee := .builtin .copy, args := #[x, y], argTypes := #[t, t] }) ty ρ w (.int .i64 cs.length) w' ∧ Chg b w w' ∧ w'.heap.size = w.heap.size ∧ OwnI e b w' v (xs.take n ++ cs ++ xs.drop (n + cs.length)) := by
  obtain ⟨cap, cur, hv, hb, h1, h2, h3, h4⟩ := ho.own.ex
  obtain ⟨i, hi, hs, hby, hz'⟩ := he.ex
  have hml : (cs.map (Value.int .i64)).length = cs.length := by simp
  have hxl : (xs.map (Value.int .i64)).length = xs.length := by simp
  have hrun := run_copy_row (P := P) w t t ty e b n dl dc a sl sc cur e (cs.map (Value.int .i64)) ht.eq (by simp [hi, hs]) hb (by rw [hml]; exact hn) (fun j u hu => by
    rw [List.getElem?_map] at hu
    cases hj : cs[j]? with
    | none => rw [hj] at hu; cases hu
    | some k => rw [hj] at hu; injection hu with hu; rw [← hu]; exact hsrc j k hj) (by rw [hml]; omega) (fun u hu => by
    obtain ⟨k, _, rfl⟩ := List.mem_map.1 hu
    rfl)
  refine ⟨w.setRow b (cur.toList.take n ++ cs.map (Value.int .i64) ++ cur.toList.drop (n + (cs.map (Value.int .i64)).length)).toArray, ⟨fun _ _ _ _ => ?_⟩, ⟨⟨rfl, rfl, rfl, ?_, fun k hk hne => setRow_other w b k _ (fun e => hne (by simp [e]))⟩⟩, ?_, ⟨⟨cap, _, ?_, setRow_heap w b _ _ e _ hb, ?_, h2, ?_, ?_⟩⟩⟩
  · simp [execOp, resolve, invoke, builtin, hx, hy, hrun, goInt]
  · simp
  · simp
  · rw [hv]
    simp only [List.length_map, List.length_append, List.length_take, List.length_drop]
    congr 1
    omega
  · simp only [List.length_map, List.length_append, List.length_take, List.length_drop]
    omega
  · have : cur.toList.length = cap := by simpa using h3
    simp only [List.size_toArray, List.length_append, List.length_take, List.length_drop, hml]
    omega
  · rw [List.toList_toArray]
    have e1 : ((xs.take n ++ cs ++ xs.drop (n + cs.length)).map (Value.int .i64)).length = (xs.map (Value.int .i64)).length := by
      simp only [List.length_map, List.length_append, List.length_take, List.length_drop]; omega
    rw [e1, splice_take cur.toList (xs.map (Value.int .i64)) (cs.map (Value.int .i64)) h4 rfl (by rw [hml, hxl]; exact hf)]
    simp only [List.map_append, List.map_take, List.map_drop, hml]
theorem st_copyi {t e b bytes n dl dc sl sc : Nat} {x y : Operand} {z v : Value} {a : Addr} {xs cs : List Int} [ht : SlT P t e] [he : ElT P e 1 bytes z] (ho : OwnI e b w v xs) (hx : ev ρ x = .slice (some ⟨b, n, none⟩) dl dc) (hy : ev ρ y = .slice (some a) sl sc)
    (hn : cs.length = Nat.min sl dl) (hsrc : ∀ (j : Nat) (u : Int), cs[j]? = some u → w.cell? (a.add j) = some (.int .i64 u)) (hf : n + cs.length ≤ xs.length)
    (next : ∀ w', Chg b w w' → OwnI e b w' v (xs.take n ++ cs ++ xs.drop (n + cs.length)) → rops P N ops K l (put ρ d (.int .i64 cs.length)) w') (hg : Wants ops ρ g := by first | exact True.intro | exact ⟨_, rfl, by ((try simp only [ev_tmp, ev_const, ev_func, get_put, get_args, get_putL, get_putL_nil, Nat.reduceEqDiff, reduceIte, List.getD_cons_zero, List.getD_cons_succ, List.getD_nil, Bool.not_true, Bool.not_false]); first | done | with_reducible rfl)⟩) :
    rops P N ops K (⟨some d, .call { callee := .builtin .copy, args := #[x, y], argTypes := #[t, t] }, ty, pos, after, g⟩ :: l) ρ w := by
  obtain ⟨w', h1, h2, h3, h4⟩ := run_copyI (P := P) (ρ := ρ) (ty := ty) (t := t) ho hx hy hn hsrc hf
  exact st_ex hg h1 (next w' h2 h4)
theorem z_copyi {t e b bytes n dl dc sl sc : Nat} {x y : Operand} {z v : Value} {a : Addr} {xs cs : List Int} [ht : SlT P t e] [he : ElT P e 1 bytes z] (ho : OwnI e b w v xs) (hi : opAt ops π i = some ⟨some d, .call { callee := .builtin .copy, args := #[x, y], argTypes := #[t, t] }, ty, pos, after, g⟩ := by exact rfl) (hx : ev ρ x = .slice (some ⟨b, n, none⟩) dl dc) (hy : ev ρ y = .slice (some a) sl sc)
    (hn : cs.length = Nat.min sl dl) (hsrc : ∀ (j : Nat) (u : Int), cs[j]? = some u → w.cell? (a.add j) = some (.int .i64 u)) (hf : n + cs.length ≤ xs.length)
    (next : ∀ w', Chg b w w' → OwnI e b w' v (xs.take n ++ cs ++ xs.drop (n + cs.length)) → dops P N ops π (Chg b w0) K (i + 1) (put ρ d (.int .i64 cs.length)) w')
    (hn1 : nextOk ops π i = true := by decide +kernel) (hd : d < N := by decide) (hg : Wants ops ρ g := by first | exact True.intro | exact ⟨_, rfl, by ((try simp only [ev_tmp, ev_const, ev_func, get_put, get_args, get_putL, get_putL_nil, Nat.reduceEqDiff, reduceIte, List.getD_cons_zero, List.getD_cons_succ, List.getD_nil, Bool.not_true, Bool.not_false]); first | done | with_reducible rfl)⟩) :
    dops P N ops π (Chg b w0) K i ρ w := by
  obtain ⟨w', h1, h2, h3, h4⟩ := run_copyI (P := P) (ρ := ρ) (ty := ty) (t := t) ho hx hy hn hsrc hf
  exact dt_ex hi hn1 hd hg h1 (fun hS => hS.trans h2) (next w' h2 h4)
end
end Go.Pc

/-
  Walks: the program's words (slices.Reverse, invertWord, normalWord).
  Conditions: stated at each theorem.
-/
namespace Go.Proofs.YtjljbfcdpdckeaaGreat
open Go Go.Pc
theorem _root_.Go.Pc.Ex.ofRd {P : Program} {o : Op} {ty : TypeId} {ρ : Env} {w : World} {v : Value} (h : Rd P o ty ρ w v) : Ex P o ty ρ w v w := ⟨h.run⟩
set_option maxHeartbeats 2000000 in
theorem sliceReverse_ok {e b : Nat} {w : World} {v : Value} {xs : List Int} [ho : OwnI e b w v xs] (hl : xs.length ≤ 1000000) :
    Calls Tryz.prog 94 #[v] w (Ret fun _ w' => Chg b w w' ∧ OwnI e b w' v xs.reverse) := by
  refine enter (args := [v]) (l := []) Tryz.func94 rfl rfl Tryz.ntmps94 (by simp) ?_
  refine go ?_
  refine r_for xs.length (fun k ρ w' => ∃ ys, Has ρ [(0, v), (2, .int .i64 k), (3, .int .i64 ((xs.length : Int) - 1 - k))] ∧ Chg b w w' ∧ OwnI e b w' v ys ∧ ys.length = xs.length ∧ 2 * k ≤ xs.length ∧ (∀ t, t < k → ys.getD t 0 = xs.getD (xs.length - 1 - t) 0 ∧ ys.getD (xs.length - 1 - t) 0 = xs.getD t 0) ∧ ∀ t, k ≤ t → t + k < xs.length → ys.getD t 0 = xs.getD t 0) ?_ ?_
  · refine ⟨xs, ?_, Chg.refl _ _, ho, rfl, by omega, fun t ht => by omega, fun t _ _ => rfl⟩
    exact hasP
  clear ho
  rintro k ρ w2 hk ⟨ys, hH, hc2, ho2, hyl, hk2, hI, hJ⟩
  refine rwp_has hH fun ρ0 => ?_
  refine go ?_
  refine c_if (fun h4 => ?_) (fun h4 => ?_)
  · have hkn : 2 * k + 1 < xs.length := by omega
    obtain ⟨j, hj⟩ : ∃ j, xs.length - 1 - k = j := ⟨_, rfl⟩
    have hcast : ((xs.length : Int) - 1 - k) = (j : Int) := by omega
    have hjn : j < ys.length := by omega
    have hkn2 : k < ys.length := by omega
    have hkj : k < j := by omega
    rw [hcast]
    refine go ?_
    have hcast2 : ((xs.length : Int) - 1 - ((k + 1 : Nat) : Int)) = (j : Int) - 1 := by omega
    have hstepI : ∀ t, t < k + 1 → ((ys.set k (ys.getD j 0)).set j (ys.getD k 0)).getD t 0 = xs.getD (xs.length - 1 - t) 0 ∧ ((ys.set k (ys.getD j 0)).set j (ys.getD k 0)).getD (xs.length - 1 - t) 0 = xs.getD t 0 := fun t ht => by
      by_cases e : t = k
      · subst e
        rw [hj, Pc.getD_set_ne _ _ _ _ (by omega), Pc.getD_set_eq _ _ _ hkn2, Pc.getD_set_eq _ _ _ (by simpa using hjn)]
        exact ⟨hJ j (by omega) (by omega), hJ t (by omega) (by omega)⟩
      · rw [Pc.getD_set_ne _ _ _ _ (by omega), Pc.getD_set_ne _ _ _ _ (by omega), Pc.getD_set_ne _ _ _ _ (by omega), Pc.getD_set_ne _ _ _ _ (by omega)]
        exact hI t (by omega)
    have hstepJ : ∀ t, k + 1 ≤ t → t + (k + 1) < xs.length → ((ys.set k (ys.getD j 0)).set j (ys.getD k 0)).getD t 0 = xs.getD t 0 := fun t h1 h2 => by
      rw [Pc.getD_set_ne _ _ _ _ (by omega), Pc.getD_set_ne _ _ _ _ (by omega)]
      exact hJ t (by omega) (by omega)
    refine z_order b [0, 1, 2, 3, 4, 5, 6, 8, 9, 10, 7, 11, 12, 13, 14, 15] (h := fun w3 he3 _ => ?_)
    have hi3 : Ints b (b + 1) w3 v ys := ⟨(OwnI.ext (x := he3) (h := ho2)).own.toSl⟩
    refine zgo ?_
    refine dt_fork (π' := [0, 1, 2, 3, 4, 5, 6, 8, 9, 10, 11, 7, 12, 13, 14, 15]) (by decide) rfl rfl (by decide +kernel) ?_ ?_
    · refine dstp_ex (v := .int .i64 (ys.getD j 0)) (by exact rfl) (by decide) (by first | exact True.intro | exact ⟨_, rfl, by ((try simp only [ev_tmp, ev_const, ev_func, get_put, get_args, get_putL, get_putL_nil, Nat.reduceEqDiff, reduceIte, List.getD_cons_zero, List.getD_cons_succ, List.getD_nil, Bool.not_true, Bool.not_false]); first | done | with_reducible rfl)⟩) (Ex.ofRd (rd_load_ints (by ((try simp only [ev_tmp, ev_const, ev_func, get_put, get_args, get_putL, get_putL_nil, Nat.reduceEqDiff, reduceIte, List.getD_cons_zero, List.getD_cons_succ, List.getD_nil]); first | done | with_reducible rfl)) hjn)) id ?_
      refine dt_ex (v := .int .i64 (ys.getD k 0)) (by exact rfl) (by decide +kernel) (by decide) (by first | exact True.intro | exact ⟨_, rfl, by ((try simp only [ev_tmp, ev_const, ev_func, get_put, get_args, get_putL, get_putL_nil, Nat.reduceEqDiff, reduceIte, List.getD_cons_zero, List.getD_cons_succ, List.getD_nil, Bool.not_true, Bool.not_false]); first | done | with_reducible rfl)⟩) (Ex.ofRd (rd_load_ints (by ((try simp only [ev_tmp, ev_const, ev_func, get_put, get_args, get_putL, get_putL_nil, Nat.reduceEqDiff, reduceIte, List.getD_cons_zero, List.getD_cons_succ, List.getD_nil]); first | done | with_reducible rfl)) hkn2)) id ?_
      refine zgo ?_
      refine z_store_int (h := OwnI.ext (x := he3) (h := ho2)) (m := k) (hx := (by ((try simp only [ev_tmp, ev_const, ev_func, get_put, get_args, get_putL, get_putL_nil, Nat.reduceEqDiff, reduceIte, List.getD_cons_zero, List.getD_cons_succ, List.getD_nil]); first | done | with_reducible rfl))) (hy := (by ((try simp only [ev_tmp, ev_const, ev_func, get_put, get_args, get_putL, get_putL_nil, Nat.reduceEqDiff, reduceIte, List.getD_cons_zero, List.getD_cons_succ, List.getD_nil]); first | done | with_reducible rfl))) (hm := hkn2) (next := fun w5 hc5 hs5 ho5 => ?_)
      refine zgo ?_
      refine z_store_int (h := ho5) (m := j) (hx := (by ((try simp only [ev_tmp, ev_const, ev_func, get_put, get_args, get_putL, get_putL_nil, Nat.reduceEqDiff, reduceIte, List.getD_cons_zero, List.getD_cons_succ, List.getD_nil]); first | done | with_reducible rfl))) (hy := (by ((try simp only [ev_tmp, ev_const, ev_func, get_put, get_args, get_putL, get_putL_nil, Nat.reduceEqDiff, reduceIte, List.getD_cons_zero, List.getD_cons_succ, List.getD_nil]); first | done | with_reducible rfl))) (hm := by simpa using hjn) (next := fun w6 hc6 hs6 ho6 => ?_)
      refine z_end ?_
      refine go ?_
      refine forQ_normal (by omega) ⟨_, ?_, (hc2.grow he3).trans (hc5.trans hc6), ho6, by simp [hyl], by omega, fun t ht => ?_, fun t ht ht2 => ?_⟩
      · rw [← hcast2]
        exact hasP
      · exact hstepI t ht
      · exact hstepJ t ht ht2
    · refine dstp_ex (v := .int .i64 (ys.getD k 0)) (by exact rfl) (by decide) (by first | exact True.intro | exact ⟨_, rfl, by ((try simp only [ev_tmp, ev_const, ev_func, get_put, get_args, get_putL, get_putL_nil, Nat.reduceEqDiff, reduceIte, List.getD_cons_zero, List.getD_cons_succ, List.getD_nil, Bool.not_true, Bool.not_false]); first | done | with_reducible rfl)⟩) (Ex.ofRd (rd_load_ints (by ((try simp only [ev_tmp, ev_const, ev_func, get_put, get_args, get_putL, get_putL_nil, Nat.reduceEqDiff, reduceIte, List.getD_cons_zero, List.getD_cons_succ, List.getD_nil]); first | done | with_reducible rfl)) hkn2)) id ?_
      refine dt_ex (v := .int .i64 (ys.getD j 0)) (by exact rfl) (by decide +kernel) (by decide) (by first | exact True.intro | exact ⟨_, rfl, by ((try simp only [ev_tmp, ev_const, ev_func, get_put, get_args, get_putL, get_putL_nil, Nat.reduceEqDiff, reduceIte, List.getD_cons_zero, List.getD_cons_succ, List.getD_nil, Bool.not_true, Bool.not_false]); first | done | with_reducible rfl)⟩) (Ex.ofRd (rd_load_ints (by ((try simp only [ev_tmp, ev_const, ev_func, get_put, get_args, get_putL, get_putL_nil, Nat.reduceEqDiff, reduceIte, List.getD_cons_zero, List.getD_cons_succ, List.getD_nil]); first | done | with_reducible rfl)) hjn)) id ?_
      refine zgo ?_
      refine z_store_int (h := OwnI.ext (x := he3) (h := ho2)) (m := k) (hx := (by ((try simp only [ev_tmp, ev_const, ev_func, get_put, get_args, get_putL, get_putL_nil, Nat.reduceEqDiff, reduceIte, List.getD_cons_zero, List.getD_cons_succ, List.getD_nil]); first | done | with_reducible rfl))) (hy := (by ((try simp only [ev_tmp, ev_const, ev_func, get_put, get_args, get_putL, get_putL_nil, Nat.reduceEqDiff, reduceIte, List.getD_cons_zero, List.getD_cons_succ, List.getD_nil]); first | done | with_reducible rfl))) (hm := hkn2) (next := fun w5 hc5 hs5 ho5 => ?_)
      refine zgo ?_
      refine z_store_int (h := ho5) (m := j) (hx := (by ((try simp only [ev_tmp, ev_const, ev_func, get_put, get_args, get_putL, get_putL_nil, Nat.reduceEqDiff, reduceIte, List.getD_cons_zero, List.getD_cons_succ, List.getD_nil]); first | done | with_reducible rfl))) (hy := (by ((try simp only [ev_tmp, ev_const, ev_func, get_put, get_args, get_putL, get_putL_nil, Nat.reduceEqDiff, reduceIte, List.getD_cons_zero, List.getD_cons_succ, List.getD_nil]); first | done | with_reducible rfl))) (hm := by simpa using hjn) (next := fun w6 hc6 hs6 ho6 => ?_)
      refine z_end ?_
      refine go ?_
      refine forQ_normal (by omega) ⟨_, ?_, (hc2.grow he3).trans (hc5.trans hc6), ho6, by simp [hyl], by omega, fun t ht => ?_, fun t ht ht2 => ?_⟩
      · rw [← hcast2]
        exact hasP
      · exact hstepI t ht
      · exact hstepJ t ht ht2
  · refine go ?_
    refine retQ_0 ⟨hc2, ?_⟩
    have e : ys = xs.reverse := list_ext0 (by simp [hyl]) fun t ht => by
      have hr : xs.reverse.getD t 0 = xs.getD (xs.length - 1 - t) 0 := by
        have h1 : t < xs.reverse.length := by simp; omega
        have h2 : xs.length - 1 - t < xs.length := by omega
        rw [List.getD_eq_getElem?_getD, List.getElem?_eq_getElem h1, List.getD_eq_getElem?_getD, List.getElem?_eq_getElem h2, List.getElem_reverse]
      rw [hr]
      by_cases e1 : t < k
      · exact (hI t e1).1
      · by_cases e2 : t + k < xs.length
        · rw [hJ t (by omega) e2, show xs.length - 1 - t = t by omega]
        · have h3 := (hI (xs.length - 1 - t) (by omega)).2
          rw [show xs.length - 1 - (xs.length - 1 - t) = t by omega] at h3
          exact h3
    rw [← e]
    exact ho2
theorem sliceReverse_nil {w : World} {v : Value} {lo hi : Nat} [hx : Ints lo hi w v []] :
    Calls Tryz.prog 94 #[v] w (Ret fun _ w' => w' = w) := by
  have h0 : (([] : List Int).length : Int) = 0 := rfl
  refine enter (args := [v]) (l := []) Tryz.func94 rfl rfl Tryz.ntmps94 (by simp) ?_
  refine go ?_
  refine r_for 0 (fun k ρ w' => Has ρ [(0, v), (2, .int .i64 0), (3, .int .i64 ((([] : List Int).length : Int) - 1))] ∧ w' = w) ?_ ?_
  · refine ⟨?_, rfl⟩
    exact hasP
  rintro k ρ w2 hk ⟨hH, rfl⟩
  refine rwp_has hH fun ρ0 => ?_
  refine go ?_
  refine c_if (fun h4 => ?_) (fun h4 => ?_)
  · omega
  · refine go ?_
    exact retQ_0 rfl
theorem app_repl' (w : List Int) (m : Nat) (a : Int) : (w ++ List.replicate m a) ++ [a] = w ++ List.replicate (m + 1) a := by
  rw [List.append_assoc]
  congr 1
  exact (List.replicate_succ' (n := m) (a := a)).symm
set_option maxHeartbeats 2000000 in
theorem normalWord_ok {e : List Int} {w : World} {vx : Value} {lo hi : Nat} [hx : Ints lo hi w vx e] (hl : e.length ≤ 100) (hr : ∀ i, i < e.length → 0 ≤ e.getD i 0 ∧ e.getD i 0 ≤ 100) :
    Calls Tryz.prog 50 #[vx] w (Ret fun v w' => Ext w w' ∧ GrowI 2 w.heap.size w' v (wordV e)) := by
  have hwl : ∀ k, (wordV (e.take k)).length ≤ 10000 := fun k => by
    have h1 := wordA_len (b := 100) (e.take k) 0 fun x hx => by
      obtain ⟨i, hi, rfl⟩ := List.getElem_of_mem (List.mem_of_mem_take hx)
      have := (hr i hi).2
      simpa [hi] using this
    have h2 : (e.take k).length * 100 ≤ 100 * 100 := Nat.mul_le_mul_right _ (by rw [List.length_take]; omega)
    exact Nat.le_trans h1 h2
  refine enter (args := [vx]) (l := [.tmp 2]) Tryz.func50 rfl rfl Tryz.ntmps50 (by simp) ?_
  refine go ?_
  refine r_for e.length (fun k ρ w' => ∃ vl, Has ρ [(3, vl), (6, vx), (7, .int .i64 e.length), (8, .int .i64 k)] ∧ Ext w w' ∧ GrowI 2 w.heap.size w' vl (wordV (e.take k))) ?_ ?_
  · refine ⟨nilv, ?_, Ext.refl _, GrowI.nil _ _ _⟩
    exact hasP
  rintro k ρ w2 hk ⟨vl, hH, he2, hG2⟩
  refine rwp_has hH fun ρ0 => ?_
  refine go ?_
  refine c_if (fun h4 => ?_) (fun h4 => ?_)
  · have hkn : k < e.length := by omega
    have hrk := hr k hkn
    have hst := wordV_take hkn
    have hwk := hwl k
    refine go ?_
    refine r_for (e.getD k 0).toNat (fun j ρ w' => ∃ vl, Has ρ [(3, vl), (4, .int .i64 k), (6, vx), (7, .int .i64 e.length), (8, .int .i64 k), (13, .int .i64 (e.getD k 0)), (14, .int .i64 j)] ∧ Ext w w' ∧ GrowI 2 w.heap.size w' vl (wordV (e.take k) ++ List.replicate j ((k : Int) + 1))) ?_ ?_
    · refine ⟨vl, ?_, he2, by simpa using hG2⟩
      exact hasP
    clear hG2 he2
    rintro j ρ w3 hj ⟨vl, hH3, he3, hG3⟩
    refine rwp_has hH3 fun ρ1 => ?_
    have hz3 := he3.size
    refine go ?_
    refine c_if (fun h5 => ?_) (fun h5 => ?_)
    · refine go ?_
      refine st_growi hG3 hz3 (by simp only [List.length_append, List.length_replicate]; omega) (next := fun v4 v5 w5 hG5 hx5 hz5 hgs5 => ?_)
      refine go ?_
      refine forQ_normal (by omega) ⟨v5, ?_, hx5 w he3 (Nat.le_refl _), ?_⟩
      · exact hasP
      · rw [← app_repl']; exact hG5
    · obtain rfl : j = (e.getD k 0).toNat := by omega
      rw [← hst] at hG3
      refine go ?_
      refine forQ_normal (by omega) ⟨vl, ?_, he3, hG3⟩
      exact hasP
  · obtain rfl : k = e.length := by omega
    rw [List.take_length] at hG2
    refine go ?_
    exact ret1 ⟨he2, hG2⟩
set_option maxHeartbeats 2000000 in
theorem invertWord_ok {e : List Int} {w : World} {vx : Value} {lo hi : Nat} [hx : Ints lo hi w vx e] (hl : e.length ≤ 100000) (hr : ∀ i, i < e.length → -1000000 ≤ e.getD i 0 ∧ e.getD i 0 ≤ 1000000) :
    Calls Tryz.prog 70 #[vx] w (Ret fun v w' => Ext w w' ∧ GrowI 2 w.heap.size w' v (invW e)) := by
  have hml : (e.map fun x => -x).length = e.length := by simp
  refine enter (args := [vx]) (l := [.tmp 2]) Tryz.func70 rfl rfl Tryz.ntmps70 (by simp) ?_
  refine go ?_
  refine r_for e.length (fun k ρ w' => ∃ vl, Has ρ [(3, vl), (6, vx), (7, .int .i64 e.length), (8, .int .i64 k)] ∧ Ext w w' ∧ GrowI 2 w.heap.size w' vl ((e.map fun x => -x).take k)) ?_ ?_
  · refine ⟨nilv, ?_, Ext.refl _, GrowI.nil _ _ _⟩
    exact hasP
  rintro k ρ w2 hk ⟨vl, hH, he2, hG2⟩
  refine rwp_has hH fun ρ0 => ?_
  have hz2 := he2.size
  refine go ?_
  refine c_if (fun h4 => ?_) (fun h4 => ?_)
  · have hkn : k < e.length := by omega
    have hri := hr k hkn
    have hst : (e.map fun x => -x).take (k + 1) = (e.map fun x => -x).take k ++ [-(e.getD k 0)] := by
      rw [List.take_succ_eq_append_getElem (by omega)]
      congr 2
      simp [hkn]
    refine go ?_
    refine st_growi hG2 hz2 (by rw [List.length_take]; omega) (next := fun v4 v5 w5 hG5 hx5 hz5 hgs5 => ?_)
    refine go ?_
    refine forQ_normal (by omega) ⟨v5, ?_, hx5 w he2 (Nat.le_refl _), ?_⟩
    · exact hasP
    · rw [hst]; exact hG5
  · obtain rfl : k = e.length := by omega
    rw [List.take_of_length_le (by omega)] at hG2
    by_cases hn : e = []
    · subst hn
      have hi2 : Ints w.heap.size w2.heap.size w2 vl [] := hG2.fr.ints
      refine go ?_
      refine rc (sliceReverse_nil) (next := fun v3 w3 h3 => ?_)
      obtain rfl := h3
      refine go ?_
      exact ret1 ⟨he2, hG2⟩
    · obtain ⟨b, hb, _, ho⟩ := hG2.own.toOwn (by simpa using hn)
      have hoi : OwnI 2 b w2 vl (e.map fun x => -x) := ⟨ho⟩
      clear hG2
      refine go ?_
      refine rc (sliceReverse_ok (xs := e.map fun x => -x) (by omega)) (next := fun v3 w3 h3 => ?_)
      obtain ⟨hc3, ho3⟩ := h3
      refine go ?_
      exact ret1 ⟨hc3.ext he2 hb, ⟨ho3.own.toN.mono hb⟩⟩
end Go.Proofs.YtjljbfcdpdckeaaGreat

/-
  Walks: math/bits.Mul at small words, slices.Repeat of one integer.
  Conditions: stated at each theorem.
-/
namespace Go.Proofs.YtjljbfcdpdckeaaGreat
open Go Go.Pc
set_option maxHeartbeats 1000000 in
theorem bitsMul64_2 {w : World} : Calls Tryz.prog 113 #[.int .u64 1, .int .u64 2] w (Ret fun v w' => v = .tuple #[.int .u64 0, .int .u64 2] ∧ w' = w) := by
  refine enter (args := [.int .u64 1, .int .u64 2]) (l := [.tmp 4, .tmp 5]) Tryz.func113 rfl rfl Tryz.ntmps113 (by simp) ?_
  refine go ?_
  refine ra (v := .int .u64 1) (h := rd_bin (by ((try simp only [ev_tmp, ev_const, ev_func, get_put, get_args, get_putL, get_putL_nil, Nat.reduceEqDiff, reduceIte, List.getD_cons_zero, List.getD_cons_succ, List.getD_nil]); first | done | with_reducible rfl)) (by ((try simp only [ev_tmp, ev_const, ev_func, get_put, get_args, get_putL, get_putL_nil, Nat.reduceEqDiff, reduceIte, List.getD_cons_zero, List.getD_cons_succ, List.getD_nil]); first | done | with_reducible rfl)) (fun _ => rfl) (fun _ => rfl)) (next := ?_)
  refine go ?_
  refine ra (v := .int .u64 0) (h := rd_bin (by ((try simp only [ev_tmp, ev_const, ev_func, get_put, get_args, get_putL, get_putL_nil, Nat.reduceEqDiff, reduceIte, List.getD_cons_zero, List.getD_cons_succ, List.getD_nil]); first | done | with_reducible rfl)) (by ((try simp only [ev_tmp, ev_const, ev_func, get_put, get_args, get_putL, get_putL_nil, Nat.reduceEqDiff, reduceIte, List.getD_cons_zero, List.getD_cons_succ, List.getD_nil]); first | done | with_reducible rfl)) (fun _ => rfl) (fun _ => rfl)) (next := ?_)
  refine go ?_
  refine ra (v := .int .u64 2) (h := rd_bin (by ((try simp only [ev_tmp, ev_const, ev_func, get_put, get_args, get_putL, get_putL_nil, Nat.reduceEqDiff, reduceIte, List.getD_cons_zero, List.getD_cons_succ, List.getD_nil]); first | done | with_reducible rfl)) (by ((try simp only [ev_tmp, ev_const, ev_func, get_put, get_args, get_putL, get_putL_nil, Nat.reduceEqDiff, reduceIte, List.getD_cons_zero, List.getD_cons_succ, List.getD_nil]); first | done | with_reducible rfl)) (fun _ => rfl) (fun _ => rfl)) (next := ?_)
  refine go ?_
  refine ra (v := .int .u64 0) (h := rd_bin (by ((try simp only [ev_tmp, ev_const, ev_func, get_put, get_args, get_putL, get_putL_nil, Nat.reduceEqDiff, reduceIte, List.getD_cons_zero, List.getD_cons_succ, List.getD_nil]); first | done | with_reducible rfl)) (by ((try simp only [ev_tmp, ev_const, ev_func, get_put, get_args, get_putL, get_putL_nil, Nat.reduceEqDiff, reduceIte, List.getD_cons_zero, List.getD_cons_succ, List.getD_nil]); first | done | with_reducible rfl)) (fun _ => rfl) (fun _ => rfl)) (next := ?_)
  refine go ?_
  refine ra (v := .int .u64 2) (h := rd_bin (by ((try simp only [ev_tmp, ev_const, ev_func, get_put, get_args, get_putL, get_putL_nil, Nat.reduceEqDiff, reduceIte, List.getD_cons_zero, List.getD_cons_succ, List.getD_nil]); first | done | with_reducible rfl)) (by ((try simp only [ev_tmp, ev_const, ev_func, get_put, get_args, get_putL, get_putL_nil, Nat.reduceEqDiff, reduceIte, List.getD_cons_zero, List.getD_cons_succ, List.getD_nil]); first | done | with_reducible rfl)) (fun _ => rfl) (fun _ => rfl)) (next := ?_)
  refine go ?_
  refine ra (v := .int .u64 0) (h := rd_bin (by ((try simp only [ev_tmp, ev_const, ev_func, get_put, get_args, get_putL, get_putL_nil, Nat.reduceEqDiff, reduceIte, List.getD_cons_zero, List.getD_cons_succ, List.getD_nil]); first | done | with_reducible rfl)) (by ((try simp only [ev_tmp, ev_const, ev_func, get_put, get_args, get_putL, get_putL_nil, Nat.reduceEqDiff, reduceIte, List.getD_cons_zero, List.getD_cons_succ, List.getD_nil]); first | done | with_reducible rfl)) (fun _ => rfl) (fun _ => rfl)) (next := ?_)
  refine go ?_
  refine ra (v := .int .u64 0) (h := rd_bin (by ((try simp only [ev_tmp, ev_const, ev_func, get_put, get_args, get_putL, get_putL_nil, Nat.reduceEqDiff, reduceIte, List.getD_cons_zero, List.getD_cons_succ, List.getD_nil]); first | done | with_reducible rfl)) (by ((try simp only [ev_tmp, ev_const, ev_func, get_put, get_args, get_putL, get_putL_nil, Nat.reduceEqDiff, reduceIte, List.getD_cons_zero, List.getD_cons_succ, List.getD_nil]); first | done | with_reducible rfl)) (fun _ => rfl) (fun _ => rfl)) (next := ?_)
  refine go ?_
  refine ra (v := .int .u64 0) (h := rd_bin (by ((try simp only [ev_tmp, ev_const, ev_func, get_put, get_args, get_putL, get_putL_nil, Nat.reduceEqDiff, reduceIte, List.getD_cons_zero, List.getD_cons_succ, List.getD_nil]); first | done | with_reducible rfl)) (by ((try simp only [ev_tmp, ev_const, ev_func, get_put, get_args, get_putL, get_putL_nil, Nat.reduceEqDiff, reduceIte, List.getD_cons_zero, List.getD_cons_succ, List.getD_nil]); first | done | with_reducible rfl)) (fun _ => rfl) (fun _ => rfl)) (next := ?_)
  refine go ?_
  refine ra (v := .int .u64 0) (h := rd_bin (by ((try simp only [ev_tmp, ev_const, ev_func, get_put, get_args, get_putL, get_putL_nil, Nat.reduceEqDiff, reduceIte, List.getD_cons_zero, List.getD_cons_succ, List.getD_nil]); first | done | with_reducible rfl)) (by ((try simp only [ev_tmp, ev_const, ev_func, get_put, get_args, get_putL, get_putL_nil, Nat.reduceEqDiff, reduceIte, List.getD_cons_zero, List.getD_cons_succ, List.getD_nil]); first | done | with_reducible rfl)) (fun _ => rfl) (fun _ => rfl)) (next := ?_)
  refine go ?_
  refine ra (v := .int .u64 0) (h := rd_bin (by ((try simp only [ev_tmp, ev_const, ev_func, get_put, get_args, get_putL, get_putL_nil, Nat.reduceEqDiff, reduceIte, List.getD_cons_zero, List.getD_cons_succ, List.getD_nil]); first | done | with_reducible rfl)) (by ((try simp only [ev_tmp, ev_const, ev_func, get_put, get_args, get_putL, get_putL_nil, Nat.reduceEqDiff, reduceIte, List.getD_cons_zero, List.getD_cons_succ, List.getD_nil]); first | done | with_reducible rfl)) (fun _ => rfl) (fun _ => rfl)) (next := ?_)
  refine go ?_
  refine ra (v := .int .u64 0) (h := rd_bin (by ((try simp only [ev_tmp, ev_const, ev_func, get_put, get_args, get_putL, get_putL_nil, Nat.reduceEqDiff, reduceIte, List.getD_cons_zero, List.getD_cons_succ, List.getD_nil]); first | done | with_reducible rfl)) (by ((try simp only [ev_tmp, ev_const, ev_func, get_put, get_args, get_putL, get_putL_nil, Nat.reduceEqDiff, reduceIte, List.getD_cons_zero, List.getD_cons_succ, List.getD_nil]); first | done | with_reducible rfl)) (fun _ => rfl) (fun _ => rfl)) (next := ?_)
  refine go ?_
  refine ra (v := .int .u64 0) (h := rd_bin (by ((try simp only [ev_tmp, ev_const, ev_func, get_put, get_args, get_putL, get_putL_nil, Nat.reduceEqDiff, reduceIte, List.getD_cons_zero, List.getD_cons_succ, List.getD_nil]); first | done | with_reducible rfl)) (by ((try simp only [ev_tmp, ev_const, ev_func, get_put, get_args, get_putL, get_putL_nil, Nat.reduceEqDiff, reduceIte, List.getD_cons_zero, List.getD_cons_succ, List.getD_nil]); first | done | with_reducible rfl)) (fun _ => rfl) (fun _ => rfl)) (next := ?_)
  refine go ?_
  refine ra (v := .int .u64 0) (h := rd_bin (by ((try simp only [ev_tmp, ev_const, ev_func, get_put, get_args, get_putL, get_putL_nil, Nat.reduceEqDiff, reduceIte, List.getD_cons_zero, List.getD_cons_succ, List.getD_nil]); first | done | with_reducible rfl)) (by ((try simp only [ev_tmp, ev_const, ev_func, get_put, get_args, get_putL, get_putL_nil, Nat.reduceEqDiff, reduceIte, List.getD_cons_zero, List.getD_cons_succ, List.getD_nil]); first | done | with_reducible rfl)) (fun _ => rfl) (fun _ => rfl)) (next := ?_)
  refine go ?_
  refine ra (v := .int .u64 0) (h := rd_bin (by ((try simp only [ev_tmp, ev_const, ev_func, get_put, get_args, get_putL, get_putL_nil, Nat.reduceEqDiff, reduceIte, List.getD_cons_zero, List.getD_cons_succ, List.getD_nil]); first | done | with_reducible rfl)) (by ((try simp only [ev_tmp, ev_const, ev_func, get_put, get_args, get_putL, get_putL_nil, Nat.reduceEqDiff, reduceIte, List.getD_cons_zero, List.getD_cons_succ, List.getD_nil]); first | done | with_reducible rfl)) (fun _ => rfl) (fun _ => rfl)) (next := ?_)
  refine go ?_
  refine ra (v := .int .u64 0) (h := rd_bin (by ((try simp only [ev_tmp, ev_const, ev_func, get_put, get_args, get_putL, get_putL_nil, Nat.reduceEqDiff, reduceIte, List.getD_cons_zero, List.getD_cons_succ, List.getD_nil]); first | done | with_reducible rfl)) (by ((try simp only [ev_tmp, ev_const, ev_func, get_put, get_args, get_putL, get_putL_nil, Nat.reduceEqDiff, reduceIte, List.getD_cons_zero, List.getD_cons_succ, List.getD_nil]); first | done | with_reducible rfl)) (fun _ => rfl) (fun _ => rfl)) (next := ?_)
  refine go ?_
  refine ra (v := .int .u64 0) (h := rd_bin (by ((try simp only [ev_tmp, ev_const, ev_func, get_put, get_args, get_putL, get_putL_nil, Nat.reduceEqDiff, reduceIte, List.getD_cons_zero, List.getD_cons_succ, List.getD_nil]); first | done | with_reducible rfl)) (by ((try simp only [ev_tmp, ev_const, ev_func, get_put, get_args, get_putL, get_putL_nil, Nat.reduceEqDiff, reduceIte, List.getD_cons_zero, List.getD_cons_succ, List.getD_nil]); first | done | with_reducible rfl)) (fun _ => rfl) (fun _ => rfl)) (next := ?_)
  refine go ?_
  refine ra (v := .int .u64 2) (h := rd_bin (by ((try simp only [ev_tmp, ev_const, ev_func, get_put, get_args, get_putL, get_putL_nil, Nat.reduceEqDiff, reduceIte, List.getD_cons_zero, List.getD_cons_succ, List.getD_nil]); first | done | with_reducible rfl)) (by ((try simp only [ev_tmp, ev_const, ev_func, get_put, get_args, get_putL, get_putL_nil, Nat.reduceEqDiff, reduceIte, List.getD_cons_zero, List.getD_cons_succ, List.getD_nil]); first | done | with_reducible rfl)) (fun _ => rfl) (fun _ => rfl)) (next := ?_)
  refine go ?_
  exact ret2 ⟨rfl, rfl⟩
theorem bitsMul_2 {w : World} : Calls Tryz.prog 93 #[.int .u64 1, .int .u64 2] w (Ret fun v w' => v = .tuple #[.int .u64 0, .int .u64 2] ∧ w' = w) := by
  refine enter (args := [.int .u64 1, .int .u64 2]) (l := [.tmp 4, .tmp 5]) Tryz.func93 rfl rfl Tryz.ntmps93 (by simp) ?_
  refine go ?_
  refine rc bitsMul64_2 (next := fun v1 w1 h1 => ?_)
  obtain ⟨rfl, rfl⟩ := h1
  refine go ?_
  exact ret2 ⟨rfl, rfl⟩
set_option maxHeartbeats 1000000 in
theorem bitsMul64_3 {w : World} : Calls Tryz.prog 113 #[.int .u64 1, .int .u64 3] w (Ret fun v w' => v = .tuple #[.int .u64 0, .int .u64 3] ∧ w' = w) := by
  refine enter (args := [.int .u64 1, .int .u64 3]) (l := [.tmp 4, .tmp 5]) Tryz.func113 rfl rfl Tryz.ntmps113 (by simp) ?_
  refine go ?_
  refine ra (v := .int .u64 1) (h := rd_bin (by ((try simp only [ev_tmp, ev_const, ev_func, get_put, get_args, get_putL, get_putL_nil, Nat.reduceEqDiff, reduceIte, List.getD_cons_zero, List.getD_cons_succ, List.getD_nil]); first | done | with_reducible rfl)) (by ((try simp only [ev_tmp, ev_const, ev_func, get_put, get_args, get_putL, get_putL_nil, Nat.reduceEqDiff, reduceIte, List.getD_cons_zero, List.getD_cons_succ, List.getD_nil]); first | done | with_reducible rfl)) (fun _ => rfl) (fun _ => rfl)) (next := ?_)
  refine go ?_
  refine ra (v := .int .u64 0) (h := rd_bin (by ((try simp only [ev_tmp, ev_const, ev_func, get_put, get_args, get_putL, get_putL_nil, Nat.reduceEqDiff, reduceIte, List.getD_cons_zero, List.getD_cons_succ, List.getD_nil]); first | done | with_reducible rfl)) (by ((try simp only [ev_tmp, ev_const, ev_func, get_put, get_args, get_putL, get_putL_nil, Nat.reduceEqDiff, reduceIte, List.getD_cons_zero, List.getD_cons_succ, List.getD_nil]); first | done | with_reducible rfl)) (fun _ => rfl) (fun _ => rfl)) (next := ?_)
  refine go ?_
  refine ra (v := .int .u64 3) (h := rd_bin (by ((try simp only [ev_tmp, ev_const, ev_func, get_put, get_args, get_putL, get_putL_nil, Nat.reduceEqDiff, reduceIte, List.getD_cons_zero, List.getD_cons_succ, List.getD_nil]); first | done | with_reducible rfl)) (by ((try simp only [ev_tmp, ev_const, ev_func, get_put, get_args, get_putL, get_putL_nil, Nat.reduceEqDiff, reduceIte, List.getD_cons_zero, List.getD_cons_succ, List.getD_nil]); first | done | with_reducible rfl)) (fun _ => rfl) (fun _ => rfl)) (next := ?_)
  refine go ?_
  refine ra (v := .int .u64 0) (h := rd_bin (by ((try simp only [ev_tmp, ev_const, ev_func, get_put, get_args, get_putL, get_putL_nil, Nat.reduceEqDiff, reduceIte, List.getD_cons_zero, List.getD_cons_succ, List.getD_nil]); first | done | with_reducible rfl)) (by ((try simp only [ev_tmp, ev_const, ev_func, get_put, get_args, get_putL, get_putL_nil, Nat.reduceEqDiff, reduceIte, List.getD_cons_zero, List.getD_cons_succ, List.getD_nil]); first | done | with_reducible rfl)) (fun _ => rfl) (fun _ => rfl)) (next := ?_)
  refine go ?_
  refine ra (v := .int .u64 3) (h := rd_bin (by ((try simp only [ev_tmp, ev_const, ev_func, get_put, get_args, get_putL, get_putL_nil, Nat.reduceEqDiff, reduceIte, List.getD_cons_zero, List.getD_cons_succ, List.getD_nil]); first | done | with_reducible rfl)) (by ((try simp only [ev_tmp, ev_const, ev_func, get_put, get_args, get_putL, get_putL_nil, Nat.reduceEqDiff, reduceIte, List.getD_cons_zero, List.getD_cons_succ, List.getD_nil]); first | done | with_reducible rfl)) (fun _ => rfl) (fun _ => rfl)) (next := ?_)
  refine go ?_
  refine ra (v := .int .u64 0) (h := rd_bin (by ((try simp only [ev_tmp, ev_const, ev_func, get_put, get_args, get_putL, get_putL_nil, Nat.reduceEqDiff, reduceIte, List.getD_cons_zero, List.getD_cons_succ, List.getD_nil]); first | done | with_reducible rfl)) (by ((try simp only [ev_tmp, ev_const, ev_func, get_put, get_args, get_putL, get_putL_nil, Nat.reduceEqDiff, reduceIte, List.getD_cons_zero, List.getD_cons_succ, List.getD_nil]); first | done | with_reducible rfl)) (fun _ => rfl) (fun _ => rfl)) (next := ?_)
  refine go ?_
  refine ra (v := .int .u64 0) (h := rd_bin (by ((try simp only [ev_tmp, ev_const, ev_func, get_put, get_args, get_putL, get_putL_nil, Nat.reduceEqDiff, reduceIte, List.getD_cons_zero, List.getD_cons_succ, List.getD_nil]); first | done | with_reducible rfl)) (by ((try simp only [ev_tmp, ev_const, ev_func, get_put, get_args, get_putL, get_putL_nil, Nat.reduceEqDiff, reduceIte, List.getD_cons_zero, List.getD_cons_succ, List.getD_nil]); first | done | with_reducible rfl)) (fun _ => rfl) (fun _ => rfl)) (next := ?_)
  refine go ?_
  refine ra (v := .int .u64 0) (h := rd_bin (by ((try simp only [ev_tmp, ev_const, ev_func, get_put, get_args, get_putL, get_putL_nil, Nat.reduceEqDiff, reduceIte, List.getD_cons_zero, List.getD_cons_succ, List.getD_nil]); first | done | with_reducible rfl)) (by ((try simp only [ev_tmp, ev_const, ev_func, get_put, get_args, get_putL, get_putL_nil, Nat.reduceEqDiff, reduceIte, List.getD_cons_zero, List.getD_cons_succ, List.getD_nil]); first | done | with_reducible rfl)) (fun _ => rfl) (fun _ => rfl)) (next := ?_)
  refine go ?_
  refine ra (v := .int .u64 0) (h := rd_bin (by ((try simp only [ev_tmp, ev_const, ev_func, get_put, get_args, get_putL, get_putL_nil, Nat.reduceEqDiff, reduceIte, List.getD_cons_zero, List.getD_cons_succ, List.getD_nil]); first | done | with_reducible rfl)) (by ((try simp only [ev_tmp, ev_const, ev_func, get_put, get_args, get_putL, get_putL_nil, Nat.reduceEqDiff, reduceIte, List.getD_cons_zero, List.getD_cons_succ, List.getD_nil]); first | done | with_reducible rfl)) (fun _ => rfl) (fun _ => rfl)) (next := ?_)
  refine go ?_
  refine ra (v := .int .u64 0) (h := rd_bin (by ((try simp only [ev_tmp, ev_const, ev_func, get_put, get_args, get_putL, get_putL_nil, Nat.reduceEqDiff, reduceIte, List.getD_cons_zero, List.getD_cons_succ, List.getD_nil]); first | done | with_reducible rfl)) (by ((try simp only [ev_tmp, ev_const, ev_func, get_put, get_args, get_putL, get_putL_nil, Nat.reduceEqDiff, reduceIte, List.getD_cons_zero, List.getD_cons_succ, List.getD_nil]); first | done | with_reducible rfl)) (fun _ => rfl) (fun _ => rfl)) (next := ?_)
  refine go ?_
  refine ra (v := .int .u64 0) (h := rd_bin (by ((try simp only [ev_tmp, ev_const, ev_func, get_put, get_args, get_putL, get_putL_nil, Nat.reduceEqDiff, reduceIte, List.getD_cons_zero, List.getD_cons_succ, List.getD_nil]); first | done | with_reducible rfl)) (by ((try simp only [ev_tmp, ev_const, ev_func, get_put, get_args, get_putL, get_putL_nil, Nat.reduceEqDiff, reduceIte, List.getD_cons_zero, List.getD_cons_succ, List.getD_nil]); first | done | with_reducible rfl)) (fun _ => rfl) (fun _ => rfl)) (next := ?_)
  refine go ?_
  refine ra (v := .int .u64 0) (h := rd_bin (by ((try simp only [ev_tmp, ev_const, ev_func, get_put, get_args, get_putL, get_putL_nil, Nat.reduceEqDiff, reduceIte, List.getD_cons_zero, List.getD_cons_succ, List.getD_nil]); first | done | with_reducible rfl)) (by ((try simp only [ev_tmp, ev_const, ev_func, get_put, get_args, get_putL, get_putL_nil, Nat.reduceEqDiff, reduceIte, List.getD_cons_zero, List.getD_cons_succ, List.getD_nil]); first | done | with_reducible rfl)) (fun _ => rfl) (fun _ => rfl)) (next := ?_)
  refine go ?_
  refine ra (v := .int .u64 0) (h := rd_bin (by ((try simp only [ev_tmp, ev_const, ev_func, get_put, get_args, get_putL, get_putL_nil, Nat.reduceEqDiff, reduceIte, List.getD_cons_zero, List.getD_cons_succ, List.getD_nil]); first | done | with_reducible rfl)) (by ((try simp only [ev_tmp, ev_const, ev_func, get_put, get_args, get_putL, get_putL_nil, Nat.reduceEqDiff, reduceIte, List.getD_cons_zero, List.getD_cons_succ, List.getD_nil]); first | done | with_reducible rfl)) (fun _ => rfl) (fun _ => rfl)) (next := ?_)
  refine go ?_
  refine ra (v := .int .u64 0) (h := rd_bin (by ((try simp only [ev_tmp, ev_const, ev_func, get_put, get_args, get_putL, get_putL_nil, Nat.reduceEqDiff, reduceIte, List.getD_cons_zero, List.getD_cons_succ, List.getD_nil]); first | done | with_reducible rfl)) (by ((try simp only [ev_tmp, ev_const, ev_func, get_put, get_args, get_putL, get_putL_nil, Nat.reduceEqDiff, reduceIte, List.getD_cons_zero, List.getD_cons_succ, List.getD_nil]); first | done | with_reducible rfl)) (fun _ => rfl) (fun _ => rfl)) (next := ?_)
  refine go ?_
  refine ra (v := .int .u64 0) (h := rd_bin (by ((try simp only [ev_tmp, ev_const, ev_func, get_put, get_args, get_putL, get_putL_nil, Nat.reduceEqDiff, reduceIte, List.getD_cons_zero, List.getD_cons_succ, List.getD_nil]); first | done | with_reducible rfl)) (by ((try simp only [ev_tmp, ev_const, ev_func, get_put, get_args, get_putL, get_putL_nil, Nat.reduceEqDiff, reduceIte, List.getD_cons_zero, List.getD_cons_succ, List.getD_nil]); first | done | with_reducible rfl)) (fun _ => rfl) (fun _ => rfl)) (next := ?_)
  refine go ?_
  refine ra (v := .int .u64 0) (h := rd_bin (by ((try simp only [ev_tmp, ev_const, ev_func, get_put, get_args, get_putL, get_putL_nil, Nat.reduceEqDiff, reduceIte, List.getD_cons_zero, List.getD_cons_succ, List.getD_nil]); first | done | with_reducible rfl)) (by ((try simp only [ev_tmp, ev_const, ev_func, get_put, get_args, get_putL, get_putL_nil, Nat.reduceEqDiff, reduceIte, List.getD_cons_zero, List.getD_cons_succ, List.getD_nil]); first | done | with_reducible rfl)) (fun _ => rfl) (fun _ => rfl)) (next := ?_)
  refine go ?_
  refine ra (v := .int .u64 3) (h := rd_bin (by ((try simp only [ev_tmp, ev_const, ev_func, get_put, get_args, get_putL, get_putL_nil, Nat.reduceEqDiff, reduceIte, List.getD_cons_zero, List.getD_cons_succ, List.getD_nil]); first | done | with_reducible rfl)) (by ((try simp only [ev_tmp, ev_const, ev_func, get_put, get_args, get_putL, get_putL_nil, Nat.reduceEqDiff, reduceIte, List.getD_cons_zero, List.getD_cons_succ, List.getD_nil]); first | done | with_reducible rfl)) (fun _ => rfl) (fun _ => rfl)) (next := ?_)
  refine go ?_
  exact ret2 ⟨rfl, rfl⟩
theorem bitsMul_3 {w : World} : Calls Tryz.prog 93 #[.int .u64 1, .int .u64 3] w (Ret fun v w' => v = .tuple #[.int .u64 0, .int .u64 3] ∧ w' = w) := by
  refine enter (args := [.int .u64 1, .int .u64 3]) (l := [.tmp 4, .tmp 5]) Tryz.func93 rfl rfl Tryz.ntmps93 (by simp) ?_
  refine go ?_
  refine rc bitsMul64_3 (next := fun v1 w1 h1 => ?_)
  obtain ⟨rfl, rfl⟩ := h1
  refine go ?_
  exact ret2 ⟨rfl, rfl⟩
set_option maxHeartbeats 1000000 in
theorem bitsMul64_5 {w : World} : Calls Tryz.prog 113 #[.int .u64 1, .int .u64 5] w (Ret fun v w' => v = .tuple #[.int .u64 0, .int .u64 5] ∧ w' = w) := by
  refine enter (args := [.int .u64 1, .int .u64 5]) (l := [.tmp 4, .tmp 5]) Tryz.func113 rfl rfl Tryz.ntmps113 (by simp) ?_
  refine go ?_
  refine ra (v := .int .u64 1) (h := rd_bin (by ((try simp only [ev_tmp, ev_const, ev_func, get_put, get_args, get_putL, get_putL_nil, Nat.reduceEqDiff, reduceIte, List.getD_cons_zero, List.getD_cons_succ, List.getD_nil]); first | done | with_reducible rfl)) (by ((try simp only [ev_tmp, ev_const, ev_func, get_put, get_args, get_putL, get_putL_nil, Nat.reduceEqDiff, reduceIte, List.getD_cons_zero, List.getD_cons_succ, List.getD_nil]); first | done | with_reducible rfl)) (fun _ => rfl) (fun _ => rfl)) (next := ?_)
  refine go ?_
  refine ra (v := .int .u64 0) (h := rd_bin (by ((try simp only [ev_tmp, ev_const, ev_func, get_put, get_args, get_putL, get_putL_nil, Nat.reduceEqDiff, reduceIte, List.getD_cons_zero, List.getD_cons_succ, List.getD_nil]); first | done | with_reducible rfl)) (by ((try simp only [ev_tmp, ev_const, ev_func, get_put, get_args, get_putL, get_putL_nil, Nat.reduceEqDiff, reduceIte, List.getD_cons_zero, List.getD_cons_succ, List.getD_nil]); first | done | with_reducible rfl)) (fun _ => rfl) (fun _ => rfl)) (next := ?_)
  refine go ?_
  refine ra (v := .int .u64 5) (h := rd_bin (by ((try simp only [ev_tmp, ev_const, ev_func, get_put, get_args, get_putL, get_putL_nil, Nat.reduceEqDiff, reduceIte, List.getD_cons_zero, List.getD_cons_succ, List.getD_nil]); first | done | with_reducible rfl)) (by ((try simp only [ev_tmp, ev_const, ev_func, get_put, get_args, get_putL, get_putL_nil, Nat.reduceEqDiff, reduceIte, List.getD_cons_zero, List.getD_cons_succ, List.getD_nil]); first | done | with_reducible rfl)) (fun _ => rfl) (fun _ => rfl)) (next := ?_)
  refine go ?_
  refine ra (v := .int .u64 0) (h := rd_bin (by ((try simp only [ev_tmp, ev_const, ev_func, get_put, get_args, get_putL, get_putL_nil, Nat.reduceEqDiff, reduceIte, List.getD_cons_zero, List.getD_cons_succ, List.getD_nil]); first | done | with_reducible rfl)) (by ((try simp only [ev_tmp, ev_const, ev_func, get_put, get_args, get_putL, get_putL_nil, Nat.reduceEqDiff, reduceIte, List.getD_cons_zero, List.getD_cons_succ, List.getD_nil]); first | done | with_reducible rfl)) (fun _ => rfl) (fun _ => rfl)) (next := ?_)
  refine go ?_
  refine ra (v := .int .u64 5) (h := rd_bin (by ((try simp only [ev_tmp, ev_const, ev_func, get_put, get_args, get_putL, get_putL_nil, Nat.reduceEqDiff, reduceIte, List.getD_cons_zero, List.getD_cons_succ, List.getD_nil]); first | done | with_reducible rfl)) (by ((try simp only [ev_tmp, ev_const, ev_func, get_put, get_args, get_putL, get_putL_nil, Nat.reduceEqDiff, reduceIte, List.getD_cons_zero, List.getD_cons_succ, List.getD_nil]); first | done | with_reducible rfl)) (fun _ => rfl) (fun _ => rfl)) (next := ?_)
  refine go ?_
  refine ra (v := .int .u64 0) (h := rd_bin (by ((try simp only [ev_tmp, ev_const, ev_func, get_put, get_args, get_putL, get_putL_nil, Nat.reduceEqDiff, reduceIte, List.getD_cons_zero, List.getD_cons_succ, List.getD_nil]); first | done | with_reducible rfl)) (by ((try simp only [ev_tmp, ev_const, ev_func, get_put, get_args, get_putL, get_putL_nil, Nat.reduceEqDiff, reduceIte, List.getD_cons_zero, List.getD_cons_succ, List.getD_nil]); first | done | with_reducible rfl)) (fun _ => rfl) (fun _ => rfl)) (next := ?_)
  refine go ?_
  refine ra (v := .int .u64 0) (h := rd_bin (by ((try simp only [ev_tmp, ev_const, ev_func, get_put, get_args, get_putL, get_putL_nil, Nat.reduceEqDiff, reduceIte, List.getD_cons_zero, List.getD_cons_succ, List.getD_nil]); first | done | with_reducible rfl)) (by ((try simp only [ev_tmp, ev_const, ev_func, get_put, get_args, get_putL, get_putL_nil, Nat.reduceEqDiff, reduceIte, List.getD_cons_zero, List.getD_cons_succ, List.getD_nil]); first | done | with_reducible rfl)) (fun _ => rfl) (fun _ => rfl)) (next := ?_)
  refine go ?_
  refine ra (v := .int .u64 0) (h := rd_bin (by ((try simp only [ev_tmp, ev_const, ev_func, get_put, get_args, get_putL, get_putL_nil, Nat.reduceEqDiff, reduceIte, List.getD_cons_zero, List.getD_cons_succ, List.getD_nil]); first | done | with_reducible rfl)) (by ((try simp only [ev_tmp, ev_const, ev_func, get_put, get_args, get_putL, get_putL_nil, Nat.reduceEqDiff, reduceIte, List.getD_cons_zero, List.getD_cons_succ, List.getD_nil]); first | done | with_reducible rfl)) (fun _ => rfl) (fun _ => rfl)) (next := ?_)
  refine go ?_
  refine ra (v := .int .u64 0) (h := rd_bin (by ((try simp only [ev_tmp, ev_const, ev_func, get_put, get_args, get_putL, get_putL_nil, Nat.reduceEqDiff, reduceIte, List.getD_cons_zero, List.getD_cons_succ, List.getD_nil]); first | done | with_reducible rfl)) (by ((try simp only [ev_tmp, ev_const, ev_func, get_put, get_args, get_putL, get_putL_nil, Nat.reduceEqDiff, reduceIte, List.getD_cons_zero, List.getD_cons_succ, List.getD_nil]); first | done | with_reducible rfl)) (fun _ => rfl) (fun _ => rfl)) (next := ?_)
  refine go ?_
  refine ra (v := .int .u64 0) (h := rd_bin (by ((try simp only [ev_tmp, ev_const, ev_func, get_put, get_args, get_putL, get_putL_nil, Nat.reduceEqDiff, reduceIte, List.getD_cons_zero, List.getD_cons_succ, List.getD_nil]); first | done | with_reducible rfl)) (by ((try simp only [ev_tmp, ev_const, ev_func, get_put, get_args, get_putL, get_putL_nil, Nat.reduceEqDiff, reduceIte, List.getD_cons_zero, List.getD_cons_succ, List.getD_nil]); first | done | with_reducible rfl)) (fun _ => rfl) (fun _ => rfl)) (next := ?_)
  refine go ?_
  refine ra (v := .int .u64 0) (h := rd_bin (by ((try simp only [ev_tmp, ev_const, ev_func, get_put, get_args, get_putL, get_putL_nil, Nat.reduceEqDiff, reduceIte, List.getD_cons_zero, List.getD_cons_succ, List.getD_nil]); first | done | with_reducible rfl)) (by ((try simp only [ev_tmp, ev_const, ev_func, get_put, get_args, get_putL, get_putL_nil, Nat.reduceEqDiff, reduceIte, List.getD_cons_zero, List.getD_cons_succ, List.getD_nil]); first | done | with_reducible rfl)) (fun _ => rfl) (fun _ => rfl)) (next := ?_)
  refine go ?_
  refine ra (v := .int .u64 0) (h := rd_bin (by ((try simp only [ev_tmp, ev_const, ev_func, get_put, get_args, get_putL, get_putL_nil, Nat.reduceEqDiff, reduceIte, List.getD_cons_zero, List.getD_cons_succ, List.getD_nil]); first | done | with_reducible rfl)) (by ((try simp only [ev_tmp, ev_const, ev_func, get_put, get_args, get_putL, get_putL_nil, Nat.reduceEqDiff, reduceIte, List.getD_cons_zero, List.getD_cons_succ, List.getD_nil]); first | done | with_reducible rfl)) (fun _ => rfl) (fun _ => rfl)) (next := ?_)
  refine go ?_
  refine ra (v := .int .u64 0) (h := rd_bin (by ((try simp only [ev_tmp, ev_const, ev_func, get_put, get_args, get_putL, get_putL_nil, Nat.reduceEqDiff, reduceIte, List.getD_cons_zero, List.getD_cons_succ, List.getD_nil]); first | done | with_reducible rfl)) (by ((try simp only [ev_tmp, ev_const, ev_func, get_put, get_args, get_putL, get_putL_nil, Nat.reduceEqDiff, reduceIte, List.getD_cons_zero, List.getD_cons_succ, List.getD_nil]); first | done | with_reducible rfl)) (fun _ => rfl) (fun _ => rfl)) (next := ?_)
  refine go ?_
  refine ra (v := .int .u64 0) (h := rd_bin (by ((try simp only [ev_tmp, ev_const, ev_func, get_put, get_args, get_putL, get_putL_nil, Nat.reduceEqDiff, reduceIte, List.getD_cons_zero, List.getD_cons_succ, List.getD_nil]); first | done | with_reducible rfl)) (by ((try simp only [ev_tmp, ev_const, ev_func, get_put, get_args, get_putL, get_putL_nil, Nat.reduceEqDiff, reduceIte, List.getD_cons_zero, List.getD_cons_succ, List.getD_nil]); first | done | with_reducible rfl)) (fun _ => rfl) (fun _ => rfl)) (next := ?_)
  refine go ?_
  refine ra (v := .int .u64 0) (h := rd_bin (by ((try simp only [ev_tmp, ev_const, ev_func, get_put, get_args, get_putL, get_putL_nil, Nat.reduceEqDiff, reduceIte, List.getD_cons_zero, List.getD_cons_succ, List.getD_nil]); first | done | with_reducible rfl)) (by ((try simp only [ev_tmp, ev_const, ev_func, get_put, get_args, get_putL, get_putL_nil, Nat.reduceEqDiff, reduceIte, List.getD_cons_zero, List.getD_cons_succ, List.getD_nil]); first | done | with_reducible rfl)) (fun _ => rfl) (fun _ => rfl)) (next := ?_)
  refine go ?_
  refine ra (v := .int .u64 0) (h := rd_bin (by ((try simp only [ev_tmp, ev_const, ev_func, get_put, get_args, get_putL, get_putL_nil, Nat.reduceEqDiff, reduceIte, List.getD_cons_zero, List.getD_cons_succ, List.getD_nil]); first | done | with_reducible rfl)) (by ((try simp only [ev_tmp, ev_const, ev_func, get_put, get_args, get_putL, get_putL_nil, Nat.reduceEqDiff, reduceIte, List.getD_cons_zero, List.getD_cons_succ, List.getD_nil]); first | done | with_reducible rfl)) (fun _ => rfl) (fun _ => rfl)) (next := ?_)
  refine go ?_
  refine ra (v := .int .u64 5) (h := rd_bin (by ((try simp only [ev_tmp, ev_const, ev_func, get_put, get_args, get_putL, get_putL_nil, Nat.reduceEqDiff, reduceIte, List.getD_cons_zero, List.getD_cons_succ, List.getD_nil]); first | done | with_reducible rfl)) (by ((try simp only [ev_tmp, ev_const, ev_func, get_put, get_args, get_putL, get_putL_nil, Nat.reduceEqDiff, reduceIte, List.getD_cons_zero, List.getD_cons_succ, List.getD_nil]); first | done | with_reducible rfl)) (fun _ => rfl) (fun _ => rfl)) (next := ?_)
  refine go ?_
  exact ret2 ⟨rfl, rfl⟩
theorem bitsMul_5 {w : World} : Calls Tryz.prog 93 #[.int .u64 1, .int .u64 5] w (Ret fun v w' => v = .tuple #[.int .u64 0, .int .u64 5] ∧ w' = w) := by
  refine enter (args := [.int .u64 1, .int .u64 5]) (l := [.tmp 4, .tmp 5]) Tryz.func93 rfl rfl Tryz.ntmps93 (by simp) ?_
  refine go ?_
  refine rc bitsMul64_5 (next := fun v1 w1 h1 => ?_)
  obtain ⟨rfl, rfl⟩ := h1
  refine go ?_
  exact ret2 ⟨rfl, rfl⟩
set_option maxHeartbeats 1000000 in
theorem bitsMul64_7 {w : World} : Calls Tryz.prog 113 #[.int .u64 1, .int .u64 7] w (Ret fun v w' => v = .tuple #[.int .u64 0, .int .u64 7] ∧ w' = w) := by
  refine enter (args := [.int .u64 1, .int .u64 7]) (l := [.tmp 4, .tmp 5]) Tryz.func113 rfl rfl Tryz.ntmps113 (by simp) ?_
  refine go ?_
  refine ra (v := .int .u64 1) (h := rd_bin (by ((try simp only [ev_tmp, ev_const, ev_func, get_put, get_args, get_putL, get_putL_nil, Nat.reduceEqDiff, reduceIte, List.getD_cons_zero, List.getD_cons_succ, List.getD_nil]); first | done | with_reducible rfl)) (by ((try simp only [ev_tmp, ev_const, ev_func, get_put, get_args, get_putL, get_putL_nil, Nat.reduceEqDiff, reduceIte, List.getD_cons_zero, List.getD_cons_succ, List.getD_nil]); first | done | with_reducible rfl)) (fun _ => rfl) (fun _ => rfl)) (next := ?_)
  refine go ?_
  refine ra (v := .int .u64 0) (h := rd_bin (by ((try simp only [ev_tmp, ev_const, ev_func, get_put, get_args, get_putL, get_putL_nil, Nat.reduceEqDiff, reduceIte, List.getD_cons_zero, List.getD_cons_succ, List.getD_nil]); first | done | with_reducible rfl)) (by ((try simp only [ev_tmp, ev_const, ev_func, get_put, get_args, get_putL, get_putL_nil, Nat.reduceEqDiff, reduceIte, List.getD_cons_zero, List.getD_cons_succ, List.getD_nil]); first | done | with_reducible rfl)) (fun _ => rfl) (fun _ => rfl)) (next := ?_)
  refine go ?_
  refine ra (v := .int .u64 7) (h := rd_bin (by ((try simp only [ev_tmp, ev_const, ev_func, get_put, get_args, get_putL, get_putL_nil, Nat.reduceEqDiff, reduceIte, List.getD_cons_zero, List.getD_cons_succ, List.getD_nil]); first | done | with_reducible rfl)) (by ((try simp only [ev_tmp, ev_const, ev_func, get_put, get_args, get_putL, get_putL_nil, Nat.reduceEqDiff, reduceIte, List.getD_cons_zero, List.getD_cons_succ, List.getD_nil]); first | done | with_reducible rfl)) (fun _ => rfl) (fun _ => rfl)) (next := ?_)
  refine go ?_
  refine ra (v := .int .u64 0) (h := rd_bin (by ((try simp only [ev_tmp, ev_const, ev_func, get_put, get_args, get_putL, get_putL_nil, Nat.reduceEqDiff, reduceIte, List.getD_cons_zero, List.getD_cons_succ, List.getD_nil]); first | done | with_reducible rfl)) (by ((try simp only [ev_tmp, ev_const, ev_func, get_put, get_args, get_putL, get_putL_nil, Nat.reduceEqDiff, reduceIte, List.getD_cons_zero, List.getD_cons_succ, List.getD_nil]); first | done | with_reducible rfl)) (fun _ => rfl) (fun _ => rfl)) (next := ?_)
  refine go ?_
  refine ra (v := .int .u64 7) (h := rd_bin (by ((try simp only [ev_tmp, ev_const, ev_func, get_put, get_args, get_putL, get_putL_nil, Nat.reduceEqDiff, reduceIte, List.getD_cons_zero, List.getD_cons_succ, List.getD_nil]); first | done | with_reducible rfl)) (by ((try simp only [ev_tmp, ev_const, ev_func, get_put, get_args, get_putL, get_putL_nil, Nat.reduceEqDiff, reduceIte, List.getD_cons_zero, List.getD_cons_succ, List.getD_nil]); first | done | with_reducible rfl)) (fun _ => rfl) (fun _ => rfl)) (next := ?_)
  refine go ?_
  refine ra (v := .int .u64 0) (h := rd_bin (by ((try simp only [ev_tmp, ev_const, ev_func, get_put, get_args, get_putL, get_putL_nil, Nat.reduceEqDiff, reduceIte, List.getD_cons_zero, List.getD_cons_succ, List.getD_nil]); first | done | with_reducible rfl)) (by ((try simp only [ev_tmp, ev_const, ev_func, get_put, get_args, get_putL, get_putL_nil, Nat.reduceEqDiff, reduceIte, List.getD_cons_zero, List.getD_cons_succ, List.getD_nil]); first | done | with_reducible rfl)) (fun _ => rfl) (fun _ => rfl)) (next := ?_)
  refine go ?_
  refine ra (v := .int .u64 0) (h := rd_bin (by ((try simp only [ev_tmp, ev_const, ev_func, get_put, get_args, get_putL, get_putL_nil, Nat.reduceEqDiff, reduceIte, List.getD_cons_zero, List.getD_cons_succ, List.getD_nil]); first | done | with_reducible rfl)) (by ((try simp only [ev_tmp, ev_const, ev_func, get_put, get_args, get_putL, get_putL_nil, Nat.reduceEqDiff, reduceIte, List.getD_cons_zero, List.getD_cons_succ, List.getD_nil]); first | done | with_reducible rfl)) (fun _ => rfl) (fun _ => rfl)) (next := ?_)
  refine go ?_
  refine ra (v := .int .u64 0) (h := rd_bin (by ((try simp only [ev_tmp, ev_const, ev_func, get_put, get_args, get_putL, get_putL_nil, Nat.reduceEqDiff, reduceIte, List.getD_cons_zero, List.getD_cons_succ, List.getD_nil]); first | done | with_reducible rfl)) (by ((try simp only [ev_tmp, ev_const, ev_func, get_put, get_args, get_putL, get_putL_nil, Nat.reduceEqDiff, reduceIte, List.getD_cons_zero, List.getD_cons_succ, List.getD_nil]); first | done | with_reducible rfl)) (fun _ => rfl) (fun _ => rfl)) (next := ?_)
  refine go ?_
  refine ra (v := .int .u64 0) (h := rd_bin (by ((try simp only [ev_tmp, ev_const, ev_func, get_put, get_args, get_putL, get_putL_nil, Nat.reduceEqDiff, reduceIte, List.getD_cons_zero, List.getD_cons_succ, List.getD_nil]); first | done | with_reducible rfl)) (by ((try simp only [ev_tmp, ev_const, ev_func, get_put, get_args, get_putL, get_putL_nil, Nat.reduceEqDiff, reduceIte, List.getD_cons_zero, List.getD_cons_succ, List.getD_nil]); first | done | with_reducible rfl)) (fun _ => rfl) (fun _ => rfl)) (next := ?_)
  refine go ?_
  refine ra (v := .int .u64 0) (h := rd_bin (by ((try simp only [ev_tmp, ev_const, ev_func, get_put, get_args, get_putL, get_putL_nil, Nat.reduceEqDiff, reduceIte, List.getD_cons_zero, List.getD_cons_succ, List.getD_nil]); first | done | with_reducible rfl)) (by ((try simp only [ev_tmp, ev_const, ev_func, get_put, get_args, get_putL, get_putL_nil, Nat.reduceEqDiff, reduceIte, List.getD_cons_zero, List.getD_cons_succ, List.getD_nil]); first | done | with_reducible rfl)) (fun _ => rfl) (fun _ => rfl)) (next := ?_)
  refine go ?_
  refine ra (v := .int .u64 0) (h := rd_bin (by ((try simp only [ev_tmp, ev_const, ev_func, get_put, get_args, get_putL, get_putL_nil, Nat.reduceEqDiff, reduceIte, List.getD_cons_zero, List.getD_cons_succ, List.getD_nil]); first | done | with_reducible rfl)) (by ((try simp only [ev_tmp, ev_const, ev_func, get_put, get_args, get_putL, get_putL_nil, Nat.reduceEqDiff, reduceIte, List.getD_cons_zero, List.getD_cons_succ, List.getD_nil]); first | done | with_reducible rfl)) (fun _ => rfl) (fun _ => rfl)) (next := ?_)
  refine go ?_
  refine ra (v := .int .u64 0) (h := rd_bin (by ((try simp only [ev_tmp, ev_const, ev_func, get_put, get_args, get_putL, get_putL_nil, Nat.reduceEqDiff, reduceIte, List.getD_cons_zero, List.getD_cons_succ, List.getD_nil]); first | done | with_reducible rfl)) (by ((try simp only [ev_tmp, ev_const, ev_func, get_put, get_args, get_putL, get_putL_nil, Nat.reduceEqDiff, reduceIte, List.getD_cons_zero, List.getD_cons_succ, List.getD_nil]); first | done | with_reducible rfl)) (fun _ => rfl) (fun _ => rfl)) (next := ?_)
  refine go ?_
  refine ra (v := .int .u64 0) (h := rd_bin (by ((try simp only [ev_tmp, ev_const, ev_func, get_put, get_args, get_putL, get_putL_nil, Nat.reduceEqDiff, reduceIte, List.getD_cons_zero, List.getD_cons_succ, List.getD_nil]); first | done | with_reducible rfl)) (by ((try simp only [ev_tmp, ev_const, ev_func, get_put, get_args, get_putL, get_putL_nil, Nat.reduceEqDiff, reduceIte, List.getD_cons_zero, List.getD_cons_succ, List.getD_nil]); first | done | with_reducible rfl)) (fun _ => rfl) (fun _ => rfl)) (next := ?_)
  refine go ?_
  refine ra (v := .int .u64 0) (h := rd_bin (by ((try simp only [ev_tmp, ev_const, ev_func, get_put, get_args, get_putL, get_putL_nil, Nat.reduceEqDiff, reduceIte, List.getD_cons_zero, List.getD_cons_succ, List.getD_nil]); first | done | with_reducible rfl)) (by ((try simp only [ev_tmp, ev_const, ev_func, get_put, get_args, get_putL, get_putL_nil, Nat.reduceEqDiff, reduceIte, List.getD_cons_zero, List.getD_cons_succ, List.getD_nil]); first | done | with_reducible rfl)) (fun _ => rfl) (fun _ => rfl)) (next := ?_)
  refine go ?_
  refine ra (v := .int .u64 0) (h := rd_bin (by ((try simp only [ev_tmp, ev_const, ev_func, get_put, get_args, get_putL, get_putL_nil, Nat.reduceEqDiff, reduceIte, List.getD_cons_zero, List.getD_cons_succ, List.getD_nil]); first | done | with_reducible rfl)) (by ((try simp only [ev_tmp, ev_const, ev_func, get_put, get_args, get_putL, get_putL_nil, Nat.reduceEqDiff, reduceIte, List.getD_cons_zero, List.getD_cons_succ, List.getD_nil]); first | done | with_reducible rfl)) (fun _ => rfl) (fun _ => rfl)) (next := ?_)
  refine go ?_
  refine ra (v := .int .u64 0) (h := rd_bin (by ((try simp only [ev_tmp, ev_const, ev_func, get_put, get_args, get_putL, get_putL_nil, Nat.reduceEqDiff, reduceIte, List.getD_cons_zero, List.getD_cons_succ, List.getD_nil]); first | done | with_reducible rfl)) (by ((try simp only [ev_tmp, ev_const, ev_func, get_put, get_args, get_putL, get_putL_nil, Nat.reduceEqDiff, reduceIte, List.getD_cons_zero, List.getD_cons_succ, List.getD_nil]); first | done | with_reducible rfl)) (fun _ => rfl) (fun _ => rfl)) (next := ?_)
  refine go ?_
  refine ra (v := .int .u64 7) (h := rd_bin (by ((try simp only [ev_tmp, ev_const, ev_func, get_put, get_args, get_putL, get_putL_nil, Nat.reduceEqDiff, reduceIte, List.getD_cons_zero, List.getD_cons_succ, List.getD_nil]); first | done | with_reducible rfl)) (by ((try simp only [ev_tmp, ev_const, ev_func, get_put, get_args, get_putL, get_putL_nil, Nat.reduceEqDiff, reduceIte, List.getD_cons_zero, List.getD_cons_succ, List.getD_nil]); first | done | with_reducible rfl)) (fun _ => rfl) (fun _ => rfl)) (next := ?_)
  refine go ?_
  exact ret2 ⟨rfl, rfl⟩
theorem bitsMul_7 {w : World} : Calls Tryz.prog 93 #[.int .u64 1, .int .u64 7] w (Ret fun v w' => v = .tuple #[.int .u64 0, .int .u64 7] ∧ w' = w) := by
  refine enter (args := [.int .u64 1, .int .u64 7]) (l := [.tmp 4, .tmp 5]) Tryz.func93 rfl rfl Tryz.ntmps93 (by simp) ?_
  refine go ?_
  refine rc bitsMul64_7 (next := fun v1 w1 h1 => ?_)
  obtain ⟨rfl, rfl⟩ := h1
  refine go ?_
  exact ret2 ⟨rfl, rfl⟩
theorem bitsMul_ok {o : Int} (ho : o = 2 ∨ o = 3 ∨ o = 5 ∨ o = 7) {w : World} : Calls Tryz.prog 93 #[.int .u64 1, .int .u64 o] w (Ret fun v w' => v = .tuple #[.int .u64 0, .int .u64 o] ∧ w' = w) := by
  rcases ho with rfl | rfl | rfl | rfl
  · exact bitsMul_2
  · exact bitsMul_3
  · exact bitsMul_5
  · exact bitsMul_7
end Go.Proofs.YtjljbfcdpdckeaaGreat

/-
  Walks: slices.Repeat of one integer.
  Conditions: stated at each theorem.
-/
namespace Go.Proofs.YtjljbfcdpdckeaaGreat
open Go Go.Pc
theorem rep_step {a : Int} {n m k : Nat} (hnm : n + m ≤ k) : (List.replicate n a ++ List.replicate (k - n) 0).take n ++ List.replicate m a ++ (List.replicate n a ++ List.replicate (k - n) (0 : Int)).drop (n + (List.replicate m a).length) = List.replicate (n + m) a ++ List.replicate (k - (n + m)) 0 := by
  have e1 : (List.replicate n a ++ List.replicate (k - n) (0 : Int)).take n = List.replicate n a := List.take_left' (by simp)
  have e2 : (List.replicate n a ++ List.replicate (k - n) (0 : Int)).drop (n + (List.replicate m a).length) = List.replicate (k - (n + m)) 0 := by
    rw [List.length_replicate, ← List.drop_drop, List.drop_left' (by simp), List.drop_replicate]
    congr 1
    omega
  rw [e1, e2, List.replicate_append_replicate]
set_option maxHeartbeats 2000000 in
theorem sliceRepeat_ok {o : Int} (ho : o = 2 ∨ o = 3 ∨ o = 5 ∨ o = 7) {a : Int} {w : World} {vx : Value} {lo hi : Nat} [hx : Ints lo hi w vx [a]] :
    Calls Tryz.prog 69 #[vx, .int .i64 o] w (Ret fun v w' => Ext w w' ∧ GrowI 2 w.heap.size w' v (List.replicate o.toNat a)) := by
  have hob : 2 ≤ o ∧ o ≤ 7 := by omega
  have hl1 : [a].length = 1 := rfl
  refine enter (args := [vx, .int .i64 o]) (l := [.tmp 4]) Tryz.func69 rfl rfl Tryz.ntmps69 (by simp) ?_
  refine go ?_
  refine c_if (fun h4 => ?_) (fun h4 => ?_)
  · omega
  refine go ?_
  refine ra (v := .int .u64 1) (h := rd_conv (u := .int .i64) (by ((try simp only [ev_tmp, ev_const, ev_func, get_put, get_args, get_putL, get_putL_nil, Nat.reduceEqDiff, reduceIte, List.getD_cons_zero, List.getD_cons_succ, List.getD_nil]); first | done | with_reducible rfl)) (by kernel_rfl) (by kernel_rfl) rfl) (next := ?_)
  refine go ?_
  refine ra (v := .int .u64 o) (h := rd_conv (u := .int .i64) (by ((try simp only [ev_tmp, ev_const, ev_func, get_put, get_args, get_putL, get_putL_nil, Nat.reduceEqDiff, reduceIte, List.getD_cons_zero, List.getD_cons_succ, List.getD_nil]); first | done | with_reducible rfl)) (by kernel_rfl) (by kernel_rfl) (by rw [IntKind.wrap_u64]; omega)) (next := ?_)
  refine go ?_
  refine rc (bitsMul_ok ho) (next := fun v1 w1 h1 => ?_)
  obtain ⟨rfl, rfl⟩ := h1
  refine go ?_
  refine ra (v := .bool false) (h := rd_bin (by ((try simp only [ev_tmp, ev_const, ev_func, get_put, get_args, get_putL, get_putL_nil, Nat.reduceEqDiff, reduceIte, List.getD_cons_zero, List.getD_cons_succ, List.getD_nil]); first | done | with_reducible rfl)) (by ((try simp only [ev_tmp, ev_const, ev_func, get_put, get_args, get_putL, get_putL_nil, Nat.reduceEqDiff, reduceIte, List.getD_cons_zero, List.getD_cons_succ, List.getD_nil]); first | done | with_reducible rfl)) (fun _ => rfl) (fun _ => rfl)) (next := ?_)
  refine go ?_
  refine ra (v := .bool false) (h := rd_bin (by ((try simp only [ev_tmp, ev_const, ev_func, get_put, get_args, get_putL, get_putL_nil, Nat.reduceEqDiff, reduceIte, List.getD_cons_zero, List.getD_cons_succ, List.getD_nil]); first | done | with_reducible rfl)) (by ((try simp only [ev_tmp, ev_const, ev_func, get_put, get_args, get_putL, get_putL_nil, Nat.reduceEqDiff, reduceIte, List.getD_cons_zero, List.getD_cons_succ, List.getD_nil]); first | done | with_reducible rfl)) (fun _ => rfl) (fun w => by simp [binOp, Op.intCmp]; omega)) (next := ?_)
  refine go ?_
  refine ra (v := .int .i64 o) (h := rd_conv (u := .int .u64) (by ((try simp only [ev_tmp, ev_const, ev_func, get_put, get_args, get_putL, get_putL_nil, Nat.reduceEqDiff, reduceIte, List.getD_cons_zero, List.getD_cons_succ, List.getD_nil]); first | done | with_reducible rfl)) (by kernel_rfl) (by kernel_rfl) (IntWalk.i64_in _ (by omega))) (next := ?_)
  refine go ?_
  refine st_make_int (by ((try simp only [ev_tmp, ev_const, ev_func, get_put, get_args, get_putL, get_putL_nil, Nat.reduceEqDiff, reduceIte, List.getD_cons_zero, List.getD_cons_succ, List.getD_nil]); first | done | with_reducible rfl)) (by ((try simp only [ev_tmp, ev_const, ev_func, get_put, get_args, get_putL, get_putL_nil, Nat.reduceEqDiff, reduceIte, List.getD_cons_zero, List.getD_cons_succ, List.getD_nil]); first | done | with_reducible rfl)) (by omega) (by omega) (by first | exact True.intro | exact ⟨_, rfl, by ((try simp only [ev_tmp, ev_const, ev_func, get_put, get_args, get_putL, get_putL_nil, Nat.reduceEqDiff, reduceIte, List.getD_cons_zero, List.getD_cons_succ, List.getD_nil, Bool.not_true, Bool.not_false]); first | done | with_reducible rfl)⟩) fun w2 v2 he2 hs2 ho2 => ?_
  have hx2 : Ints lo hi w2 vx [a] := hx.same (he2.same _ _)
  obtain ⟨A, c, hvx, _, _, hcell⟩ := hx2.sl.ex
  obtain ⟨a0, hA, _, _, hc0⟩ := hcell 0 (.int .i64 a) rfl
  obtain ⟨cap, cur, hv2, _, hcap, hcapm, _⟩ := ho2.own.ex
  have hrl : (List.replicate o.toNat (0 : Int)).length = o.toNat := by simp
  have hml : ((List.replicate o.toNat (0 : Int)).map (Value.int .i64)).length = o.toNat := by simp
  have hzl : ([a].map (Value.int .i64)).length = 1 := rfl
  rw [hml] at hv2 hcap
  rw [hA] at hvx
  refine go ?_
  refine st_copyi (cs := [a]) (n := 0) ho2 (Eq.trans (by ((try simp only [ev_tmp, ev_const, ev_func, get_put, get_args, get_putL, get_putL_nil, Nat.reduceEqDiff, reduceIte, List.getD_cons_zero, List.getD_cons_succ, List.getD_nil]); first | done | with_reducible rfl)) hv2) (Eq.trans (by ((try simp only [ev_tmp, ev_const, ev_func, get_put, get_args, get_putL, get_putL_nil, Nat.reduceEqDiff, reduceIte, List.getD_cons_zero, List.getD_cons_succ, List.getD_nil]); first | done | with_reducible rfl)) hvx) ?_ ?_ ?_ (next := fun w3 hch3 ho3 => ?_)
  · rw [hzl]
    show 1 = Nat.min 1 o.toNat
    have : 1 ≤ o.toNat := by omega
    exact (Nat.min_eq_left this).symm
  · intro j u hu
    have hj : j = 0 := by
      cases j with
      | zero => rfl
      | succ j => simp at hu
    subst hj
    have : a = u := by simpa using hu
    rw [← this]; exact hc0
  · rw [hrl]; show 0 + 1 ≤ o.toNat; omega
  have e3 := rep_step (a := a) (n := 0) (m := 1) (k := o.toNat) (by omega)
  simp only [List.replicate_zero, List.nil_append, Nat.sub_zero, List.replicate_succ] at e3
  have ho3' : OwnI 2 w1.heap.size w3 v2 (List.replicate 1 a ++ List.replicate (o.toNat - 1) 0) := by
    have h := ho3
    rw [show (List.replicate o.toNat (0 : Int)).take 0 ++ [a] ++ (List.replicate o.toNat 0).drop (0 + [a].length) = List.replicate 1 a ++ List.replicate (o.toNat - 1) 0 by simp [List.drop_replicate]] at h
    exact h
  have hE3 : Ext w1 w3 := hch3.ext he2 (Nat.le_refl _)
  clear ho2 ho3 hch3 e3
  refine go ?_
  refine r_loop (fun m ρ w' => ∃ n : Nat, Has ρ [(7, v2), (8, .int .i64 n)] ∧ Chg w1.heap.size w3 w' ∧ OwnI 2 w1.heap.size w' v2 (List.replicate n a ++ List.replicate (o.toNat - n) 0) ∧ 1 ≤ n ∧ n ≤ o.toNat ∧ m = o.toNat - n) (o.toNat - 1) ?_ ?_
  · refine ⟨1, ?_, Chg.refl _ _, ho3', Nat.le_refl _, by omega, rfl⟩
    exact hasP
  clear ho3'
  rintro m ρ w4 ⟨n, hH, hch4, ho4, hn1, hno, hm⟩
  refine rwp_has hH fun ρ0 => ?_
  have hxl : (List.replicate n a ++ List.replicate (o.toNat - n) (0 : Int)).length = o.toNat := by simp; omega
  refine go ?_
  refine c_if (fun h5 => ?_) (fun h5 => ?_)
  · have hno' : n < o.toNat := by omega
    refine go ?_
    refine z_order w1.heap.size (List.range 10) (h := fun w5 he5 _ => ?_)
    have ho5 : OwnI 2 w1.heap.size w5 v2 (List.replicate n a ++ List.replicate (o.toNat - n) 0) := OwnI.ext (x := he5) (h := ho4)
    obtain ⟨m, hmd⟩ : ∃ m, min n (o.toNat - n) = m := ⟨_, rfl⟩
    have hm0 : 1 ≤ m ∧ n + m ≤ o.toNat ∧ m ≤ n := by omega
    have hcl : (List.replicate m a).length = m := by simp
    have hadd : ∀ q, (Addr.mk w1.heap.size 0 none).add q = ⟨w1.heap.size, q, none⟩ := fun q => by unfold Addr.add; split <;> simp_all
    have hcut : ∀ h, cut v2 n h = .slice (some ⟨w1.heap.size, n, none⟩) (h - n) (cap - n) := fun h => by
      rw [hv2]
      simp only [cut, sliced]
      rw [if_neg (by omega)]
      simp [hadd]
    have hcutTo : cutTo v2 n = .slice (some ⟨w1.heap.size, 0, none⟩) n cap := by rw [hv2]; rfl
    obtain ⟨A5, c5, hv5, _, _, hcell5⟩ := ho5.own.toSl.ex
    have hlen2 : ∀ w', Len w' v2 o.toNat := fun w' => ⟨some ⟨w1.heap.size, 0, none⟩, cap, hv2, hcap, by have := hcapm; simp only [maxLen] at this; omega, fun _ => ⟨_, rfl⟩⟩
    refine zgo ?_
    refine za (v := cut v2 n o.toNat) (h := ⟨fun w' _ => rd_slice_l (hl := hlen2 w') (by ((try simp only [ev_tmp, ev_const, ev_func, get_put, get_args, get_putL, get_putL_nil, Nat.reduceEqDiff, reduceIte, List.getD_cons_zero, List.getD_cons_succ, List.getD_nil]); first | done | with_reducible rfl)) (by ((try simp only [ev_tmp, ev_const, ev_func, get_put, get_args, get_putL, get_putL_nil, Nat.reduceEqDiff, reduceIte, List.getD_cons_zero, List.getD_cons_succ, List.getD_nil]); first | done | with_reducible rfl)) (by omega) (by omega)⟩) (next := ?_)
    refine zgo ?_
    refine za (v := cutTo v2 n) (h := ⟨fun w' _ => rd_slice_h (hl := hlen2 w') (by ((try simp only [ev_tmp, ev_const, ev_func, get_put, get_args, get_putL, get_putL_nil, Nat.reduceEqDiff, reduceIte, List.getD_cons_zero, List.getD_cons_succ, List.getD_nil]); first | done | with_reducible rfl)) (by ((try simp only [ev_tmp, ev_const, ev_func, get_put, get_args, get_putL, get_putL_nil, Nat.reduceEqDiff, reduceIte, List.getD_cons_zero, List.getD_cons_succ, List.getD_nil]); first | done | with_reducible rfl)) (by omega) (by omega)⟩) (next := ?_)
    refine z_copyi (cs := List.replicate m a) (n := n) ho5 (hx := Eq.trans (by ((try simp only [ev_tmp, ev_const, ev_func, get_put, get_args, get_putL, get_putL_nil, Nat.reduceEqDiff, reduceIte, List.getD_cons_zero, List.getD_cons_succ, List.getD_nil]); first | done | with_reducible rfl)) (hcut _)) (hy := Eq.trans (by ((try simp only [ev_tmp, ev_const, ev_func, get_put, get_args, get_putL, get_putL_nil, Nat.reduceEqDiff, reduceIte, List.getD_cons_zero, List.getD_cons_succ, List.getD_nil]); first | done | with_reducible rfl)) hcutTo) (hn := ?_) (hsrc := ?_) (hf := ?_) (next := fun w6 hch6 ho6 => ?_)
    · rw [hcl, ← hmd]
    · intro j u hu
      have hjm : j < m := by
        rw [List.getElem?_replicate] at hu
        by_cases e : j < m
        · exact e
        · rw [if_neg e] at hu; cases hu
      have hua : a = u := by
        rw [List.getElem?_replicate, if_pos hjm] at hu
        injection hu
      obtain ⟨a5, hA5, _, _, hc5⟩ := hcell5 j (.int .i64 a) (by
        rw [List.getElem?_map, List.getElem?_append_left (by simp; omega), List.getElem?_replicate, if_pos (by omega)]
        rfl)
      rw [hv2] at hv5
      injection hv5 with hv5 _ _
      rw [hA5] at hv5
      injection hv5 with hv5
      rw [hv5, ← hua]
      exact hc5
    · rw [hcl, hxl]; exact hm0.2.1
    rw [rep_step hm0.2.1] at ho6
    refine zgo ?_
    refine z_end ?_
    refine go ?_
    refine loopQ_normal ?_ ⟨n + m, ?_, (hch4.grow he5).trans hch6, ho6, by omega, hm0.2.1, rfl⟩
    · omega
    · exact hasP
  · obtain rfl : n = o.toNat := by omega
    rw [Nat.sub_self, List.replicate_zero, List.append_nil] at ho4
    refine go ?_
    exact ret1 ⟨hch4.ext hE3 (Nat.le_refl _), ⟨ho4.own.toN⟩⟩
end Go.Proofs.YtjljbfcdpdckeaaGreat

/-
  Walks: the program's relators, values of words, tests of homomorphisms (PresentationRelators, evaluate, respects).
  Conditions: stated at each theorem.
-/
namespace Go.Proofs.YtjljbfcdpdckeaaGreat
open Go Go.Pc
theorem ints_bdI {e : List Int} {n : Nat} (hl : LetW n e) (hn : n ≤ 6) : ∀ i, i < e.length → -1000000 ≤ e.getD i 0 ∧ e.getD i 0 ≤ 1000000 := fun i hi => by
  have e1 : e.getD i 0 = e[i] := by simp [hi]
  have := hl _ (List.getElem_mem hi)
  omega
theorem letW_atI {n : Nat} {w : List Int} (h : LetW n w) {k : Nat} (hk : k < w.length) : w.getD k 0 ≠ 0 ∧ -(n : Int) ≤ w.getD k 0 ∧ w.getD k 0 ≤ n := by
  have e1 : w.getD k 0 = w[k] := by simp [hk]
  rw [e1]
  exact h _ (List.getElem_mem hk)
theorem rels_bd {p : Pr} (hv : Valid p) : ∀ m, m ≤ p.n → (relL p m).length ≤ 100 := fun m hm => by
  have h := (rels_props hv).1
  have : (relL p m).length ≤ (rels p).length := by
    unfold rels relL
    simp only [List.length_append]
    have e : List.range p.n = List.range m ++ (List.range (p.n - m)).map (m + ·) := by
      rw [← List.range_add, show m + (p.n - m) = p.n by omega]
    rw [e, List.flatMap_append, List.length_append]
    simp only [List.length_append, List.length_map, List.length_range]
    omega
  omega
set_option maxHeartbeats 4000000 in
theorem PresentationRelators_ok {p : Pr} (hv : Valid p) {w : World} {vp : Value} {lo hi : Nat} [hp : Pres lo hi w vp p] :
    Calls Tryz.prog 45 #[vp] w (Ret fun v w' => ∃ (u : Value) (e : Int), v = .tuple #[u, .int .i64 e] ∧ Ext w w' ∧ ∃ rs, rs.map (·.2) = rels p ∧ GrowL 22 w.heap.size w' u rs) := by
  have hn6 := hv.n6
  have hol : p.ord.length = p.n := rfl
  have hwl := hv.lenw
  have hcl := hv.lenc
  replace hp := hp.wide
  obtain ⟨vo, vpw, vc, ps, cs, css, rfl, h1, h2, h3⟩ := hp.ex
  refine enter (args := [.agg #[vo, vpw, vc]]) (l := [.tmp 2, .tmp 3]) Tryz.func45 rfl rfl Tryz.ntmps45 (by simp) ?_
  refine go ?_
  refine st_box3 (by ((try simp only [ev_tmp, ev_const, ev_func, get_put, get_args, get_putL, get_putL_nil, Nat.reduceEqDiff, reduceIte, List.getD_cons_zero, List.getD_cons_succ, List.getD_nil]); first | done | with_reducible rfl)) (by first | exact True.intro | exact ⟨_, rfl, by ((try simp only [ev_tmp, ev_const, ev_func, get_put, get_args, get_putL, get_putL_nil, Nat.reduceEqDiff, reduceIte, List.getD_cons_zero, List.getD_cons_succ, List.getD_nil, Bool.not_true, Bool.not_false]); first | done | with_reducible rfl)⟩) fun w1 b he1 hb1 hs1 hc0 hc1 hc2 => ?_
  have hz1 := he1.size
  refine go ?_
  refine rc (impl_IsPresentation_ok (p := p) (by omega)) (next := fun v0 w0 h0 => ?_)
  obtain ⟨b0, rfl, hb0, he0⟩ := h0
  have hE0 := he1.trans he0
  refine go ?_
  refine c_b (fun e0 => ?_) (fun e0 => ?_)
  · rw [hb0.2 hv] at e0; cases e0
  refine go ?_
  refine r_for p.n (fun i ρ w' => ∃ vl rs, Has ρ [(1, .pointer (some ⟨b, 0, none⟩)), (4, vl), (16, vo), (17, .int .i64 p.n), (18, .int .i64 i)] ∧ Ext w0 w' ∧ GrowL 22 w0.heap.size w' vl rs ∧ rs.map (·.2) = (List.range i).map (relP p)) ?_ ?_
  · refine ⟨nilv, [], ?_, Ext.refl _, GrowL.nil _ _ _ (Nat.le_refl _), rfl⟩
    exact hasP
  rintro i ρ w3 hi ⟨vl, rs, hH, he3, hG3, hrs3⟩
  refine rwp_has hH fun ρ0 => ?_
  have hz3 := he3.size
  have hE3 := hE0.trans he3
  have hrl3 : rs.length = i := by have := congrArg List.length hrs3; simpa using this
  refine go ?_
  refine c_if (fun h4 => ?_) (fun h4 => ?_)
  · have hin : i < p.n := by omega
    have ho := hv.opos hin
    have hoi : p.ord.getD i 0 = p.o i := rfl
    have hop := hv.prime i hin
    have hiw := invec_word hv (hv.w_in i hin)
    have hpw : p.w i = p.pow.getD i [] := rfl
    rw [hpw] at hiw
    have hlw := letW_word hiw.1
    obtain ⟨b', hb', hvb'⟩ := own_some' vl w0.heap.size w3.heap.size hz3 (fun g h => (hG3.lst.lt h).1)
    have hzE0 := hE0.size
    have hz0 := he0.size
    have ap1 : Apart 0 w.heap.size b' := ⟨.inr (by omega)⟩
    have ap2 : Apart b (b + 1) b' := ⟨.inr (by have := hc0.lt; omega)⟩
    refine go ?_
    rw [hoi]
    refine z_order b' [0, 1, 2, 6, 7, 8, 9, 10, 4, 3, 5, 11, 12, 13, 14, 15, 16] (h := fun w4 he4 hs4 => ?_)
    refine zgo ?_
    refine z_slice1i (t := 22) (e := 2) (z := .int .i64 0) (a := (i : Int) + 1) (next := fun w5 v5 he5 hs5 ho5 => ?_)
    have hx5 : Ints w4.heap.size (w4.heap.size + 1) w5 v5 [(i : Int) + 1] := ⟨ho5.toSl⟩
    refine zc (sliceRepeat_ok (o := p.o i) hop) (next := fun v6 w6 h6 => ?_)
    obtain ⟨he6, hG6⟩ := h6
    refine zc (normalWord_ok (e := p.pow.getD i []) (by omega) (fun j hj => by have := hiw.2.2 j hj; omega)) (next := fun v7 w7 h7 => ?_)
    obtain ⟨he7, hG7⟩ := h7
    have hi7 := hG7.fr.ints
    refine zc (invertWord_ok (e := wordV (p.pow.getD i [])) (by omega) (ints_bdI hlw hn6)) (next := fun v8 w8 h8 => ?_)
    obtain ⟨he8, hG8⟩ := h8
    have hG68 := @GrowI.ext _ _ _ _ _ _ (he7.trans he8) hG6
    have hz5 := he5.size
    have hz58 := ((he6.trans he7).trans he8).size
    refine z_appi hG68 hG8.fr.ints hz58 hz5 (by simp only [List.length_replicate, invW_len]; omega) (next := fun v9 w9 hG9 hx9 hz9 => ?_)
    have hx49 := hx9 w4 (he5.trans ((he6.trans he7).trans he8)) hz5
    refine z_grow (hG3.ext he4) hx49 (hG9.fr.mono hz5) (by have := he4.size; omega) (by omega) hvb' (next := fun v10 v11 w11 hG11 hx11 hz11 hgs11 => ?_)
    refine zgo ?_
    refine z_end ?_
    refine go ?_
    refine forQ_normal (by omega) ⟨v11, _, ?_, hx11 w0 ((he3.trans he4).trans hx49) (Nat.le_refl _), hG11, ?_⟩
    · exact hasP
    · rw [List.map_append, hrs3, List.range_succ, List.map_append]; rfl
  · obtain rfl : i = p.n := by omega
    have hrs0 : rs.map (·.2) = relL p 0 := by rw [hrs3]; simp [relL]
    have hrb := rels_bd hv
    clear hrs3
    refine go ?_
    refine r_for p.n (fun i ρ w' => ∃ vl rs, Has ρ [(1, .pointer (some ⟨b, 0, none⟩)), (4, vl), (41, vo), (42, .int .i64 p.n), (43, .int .i64 i)] ∧ Ext w0 w' ∧ GrowL 22 w0.heap.size w' vl rs ∧ rs.map (·.2) = relL p i) ?_ ?_
    · refine ⟨vl, rs, ?_, he3, hG3, hrs0⟩
      exact hasP
    clear hG3 he3 hrs0 hrl3 hz3 hE3
    rintro i ρ w3 hi ⟨vl, rs, hH3, he3, hG3, hrs3⟩
    refine rwp_has hH3 fun ρ1 => ?_
    have hz3 := he3.size
    have hE3 := hE0.trans he3
    refine go ?_
    refine c_if (fun h5 => ?_) (fun h5 => ?_)
    · have hin : i < p.n := by omega
      have hci := hv.lenci i hin
      refine go ?_
      refine r_for (p.n - 1 - i) (fun k ρ w' => ∃ vl rs, Has ρ [(1, .pointer (some ⟨b, 0, none⟩)), (4, vl), (7, .int .i64 i), (41, vo), (42, .int .i64 p.n), (43, .int .i64 i), (50, Pc.rowAt vc cs i), (51, .int .i64 (p.cnj.getD i []).length), (52, .int .i64 k)] ∧ Ext w0 w' ∧ GrowL 22 w0.heap.size w' vl rs ∧ rs.map (·.2) = relL p i ++ relCs p i k) ?_ ?_
      · refine ⟨vl, rs, ?_, he3, hG3, by simpa [relCs] using hrs3⟩
        exact hasP
      clear hG3 he3 hrs3 hz3 hE3
      rintro k ρ w4 hk ⟨vl, rs, hH4, he4, hG4, hrs4⟩
      refine rwp_has hH4 fun ρ2 => ?_
      have hz4 := he4.size
      have hE4 := hE0.trans he4
      have hrl4 : rs.length ≤ 1000 := by
        have h := congrArg List.length hrs4
        have h2 := hrb i (by omega)
        simp only [List.length_map, List.length_append, relCs, List.length_range] at h
        omega
      have hrow : Pc.Rows 0 w1.heap.size w4 (Pc.rowAt vc cs i) (css.getD i []) (p.cnj.getD i []) := ((h3.same ((hE4).same _ _)).vals.at_ i).mono (Nat.zero_le _) (by have := he1.size; omega)
      refine go ?_
      refine c_if (fun h6 => ?_) (fun h6 => ?_)
      · have hkn : k < p.n - 1 - i := by omega
        have hiw := invec_word hv (hv.c_in i (i + 1 + k) (by omega) (by omega))
        have hw : p.c i (i + 1 + k) = (p.cnj.getD i []).getD k [] := by
          show (p.cnj.getD i []).getD (i + 1 + k - (i + 1)) [] = _
          rw [show i + 1 + k - (i + 1) = k by omega]
        rw [hw] at hiw
        have hlw := letW_word hiw.1
        refine go ?_
        refine st_slice3i (a := -((i : Int) + 1)) (b := (i : Int) + k + 2) (c := (i : Int) + 1) (by ((try simp only [ev_tmp, ev_const, ev_func, get_put, get_args, get_putL, get_putL_nil, Nat.reduceEqDiff, reduceIte, List.getD_cons_zero, List.getD_cons_succ, List.getD_nil]); first | done | with_reducible rfl)) (by ((try simp only [ev_tmp, ev_const, ev_func, get_put, get_args, get_putL, get_putL_nil, Nat.reduceEqDiff, reduceIte, List.getD_cons_zero, List.getD_cons_succ, List.getD_nil]); first | done | with_reducible rfl)) (by ((try simp only [ev_tmp, ev_const, ev_func, get_put, get_args, get_putL, get_putL_nil, Nat.reduceEqDiff, reduceIte, List.getD_cons_zero, List.getD_cons_succ, List.getD_nil]); first | done | with_reducible rfl)) ?_ (by first | exact True.intro | exact ⟨_, rfl, by ((try simp only [ev_tmp, ev_const, ev_func, get_put, get_args, get_putL, get_putL_nil, Nat.reduceEqDiff, reduceIte, List.getD_cons_zero, List.getD_cons_succ, List.getD_nil, Bool.not_true, Bool.not_false]); first | done | with_reducible rfl)⟩) fun w5 v5 he5 hG5 => ?_
        · rfl
        have e3 : [-((i : Int) + 1), (i : Int) + k + 2, (i : Int) + 1] = [-(i : Int) - 1, ((i + 1 + k : Nat) : Int) + 1, (i : Int) + 1] := by
          rw [show -((i : Int) + 1) = -(i : Int) - 1 by omega, show (i : Int) + k + 2 = ((i + 1 + k : Nat) : Int) + 1 by omega]
        rw [e3] at hG5
        refine go ?_
        refine rc (normalWord_ok (e := (p.cnj.getD i []).getD k []) (by omega) (fun j hj => by have := hiw.2.2 j hj; omega)) (next := fun v6 w6 h7 => ?_)
        obtain ⟨he6, hG6⟩ := h7
        have hi6 := hG6.fr.ints
        refine go ?_
        refine rc (invertWord_ok (e := wordV ((p.cnj.getD i []).getD k [])) (by omega) (ints_bdI hlw hn6)) (next := fun v7 w7 h8 => ?_)
        obtain ⟨he7, hG7⟩ := h8
        have hG57 := @GrowI.ext _ _ _ _ _ _ (he6.trans he7) hG5
        have hz7 := (he5.trans (he6.trans he7)).size
        refine go ?_
        refine st_appi hG57 hG7.fr.ints hz7 (by simp only [List.length_cons, List.length_nil, invW_len]; omega) (next := fun v8 w8 hG8 hx8 hz8 => ?_)
        have hx48 := hx8 w4 (he5.trans (he6.trans he7)) (Nat.le_refl _)
        refine go ?_
        refine st_grow hG4 hx48 hG8.fr hz4 (by omega) (next := fun v9 v10 w10 hG10 hx10 hz10 hgs10 => ?_)
        refine go ?_
        refine forQ_normal (by omega) ⟨v10, _, ?_, hx10 w0 (he4.trans hx48) (Nat.le_refl _), hG10, ?_⟩
        · exact hasP
        · rw [List.map_append, hrs4, relCs_succ, List.append_assoc]; rfl
      · obtain rfl : k = p.n - 1 - i := by omega
        rw [← relL_succ] at hrs4
        refine go ?_
        refine forQ_normal (by omega) ⟨vl, rs, ?_, he4, hG4, hrs4⟩
        exact hasP
    · obtain rfl : i = p.n := by omega
      refine go ?_
      exact ret2 ⟨vl, 0, rfl, hE3, rs, hrs3, hG3.lower hE0.size hE3.size⟩
theorem _root_.Go.Pc.rd_max {P : Program} {ρ : Env} {w : World} {x y : Operand} {a b : Int} {ty : TypeId} {ts : Array TypeId} (h : ev ρ x = .int .i64 a) (k : ev ρ y = .int .i64 b) : Rd P (.call { callee := .builtin .max, args := #[x, y], argTypes := ts }) ty ρ w (.int .i64 (if b > a then b else a)) := by
  constructor; intro _ _ _ _
  simp [execOp, resolve, invoke, builtin, h, k, Builtin.max_, Builtin.max2]
theorem absI_ok {n : Int} {m : Nat} (h : n = m ∨ n = -(m : Int)) (hm : m ≤ 1000000) {w : World} : Calls Tryz.prog 76 #[.int .i64 n] w (Ret fun v w' => v = .int .i64 m ∧ w' = w) := by
  refine enter (args := [.int .i64 n]) (l := [.tmp 2]) Tryz.func76 rfl rfl Tryz.ntmps76 (by simp) ?_
  refine go ?_
  refine ra (v := .int .i64 (if -n > n then -n else n)) (h := rd_max (by ((try simp only [ev_tmp, ev_const, ev_func, get_put, get_args, get_putL, get_putL_nil, Nat.reduceEqDiff, reduceIte, List.getD_cons_zero, List.getD_cons_succ, List.getD_nil]); first | done | with_reducible rfl)) (by ((try simp only [ev_tmp, ev_const, ev_func, get_put, get_args, get_putL, get_putL_nil, Nat.reduceEqDiff, reduceIte, List.getD_cons_zero, List.getD_cons_succ, List.getD_nil]); first | done | with_reducible rfl))) (next := ?_)
  refine go ?_
  refine ret1 (v := .int .i64 (if -n > n then -n else n)) ⟨?_, rfl⟩
  congr 1
  split <;> omega
set_option maxHeartbeats 2000000 in
theorem evaluate_ok {q : Pr} [hc : ConAll q] {ys : List (El q)} {ws : List Int} (hw : LetW ys.length ws) (hwl : ws.length ≤ 100000) (hyl : ys.length ≤ 1000) {w : World} {vq vw vi : Value} {us : List Value} {xss : List (List Int)} {lo hi lo1 hi1 lo2 hi2 : Nat} [hp : PresP lo hi w vq q] [hx : Ints lo1 hi1 w vw ws] [hu : Pc.Rows lo2 hi2 w vi us xss] (hus : xss = vecs ys) :
    Calls Tryz.prog 49 #[vq, vw, vi] w (Ret fun v w' => Ext w w' ∧ Fr w.heap.size w' v (evalW ys ws).v) := by
  subst hus
  have hv := hc.valid
  have hn6 := hv.n6
  have hol : q.ord.length = q.n := rfl
  have hvl : (vecs ys).length = ys.length := by simp
  replace hp := hp.wide
  replace hx := hx.wide
  replace hu := hu.wide
  have hpP := hp
  obtain ⟨g, og, vo, vpw, vc, ps, cs, css, rfl, hg1, hg2, hc0, hc1, hc2, h1, h2, h3⟩ := hp.ex
  refine enter (args := [.pointer (some ⟨g, og, none⟩), vw, vi]) (l := [.tmp 6]) Tryz.func49 rfl rfl Tryz.ntmps49 (by simp) ?_
  refine go ?_
  refine st_make_int (by ((try simp only [ev_tmp, ev_const, ev_func, get_put, get_args, get_putL, get_putL_nil, Nat.reduceEqDiff, reduceIte, List.getD_cons_zero, List.getD_cons_succ, List.getD_nil]); first | done | with_reducible rfl)) (by ((try simp only [ev_tmp, ev_const, ev_func, get_put, get_args, get_putL, get_putL_nil, Nat.reduceEqDiff, reduceIte, List.getD_cons_zero, List.getD_cons_succ, List.getD_nil]); first | done | with_reducible rfl)) (by omega) (by omega) (by first | exact True.intro | exact ⟨_, rfl, by ((try simp only [ev_tmp, ev_const, ev_func, get_put, get_args, get_putL, get_putL_nil, Nat.reduceEqDiff, reduceIte, List.getD_cons_zero, List.getD_cons_succ, List.getD_nil, Bool.not_true, Bool.not_false]); first | done | with_reducible rfl)⟩) fun w2 v2 he2 hs2 ho2 => ?_
  have hz2 := he2.size
  have hzz : List.replicate q.ord.length (0 : Int) = (1 : El q).v := rfl
  rw [hzz] at ho2
  have ap1 : Apart 0 w.heap.size w.heap.size := ⟨.inr (Nat.le_refl _)⟩
  have hgs : g + 1 ≤ w.heap.size := by have := hc0.lt; omega
  have ap2 : Apart g (g + 1) w.heap.size := ⟨.inr hgs⟩
  refine go ?_
  refine r_for ws.length (fun k ρ w' => ∃ xs, Has ρ [(0, .pointer (some ⟨g, og, none⟩)), (2, vi), (7, v2), (17, vw), (18, .int .i64 ws.length), (19, .int .i64 k)] ∧ Chg w.heap.size w2 w' ∧ OwnI 2 w.heap.size w' v2 xs ∧ xs = (evalW ys (ws.take k)).v) ?_ ?_
  · refine ⟨_, ?_, Chg.refl _ _, ho2, rfl⟩
    exact hasP
  clear ho2
  rintro k ρ w3 hk ⟨xs, hH, hch3, ho3, hxs⟩
  refine rwp_has hH fun ρ0 => ?_
  have hE3 : Ext w w3 := hch3.ext he2 (Nat.le_refl _)
  refine go ?_
  refine c_if (fun h4 => ?_) (fun h4 => ?_)
  · have hkn : k < ws.length := by omega
    have hlk := letW_atI hw hkn
    have hst := evalW_take (ys := ys) hkn
    refine go ?_
    obtain ⟨j, hj⟩ : ∃ j : Nat, ws.getD k 0 = ((j + 1 : Nat) : Int) ∨ ws.getD k 0 = -((j + 1 : Nat) : Int) := ⟨(ws.getD k 0).natAbs - 1, by omega⟩
    have hjn : j < ys.length := by omega
    have hgj : (vecs ys).getD j [] = (ys.getD j 1).v := by rw [vecs_getD ys hjn, getD_one hjn]
    refine rc (absI_ok hj (by omega)) (next := fun v5 w5 h5 => ?_)
    obtain ⟨rfl, rfl⟩ := h5
    have hj1 : j + 1 - 1 = j := rfl
    have hrow : Ints 0 w.heap.size w5 (Pc.rowAt vi us j) ((vecs ys).getD j []) := (hu.same (hE3.same _ _)).vals.at_ j
    refine go ?_
    rw [hj1]
    refine c_if (fun h6 => ?_) (fun h6 => ?_)
    · have hlv : letV ys (ws.getD k 0) = (ys.getD j 1)⁻¹ := by
        unfold letV
        rw [if_neg (by omega), show (-ws.getD k 0 - 1).toNat = j by omega]
      refine go ?_
      refine rc (invert_ok (p := q) (i := 0) (x := ys.getD j 1) hgj) (next := fun v6 w6 h7 => ?_)
      obtain ⟨he6, hf6⟩ := h7
      have hi6 := hf6.ints
      have ho6 : OwnI 2 w.heap.size w6 v2 xs := OwnI.ext (x := he6) (h := ho3)
      have hz3 := hch3.size
      have ap3 : Apart w5.heap.size w6.heap.size w.heap.size := ⟨.inl (by omega)⟩
      clear ho3
      refine go ?_
      refine rc (timesVector_ok (p := q) 0 (i := 0) (x := evalW ys (ws.take k)) (y := (ys.getD j 1)⁻¹) (Nat.zero_le _) hxs rfl (fun k hk => absurd hk (Nat.not_lt_zero _))) (next := fun v7 w7 h8 => ?_)
      obtain ⟨hch7, ho7⟩ := h8
      refine go ?_
      refine forQ_normal (by omega) ⟨_, ?_, (hch3.grow he6).trans hch7, ho7, by rw [hst, hlv]⟩
      exact hasP
    · have hlv : letV ys (ws.getD k 0) = ys.getD j 1 := by
        unfold letV
        rw [if_pos (by omega), show (ws.getD k 0 - 1).toNat = j by omega]
      refine go ?_
      refine rc (timesVector_ok (p := q) 0 (i := 0) (x := evalW ys (ws.take k)) (y := ys.getD j 1) (Nat.zero_le _) hxs hgj (fun k hk => absurd hk (Nat.not_lt_zero _))) (next := fun v7 w7 h8 => ?_)
      obtain ⟨hch7, ho7⟩ := h8
      refine go ?_
      refine forQ_normal (by omega) ⟨_, ?_, hch3.trans hch7, ho7, by rw [hst, hlv]⟩
      exact hasP
  · obtain rfl : k = ws.length := by omega
    rw [List.take_length] at hxs
    refine go ?_
    refine ret1 ⟨hE3, ?_⟩
    rw [← hxs]
    exact ho3.toFr (Nat.le_refl _)
set_option maxHeartbeats 2000000 in
theorem respects_ok {p q : Pr} (hvp : Valid p) [hc : ConAll q] {ys : List (El q)} (hyl : ys.length = p.n) {w : World} {vr vq vi : Value} {ur us : List Value} {rss xss : List (List Int)} {lo hi lo1 hi1 lo2 hi2 : Nat} [hq : PresP lo1 hi1 w vq q] [hr : Pc.Rows lo hi w vr ur rss] [hu : Pc.Rows lo2 hi2 w vi us xss] (hrs : rss = rels p) (hus : xss = vecs ys) :
    Calls Tryz.prog 46 #[vr, vq, vi] w (Ret fun v w' => ∃ b, v = .bool b ∧ (b = true ↔ RelOk p ys) ∧ Ext w w') := by
  subst hus hrs
  have hn6 := hvp.n6
  have hq6 := hc.valid.n6
  have hvl : (vecs ys).length = ys.length := by simp
  have hrp := rels_props hvp
  have hul := hr.vals.len
  refine enter (args := [vr, vq, vi]) (l := [.tmp 6]) Tryz.func46 rfl rfl Tryz.ntmps46 (by simp) ?_
  refine go ?_
  refine r_for (rels p).length (fun k ρ w' => Has ρ [(1, vq), (2, vi), (9, vr), (10, .int .i64 (rels p).length), (11, .int .i64 k)] ∧ Ext w w' ∧ ∀ j, j < k → evalW ys ((rels p).getD j []) = 1) ?_ ?_
  · refine ⟨?_, Ext.refl _, fun j hj => by omega⟩
    exact hasP
  rintro k ρ w3 hk ⟨hH, he3, hI⟩
  refine rwp_has hH fun ρ0 => ?_
  refine go ?_
  refine c_if (fun h4 => ?_) (fun h4 => ?_)
  · have hkn : k < (rels p).length := by omega
    have e1 : (rels p).getD k [] = (rels p)[k] := by simp [hkn]
    have hwk := hrp.2 _ (List.getElem_mem hkn)
    rw [← e1, ← hyl] at hwk
    have hel := (evalW ys ((rels p).getD k [])).inr.len
    refine go ?_
    refine rc (evaluate_ok (q := q) (ys := ys) (ws := (rels p).getD k []) hwk.2 (by omega) (by omega) rfl) (next := fun v5 w5 h5 => ?_)
    obtain ⟨he5, hf5⟩ := h5
    have hi5 := hf5.ints
    refine go ?_
    refine rc (isZero_ok (xs := (evalW ys ((rels p).getD k [])).v) (by omega)) (next := fun v6 w6 h6 => ?_)
    obtain ⟨b6, rfl, hb6, he6⟩ := h6
    rw [← el_one_iff] at hb6
    have hE6 := he5.trans he6
    refine go ?_
    refine c_b (fun h7 => ?_) (fun h7 => ?_)
    · refine go ?_
      refine ret1 ⟨false, rfl, ⟨fun h => (by cases h), fun h => ?_⟩, he3.trans hE6⟩
      rw [hb6.2 (h k hkn)] at h7; cases h7
    · refine go ?_
      refine forQ_normal (by omega) ⟨?_, he3.trans hE6, fun j hj => ?_⟩
      · exact hasP
      · by_cases e : j = k
        · subst e; exact hb6.1 (by simpa using h7)
        · exact hI j (by omega)
  · refine go ?_
    exact ret1 ⟨true, rfl, ⟨fun _ j hj => hI j (by omega), fun _ => rfl⟩, he3⟩
end Go.Proofs.YtjljbfcdpdckeaaGreat

/-
  Walks: the program's IsAutomorphism, IsIsomorphism, ApplyAutomorphism, ComposeAutomorphisms.
  Conditions: stated at each theorem.
-/
namespace Go.Proofs.YtjljbfcdpdckeaaGreat
open Go Go.Pc
set_option maxHeartbeats 4000000 in
theorem impl_IsIsomorphism_ok {p q : Pr} {w : World} {vp vq vu : Value} {us : List Value} {xss : List (List Int)} {lo hi lo1 hi1 lo2 hi2 : Nat} [hp : Pres lo hi w vp p] [hq : Pres lo1 hi1 w vq q] [hu : Pc.Rows lo2 hi2 w vu us xss] (hl : p.ord.length ≤ 2000000) (hlq : q.ord.length ≤ 2000000) (hxl : xss.length ≤ 2000000) :
    Calls Tryz.prog 29 #[vp, vq, vu] w (Ret fun v w' => ∃ b, v = .bool b ∧ (b = true ↔ IsoP p q xss) ∧ Ext w w') := by
  have hol : p.ord.length = p.n := rfl
  replace hp := hp.wide
  replace hq := hq.wide
  replace hu := hu.wide
  obtain ⟨vo, vpw, vc, ps, cs, css, rfl, h1, h2, h3⟩ := hp.ex
  obtain ⟨uo, upw, uc, qs, ds, dss, rfl, k1, k2, k3⟩ := hq.ex
  refine enter (args := [.agg #[vo, vpw, vc], .agg #[uo, upw, uc], vu]) (l := [.tmp 6]) Tryz.func29 rfl rfl Tryz.ntmps29 (by simp) ?_
  refine go ?_
  refine st_box3 (by ((try simp only [ev_tmp, ev_const, ev_func, get_put, get_args, get_putL, get_putL_nil, Nat.reduceEqDiff, reduceIte, List.getD_cons_zero, List.getD_cons_succ, List.getD_nil]); first | done | with_reducible rfl)) (by first | exact True.intro | exact ⟨_, rfl, by ((try simp only [ev_tmp, ev_const, ev_func, get_put, get_args, get_putL, get_putL_nil, Nat.reduceEqDiff, reduceIte, List.getD_cons_zero, List.getD_cons_succ, List.getD_nil, Bool.not_true, Bool.not_false]); first | done | with_reducible rfl)⟩) fun w0 b0 he0 hb0 hs0 ha0 ha1 ha2 => ?_
  have hpp := hp.boxed he0 ha0 ha1 ha2
  have hq0 : Pres 0 w0.heap.size w0 (.agg #[uo, upw, uc]) q := (hq.same (he0.same _ _)).wide
  have hk1 : Ints 0 w0.heap.size w0 uo q.ord := (k1.same (he0.same _ _)).wide
  have hk2 : Pc.Rows 0 w0.heap.size w0 upw qs q.pow := (k2.same (he0.same _ _)).wide
  refine go ?_
  refine st_box3 (by ((try simp only [ev_tmp, ev_const, ev_func, get_put, get_args, get_putL, get_putL_nil, Nat.reduceEqDiff, reduceIte, List.getD_cons_zero, List.getD_cons_succ, List.getD_nil]); first | done | with_reducible rfl)) (by first | exact True.intro | exact ⟨_, rfl, by ((try simp only [ev_tmp, ev_const, ev_func, get_put, get_args, get_putL, get_putL_nil, Nat.reduceEqDiff, reduceIte, List.getD_cons_zero, List.getD_cons_succ, List.getD_nil, Bool.not_true, Bool.not_false]); first | done | with_reducible rfl)⟩) fun w1 b he1 hb1 hs1 hc0 hc1 hc2 => ?_
  have hqq := hq0.boxed he1 hc0 hc1 hc2
  have hpp1 := PresP.same hpp (he1.same _ _) he1.size
  have hE1 := he0.trans he1
  refine go ?_
  refine rc (impl_IsConsistent_ok (p := p) hl) (next := fun v5 w5 h5 => ?_)
  obtain ⟨b5, rfl, hb5, he5⟩ := h5
  have hE5 := hE1.trans he5
  refine ra (next := ?_)
  refine ra (next := ?_)
  refine sp (fun e5 => ?_) (fun e5 => ?_)
  · have e5' : b5 = false := by simpa using e5
    refine go ?_
    refine ret1 ⟨false, rfl, ⟨fun h => (by cases h), fun h => ?_⟩, hE5⟩
    rw [hb5.2 h.1] at e5'; cases e5'
  have hG := hb5.1 (by simpa using e5)
  refine go ?_
  refine rc (areElements_ok (p := q) (xss := xss) hlq hxl) (next := fun v6 w6 h6 => ?_)
  obtain ⟨b6, rfl, hb6, he6⟩ := h6
  have hE6 := hE5.trans he6
  refine ra (next := ?_)
  refine ra (next := ?_)
  refine ra (next := ?_)
  refine sp (fun e6 => ?_) (fun e6 => ?_)
  · have e6' : b6 = false := by simpa using e6
    refine go ?_
    refine ret1 ⟨false, rfl, ⟨fun h => (by cases h), fun h => ?_⟩, hE6⟩
    obtain ⟨_, _, _, hq', hI, _⟩ := h
    rw [hb6.2 ⟨hq', hI⟩] at e6'; cases e6'
  obtain ⟨hGq, hI⟩ := hb6.1 (by simpa using e6)
  haveI : ConAll p := ⟨hG.con⟩
  haveI : ConAll q := ⟨hGq.con⟩
  have hvq := hGq.valid
  have hn6 := hG.valid.n6
  have hq6 := hvq.n6
  obtain ⟨ys, hys⟩ := els_of hI
  refine go ?_
  refine spd (fun h7 => ?_) (fun h7 => ?_)
  · refine go ?_
    refine ret1 ⟨false, rfl, ⟨fun h => (by cases h), fun h => ?_⟩, hE6⟩
    have := h.2.1
    exact absurd (by omega) h7
  have hlen : xss.length = p.n := by
    have h8 := Decidable.not_not.1 h7
    omega
  have hyl : ys.length = p.n := by rw [← hlen, hys]; simp
  have hsq := seqEl_can (Gen.sub (fun a : El q => a ∈ ys))
  have hos := ordOf_pos' hsq
  refine go ?_
  refine rc (orderOf_ok (p := p) hG.valid) (next := fun v8 w8 h8 => ?_)
  obtain ⟨rfl, he8⟩ := h8
  refine go ?_
  refine rc (orderOf_ok (p := q) hvq) (next := fun v9 w9 h9 => ?_)
  obtain ⟨rfl, he9⟩ := h9
  have hE9 := (hE6.trans he8).trans he9
  refine go ?_
  refine c_if (fun h10 => ?_) (fun h10 => ?_)
  · refine go ?_
    refine ret1 ⟨false, rfl, ⟨fun h => (by cases h), fun h => ?_⟩, hE9⟩
    exact absurd h.2.2.1 h10
  have hoo := Decidable.not_not.1 h10
  refine go ?_
  refine rc (PresentationRelators_ok (p := p) hG.valid) (next := fun v11 w11 h11 => ?_)
  obtain ⟨u11, e11, rfl, he11, rs11, hrs11, hG11⟩ := h11
  have hR11 := hG11.rows
  rw [hrs11] at hR11
  have hE11 := hE9.trans he11
  refine go ?_
  refine rc (respects_ok (p := p) (q := q) hG.valid (ys := ys) hyl rfl hys) (next := fun v12 w12 h12 => ?_)
  obtain ⟨b12, rfl, hb12, he12⟩ := h12
  have hE12 := hE11.trans he12
  refine go ?_
  refine sp (fun e13 => ?_) (fun e13 => ?_)
  · subst e13
    refine go ?_
    refine rc (generatedM_ok (p := q) (ys := ys) hys (by omega)) (next := fun v14 w14 h14 => ?_)
    obtain ⟨he14, rs14, hrs14, hM14⟩ := h14
    have hR14 := hM14.rows
    rw [← hrs14, canon_vecs] at hR14
    refine go ?_
    refine rc (sizeOf_ok (p := q) hsq rfl) (next := fun v15 w15 h15 => ?_)
    obtain ⟨rfl, he15⟩ := h15
    refine go ?_
    refine rc (orderOf_ok (p := q) hvq) (next := fun v16 w16 h16 => ?_)
    obtain ⟨rfl, he16⟩ := h16
    refine go ?_
    refine ret1 ⟨_, rfl, ?_, ((hE12.trans he14).trans he15).trans he16⟩
    rw [decide_eq_true_iff]
    constructor
    · exact fun h => ⟨hG, hlen, hoo, hGq, hI, ys, hys, hb12.1 rfl, h⟩
    · rintro ⟨_, _, _, _, _, hiso⟩
      rw [hys, isoC_iff] at hiso
      exact hiso.2
  · subst e13
    refine go ?_
    refine ret1 ⟨false, rfl, ⟨fun h => (by cases h), fun h => ?_⟩, hE12⟩
    obtain ⟨_, _, _, _, _, hiso⟩ := h
    rw [hys, isoC_iff] at hiso
    have := hb12.2 hiso.1
    cases this
set_option maxHeartbeats 1000000 in
theorem impl_IsAutomorphism_ok {p : Pr} {w : World} {vp vu : Value} {us : List Value} {xss : List (List Int)} {lo hi lo1 hi1 : Nat} [hp : Pres lo hi w vp p] [hu : Pc.Rows lo1 hi1 w vu us xss] (hl : p.ord.length ≤ 2000000) (hxl : xss.length ≤ 2000000) :
    Calls Tryz.prog 18 #[vp, vu] w (Ret fun v w' => ∃ b, v = .bool b ∧ (b = true ↔ IsoP p p xss) ∧ Ext w w') := by
  obtain ⟨vo, vpw, vc, ps, cs, css, rfl, h1, h2, h3⟩ := hp.ex
  refine enter (args := [.agg #[vo, vpw, vc], vu]) (l := [.tmp 4]) Tryz.func18 rfl rfl Tryz.ntmps18 (by simp) ?_
  refine go ?_
  refine st_box3 (by ((try simp only [ev_tmp, ev_const, ev_func, get_put, get_args, get_putL, get_putL_nil, Nat.reduceEqDiff, reduceIte, List.getD_cons_zero, List.getD_cons_succ, List.getD_nil]); first | done | with_reducible rfl)) (by first | exact True.intro | exact ⟨_, rfl, by ((try simp only [ev_tmp, ev_const, ev_func, get_put, get_args, get_putL, get_putL_nil, Nat.reduceEqDiff, reduceIte, List.getD_cons_zero, List.getD_cons_succ, List.getD_nil, Bool.not_true, Bool.not_false]); first | done | with_reducible rfl)⟩) fun w1 b he1 hb1 hs1 hc0 hc1 hc2 => ?_
  refine go ?_
  refine rc (impl_IsIsomorphism_ok (p := p) (q := p) (xss := xss) hl hl hxl) (next := fun v5 w5 h5 => ?_)
  obtain ⟨b5, rfl, hb5, he5⟩ := h5
  refine go ?_
  exact ret1 ⟨b5, rfl, hb5, he1.trans he5⟩
theorem inr_smallI {p : Pr} (hv : Valid p) {xs : List Int} (h : InR p xs) : ∀ i, i < xs.length → 0 ≤ xs.getD i 0 ∧ xs.getD i 0 ≤ 7 := fun i hi => by
  have h1 := h.rng i (by have := h.len; omega)
  have h2 := hv.opos (i := i) (by have := h.len; omega)
  omega
set_option maxHeartbeats 1000000 in
theorem applyImages_ok {p : Pr} [hc : ConAll p] {ys : List (El p)} {x : List Int} (hyl : ys.length = p.n) (hxl : x.length = p.n) (hxr : ∀ i, i < x.length → 0 ≤ x.getD i 0 ∧ x.getD i 0 ≤ 7) {w : World} {vp vi vx : Value} {us : List Value} {xss : List (List Int)} {xs : List Int} {lo hi lo1 hi1 lo2 hi2 : Nat} [hp : PresP lo hi w vp p] [hu : Pc.Rows lo1 hi1 w vi us xss] [hx : Ints lo2 hi2 w vx xs] (hus : xss = vecs ys) (hxe : xs = x) :
    Calls Tryz.prog 33 #[vp, vi, vx] w (Ret fun v w' => Ext w w' ∧ Fr w.heap.size w' v (imgE ys x).v) := by
  subst hxe
  have hn6 := hc.valid.n6
  have hlw := letW_word (n := ys.length) (e := xs) (by omega)
  have hwl := wordA_len (b := 7) xs 0 fun a ha => by
    obtain ⟨i, hi, rfl⟩ := List.getElem_of_mem ha
    have := (hxr i hi).2
    simpa [hi] using this
  have hwl2 : (wordV xs).length ≤ 100 := by
    have h6 : xs.length * 7 ≤ 6 * 7 := Nat.mul_le_mul_right _ (by omega)
    exact Nat.le_trans hwl (by omega)
  have hev : evalW ys (wordV xs) = imgE ys xs := by
    have h := evalW_word (ys := ys) (x := xs) (fun i hi => (hxr i hi).1) xs.length (Nat.le_refl _)
    rw [List.take_length] at h
    rw [h]
    unfold imgE
    rw [hyl, hxl]
  refine enter (args := [vp, vi, vx]) (l := [.tmp 6]) Tryz.func33 rfl rfl Tryz.ntmps33 (by simp) ?_
  refine go ?_
  refine rc (normalWord_ok (e := xs) (by omega) (fun i hi => by have := hxr i hi; omega)) (next := fun v2 w2 h4 => ?_)
  obtain ⟨he2, hG2⟩ := h4
  have hi2 := hG2.fr.ints
  refine go ?_
  refine rc (evaluate_ok (q := p) (ys := ys) (ws := wordV xs) hlw (by omega) (by omega) hus) (next := fun v3 w3 h5 => ?_)
  obtain ⟨he3, hf3⟩ := h5
  rw [hev] at hf3
  refine go ?_
  exact ret1 ⟨he2.trans he3, hf3.mono he2.size⟩
set_option maxHeartbeats 2000000 in
theorem composeImages_ok {p : Pr} [hc : ConAll p] {ys zs : List (El p)} (hyl : ys.length = p.n) (hzl : zs.length = p.n) {w : World} {vp vu vx : Value} {us vs : List Value} {xss yss : List (List Int)} {lo hi lo1 hi1 lo2 hi2 : Nat} [hp : PresP lo hi w vp p] [hu : Pc.Rows lo1 hi1 w vu us xss] [hx : Pc.Rows lo2 hi2 w vx vs yss] (hus : xss = vecs ys) (hvs : yss = vecs zs) :
    Calls Tryz.prog 21 #[vp, vu, vx] w (Ret fun v w' => Ext w w' ∧ ∃ rs, vecs (ys.map fun y => imgE zs y.v) = rs.map (·.2) ∧ MatO w.heap.size w'.heap.size w' v rs) := by
  subst hus hvs
  have hv := hc.valid
  have hn6 := hv.n6
  have hyv : (vecs ys).length = ys.length := by simp
  have hvl := hu.vals.len
  refine enter (args := [vp, vu, vx]) (l := [.tmp 6]) Tryz.func21 rfl rfl Tryz.ntmps21 (by simp) ?_
  refine go ?_
  refine r_for ys.length (fun i ρ w' => ∃ vl rs, Has ρ [(0, vp), (2, vx), (7, vl), (10, vu), (11, .int .i64 (vecs ys).length), (12, .int .i64 i)] ∧ Ext w w' ∧ GrowL 22 w.heap.size w' vl rs ∧ rs.map (·.2) = vecs ((ys.take i).map fun y => imgE zs y.v)) ?_ ?_
  · refine ⟨nilv, [], ?_, Ext.refl _, GrowL.nil _ _ _ (Nat.le_refl _), rfl⟩
    exact hasP
  rintro i ρ w3 hi ⟨vl, rs, hH, he3, hG3, hrs3⟩
  refine rwp_has hH fun ρ0 => ?_
  have hz3 := he3.size
  have hrl : rs.length = i := by have := congrArg List.length hrs3; simp at this; omega
  refine go ?_
  refine c_if (fun h4 => ?_) (fun h4 => ?_)
  · have hin : i < ys.length := by omega
    have hgi := vecs_getD ys hin
    have hiy := (ys[i]).inr
    have hil := hiy.len
    refine go ?_
    refine rc (applyImages_ok (p := p) (ys := zs) (x := (ys[i]).v) hzl hil (inr_smallI hv hiy) rfl hgi) (next := fun v5 w5 h6 => ?_)
    obtain ⟨he5, hf5⟩ := h6
    refine go ?_
    refine st_grow hG3 he5 hf5 hz3 (by omega) (next := fun v6 v7 w7 hG7 hx7 hz7 hgs7 => ?_)
    refine go ?_
    refine forQ_normal (by omega) ⟨v7, _, ?_, hx7 w (he3.trans he5) (Nat.le_refl _), hG7, ?_⟩
    · exact hasP
    · rw [List.take_succ_eq_append_getElem hin]
      simp only [List.map_append, List.map_cons, List.map_nil, hrs3, vecs]
  · obtain rfl : i = ys.length := by omega
    rw [List.take_length] at hrs3
    refine go ?_
    exact ret1 ⟨he3, rs, hrs3.symm, hG3.mat⟩
end Go.Proofs.YtjljbfcdpdckeaaGreat

/-
  Walk: the program's AutomorphismOrder.
  Conditions: stated at each theorem.
-/
namespace Go.Proofs.YtjljbfcdpdckeaaGreat
open Go Go.Pc
set_option maxHeartbeats 4000000 in
theorem impl_AutomorphismOrder_ok {p : Pr} {w : World} {vp vu : Value} {us : List Value} {xss : List (List Int)} {lo hi lo1 hi1 : Nat} [hp : Pres lo hi w vp p] [hu : Pc.Rows lo1 hi1 w vu us xss] (hl : p.ord.length ≤ 2000000) (hxl : xss.length ≤ 2000000) :
    Calls Tryz.prog 9 #[vp, vu] w (Ret fun v w' => ∃ (k e : Int), v = .tuple #[.int .i64 k, .int .i64 e] ∧ Ans (IsoP p p xss) (AoV p xss) 0 k e ∧ Ext w w') := by
  replace hu := hu.wide
  obtain ⟨vo, vpw, vc, ps, cs, css, rfl, h1, h2, h3⟩ := hp.ex
  refine enter (args := [.agg #[vo, vpw, vc], vu]) (l := [.tmp 4, .tmp 5]) Tryz.func9 rfl rfl Tryz.ntmps9 (by simp) ?_
  refine go ?_
  refine st_box3 (by ((try simp only [ev_tmp, ev_const, ev_func, get_put, get_args, get_putL, get_putL_nil, Nat.reduceEqDiff, reduceIte, List.getD_cons_zero, List.getD_cons_succ, List.getD_nil]); first | done | with_reducible rfl)) (by first | exact True.intro | exact ⟨_, rfl, by ((try simp only [ev_tmp, ev_const, ev_func, get_put, get_args, get_putL, get_putL_nil, Nat.reduceEqDiff, reduceIte, List.getD_cons_zero, List.getD_cons_succ, List.getD_nil, Bool.not_true, Bool.not_false]); first | done | with_reducible rfl)⟩) fun w1 b he1 hb1 hs1 hc0 hc1 hc2 => ?_
  have hpp := hp.boxed he1 hc0 hc1 hc2
  refine go ?_
  refine rc (impl_IsAutomorphism_ok (p := p) (xss := xss) hl hxl) (next := fun v5 w5 h5 => ?_)
  obtain ⟨b5, rfl, hb5, he5⟩ := h5
  have hE5 := he1.trans he5
  refine go ?_
  refine c_b (fun e5 => ?_) (fun e5 => ?_)
  · refine go ?_
    refine ret2 ⟨0, 1, rfl, .inr ⟨fun h => ?_, rfl, rfl⟩, hE5⟩
    rw [hb5.2 h] at e5; cases e5
  have hA := hb5.1 (by simpa using e5)
  have hA' := hA
  obtain ⟨hG, hlen, _, _, hI, hC⟩ := hA'
  haveI : ConAll p := ⟨hG.con⟩
  have hv := hG.valid
  have hn6 := hv.n6
  obtain ⟨ys, hys⟩ := els_of hI
  have hyl : ys.length = p.n := by rw [← hlen, hys]; simp
  rw [hys] at hC
  obtain ⟨hR, hf⟩ := isoC_iff.1 hC
  obtain ⟨m, hm1, hmb, hm2, hm3⟩ := aut_ord hyl hR hf
  have hu5 : Pc.Rows 0 w.heap.size w5 vu us xss := hu.same (hE5.same _ _)
  refine go ?_
  refine r_for m (fun j ρ w' => ∃ (vl : Value) (ul : List Value) (lo hi : Nat), Has ρ [(1, vu), (2, .pointer (some ⟨b, 0, none⟩)), (6, .int .i64 ((j : Int) + 1)), (7, vl)] ∧ Ext w5 w' ∧ Pc.Rows lo hi w' vl ul (vecs (bkL ys (j + 1))) ∧ j + 1 ≤ m ∧ ∀ i, 1 ≤ i → i ≤ j → bkL ys i ≠ gensL p) ?_ ?_
  · refine ⟨vu, us, 0, w.heap.size, ?_, Ext.refl _, by rw [bkL_one hyl, ← hys]; exact hu5, hm1, fun i h1 h2 => by omega⟩
    exact hasP
  rintro j ρ w6 hj ⟨vl, ul, lo6, hi6, hH, he6, hR6, hjm, hno⟩
  refine rwp_has hH fun ρ0 => ?_
  have hE6 := hE5.trans he6
  have hbl := bkL_len ys (j + 1)
  refine go ?_
  refine rc (generators_ok (p := p)) (next := fun v7 w7 h7 => ?_)
  obtain ⟨he7, rs7, hrs7, hM7⟩ := h7
  have hR7 := hM7.rows
  rw [← hrs7] at hR7
  have hR67 := hR6.same (he7.same _ _)
  refine go ?_
  refine rc (sameRows_ok (xss := vecs (bkL ys (j + 1))) (yss := vecs (gensL p)) (fun i => by have := vecs_len (bkL ys (j + 1)) i; omega) (by simp; omega)) (next := fun v8 w8 h8 => ?_)
  obtain ⟨b8, rfl, hb8, he8⟩ := h8
  have hb8' : b8 = true ↔ bkL ys (j + 1) = gensL p := hb8.trans ⟨fun h => vecs_inj h, fun h => by rw [h]⟩
  have hx8 := he7.trans he8
  have hR8 : Pc.Rows lo6 hi6 w8 vl ul (vecs (bkL ys (j + 1))) := hR6.same (hx8.same _ _)
  have hE8 := hE6.trans hx8
  have hu8 : Pc.Rows 0 w.heap.size w8 vu us xss := hu.same (hE8.same _ _)
  refine go ?_
  refine c_b (fun h9 => ?_) (fun h9 => ?_)
  · have hne : bkL ys (j + 1) ≠ gensL p := fun h => by rw [hb8'.2 h] at h9; cases h9
    have hlt : j + 1 < m := by
      refine Nat.lt_of_le_of_ne hjm fun e => hne ?_
      rw [e]; exact hm2
    refine go ?_
    refine rc (composeImages_ok (p := p) (ys := bkL ys (j + 1)) (zs := ys) hbl hyl rfl hys) (next := fun v10 w10 h10 => ?_)
    obtain ⟨he10, rs10, hrs10, hM10⟩ := h10
    have hR10 := hM10.rows
    rw [← hrs10, ← bkL_succ] at hR10
    refine go ?_
    refine forQ_normal (by omega) ⟨v10, _, _, _, ?_, he6.trans (hx8.trans he10), hR10, hlt, fun i h1 h2 => ?_⟩
    · exact hasP
    · by_cases e : i = j + 1
      · rw [e]; exact hne
      · exact hno i h1 (by omega)
  · have heq := hb8'.1 (by simpa using h9)
    refine go ?_
    exact ret2 ⟨_, 0, rfl, .inl ⟨hA, ⟨inferInstance, ys, j + 1, hys, by omega, heq, fun i h1 h2 => hno i h1 (by omega), by push_cast; rfl⟩, rfl⟩, hE8⟩
end Go.Proofs.YtjljbfcdpdckeaaGreat

/-
  Walks: the statement's own helpers on lists: sizes, copies, comparisons (szInt64S, .., toInt64S, .., eqInt64SSS).
  Conditions: stated at each theorem.
-/
namespace Go.Proofs.YtjljbfcdpdckeaaGreat
open Go Go.Pc
theorem szInt64S_ok {w : World} {v : Value} {xs : List Int} {k : Int} {lo hi : Nat} [hx : Ints lo hi w v xs] (hk : 0 ≤ k ∧ k ≤ 2000000) :
    Calls Tryz.prog 12 #[v, .int .i64 k] w (Ret fun v w' => ∃ j : Int, v = .int .i64 j ∧ (j < 0 ∨ 0 ≤ j ∧ j ≤ k ∧ (xs.length : Int) ≤ k) ∧ Ext w w') := by
  have hl : xs.length ≤ 9223372036854775807 := by
    obtain ⟨A, c, _, hc, hm, _⟩ := hx.sl.ex
    simp at hc; omega
  refine enter (args := [v, .int .i64 k]) (l := [.tmp 4]) Tryz.func12 rfl rfl Tryz.ntmps12 (by simp) ?_
  refine go ?_
  refine c_if (fun h4 => ?_) (fun h4 => ?_)
  · refine go ?_
    exact ret1 ⟨-1, rfl, .inl (by omega), Ext.refl _⟩
  · refine go ?_
    exact ret1 ⟨k - xs.length, rfl, .inr ⟨by omega, by omega, by omega⟩, Ext.refl _⟩
theorem sl_len {lo hi : Nat} {w : World} {v : Value} {us : List Value} (h : Sl lo hi w v us) : us.length ≤ 9223372036854775807 := by
  obtain ⟨A, c, _, hc, hm, _⟩ := h.ex
  omega
set_option maxHeartbeats 1000000 in
theorem szInt64SS_ok {w : World} {v : Value} {us : List Value} {xss : List (List Int)} {k : Int} {lo hi : Nat} [hx : Pc.Rows lo hi w v us xss] (hk : 0 ≤ k ∧ k ≤ 2000000) :
    Calls Tryz.prog 5 #[v, .int .i64 k] w (Ret fun v w' => ∃ j : Int, v = .int .i64 j ∧ (j < 0 ∨ 0 ≤ j ∧ j ≤ k ∧ (xss.length : Int) ≤ k ∧ ∀ i, ((xss.getD i []).length : Int) ≤ k) ∧ Ext w w') := by
  have hl := sl_len hx.sl
  have hul := hx.vals.len
  refine enter (args := [v, .int .i64 k]) (l := [.tmp 4]) Tryz.func5 rfl rfl Tryz.ntmps5 (by simp) ?_
  refine go ?_
  refine c_if (fun h4 => ?_) (fun h4 => ?_)
  · refine go ?_
    exact ret1 ⟨-1, rfl, .inl (by omega), Ext.refl _⟩
  refine go ?_
  refine r_for xss.length (fun q ρ w' => ∃ j : Int, Has ρ [(0, v), (1, .int .i64 j), (5, .int .i64 q)] ∧ Ext w w' ∧ 0 ≤ j ∧ j ≤ k ∧ ∀ i, i < q → ((xss.getD i []).length : Int) ≤ k) ?_ ?_
  · refine ⟨k - xss.length, ?_, Ext.refl _, by omega, by omega, fun i hi => by omega⟩
    exact hasP
  rintro q ρ w2 hq ⟨j, hH, he2, hj0, hjk, hI⟩
  refine rwp_has hH fun ρ0 => ?_
  refine go ?_
  refine c_if (fun h5 => ?_) (fun h5 => ?_)
  · refine go ?_
    refine rc (szInt64S_ok (xs := xss.getD q []) (k := j) ?_) (next := fun v3 w3 h3 => ?_)
    · omega
    obtain ⟨j3, rfl, hj3, he3⟩ := h3
    refine go ?_
    refine c_if (fun h6 => ?_) (fun h6 => ?_)
    · refine go ?_
      exact ret1 ⟨-1, rfl, .inl (by omega), he2.trans he3⟩
    · have h7 : 0 ≤ j3 ∧ j3 ≤ j ∧ ((xss.getD q []).length : Int) ≤ j := by
        rcases hj3 with h | h
        · omega
        · exact h
      refine go ?_
      refine forQ_normal (by omega) ⟨j3, ?_, he2.trans he3, by omega, by omega, fun i hi => ?_⟩
      · exact hasP
      · by_cases e : i = q
        · subst e; omega
        · exact hI i (by omega)
  · refine go ?_
    refine ret1 ⟨j, rfl, .inr ⟨hj0, hjk, by omega, fun i => ?_⟩, he2⟩
    by_cases hi : i < xss.length
    · exact hI i (by omega)
    · rw [List.getD_eq_getElem?_getD, List.getElem?_eq_none (by omega)]; simp; omega
set_option maxHeartbeats 1000000 in
theorem szInt64SSS_ok {w : World} {v : Value} {us : List Value} {uss : List (List Value)} {xsss : List (List (List Int))} {k : Int} {lo hi : Nat} [hx : Rowss lo hi w v us uss xsss] (hk : 0 ≤ k ∧ k ≤ 2000000) :
    Calls Tryz.prog 13 #[v, .int .i64 k] w (Ret fun v w' => ∃ j : Int, v = .int .i64 j ∧ (j < 0 ∨ 0 ≤ j ∧ j ≤ k ∧ (xsss.length : Int) ≤ k ∧ ∀ i, ((xsss.getD i []).length : Int) ≤ k ∧ ∀ h, (((xsss.getD i []).getD h []).length : Int) ≤ k) ∧ Ext w w') := by
  have hl := sl_len hx.sl
  have hul := hx.vals.len
  refine enter (args := [v, .int .i64 k]) (l := [.tmp 4]) Tryz.func13 rfl rfl Tryz.ntmps13 (by simp) ?_
  refine go ?_
  refine c_if (fun h4 => ?_) (fun h4 => ?_)
  · refine go ?_
    exact ret1 ⟨-1, rfl, .inl (by omega), Ext.refl _⟩
  refine go ?_
  refine r_for xsss.length (fun q ρ w' => ∃ j : Int, Has ρ [(0, v), (1, .int .i64 j), (5, .int .i64 q)] ∧ Ext w w' ∧ 0 ≤ j ∧ j ≤ k ∧ ∀ i, i < q → ((xsss.getD i []).length : Int) ≤ k ∧ ∀ h, (((xsss.getD i []).getD h []).length : Int) ≤ k) ?_ ?_
  · refine ⟨k - xsss.length, ?_, Ext.refl _, by omega, by omega, fun i hi => by omega⟩
    exact hasP
  rintro q ρ w2 hq ⟨j, hH, he2, hj0, hjk, hI⟩
  refine rwp_has hH fun ρ0 => ?_
  refine go ?_
  refine c_if (fun h5 => ?_) (fun h5 => ?_)
  · refine go ?_
    refine rc (szInt64SS_ok (xss := xsss.getD q []) (k := j) ?_) (next := fun v3 w3 h3 => ?_)
    · omega
    obtain ⟨j3, rfl, hj3, he3⟩ := h3
    refine go ?_
    refine c_if (fun h6 => ?_) (fun h6 => ?_)
    · refine go ?_
      exact ret1 ⟨-1, rfl, .inl (by omega), he2.trans he3⟩
    · have h7 : 0 ≤ j3 ∧ j3 ≤ j ∧ ((xsss.getD q []).length : Int) ≤ j ∧ ∀ i, (((xsss.getD q []).getD i []).length : Int) ≤ j := by
        rcases hj3 with h | h
        · omega
        · exact h
      refine go ?_
      refine forQ_normal (by omega) ⟨j3, ?_, he2.trans he3, by omega, by omega, fun i hi => ?_⟩
      · exact hasP
      · by_cases e : i = q
        · subst e; exact ⟨by omega, fun h => by have := h7.2.2.2 h; omega⟩
        · exact hI i (by omega)
  · refine go ?_
    refine ret1 ⟨j, rfl, .inr ⟨hj0, hjk, by omega, fun i => ?_⟩, he2⟩
    by_cases hi : i < xsss.length
    · exact hI i (by omega)
    · rw [List.getD_eq_getElem?_getD, List.getElem?_eq_none (by omega)]; simp; omega
set_option maxHeartbeats 1000000 in
theorem toInt64S_ok {w : World} {v : Value} {xs : List Int} {lo hi : Nat} [hx : Ints lo hi w v xs] (hl : xs.length ≤ 2000000) :
    Calls Tryz.prog 16 #[v] w (Ret fun v' w' => Ext w w' ∧ Fr w.heap.size w' v' xs) := by
  refine enter (args := [v]) (l := [.tmp 2]) Tryz.func16 rfl rfl Tryz.ntmps16 (by simp) ?_
  refine go ?_
  refine st_make_int (by ((try simp only [ev_tmp, ev_const, ev_func, get_put, get_args, get_putL, get_putL_nil, Nat.reduceEqDiff, reduceIte, List.getD_cons_zero, List.getD_cons_succ, List.getD_nil]); first | done | with_reducible rfl)) (by ((try simp only [ev_tmp, ev_const, ev_func, get_put, get_args, get_putL, get_putL_nil, Nat.reduceEqDiff, reduceIte, List.getD_cons_zero, List.getD_cons_succ, List.getD_nil]); first | done | with_reducible rfl)) (by omega) (by omega) (by first | exact True.intro | exact ⟨_, rfl, by ((try simp only [ev_tmp, ev_const, ev_func, get_put, get_args, get_putL, get_putL_nil, Nat.reduceEqDiff, reduceIte, List.getD_cons_zero, List.getD_cons_succ, List.getD_nil, Bool.not_true, Bool.not_false]); first | done | with_reducible rfl)⟩) fun w1 v1 he1 hs1 ho1 => ?_
  replace hx := hx.wide
  have ap : Apart 0 w.heap.size w.heap.size := ⟨.inr (Nat.le_refl _)⟩
  refine go ?_
  refine r_for xs.length (fun k ρ w' => ∃ ys, Has ρ [(0, v), (3, v1), (4, .int .i64 k)] ∧ Chg w.heap.size w1 w' ∧ OwnI 2 w.heap.size w' v1 ys ∧ ys.length = xs.length ∧ ∀ i, i < k → ys.getD i 0 = xs.getD i 0) ?_ ?_
  · refine ⟨_, ?_, Chg.refl _ _, ho1, by simp, fun i hi => by omega⟩
    exact hasP
  clear ho1
  rintro k ρ w2 hk ⟨ys, hH, hc2, ho2, hl2, hI⟩
  refine rwp_has hH fun ρ0 => ?_
  refine go ?_
  refine c_if (fun h4 => ?_) (fun h4 => ?_)
  · refine go ?_
    refine st_store_int (by ((try simp only [ev_tmp, ev_const, ev_func, get_put, get_args, get_putL, get_putL_nil, Nat.reduceEqDiff, reduceIte, List.getD_cons_zero, List.getD_cons_succ, List.getD_nil]); first | done | with_reducible rfl)) (by ((try simp only [ev_tmp, ev_const, ev_func, get_put, get_args, get_putL, get_putL_nil, Nat.reduceEqDiff, reduceIte, List.getD_cons_zero, List.getD_cons_succ, List.getD_nil]); first | done | with_reducible rfl)) ?_ (by first | exact True.intro | exact ⟨_, rfl, by ((try simp only [ev_tmp, ev_const, ev_func, get_put, get_args, get_putL, get_putL_nil, Nat.reduceEqDiff, reduceIte, List.getD_cons_zero, List.getD_cons_succ, List.getD_nil, Bool.not_true, Bool.not_false]); first | done | with_reducible rfl)⟩) fun w3 hc3 hs3 ho3 => ?_
    · omega
    refine go ?_
    refine forQ_normal (by omega) ⟨_, ?_, hc2.trans hc3, ho3, by simp [hl2], fun i hi => ?_⟩
    · exact hasP
    · by_cases e : k = i
      · subst e; rw [Pc.getD_set_eq _ _ _ (by omega)]
      · rw [Pc.getD_set_ne _ _ _ _ e]; exact hI i (by omega)
  · refine go ?_
    have hy : ys = xs := list_ext0 hl2 fun i hi => hI i (by omega)
    subst hy
    exact ret1 ⟨hc2.ext he1 (Nat.le_refl _), ho2.toFr (Nat.le_refl _)⟩
theorem set_nils {α : Type} (l : List α) (z u : α) (m : Nat) : (l ++ List.replicate (m + 1) z).set l.length u = (l ++ [u]) ++ List.replicate m z := by
  simp [List.replicate_succ]
set_option maxHeartbeats 1000000 in
theorem toInt64SSO_ok {w : World} {v : Value} {us : List Value} {xss : List (List Int)} {lo hi : Nat} [hx : Pc.Rows lo hi w v us xss] (hl : xss.length ≤ 2000000) (hr : ∀ i, (xss.getD i []).length ≤ 2000000) :
    Calls Tryz.prog 8 #[v] w (Ret fun v' w' => Ext w w' ∧ ∃ rs, Lst 22 w.heap.size (· < w.heap.size) w' v' (rs.map (·.1)) xss ∧ xss = rs.map (·.2) ∧ RowsO w.heap.size w' rs) := by
  refine enter (args := [v]) (l := [.tmp 2]) Tryz.func8 rfl rfl Tryz.ntmps8 (by simp) ?_
  refine go ?_
  refine st_make_nil (by ((try simp only [ev_tmp, ev_const, ev_func, get_put, get_args, get_putL, get_putL_nil, Nat.reduceEqDiff, reduceIte, List.getD_cons_zero, List.getD_cons_succ, List.getD_nil]); first | done | with_reducible rfl)) (by ((try simp only [ev_tmp, ev_const, ev_func, get_put, get_args, get_putL, get_putL_nil, Nat.reduceEqDiff, reduceIte, List.getD_cons_zero, List.getD_cons_succ, List.getD_nil]); first | done | with_reducible rfl)) (by omega) (by omega) (by first | exact True.intro | exact ⟨_, rfl, by ((try simp only [ev_tmp, ev_const, ev_func, get_put, get_args, get_putL, get_putL_nil, Nat.reduceEqDiff, reduceIte, List.getD_cons_zero, List.getD_cons_succ, List.getD_nil, Bool.not_true, Bool.not_false]); first | done | with_reducible rfl)⟩) fun w1 v1 he1 hs1 ho1 => ?_
  have hvb := ho1.toN_block
  have hL1 : Lst 22 w.heap.size (· < w.heap.size) w1 v1 _ _ := Lst.ofNils ho1 (Nat.le_refl _) (by omega) (fun g hg => by omega)
  refine go ?_
  refine r_for xss.length (fun k ρ w' => ∃ rs : List (Value × List Int), Has ρ [(0, v), (3, v1), (4, .int .i64 k)] ∧ Ext w w' ∧ Lst 22 w.heap.size (· < w.heap.size) w' v1 (rs.map (·.1) ++ List.replicate (xss.length - k) nilv) (rs.map (·.2) ++ List.replicate (xss.length - k) []) ∧ rs.length = k ∧ rs.map (·.2) = xss.take k ∧ RowsO (w.heap.size + 1) w' rs ∧ w.heap.size + 1 ≤ w'.heap.size) ?_ ?_
  · refine ⟨[], ?_, he1, by simpa using hL1, rfl, by simp, RowsO.nil _ _, by omega⟩
    exact hasP
  clear hL1 ho1
  rintro k ρ w2 hk ⟨rs, hH, he2, hL2, hl2, hI, hO2, hsz2⟩
  refine rwp_has hH fun ρ0 => ?_
  have hLr := hL2.toRows
  refine go ?_
  refine c_if (fun h4 => ?_) (fun h4 => ?_)
  · refine go ?_
    refine rc (toInt64S_ok (xs := xss.getD k []) (hr k)) (next := fun v3 w3 h3 => ?_)
    obtain ⟨he3, hf3⟩ := h3
    have hL3 := hL2.ext he3
    have hO3 := hL3.toOwn hvb
    have hz2 := he2.size
    have hul : (rs.map (·.1) ++ List.replicate (xss.length - k) nilv).length = xss.length := by simp; omega
    have hul2 : (rs.map (·.2) ++ List.replicate (xss.length - k) ([] : List Int)).length = xss.length := by simp; omega
    refine go ?_
    refine st_store_val (h := hO3) (by ((try simp only [ev_tmp, ev_const, ev_func, get_put, get_args, get_putL, get_putL_nil, Nat.reduceEqDiff, reduceIte, List.getD_cons_zero, List.getD_cons_succ, List.getD_nil]); first | done | with_reducible rfl)) (by ((try simp only [ev_tmp, ev_const, ev_func, get_put, get_args, get_putL, get_putL_nil, Nat.reduceEqDiff, reduceIte, List.getD_cons_zero, List.getD_cons_succ, List.getD_nil]); first | done | with_reducible rfl)) ?_ ?_ (by first | exact True.intro | exact ⟨_, rfl, by ((try simp only [ev_tmp, ev_const, ev_func, get_put, get_args, get_putL, get_putL_nil, Nat.reduceEqDiff, reduceIte, List.getD_cons_zero, List.getD_cons_succ, List.getD_nil, Bool.not_true, Bool.not_false]); first | done | with_reducible rfl)⟩) fun w4 hc4 hs4 ho4 => ?_
    · exact hf3.ints.sl.one
    · omega
    have hL4 := hL3.set hvb (IntsAp.ofFr hf3 (fun g hg => by
      rcases hg with hg | hg
      · omega
      · exact (hL2.lt hg).2)) hc4 ho4 (by omega)
    have hkn : k < xss.length := by omega
    have e0 : xss.length - k = (xss.length - (k + 1)) + 1 := by omega
    have e1 := set_nils (rs.map (·.1)) nilv v3 (xss.length - (k + 1))
    have e2 := set_nils (rs.map (·.2)) [] (xss.getD k []) (xss.length - (k + 1))
    rw [List.length_map, hl2, ← e0] at e1 e2
    rw [e1, e2] at hL4
    have hO4 := hO2.push he3 hsz2 hf3
    have hO5 := hO4.wr (.one (B := fun b => b = w.heap.size) rfl hc4) fun b hb e => by have := (hO4.blk hb).1; omega
    have hz3 := he3.size
    refine go ?_
    refine forQ_normal (by omega) ⟨rs ++ [(v3, xss.getD k [])], ?_, hc4.ext (he2.trans he3) (Nat.le_refl _), by simpa using hL4, by simp [hl2], ?_, hO5, by omega⟩
    · exact hasP
    · rw [List.take_succ_eq_append_getElem hkn, List.map_append, hI]; simp [hkn]
  · refine go ?_
    obtain rfl : k = xss.length := by omega
    rw [List.take_length] at hI
    refine ret1 ⟨he2, rs, ?_, hI.symm, hO2.mono (by omega)⟩
    simpa [hI] using hL2
theorem toInt64SS_ok {w : World} {v : Value} {us : List Value} {xss : List (List Int)} {lo hi : Nat} [hx : Pc.Rows lo hi w v us xss] (hl : xss.length ≤ 2000000) (hr : ∀ i, (xss.getD i []).length ≤ 2000000) :
    Calls Tryz.prog 8 #[v] w (Ret fun v' w' => Ext w w' ∧ ∃ us', Lst 22 w.heap.size (· < w.heap.size) w' v' us' xss) :=
  Pc.Calls.ret_mono (toInt64SSO_ok hl hr) fun _ _ ⟨h1, _, h2, _⟩ => ⟨h1, _, h2⟩
end Go.Proofs.YtjljbfcdpdckeaaGreat

/-
  Walks: the statement's own helpers on presentations: sizes, copies, comparisons (toInt64SSS, szPresentation, toPresentation, eqInt64SSS, eqPresentation).
  Conditions: stated at each theorem.
-/
namespace Go.Proofs.YtjljbfcdpdckeaaGreat
open Go Go.Pc
set_option maxHeartbeats 1000000 in
theorem toInt64SSS_ok {w : World} {v : Value} {us : List Value} {uss : List (List Value)} {xsss : List (List (List Int))} {lo hi : Nat} [hx : Rowss lo hi w v us uss xsss] (hl : xsss.length ≤ 2000000) (hr : ∀ i, (xsss.getD i []).length ≤ 2000000 ∧ ∀ j, ((xsss.getD i []).getD j []).length ≤ 2000000) :
    Calls Tryz.prog 17 #[v] w (Ret fun v' w' => Ext w w' ∧ ∃ us' uss', Rowss w.heap.size w'.heap.size w' v' us' uss' xsss) := by
  refine enter (args := [v]) (l := [.tmp 2]) Tryz.func17 rfl rfl Tryz.ntmps17 (by simp) ?_
  refine go ?_
  refine st_make_nil (by ((try simp only [ev_tmp, ev_const, ev_func, get_put, get_args, get_putL, get_putL_nil, Nat.reduceEqDiff, reduceIte, List.getD_cons_zero, List.getD_cons_succ, List.getD_nil]); first | done | with_reducible rfl)) (by ((try simp only [ev_tmp, ev_const, ev_func, get_put, get_args, get_putL, get_putL_nil, Nat.reduceEqDiff, reduceIte, List.getD_cons_zero, List.getD_cons_succ, List.getD_nil]); first | done | with_reducible rfl)) (by omega) (by omega) (by first | exact True.intro | exact ⟨_, rfl, by ((try simp only [ev_tmp, ev_const, ev_func, get_put, get_args, get_putL, get_putL_nil, Nat.reduceEqDiff, reduceIte, List.getD_cons_zero, List.getD_cons_succ, List.getD_nil, Bool.not_true, Bool.not_false]); first | done | with_reducible rfl)⟩) fun w1 v1 he1 hs1 ho1 => ?_
  refine go ?_
  refine r_for xsss.length (fun k ρ w' => ∃ (us' : List Value) (uss' : List (List Value)) (ysss : List (List (List Int))), Has ρ [(0, v), (3, v1), (4, .int .i64 k)] ∧ Ext w w' ∧ Own 23 w.heap.size w' v1 us' ∧ us'.length = xsss.length ∧ uss'.length = xsss.length ∧ ysss.length = xsss.length ∧
    (∀ i, Pc.Rows (w.heap.size + 1) w'.heap.size w' (us'.getD i nilv) (uss'.getD i []) (ysss.getD i [])) ∧ ∀ i, i < k → ysss.getD i [] = xsss.getD i []) ?_ ?_
  · refine ⟨_, List.replicate xsss.length [], List.replicate xsss.length [], ?_, he1, ho1, by simp, by simp, by simp, fun i => ?_, fun i hi => by omega⟩
    · exact hasP
    · have e1 : (List.replicate xsss.length nilv).getD i nilv = nilv := by
        rw [List.getD_eq_getElem?_getD, List.getElem?_replicate]; split <;> rfl
      have e2 : (List.replicate xsss.length ([] : List Value)).getD i [] = [] := by
        rw [List.getD_eq_getElem?_getD, List.getElem?_replicate]; split <;> rfl
      have e3 : (List.replicate xsss.length ([] : List (List Int))).getD i [] = [] := by
        rw [List.getD_eq_getElem?_getD, List.getElem?_replicate]; split <;> rfl
      rw [e1, e2, e3]
      refine ⟨⟨⟨none, 0, rfl, Nat.le_refl _, by omega, fun k u hu => by simp at hu⟩⟩, rfl, fun i => ?_⟩
      exact ⟨⟨none, 0, by simp, by simp, by omega, fun k u hu => by simp at hu⟩⟩
  clear ho1
  rintro k ρ w2 hk ⟨us', uss', ysss, hH, he2, ho2, hl1, hl2, hl3, hR, hI⟩
  refine rwp_has hH fun ρ0 => ?_
  have hsl := ho2.toSl
  refine go ?_
  refine c_if (fun h4 => ?_) (fun h4 => ?_)
  · refine go ?_
    refine rc (toInt64SS_ok (xss := xsss.getD k []) (hr k).1 (hr k).2) (next := fun v3 w3 h3 => ?_)
    obtain ⟨he3, us3, hL3⟩ := h3
    have hN3 := hL3.newRows
    have ho3 : Own 23 w.heap.size w3 v1 us' := Own.ext (h := ho2)
    have hsl3 := ho3.toSl
    have hlen3 := hsl3.toLen
    have hz2 := he2.size
    have hz3 := he3.size
    have hol := ho2.lt
    refine go ?_
    refine st_store_val (h := ho3) (by ((try simp only [ev_tmp, ev_const, ev_func, get_put, get_args, get_putL, get_putL_nil, Nat.reduceEqDiff, reduceIte, List.getD_cons_zero, List.getD_cons_succ, List.getD_nil]); first | done | with_reducible rfl)) (by ((try simp only [ev_tmp, ev_const, ev_func, get_put, get_args, get_putL, get_putL_nil, Nat.reduceEqDiff, reduceIte, List.getD_cons_zero, List.getD_cons_succ, List.getD_nil]); first | done | with_reducible rfl)) ?_ ?_ (by first | exact True.intro | exact ⟨_, rfl, by ((try simp only [ev_tmp, ev_const, ev_func, get_put, get_args, get_putL, get_putL_nil, Nat.reduceEqDiff, reduceIte, List.getD_cons_zero, List.getD_cons_succ, List.getD_nil, Bool.not_true, Bool.not_false]); first | done | with_reducible rfl)⟩) fun w4 hc4 hs4 ho4 => ?_
    · exact hN3.sl.one
    · omega
    refine go ?_
    refine forQ_normal (by omega) ⟨us'.set k v3, uss'.set k us3, ysss.set k (xsss.getD k []), ?_, hc4.ext (he2.trans he3) (Nat.le_refl _), ho4, by simp [hl1], by simp [hl2], by simp [hl3], fun i => ?_, fun i hi => ?_⟩
    · exact hasP
    · by_cases e : k = i
      · subst e
        have e1 : (us'.set k v3).getD k nilv = v3 := by simp [show k < us'.length by omega]
        have e2 : (uss'.set k us3).getD k [] = us3 := by simp [show k < uss'.length by omega]
        have e3 : (ysss.set k (xsss.getD k [])).getD k [] = xsss.getD k [] := by simp [show k < ysss.length by omega]
        rw [e1, e2, e3]
        exact (hN3.same (hc4.same (.inl (by omega)))).mono (by omega) (by omega)
      · have e1 : (us'.set k v3).getD i nilv = us'.getD i nilv := by simp [List.getElem?_set_ne e]
        have e2 : (uss'.set k us3).getD i [] = uss'.getD i [] := by simp [List.getElem?_set_ne e]
        have e3 : (ysss.set k (xsss.getD k [])).getD i [] = ysss.getD i [] := by simp [List.getElem?_set_ne e]
        rw [e1, e2, e3]
        exact (((hR i).same (he3.same _ _)).same (hc4.same (.inl (by omega)))).mono (Nat.le_refl _) (by omega)
    · by_cases e : k = i
      · subst e; simp [show k < ysss.length by omega]
      · have : (ysss.set k (xsss.getD k [])).getD i [] = ysss.getD i [] := by simp [List.getElem?_set_ne e]
        rw [this]; exact hI i (by omega)
  · refine go ?_
    refine ret1 ⟨he2, us', uss', ?_⟩
    have hy : ysss = xsss := by
      apply List.ext_getElem hl3
      intro i h1 h2
      have := hI i (by omega)
      simpa [h1, h2] using this
    subst hy
    exact ⟨hsl.mono (Nat.le_refl _) (by have := ho2.lt; omega), hl1, hl2, fun i => (hR i).mono (by omega) (Nat.le_refl _)⟩
theorem rowss_mono {lo hi lo' hi' : Nat} {w : World} {v : Value} {us : List Value} {uss : List (List Value)} {xsss : List (List (List Int))} (h : Rowss lo hi w v us uss xsss) (h1 : lo' ≤ lo) (h2 : hi ≤ hi') : Rowss lo' hi' w v us uss xsss :=
  ⟨h.sl.mono h1 h2, h.vals.len, h.vals.len', fun i => (h.vals.at_ i).mono h1 h2⟩
/-- The sizes of a presentation, none above k. -/
structure SizeP (p : Pr) (k : Int) : Prop where
  ord : (p.ord.length : Int) ≤ k
  pow : (p.pow.length : Int) ≤ k
  powi : ∀ i, ((p.pow.getD i []).length : Int) ≤ k
  cnj : (p.cnj.length : Int) ≤ k
  cnji : ∀ i, ((p.cnj.getD i []).length : Int) ≤ k
  cnjij : ∀ i j, (((p.cnj.getD i []).getD j []).length : Int) ≤ k
set_option maxHeartbeats 1000000 in
theorem szPresentation_ok {w : World} {v : Value} {p : Pr} {k : Int} {lo hi : Nat} [hp : Pres lo hi w v p] (hk : 0 ≤ k ∧ k ≤ 2000000) :
    Calls Tryz.prog 4 #[v, .int .i64 k] w (Ret fun v w' => ∃ j : Int, v = .int .i64 j ∧ (j < 0 ∨ 0 ≤ j ∧ j ≤ k ∧ SizeP p k) ∧ Ext w w') := by
  obtain ⟨vo, vpw, vc, ps, cs, css, rfl, h1, h2, h3⟩ := hp.ex
  refine enter (args := [.agg #[vo, vpw, vc], .int .i64 k]) (l := [.tmp 4]) Tryz.func4 rfl rfl Tryz.ntmps4 (by simp) ?_
  refine go ?_
  refine st_box3 (by ((try simp only [ev_tmp, ev_const, ev_func, get_put, get_args, get_putL, get_putL_nil, Nat.reduceEqDiff, reduceIte, List.getD_cons_zero, List.getD_cons_succ, List.getD_nil]); first | done | with_reducible rfl)) (by first | exact True.intro | exact ⟨_, rfl, by ((try simp only [ev_tmp, ev_const, ev_func, get_put, get_args, get_putL, get_putL_nil, Nat.reduceEqDiff, reduceIte, List.getD_cons_zero, List.getD_cons_succ, List.getD_nil, Bool.not_true, Bool.not_false]); first | done | with_reducible rfl)⟩) fun w1 b he1 hb1 hs1 hc0 hc1 hc2 => ?_
  refine go ?_
  refine rc (szInt64S_ok (xs := p.ord) hk) (next := fun v2 w2 h4 => ?_)
  obtain ⟨j2, rfl, hj2, he2⟩ := h4
  refine go ?_
  refine c_if (fun h5 => ?_) (fun h5 => ?_)
  · refine go ?_
    exact ret1 ⟨-1, rfl, .inl (by omega), he1.trans he2⟩
  have h6 : 0 ≤ j2 ∧ j2 ≤ k ∧ (p.ord.length : Int) ≤ k := by
    rcases hj2 with h | h
    · omega
    · exact h
  refine go ?_
  refine rc (szInt64SS_ok (xss := p.pow) (k := j2) ?_) (next := fun v3 w3 h7 => ?_)
  · omega
  obtain ⟨j3, rfl, hj3, he3⟩ := h7
  refine go ?_
  refine c_if (fun h8 => ?_) (fun h8 => ?_)
  · refine go ?_
    exact ret1 ⟨-1, rfl, .inl (by omega), (he1.trans he2).trans he3⟩
  have h9 : 0 ≤ j3 ∧ j3 ≤ j2 ∧ (p.pow.length : Int) ≤ j2 ∧ ∀ i, ((p.pow.getD i []).length : Int) ≤ j2 := by
    rcases hj3 with h | h
    · omega
    · exact h
  refine go ?_
  refine rc (szInt64SSS_ok (xsss := p.cnj) (k := j3) ?_) (next := fun v4 w4 h10 => ?_)
  · omega
  obtain ⟨j4, rfl, hj4, he4⟩ := h10
  refine go ?_
  refine c_if (fun h11 => ?_) (fun h11 => ?_)
  · refine go ?_
    exact ret1 ⟨-1, rfl, .inl (by omega), ((he1.trans he2).trans he3).trans he4⟩
  have h12 : 0 ≤ j4 ∧ j4 ≤ j3 ∧ (p.cnj.length : Int) ≤ j3 ∧ ∀ i, ((p.cnj.getD i []).length : Int) ≤ j3 ∧ ∀ h, (((p.cnj.getD i []).getD h []).length : Int) ≤ j3 := by
    rcases hj4 with h | h
    · omega
    · exact h
  refine go ?_
  refine ret1 ⟨j4, rfl, .inr ⟨h12.1, by omega, ⟨h6.2.2, by omega, fun i => by have := h9.2.2.2 i; omega, by omega, fun i => by have := (h12.2.2.2 i).1; omega, fun i j => by have := (h12.2.2.2 i).2 j; omega⟩⟩, ((he1.trans he2).trans he3).trans he4⟩
set_option maxHeartbeats 1000000 in
theorem toPresentation_ok {w : World} {v : Value} {p : Pr} {lo hi : Nat} [hp : Pres lo hi w v p] (hs : SizeP p 2000000) :
    Calls Tryz.prog 7 #[v] w (Ret fun v w' => Ext w w' ∧ Pres w.heap.size w'.heap.size w' v p) := by
  have hs1 := hs.ord
  have hs2 := hs.pow
  have hs3 := hs.cnj
  obtain ⟨vo, vpw, vc, ps, cs, css, rfl, h1, h2, h3⟩ := hp.ex
  refine enter (args := [.agg #[vo, vpw, vc]]) (l := [.cell 2 31]) Tryz.func7 rfl rfl Tryz.ntmps7 (by simp) ?_
  refine go ?_
  refine st_box3 (by ((try simp only [ev_tmp, ev_const, ev_func, get_put, get_args, get_putL, get_putL_nil, Nat.reduceEqDiff, reduceIte, List.getD_cons_zero, List.getD_cons_succ, List.getD_nil]); first | done | with_reducible rfl)) (by first | exact True.intro | exact ⟨_, rfl, by ((try simp only [ev_tmp, ev_const, ev_func, get_put, get_args, get_putL, get_putL_nil, Nat.reduceEqDiff, reduceIte, List.getD_cons_zero, List.getD_cons_succ, List.getD_nil, Bool.not_true, Bool.not_false]); first | done | with_reducible rfl)⟩) fun w1 b he1 hb1 hsz1 hc0 hc1 hc2 => ?_
  refine go ?_
  refine st_alloc (by first | exact True.intro | exact ⟨_, rfl, by ((try simp only [ev_tmp, ev_const, ev_func, get_put, get_args, get_putL, get_putL_nil, Nat.reduceEqDiff, reduceIte, List.getD_cons_zero, List.getD_cons_succ, List.getD_nil, Bool.not_true, Bool.not_false]); first | done | with_reducible rfl)⟩) fun w2 br he2 hbr hsz2 hbk2 => ?_
  refine go ?_
  refine st_alloc (by first | exact True.intro | exact ⟨_, rfl, by ((try simp only [ev_tmp, ev_const, ev_func, get_put, get_args, get_putL, get_putL_nil, Nat.reduceEqDiff, reduceIte, List.getD_cons_zero, List.getD_cons_succ, List.getD_nil, Bool.not_true, Bool.not_false]); first | done | with_reducible rfl)⟩) fun w3 bo he3 hbo hsz3 hbk3 => ?_
  have hE3 := (he1.trans he2).trans he3
  refine go ?_
  refine rc (toInt64S_ok (xs := p.ord) (by omega)) (next := fun v4 w4 h4 => ?_)
  obtain ⟨he4, hf4⟩ := h4
  have hb4 : Blk w4 bo _ := Blk.ext (h := hbk3)
  have hz4 := he4.size
  refine go ?_
  refine st_store_fld (h := hb4) (by ((try simp only [ev_tmp, ev_const, ev_func, get_put, get_args, get_putL, get_putL_nil, Nat.reduceEqDiff, reduceIte, List.getD_cons_zero, List.getD_cons_succ, List.getD_nil]); first | done | with_reducible rfl)) (by ((try simp only [ev_tmp, ev_const, ev_func, get_put, get_args, get_putL, get_putL_nil, Nat.reduceEqDiff, reduceIte, List.getD_cons_zero, List.getD_cons_succ, List.getD_nil]); first | done | with_reducible rfl)) ?_ ?_ (by first | exact True.intro | exact ⟨_, rfl, by ((try simp only [ev_tmp, ev_const, ev_func, get_put, get_args, get_putL, get_putL_nil, Nat.reduceEqDiff, reduceIte, List.getD_cons_zero, List.getD_cons_succ, List.getD_nil, Bool.not_true, Bool.not_false]); first | done | with_reducible rfl)⟩) fun w5 hc5 hs5 hb5 => ?_
  · exact hf4.ints.sl.one
  · simp
  have hE15 : Ext w1 w5 := hc5.ext ((he2.trans he3).trans he4) (by have := he2.size; omega)
  have hz15 := hE15.size
  have hz2 := he2.size
  have hi5 : Ints w3.heap.size w4.heap.size w5 v4 p.ord := hf4.ints.same (hc5.same (.inl (by omega)))
  have hr5 : Blk w5 br _ := (Blk.ext (x := he3.trans he4) (h := hbk2)).chg' hc5 (by omega)
  refine go ?_
  refine rc (toInt64SS_ok (xss := p.pow) (by omega) (fun i => by have := hs.powi i; omega)) (next := fun v6 w6 h6 => ?_)
  obtain ⟨he6, us6, hL6⟩ := h6
  have hN6 := hL6.newRows
  have hb6 : Blk w6 bo _ := Blk.ext (h := hb5)
  have hz6 := he6.size
  refine go ?_
  refine st_store_fld (h := hb6) (by ((try simp only [ev_tmp, ev_const, ev_func, get_put, get_args, get_putL, get_putL_nil, Nat.reduceEqDiff, reduceIte, List.getD_cons_zero, List.getD_cons_succ, List.getD_nil]); first | done | with_reducible rfl)) (by ((try simp only [ev_tmp, ev_const, ev_func, get_put, get_args, get_putL, get_putL_nil, Nat.reduceEqDiff, reduceIte, List.getD_cons_zero, List.getD_cons_succ, List.getD_nil]); first | done | with_reducible rfl)) ?_ ?_ (by first | exact True.intro | exact ⟨_, rfl, by ((try simp only [ev_tmp, ev_const, ev_func, get_put, get_args, get_putL, get_putL_nil, Nat.reduceEqDiff, reduceIte, List.getD_cons_zero, List.getD_cons_succ, List.getD_nil, Bool.not_true, Bool.not_false]); first | done | with_reducible rfl)⟩) fun w7 hc7 hs7 hb7 => ?_
  · exact hN6.sl.one
  · simp
  have hE17 : Ext w1 w7 := hc7.ext (hE15.trans he6) (by omega)
  have hi7 : Ints w3.heap.size w4.heap.size w7 v4 p.ord := (hi5.same (he6.same _ _)).same (hc7.same (.inl (by omega)))
  have hp7 : Pc.Rows w5.heap.size w6.heap.size w7 v6 us6 p.pow := hN6.same (hc7.same (.inl (by omega)))
  have hr7 : Blk w7 br _ := (Blk.ext (x := he6) (h := hr5)).chg' hc7 (by omega)
  refine go ?_
  refine rc (toInt64SSS_ok (xsss := p.cnj) (by omega) (fun i => ⟨by have := hs.cnji i; omega, fun j => by have := hs.cnjij i j; omega⟩)) (next := fun v8 w8 h8 => ?_)
  obtain ⟨he8, us8, uss8, hR8⟩ := h8
  have hb8 : Blk w8 bo _ := Blk.ext (h := hb7)
  have hz8 := he8.size
  refine go ?_
  refine st_store_fld (h := hb8) (by ((try simp only [ev_tmp, ev_const, ev_func, get_put, get_args, get_putL, get_putL_nil, Nat.reduceEqDiff, reduceIte, List.getD_cons_zero, List.getD_cons_succ, List.getD_nil]); first | done | with_reducible rfl)) (by ((try simp only [ev_tmp, ev_const, ev_func, get_put, get_args, get_putL, get_putL_nil, Nat.reduceEqDiff, reduceIte, List.getD_cons_zero, List.getD_cons_succ, List.getD_nil]); first | done | with_reducible rfl)) ?_ ?_ (by first | exact True.intro | exact ⟨_, rfl, by ((try simp only [ev_tmp, ev_const, ev_func, get_put, get_args, get_putL, get_putL_nil, Nat.reduceEqDiff, reduceIte, List.getD_cons_zero, List.getD_cons_succ, List.getD_nil, Bool.not_true, Bool.not_false]); first | done | with_reducible rfl)⟩) fun w9 hc9 hs9 hb9 => ?_
  · exact hR8.sl.one
  · simp
  have hE19 : Ext w1 w9 := hc9.ext (hE17.trans he8) (by omega)
  have hi9 : Ints w3.heap.size w4.heap.size w9 v4 p.ord := (hi7.same (he8.same _ _)).same (hc9.same (.inl (by omega)))
  have hp9 : Pc.Rows w5.heap.size w6.heap.size w9 v6 us6 p.pow := (hp7.same (he8.same _ _)).same (hc9.same (.inl (by omega)))
  have hq9 : Rowss w7.heap.size w8.heap.size w9 v8 us8 uss8 p.cnj := hR8.same (hc9.same (.inl (by omega)))
  have hr9 : Blk w9 br _ := (Blk.ext (x := he8) (h := hr7)).chg' hc9 (by omega)
  refine go ?_
  have hb9' : Blk w9 bo [v4, v6, v8] := hb9
  refine ra (v := .agg #[v4, v6, v8]) (h := rd_load_blk (hb := hb9') (by ((try simp only [ev_tmp, ev_const, ev_func, get_put, get_args, get_putL, get_putL_nil, Nat.reduceEqDiff, reduceIte, List.getD_cons_zero, List.getD_cons_succ, List.getD_nil]); first | done | with_reducible rfl)) rfl) (next := ?_)
  refine st_store_agg (vs := [v4, v6, v8]) (cs := _) (hb := hr9) (by ((try simp only [ev_tmp, ev_const, ev_func, get_put, get_args, get_putL, get_putL_nil, Nat.reduceEqDiff, reduceIte, List.getD_cons_zero, List.getD_cons_succ, List.getD_nil]); first | done | with_reducible rfl)) (by ((try simp only [ev_tmp, ev_const, ev_func, get_put, get_args, get_putL, get_putL_nil, Nat.reduceEqDiff, reduceIte, List.getD_cons_zero, List.getD_cons_succ, List.getD_nil]); first | done | with_reducible rfl)) rfl ?_ ?_ (by first | exact True.intro | exact ⟨_, rfl, by ((try simp only [ev_tmp, ev_const, ev_func, get_put, get_args, get_putL, get_putL_nil, Nat.reduceEqDiff, reduceIte, List.getD_cons_zero, List.getD_cons_succ, List.getD_nil, Bool.not_true, Bool.not_false]); first | done | with_reducible rfl)⟩) fun w10 hc10 hs10 hb10 => ?_
  · rfl
  · have e1 := hi9.sl.one
    have e2 := hp9.sl.one
    have e3 := hq9.sl.one
    simp [e1, e2, e3]
  refine go ?_
  refine retc (b := br) (hb := hb10) ⟨hc10.ext (he1.trans hE19) (by omega), ?_⟩ rfl
  have hi10 := (hi9.same (hc10.same (.inl (by omega)))).mono (lo' := w.heap.size) (hi' := w10.heap.size) (by omega) (by omega)
  have hp10 := (hp9.same (hc10.same (.inl (by omega)))).mono (lo' := w.heap.size) (hi' := w10.heap.size) (by omega) (by omega)
  have hq10 := rowss_mono (lo' := w.heap.size) (hi' := w10.heap.size) (hq9.same (hc10.same (.inl (by omega)))) (by omega) (by omega)
  exact ⟨⟨v4, v6, v8, us6, us8, uss8, rfl, hi10, hp10, hq10⟩⟩
set_option maxHeartbeats 1000000 in
theorem eqInt64SSS_ok {w : World} {va vb : Value} {us vs : List Value} {uss vss : List (List Value)} {xsss ysss : List (List (List Int))} {lo hi lo1 hi1 : Nat} [hx : Rowss lo hi w va us uss xsss] [hy : Rowss lo1 hi1 w vb vs vss ysss] (hm : ∀ i, (xsss.getD i []).length ≤ 2000000 ∧ ∀ j, ((xsss.getD i []).getD j []).length ≤ 2000000) (hl : xsss.length ≤ 10000000) :
    Calls Tryz.prog 23 #[va, vb] w (Ret fun v w' => ∃ b, v = .bool b ∧ (b = true ↔ xsss = ysss) ∧ Ext w w') := by
  have hul := hx.vals.len
  have hvl := hy.vals.len
  refine enter (args := [va, vb]) (l := [.tmp 4]) Tryz.func23 rfl rfl Tryz.ntmps23 (by simp) ?_
  refine go ?_
  refine c_if (fun h1 => ?_) (fun h1 => ?_)
  · refine go ?_
    refine ret1 ⟨_, rfl, ?_, Ext.refl _⟩
    simp only [Bool.false_eq_true, false_iff]
    rintro rfl
    omega
  · have hxy : xsss.length = ysss.length := by omega
    refine go ?_
    refine r_for xsss.length (fun k ρ w' => Has ρ [(0, va), (1, vb), (5, .int .i64 k)] ∧ Ext w w' ∧ ∀ i, i < k → xsss.getD i [] = ysss.getD i []) ?_ ?_
    · refine ⟨?_, Ext.refl _, fun i hi => by omega⟩
      exact hasP
    rintro k ρ w1 hk ⟨hH, he1, hI⟩
    refine rwp_has hH fun ρ0 => ?_
    refine go ?_
    refine c_if (fun h4 => ?_) (fun h4 => ?_)
    · refine go ?_
      refine d_region fun w2 he2 _ => ?_
      refine dgo ?_
      refine dce (eqInt64SS_ok (xss := xsss.getD k []) (yss := ysss.getD k []) (hm k).2 (by have := (hm k).1; omega)) (next := fun v3 w3 h3 => ?_)
      obtain ⟨b3, rfl, hb3, he3⟩ := h3
      refine dgo ?_
      refine d_end (h := ?_)
      refine go ?_
      refine c_b (fun h5 => ?_) (fun h5 => ?_)
      · refine go ?_
        refine ret1 ⟨_, rfl, ?_, (he1.trans he2).trans he3⟩
        simp only [Bool.false_eq_true, false_iff]
        rintro rfl
        have := hb3.2 rfl
        rw [this] at h5; cases h5
      · have h6 := hb3.1 (by simpa using h5)
        refine go ?_
        refine forQ_normal (by omega) ⟨?_, (he1.trans he2).trans he3, fun i hi => ?_⟩
        · exact hasP
        · by_cases e : i = k
          · subst e; exact h6
          · exact hI i (by omega)
    · refine go ?_
      refine ret1 ⟨_, rfl, ?_, he1⟩
      simp only [true_iff]
      apply List.ext_getElem hxy
      intro i h1 h2
      have := hI i (by omega)
      simpa [h1, h2] using this
theorem pr_ext {p q : Pr} (h1 : p.ord = q.ord) (h2 : p.pow = q.pow) (h3 : p.cnj = q.cnj) : p = q := by cases p; cases q; simp_all
set_option maxHeartbeats 1000000 in
theorem eqPresentation_ok {w : World} {va vb : Value} {p q : Pr} {lo hi lo1 hi1 : Nat} [hp : Pres lo hi w va p] [hq : Pres lo1 hi1 w vb q] (hs : SizeP p 2000000) :
    Calls Tryz.prog 10 #[va, vb] w (Ret fun v w' => ∃ b, v = .bool b ∧ (b = true ↔ p = q) ∧ Ext w w') := by
  have hs1 := hs.ord
  have hs2 := hs.pow
  have hs3 := hs.cnj
  obtain ⟨vo, vpw, vc, ps, cs, css, rfl, h1, h2, h3⟩ := hp.ex
  obtain ⟨vo', vpw', vc', ps', cs', css', rfl, h1', h2', h3'⟩ := hq.ex
  refine enter (args := [.agg #[vo, vpw, vc], .agg #[vo', vpw', vc']]) (l := [.tmp 4]) Tryz.func10 rfl rfl Tryz.ntmps10 (by simp) ?_
  refine go ?_
  refine st_box3 (by ((try simp only [ev_tmp, ev_const, ev_func, get_put, get_args, get_putL, get_putL_nil, Nat.reduceEqDiff, reduceIte, List.getD_cons_zero, List.getD_cons_succ, List.getD_nil]); first | done | with_reducible rfl)) (by first | exact True.intro | exact ⟨_, rfl, by ((try simp only [ev_tmp, ev_const, ev_func, get_put, get_args, get_putL, get_putL_nil, Nat.reduceEqDiff, reduceIte, List.getD_cons_zero, List.getD_cons_succ, List.getD_nil, Bool.not_true, Bool.not_false]); first | done | with_reducible rfl)⟩) fun w1 b he1 hb1 hsz1 hc0 hc1 hc2 => ?_
  refine go ?_
  refine st_box3 (by ((try simp only [ev_tmp, ev_const, ev_func, get_put, get_args, get_putL, get_putL_nil, Nat.reduceEqDiff, reduceIte, List.getD_cons_zero, List.getD_cons_succ, List.getD_nil]); first | done | with_reducible rfl)) (by first | exact True.intro | exact ⟨_, rfl, by ((try simp only [ev_tmp, ev_const, ev_func, get_put, get_args, get_putL, get_putL_nil, Nat.reduceEqDiff, reduceIte, List.getD_cons_zero, List.getD_cons_succ, List.getD_nil, Bool.not_true, Bool.not_false]); first | done | with_reducible rfl)⟩) fun w2 b' he2 hb2 hsz2 hc0' hc1' hc2' => ?_
  have hE2 := he1.trans he2
  have no : ∀ {w' : World}, p ≠ q → Ext w w' → ∃ b, Value.bool false = .bool b ∧ (b = true ↔ p = q) ∧ Ext w w' := fun h he => ⟨_, rfl, by simp [h], he⟩
  refine go ?_
  refine rc (eqInt64S_ok (xs := p.ord) (ys := q.ord) (by omega)) (next := fun v3 w3 h4 => ?_)
  obtain ⟨b3, rfl, hb3, he3⟩ := h4
  refine go ?_
  refine c_b (fun h5 => ?_) (fun h5 => ?_)
  · refine go ?_
    refine ret1 (no (fun e => ?_) (hE2.trans he3))
    rw [hb3.2 (by rw [e])] at h5; cases h5
  have e1 := hb3.1 (by simpa using h5)
  refine go ?_
  refine rc (eqInt64SS_ok (xss := p.pow) (yss := q.pow) (fun i => by have := hs.powi i; omega) (by omega)) (next := fun v4 w4 h6 => ?_)
  obtain ⟨b4, rfl, hb4, he4⟩ := h6
  refine go ?_
  refine c_b (fun h7 => ?_) (fun h7 => ?_)
  · refine go ?_
    refine ret1 (no (fun e => ?_) ((hE2.trans he3).trans he4))
    rw [hb4.2 (by rw [e])] at h7; cases h7
  have e2 := hb4.1 (by simpa using h7)
  refine go ?_
  refine rc (eqInt64SSS_ok (xsss := p.cnj) (ysss := q.cnj) (fun i => ⟨by have := hs.cnji i; omega, fun j => by have := hs.cnjij i j; omega⟩) (by omega)) (next := fun v5 w5 h8 => ?_)
  obtain ⟨b5, rfl, hb5, he5⟩ := h8
  refine go ?_
  refine c_b (fun h9 => ?_) (fun h9 => ?_)
  · refine go ?_
    refine ret1 (no (fun e => ?_) (((hE2.trans he3).trans he4).trans he5))
    rw [hb5.2 (by rw [e])] at h9; cases h9
  have e3 := hb5.1 (by simpa using h9)
  refine go ?_
  exact ret1 ⟨_, rfl, ⟨fun _ => pr_ext e1 e2 e3, fun _ => rfl⟩, ((hE2.trans he3).trans he4).trans he5⟩
end Go.Proofs.YtjljbfcdpdckeaaGreat

/-
  Walks: the statement's own helpers that mark memory and read the marks (markInt64S, markInt64SS, heldInt64S, heldInt64SS).
  Conditions: stated at each theorem.
-/
namespace Go.Proofs.YtjljbfcdpdckeaaGreat
open Go Go.Pc
end Go.Proofs.YtjljbfcdpdckeaaGreat

/-
  Walks: copies that are the call's own (toInt64SSS, toPresentation), marks of presentations (markInt64SSS, markPresentation).
  Conditions: stated at each theorem.
-/
namespace Go.Proofs.YtjljbfcdpdckeaaGreat
open Go Go.Pc
theorem toInt64SSM_ok {w : World} {v : Value} {us : List Value} {xss : List (List Int)} {lo hi : Nat} [hx : Pc.Rows lo hi w v us xss] (hl : xss.length ≤ 2000000) (hr : ∀ i, (xss.getD i []).length ≤ 2000000) :
    Calls Tryz.prog 8 #[v] w (Ret fun v' w' => Ext w w' ∧ ∃ rs, xss = rs.map (·.2) ∧ MatO w.heap.size w'.heap.size w' v' rs) :=
  Pc.Calls.ret_mono (toInt64SSO_ok hl hr) fun _ _ ⟨h1, rs, h2, h3, h4⟩ => by subst h3; exact ⟨h1, rs, rfl, MatO.ofLst h2 h4 h2.newRows⟩
end Go.Proofs.YtjljbfcdpdckeaaGreat

/-
  Walk: a copy of a presentation that is the call's own (toPresentation).
  Conditions: stated at the theorem.
-/
namespace Go.Proofs.YtjljbfcdpdckeaaGreat
open Go Go.Pc
/-- The number of integers of a presentation of bounded sizes. -/
theorem totP_le {p : Pr} (hs : SizeP p 1048576) : totP p ≤ 1048576 + (1048576 * 1048576 + 1048576 * (1048576 * 1048576)) := by
  have h1 := hs.ord
  have h2 := hs.pow
  have h3 := hs.cnj
  have e2 : tot p.pow ≤ p.pow.length * 1048576 := tot_le _ fun x hx => by
    obtain ⟨i, hi, rfl⟩ := List.getElem_of_mem hx
    have := hs.powi i
    simp only [List.getD_eq_getElem?_getD, List.getElem?_eq_getElem hi, Option.getD_some] at this
    omega
  have e3 : tot p.cnj.flatten ≤ p.cnj.length * (1048576 * 1048576) := tot_flatten _ fun x hx => by
    obtain ⟨i, hi, rfl⟩ := List.getElem_of_mem hx
    have h4 := hs.cnji i
    simp only [List.getD_eq_getElem?_getD, List.getElem?_eq_getElem hi, Option.getD_some] at h4
    refine ⟨by omega, fun y hy => ?_⟩
    obtain ⟨j, hj, rfl⟩ := List.getElem_of_mem hy
    have h5 := hs.cnjij i j
    simp only [List.getD_eq_getElem?_getD, List.getElem?_eq_getElem hi, Option.getD_some, List.getElem?_eq_getElem hj] at h5
    omega
  unfold totP
  omega
theorem SizeP.mono {p : Pr} {k j : Int} (h : SizeP p k) (hkj : k ≤ j) : SizeP p j :=
  ⟨by have := h.ord; omega, by have := h.pow; omega, fun i => by have := h.powi i; omega, by have := h.cnj; omega, fun i => by have := h.cnji i; omega, fun i j => by have := h.cnjij i j; omega⟩
theorem tot_rows_le {xss : List (List Int)} {n : Nat} (hl : xss.length ≤ n) (hr : ∀ i, (xss.getD i []).length ≤ n) : tot xss ≤ n * n :=
  Nat.le_trans (tot_le xss fun x hx => by
    obtain ⟨i, hi, rfl⟩ := List.getElem_of_mem hx
    have := hr i
    simpa [hi] using this) (Nat.mul_le_mul_right _ hl)
end Go.Proofs.YtjljbfcdpdckeaaGreat

/-
  Arguments that read as slices of integers, slices of slices, slices of slices of slices: what the calculus knows of them.
  Conditions: none; nothing of the program stands here.
-/
namespace Go.Pc
open Go Go.RowKit Go.Deep Go.ChangeShapes Go.WideShapes
section
variable {H : Type} {enc : TypeId × Value → H} {P : Program} {w : World} {base : Nat} {held : Bool} {fuel : Nat} {v : Value} {x : DataW H × List MemPlace}
theorem ints_of_trod {t e : TypeId} (ht : P.underlying t = some (.slice e)) (he : P.underlying e = some (.int .i64)) (hc : P.cellsOf e = 1) (h : DataW.trod enc P w base (fun _ => true) held fuel t [v] = some x) : ∃ xs, Ints 0 w.heap.size w v xs := by
  rcases open_ints ht he hc h with ⟨hcs, _⟩ | ⟨a, len, cap, zs, hcs, _, hl, hm, hz, _, hcell, _⟩
  · have : v = nilv := by simpa using hcs
    subst this
    exact ⟨[], (Ints.nil_ w).mono (Nat.le_refl 0) (Nat.zero_le _)⟩
  · have : v = .slice (some a) len cap := by simpa using hcs
    subst this
    simp only [if_true] at hz
    have hlen : (zs.take len).length = len := by rw [List.length_take]; omega
    refine ⟨zs.take len, ⟨⟨some a, cap, by rw [List.length_map, hlen], by rw [List.length_map, hlen]; omega, by simp only [maxLen] at hm; omega, fun k u hu => ?_⟩⟩⟩
    rw [List.getElem?_map, List.getElem?_take] at hu
    split at hu
    · have hk : k < zs.length := by omega
      have hck := hcell k hk
      rw [List.getElem?_eq_getElem hk] at hu
      simp only [Option.map_some, Option.some.injEq] at hu
      have e : zs.getD k 0 = zs[k] := by simp [hk]
      rw [e, hu] at hck
      exact ⟨a, rfl, Nat.zero_le _, by have := block_lt hck; rwa [add_block] at this, hck⟩
    · cases hu
theorem sl_of {a : Addr} {len cap m : Nat} {V : Nat → Value} (hl : len ≤ cap) (hm : cap ≤ maxLen) (hlm : len ≤ m) (hx : ∀ i, i < m → w.cell? (a.add i) = some (V i)) : Sl 0 w.heap.size w (.slice (some a) len cap) ((List.range len).map V) := by
  refine ⟨⟨some a, cap, by simp, by simpa using hl, by simp only [maxLen] at hm; omega, fun k u hu => ?_⟩⟩
  rw [List.getElem?_map] at hu
  by_cases hk : k < len
  · rw [List.getElem?_range hk] at hu
    simp only [Option.map_some, Option.some.injEq] at hu
    have hck := hx k (by omega)
    rw [hu] at hck
    exact ⟨a, rfl, Nat.zero_le _, by have := block_lt hck; rwa [add_block] at this, hck⟩
  · rw [List.getElem?_eq_none (by simp; omega)] at hu; cases hu
theorem getD_map_range {α : Type} {n i : Nat} {f : Nat → α} {d : α} (h : i < n) : ((List.range n).map f).getD i d = f i := by simp [h]
theorem getD_map_range' {α : Type} {n i : Nat} {f : Nat → α} {d : α} (h : ¬ i < n) : ((List.range n).map f).getD i d = d := by
  rw [List.getD_eq_getElem?_getD, List.getElem?_eq_none (by simp; omega)]; rfl
theorem Rows.nil_ (w : World) : Rows 0 w.heap.size w nilv [] [] :=
  ⟨⟨⟨none, 0, rfl, Nat.le_refl _, by omega, fun k u hu => by simp at hu⟩⟩, rfl, fun i => by simpa using (Ints.nil_ w).mono (Nat.le_refl 0) (Nat.zero_le _)⟩
theorem rows_of_trod {t e q : TypeId} (ht : P.underlying t = some (.slice e)) (he : P.underlying e = some (.slice q)) (hq : P.underlying q = some (.int .i64)) (ce : P.cellsOf e = 1) (cq : P.cellsOf q = 1)
    (h : DataW.trod enc P w base (fun _ => true) held fuel t [v] = some x) : ∃ us xss, Rows 0 w.heap.size w v us xss := by
  rcases open_slice1 ht ce h with ⟨hcs, _⟩ | ⟨a, len, cap, m, n, V, D, Pl, hcs, _, hl, hm, hmm, _, hx⟩
  · have : v = nilv := by simpa using hcs
    subst this
    exact ⟨[], [], Rows.nil_ w⟩
  · have : v = .slice (some a) len cap := by simpa using hcs
    subst this
    simp only [if_true] at hmm
    have hlm : len ≤ m := by omega
    obtain ⟨X, hX⟩ := choose_lt (α := List Int) (n := len) (p := fun i xs => Ints 0 w.heap.size w (V i) xs) fun i hi => ints_of_trod he hq cq (hx i (by omega)).2
    refine ⟨(List.range len).map V, (List.range len).map X, sl_of hl hm hlm fun i hi => (hx i hi).1, by simp, fun i => ?_⟩
    by_cases hi : i < len
    · rw [getD_map_range hi, getD_map_range hi]; exact hX i hi
    · rw [getD_map_range' hi, getD_map_range' hi]; exact (Ints.nil_ w).mono (Nat.le_refl 0) (Nat.zero_le _)
theorem rowss_of_trod {t e q r : TypeId} (ht : P.underlying t = some (.slice e)) (he : P.underlying e = some (.slice q)) (hq : P.underlying q = some (.slice r)) (hr : P.underlying r = some (.int .i64)) (ce : P.cellsOf e = 1) (cq : P.cellsOf q = 1) (cr : P.cellsOf r = 1)
    (h : DataW.trod enc P w base (fun _ => true) held fuel t [v] = some x) : ∃ us uss xsss, Rowss 0 w.heap.size w v us uss xsss := by
  rcases open_slice1 ht ce h with ⟨hcs, _⟩ | ⟨a, len, cap, m, n, V, D, Pl, hcs, _, hl, hm, hmm, _, hx⟩
  · have : v = nilv := by simpa using hcs
    subst this
    exact ⟨[], [], [], ⟨⟨none, 0, rfl, Nat.le_refl _, by omega, fun k u hu => by simp at hu⟩⟩, rfl, rfl, fun i => by simpa using Rows.nil_ w⟩
  · have : v = .slice (some a) len cap := by simpa using hcs
    subst this
    simp only [if_true] at hmm
    have hlm : len ≤ m := by omega
    obtain ⟨X, hX⟩ := choose_lt (α := List Value × List (List Int)) (n := len) (p := fun i y => Rows 0 w.heap.size w (V i) y.1 y.2) fun i hi => by
      obtain ⟨us, xss, hR⟩ := rows_of_trod he hq hr cq cr (hx i (by omega)).2
      exact ⟨(us, xss), hR⟩
    refine ⟨(List.range len).map V, (List.range len).map fun i => (X i).1, (List.range len).map fun i => (X i).2, sl_of hl hm hlm fun i hi => (hx i hi).1, by simp, by simp, fun i => ?_⟩
    by_cases hi : i < len
    · rw [getD_map_range hi, getD_map_range hi, getD_map_range hi]; exact hX i hi
    · rw [getD_map_range' hi, getD_map_range' hi, getD_map_range' hi]; exact Rows.nil_ w
end
end Go.Pc
