/-
  Texts of one proof, put together by program: I08e, I12e, I14, I16, I19, I15, I13, I17, I18, I20, I23, I25, I26, L01, L02, L03, L04, L05, L06, Open, Ctr, W27, I27.
  Conditions: those told at each part.
-/
import Derived.Test.YtgomfjhhfmhlgaaGreatB4
import Derived.Deep.Slices
set_option linter.unusedVariables false
set_option linter.unusedSimpArgs false
set_option linter.unusedSectionVars false
set_option linter.constructorNameAsVariable false
set_option linter.unnecessarySimpa false
set_option linter.deprecated false
/-
  Walks: the program's consistency of a presentation (consistentFrom, IsConsistent).
  Conditions: stated at each theorem.
-/
namespace Go.Proofs.YtgomfjhhfmhlgaaGreat
open Go Go.Pc
theorem fault_guard : (Tryz.prog.eqGuardType Tryz.prog.depth 86) = false := by kernel_rfl
theorem fault_held : (Tryz.prog.stoodInHeld 86) = false := by kernel_rfl
theorem fault_fields : Tryz.prog.underlying 86 = some (.struct (Tryz.prog.fieldsOf 86)) := by simp [Program.fieldsOf, Tryz.underlying86]
theorem rd_eqFault {ρ : Env} {w : World} {ty : TypeId} {x y : Operand} {k l f s : Int} (h : ev ρ x = faultV k l f s) (h' : ev ρ y = faultV 0 0 0 0) :
    Rd Tryz.prog (.binOp .eql 86 x y 86) ty ρ w (.bool (decide (k = 0 ∧ l = 0 ∧ f = 0 ∧ s = 0))) := by
  constructor; intro _ _ _ _
  have h2 := fun d a b w => run_equalIn_int (P := Tryz.prog) w d 2 .i64 .i64 a b Tryz.underlying2
  simp [execOp, h, h', run_eqGuard_agg _ _ _ _ _ _ _ fault_guard, run_eql_struct, run_equalIn_agg _ _ _ _ _ fault_fields fault_held, Program.fieldsOf, Tryz.underlying86, Op.eqFields, h2, go_sem]
  by_cases hk : k = 0 <;> by_cases hl : l = 0 <;> by_cases hf : f = 0 <;> by_cases hs : s = 0 <;> simp [hk, hl, hf, hs]
set_option maxHeartbeats 1000000 in
theorem consistentFrom_ok {p : Pr} (hv : Valid p) {w : World} {vp : Value} {lo hi' : Nat} [hp : PresP lo hi' w vp p] :
    Calls Tryz.prog 51 #[vp] w (Ret fun v w' => ∃ i : Nat, v = .int .i64 i ∧ i ≤ p.n ∧ Levs p i ∧ (i ≠ 0 → ¬ Lev p (i - 1)) ∧ Ext w w') := by
  have hn6 := hv.n6
  have hol : p.ord.length = p.n := rfl
  obtain ⟨b, vo, vpw, vc, ps, cs, css, rfl, hb1, hb2, hc0, hc1, hc2, h1, h2, h3⟩ := hp.ex
  refine enter (args := [.pointer (some ⟨b, 0, none⟩)]) (l := [.tmp 2]) Tryz.func51 rfl rfl Tryz.ntmps51 (by simp) ?_
  refine go ?_
  refine r_for p.n (fun k ρ w' => Has ρ [(0, .pointer (some ⟨b, 0, none⟩)), (3, .int .i64 (p.n - k : Nat))] ∧ Ext w w' ∧ Levs p (p.n - k)) ?_ ?_
  · refine ⟨?_, Ext.refl _, fun j h h' => by omega⟩
    exact hasP
  rintro k ρ w3 hk ⟨hH, he3, hL⟩
  refine rwp_has hH fun ρ0 => ?_
  refine go ?_
  refine spd (fun h4 => ?_) (fun h4 => ?_)
  · obtain ⟨i, hie⟩ : ∃ i : Nat, p.n - k = i + 1 := ⟨p.n - k - 1, by omega⟩
    have hi : i < p.n := by omega
    rw [hie] at hL h4 ⊢
    have hc : Con p (i + 1) := Levs.con hv hL
    refine go ?_
    refine rc (levelFault_ok (p := p) (i := i) hi ?_) (next := fun v5 w5 h5 => ?_)
    · omega
    obtain ⟨k5, l5, f5, s5, rfl, hz, hl5, h05, he5⟩ := h5
    refine go ?_
    refine ra (v := faultV 0 0 0 0) (h := rd_build (by rfl) (fun _ => by kernel_rfl)) (next := ?_)
    refine go ?_
    refine ra (h := rd_eqFault (k := k5) (l := l5) (f := f5) (s := s5) (by ((try simp only [ev_tmp, ev_const, ev_func, get_put, get_args, get_putL, get_putL_nil, Nat.reduceEqDiff, reduceIte, List.getD_cons_zero, List.getD_cons_succ, List.getD_nil]); first | done | with_reducible rfl)) (by ((try simp only [ev_tmp, ev_const, ev_func, get_put, get_args, get_putL, get_putL_nil, Nat.reduceEqDiff, reduceIte, List.getD_cons_zero, List.getD_cons_succ, List.getD_nil]); first | done | with_reducible rfl))) (next := ?_)
    refine go ?_
    refine c_if (fun h8 => ?_) (fun h8 => ?_)
    · refine go ?_
      refine forQ_normal (by omega) ⟨?_, he3.trans he5, fun j hj hjn => ?_⟩
      · exact hasP
      · by_cases e : j = i
        · subst e; exact ⟨hc, hi, hz.1 h8.1⟩
        · exact hL j (by omega) hjn
    · refine go ?_
      refine ret1 ⟨i + 1, rfl, by omega, hL, fun _ => ?_, he3.trans he5⟩
      rintro ⟨_, _, h9⟩
      have h0 := hz.2 h9
      exact h8 ⟨h0, h05 h0⟩
  · refine go ?_
    have hkn : p.n - k = 0 := by omega
    rw [hkn] at hL ⊢
    exact ret1 ⟨0, rfl, by omega, hL, fun h => absurd rfl h, he3⟩
set_option maxHeartbeats 1000000 in
theorem impl_IsConsistent_ok {w : World} {vp : Value} {p : Pr} {lo hi' : Nat} [hp : Pres lo hi' w vp p] (hl : p.ord.length ≤ 2000000) :
    Calls Tryz.prog 33 #[vp] w (Ret fun v w' => ∃ b, v = .bool b ∧ (b = true ↔ IsGrp p) ∧ Ext w w') := by
  obtain ⟨vo, vpw, vc, ps, cs, css, rfl, h1, h2, h3⟩ := hp.ex
  refine enter (args := [.agg #[vo, vpw, vc]]) (l := [.tmp 2]) Tryz.func33 rfl rfl Tryz.ntmps33 (by simp) ?_
  refine go ?_
  refine st_box3 (by ((try simp only [ev_tmp, ev_const, ev_func, get_put, get_args, get_putL, get_putL_nil, Nat.reduceEqDiff, reduceIte, List.getD_cons_zero, List.getD_cons_succ, List.getD_nil]); first | done | with_reducible rfl)) (by first | exact True.intro | exact ⟨_, rfl, by ((try simp only [ev_tmp, ev_const, ev_func, get_put, get_args, get_putL, get_putL_nil, Nat.reduceEqDiff, reduceIte, List.getD_cons_zero, List.getD_cons_succ, List.getD_nil, Bool.not_true, Bool.not_false]); first | done | with_reducible rfl)⟩) fun w1 b he1 hb1 hs1 hc0 hc1 hc2 => ?_
  have hpp := hp.boxed he1 hc0 hc1 hc2
  refine go ?_
  refine rc (impl_IsPresentation_ok hl) (next := fun v5 w5 h5 => ?_)
  obtain ⟨b5, rfl, hb5, he5⟩ := h5
  refine go ?_
  refine sp (fun e5 => ?_) (fun e5 => ?_)
  · have hv := hb5.1 e5
    refine go ?_
    refine rc (consistentFrom_ok hv) (next := fun v6 w6 h6 => ?_)
    obtain ⟨i, rfl, hi, hL, hno, he6⟩ := h6
    refine go ?_
    refine ret1 ⟨_, rfl, ?_, (he1.trans he5).trans he6⟩
    rw [decide_eq_true_eq]
    constructor
    · intro h
      have : i = 0 := by omega
      subst this
      exact ⟨hv, hL⟩
    · intro h
      by_cases e : i = 0
      · omega
      · exact absurd (h.levs (i - 1) (by omega) (by omega)) (hno e)
  · refine go ?_
    refine ret1 ⟨_, rfl, ?_, he1.trans he5⟩
    simp only [Bool.false_eq_true, false_iff]
    intro h
    have := hb5.2 h.valid
    rw [e5] at this; cases this
end Go.Proofs.YtgomfjhhfmhlgaaGreat

/-
  Walks: the program's test of subgroups (areSubgroups, IsSubgroup).
  Conditions: stated at each theorem.
-/
namespace Go.Proofs.YtgomfjhhfmhlgaaGreat
open Go Go.Pc
theorem PresP.val {lo hi b : Nat} {w : World} {p : Pr} {vo vp vc : Value} {ps cs : List Value} {css : List (List Value)} (h1 : Ints lo hi w vo p.ord) (h2 : Pc.Rows lo hi w vp ps p.pow) (h3 : Rowss lo hi w vc cs css p.cnj) : Pres lo hi w (.agg #[vo, vp, vc]) p := ⟨⟨vo, vp, vc, ps, cs, css, rfl, h1, h2, h3⟩⟩
set_option maxHeartbeats 2000000 in
theorem areSubgroups_ok {p : Pr} {w : World} {vp vl : Value} {us : List Value} {uss : List (List Value)} {xsss : List (List (List Int))} {lo hi lo1 hi1 : Nat} [hp : PresP lo hi w vp p] [hl : Rowss lo1 hi1 w vl us uss xsss] (hol : p.ord.length ≤ 2000000) (hxl : xsss.length ≤ 2000000) :
    Calls Tryz.prog 39 #[vp, vl] w (Ret fun v w' => ∃ b, v = .bool b ∧ (b = true ↔ ∃ h : IsGrp p, ∀ i, i < xsss.length → @IsSeq p ⟨h.con⟩ (xsss.getD i [])) ∧ Ext w w') := by
  have hoe : p.ord.length = p.n := rfl
  obtain ⟨g, vo, vpw, vc, ps, cs, css, rfl, hg1, hg2, hc0, hc1, hc2, h1, h2, h3⟩ := hp.ex
  have hpv := PresP.val (b := g) h1 h2 h3
  refine enter (args := [.pointer (some ⟨g, 0, none⟩), vl]) (l := [.tmp 4]) Tryz.func39 rfl rfl Tryz.ntmps39 (by simp) ?_
  refine go ?_
  refine rc (impl_IsConsistent_ok (p := p) hol) (next := fun v1 w1 h4 => ?_)
  obtain ⟨b1, rfl, hb1, he1⟩ := h4
  refine go ?_
  refine c_b (fun e1 => ?_) (fun e1 => ?_)
  · refine go ?_
    refine ret1 ⟨_, rfl, ?_, he1⟩
    simp only [Bool.false_eq_true, false_iff]
    rintro ⟨h, _⟩
    have := hb1.2 h
    rw [this] at e1; cases e1
  have hG := hb1.1 (by simpa using e1)
  haveI hcon : ConAll p := ⟨hG.con⟩
  have hv := hG.valid
  have hn6 := hv.n6
  have hno : ∀ {b : Bool} {w' : World} (i : Nat), i < xsss.length → ¬ IsSeq p (xsss.getD i []) → Ext w w' → ∃ b, Value.bool false = .bool b ∧ (b = true ↔ ∃ h : IsGrp p, ∀ i, i < xsss.length → @IsSeq p ⟨h.con⟩ (xsss.getD i [])) ∧ Ext w w' := by
    intro b w' i hi hn he
    refine ⟨_, rfl, ?_, he⟩
    simp only [Bool.false_eq_true, false_iff]
    rintro ⟨h, h5⟩
    exact hn (h5 i hi)
  refine go ?_
  refine r_for xsss.length (fun k ρ w' => Has ρ [(0, .pointer (some ⟨g, 0, none⟩)), (14, vl), (15, .int .i64 xsss.length), (16, .int .i64 k)] ∧ Ext w w' ∧ ∀ i, i < k → IsSeq p (xsss.getD i [])) ?_ ?_
  · refine ⟨?_, he1, fun i hi => by omega⟩
    exact hasP
  clear he1
  rintro k ρ w2 hk ⟨hH, he2, hI⟩
  refine rwp_has hH fun ρ0 => ?_
  refine go ?_
  refine c_if (fun h4 => ?_) (fun h4 => ?_)
  · have hkn : k < xsss.length := by omega
    refine go ?_
    refine c_if (fun h5 => ?_) (fun h5 => ?_)
    · refine go ?_
      refine ret1 (hno (b := false) k hkn (fun h => ?_) he2)
      have := h.len; omega
    refine go ?_
    refine r_for (xsss.getD k []).length (fun q ρ w' => Has ρ [(0, .pointer (some ⟨g, 0, none⟩)), (6, Pc.rowAt vl us k), (14, vl), (15, .int .i64 xsss.length), (16, .int .i64 k), (28, Pc.rowAt vl us k), (29, .int .i64 (xsss.getD k []).length), (30, .int .i64 q)] ∧ Ext w w' ∧ ∀ i, i < q → InR p ((xsss.getD k []).getD i [])) ?_ ?_
    · refine ⟨?_, he2, fun i hi => by omega⟩
      exact hasP
    clear he2
    rintro q ρ w3 hq ⟨hH3, he3, hQ⟩
    refine rwp_has hH3 fun ρ1 => ?_
    refine go ?_
    refine c_if (fun h6 => ?_) (fun h6 => ?_)
    · refine go ?_
      refine rc (isExponents_ok (p := p) (xs := (xsss.getD k []).getD q []) (fun i hi => hv.opos hi) (by omega)) (next := fun v4 w4 h7 => ?_)
      obtain ⟨b4, rfl, hb4, he4⟩ := h7
      refine go ?_
      refine c_b (fun h8 => ?_) (fun h8 => ?_)
      · refine go ?_
        refine ret1 (hno (b := false) k hkn (fun h => ?_) (he3.trans he4))
        obtain ⟨ys, hys, _⟩ := h
        have : InR p ((xsss.getD k []).getD q []) := by rw [hys]; exact vecs_in (by rw [← hys]; omega)
        rw [hb4.2 this] at h8; cases h8
      · have h9 := hb4.1 (by simpa using h8)
        refine go ?_
        refine forQ_normal (by omega) ⟨?_, he3.trans he4, fun i hi => ?_⟩
        · exact hasP
        · by_cases e : i = q
          · subst e; exact h9
          · exact hQ i (by omega)
    · obtain ⟨ys, hys⟩ := els_of (xss := xsss.getD k []) (fun i hi => hQ i (by omega))
      have hyl : (xsss.getD k []).length = ys.length := by rw [hys]; simp
      refine go ?_
      refine rc (generated_ok (p := p) (ys := ys) hys ?_) (next := fun v4 w4 h7 => ?_)
      · omega
      obtain ⟨he4, us4, hL4⟩ := h7
      have hr4 := hL4.toRows
      have hcl := canTo_len (Gen (fun a : El p => a ∈ ys)) p.n
      rw [canTo_end] at hcl
      refine go ?_
      refine rc (sameRows_ok (xss := canon (Gen (fun a : El p => a ∈ ys))) (yss := xsss.getD k []) ?_ ?_) (next := fun v5 w5 h8 => ?_)
      · intro i
        have := canon_row (Gen (fun a : El p => a ∈ ys)) i
        omega
      · omega
      obtain ⟨b5, rfl, hb5, he5⟩ := h8
      refine go ?_
      refine c_b (fun h9 => ?_) (fun h9 => ?_)
      · refine go ?_
        refine ret1 (hno (b := false) k hkn (fun h => ?_) ((he3.trans he4).trans he5))
        obtain ⟨zs, hzs, h10⟩ := h
        obtain rfl : ys = zs := vecs_inj (hys.symm.trans hzs)
        rw [hb5.2 h10] at h9; cases h9
      · have h10 := hb5.1 (by simpa using h9)
        refine go ?_
        refine forQ_normal (by omega) ⟨?_, (he3.trans he4).trans he5, fun i hi => ?_⟩
        · exact hasP
        · by_cases e : i = k
          · subst e; exact ⟨ys, hys, h10⟩
          · exact hI i (by omega)
  · refine go ?_
    refine ret1 ⟨_, rfl, ?_, he2⟩
    simp only [true_iff]
    exact ⟨hG, fun i hi => hI i (by omega)⟩
end Go.Proofs.YtgomfjhhfmhlgaaGreat

/-
  Walks: the program's IsMember and IsSubset.
  Conditions: what the arguments read as.
-/
namespace Go.Proofs.YtgomfjhhfmhlgaaGreat
open Go Go.Pc
theorem rows_none (w : World) (hi : Nat) : Pc.Rows 0 hi w nilv [] [] :=
  ⟨⟨⟨none, 0, rfl, Nat.le_refl _, by omega, fun k u hu => by simp at hu⟩⟩, rfl, fun j => by simpa using (Ints.nil_ w).mono (Nat.le_refl 0) (Nat.zero_le _)⟩
theorem rowss_one {w : World} {v u : Value} {us : List Value} {xss : List (List Int)} {lo hi lo1 hi1 : Nat} (hs : Sl lo hi w v [u]) (hu : Pc.Rows lo1 hi1 w u us xss) : Rowss 0 w.heap.size w v [u] [us] [xss] := by
  refine ⟨hs.wide, rfl, rfl, fun i => ?_⟩
  cases i with
  | zero => exact hu.wide
  | succ i => exact rows_none w _
theorem rowss_two {w : World} {v u t : Value} {us ts : List Value} {xss yss : List (List Int)} {lo hi lo1 hi1 lo2 hi2 : Nat} (hs : Sl lo hi w v [u, t]) (hu : Pc.Rows lo1 hi1 w u us xss) (ht : Pc.Rows lo2 hi2 w t ts yss) : Rowss 0 w.heap.size w v [u, t] [us, ts] [xss, yss] := by
  refine ⟨hs.wide, rfl, rfl, fun i => ?_⟩
  match i with
  | 0 => exact hu.wide
  | 1 => exact ht.wide
  | i + 2 => exact rows_none w _
theorem areSub1 {p : Pr} {xss : List (List Int)} : (∃ h : IsGrp p, ∀ i, i < [xss].length → @IsSeq p ⟨h.con⟩ ([xss].getD i [])) ↔ IsSubP p xss :=
  ⟨fun ⟨h, h5⟩ => ⟨h, h5 0 (by simp)⟩, fun ⟨h, h5⟩ => ⟨h, fun i hi => by
    have : i = 0 := by simpa using hi
    subst this
    exact h5⟩⟩
theorem areSub2 {p : Pr} {xss yss : List (List Int)} : (∃ h : IsGrp p, ∀ i, i < [xss, yss].length → @IsSeq p ⟨h.con⟩ ([xss, yss].getD i [])) ↔ IsSubP p xss ∧ IsSubP p yss :=
  ⟨fun ⟨h, h5⟩ => ⟨⟨h, h5 0 (by simp)⟩, ⟨h, h5 1 (by simp)⟩⟩, fun ⟨⟨h, h5⟩, ⟨_, h6⟩⟩ => ⟨h, fun i hi => by
    match i, hi with
    | 0, _ => exact h5
    | 1, _ => exact h6⟩⟩
theorem isMember_ok {p : Pr} [hc : ConAll p] {ys : List (El p)} (hs : SeqEl ys) {w : World} {vp vu vx : Value} {us : List Value} {xss : List (List Int)} {x : El p} {xs : List Int} {lo hi lo1 hi1 lo2 hi2 : Nat} [hp : PresP lo hi w vp p] [hu : Pc.Rows lo1 hi1 w vu us xss] [hx : Ints lo2 hi2 w vx xs] (hus : xss = vecs ys) (hxe : xs = x.v) :
    Calls Tryz.prog 55 #[vp, vu, vx] w (Ret fun v w' => ∃ b, v = .bool b ∧ (b = true ↔ Gen (fun a : El p => a ∈ ys) x) ∧ Ext w w') := by
  have hn6 := hc.valid.n6
  have hyl := hs.len
  refine enter (args := [vp, vu, vx]) (l := [.tmp 6]) Tryz.func55 rfl rfl Tryz.ntmps55 (by simp) ?_
  refine go ?_
  refine rc (representative_ok (p := p) (x := x) hs.ok hus hxe (by omega)) (next := fun v2 w2 h4 => ?_)
  obtain ⟨he2, r, hf2, hr⟩ := h4
  have hrl := r.inr.len
  refine go ?_
  refine rc (isZero_ok (xs := r.v) ?_) (next := fun v3 w3 h5 => ?_)
  · omega
  obtain ⟨b3, rfl, hb3, he3⟩ := h5
  refine go ?_
  refine ret1 ⟨b3, rfl, ?_, he2.trans he3⟩
  rw [hb3, ← el_one_iff, hr.one_iff hs]
end Go.Proofs.YtgomfjhhfmhlgaaGreat

/-
  Walks: the program's generators, conjugates, conjugate subgroup, test of normality, test of elements.
  Conditions: stated at each theorem.
-/
namespace Go.Proofs.YtgomfjhhfmhlgaaGreat
open Go Go.Pc
set_option maxHeartbeats 1000000 in
theorem generators_ok {p : Pr} [hc : ConAll p] {w : World} {vp : Value} {lo hi : Nat} [hp : PresP lo hi w vp p] :
    Calls Tryz.prog 54 #[vp] w (Ret fun v w' => Ext w w' ∧ ∃ rs, vecs (gensL p) = rs.map (·.2) ∧ MatO w.heap.size w'.heap.size w' v rs) := by
  have hn6 := hc.valid.n6
  have hol : p.ord.length = p.n := rfl
  obtain ⟨g, vo, vpw, vc, ps, cs, css, rfl, hg1, hg2, hc0, hc1, hc2, h1, h2, h3⟩ := hp.ex
  refine enter (args := [.pointer (some ⟨g, 0, none⟩)]) (l := [.tmp 2]) Tryz.func54 rfl rfl Tryz.ntmps54 (by simp) ?_
  refine go ?_
  refine r_for p.n (fun k ρ w' => ∃ vl rs, Has ρ [(0, .pointer (some ⟨g, 0, none⟩)), (3, vl), (9, .int .i64 p.n), (10, .int .i64 k)] ∧ Ext w w' ∧ GrowL 22 w.heap.size w' vl rs ∧ rs.map (·.2) = (List.range k).map fun i => (zeros p.n).set i 1) ?_ ?_
  · refine ⟨nilv, [], ?_, Ext.refl _, GrowL.nil _ _ _ (Nat.le_refl _), by simp⟩
    exact hasP
  rintro k ρ w3 hk ⟨vl, rs, hH, he3, hG, hrs⟩
  refine rwp_has hH fun ρ0 => ?_
  have hz3 := he3.size
  have hrl : rs.length = k := by have := congrArg List.length hrs; simp at this; omega
  refine go ?_
  refine c_if (fun h4 => ?_) (fun h4 => ?_)
  · refine go ?_
    refine rc (unitVector_ok (n := p.n) (i := k) ?_ ?_ (by omega) (by omega)) (next := fun v4 w4 h5 => ?_)
    · omega
    · rfl
    obtain ⟨he4, hf4⟩ := h5
    refine go ?_
    refine st_grow hG he4 hf4 hz3 (by omega) (next := fun v6 v7 w7 hG7 hx7 hz7 hgs7 => ?_)
    refine go ?_
    refine forQ_normal (by omega) ⟨v7, _, ?_, hx7 w (he3.trans he4) (Nat.le_refl _), hG7, ?_⟩
    · exact hasP
    · rw [List.range_succ, List.map_append, List.map_append, hrs]; simp
  · obtain rfl : k = p.n := by omega
    refine go ?_
    refine ret1 ⟨he3, rs, ?_, hG.mat⟩
    rw [hrs]
    unfold vecs gensL
    rw [List.map_map]
    exact List.map_congr_left fun i hi => gOf_val (List.mem_range.1 hi)
end Go.Proofs.YtgomfjhhfmhlgaaGreat

/-
  Walks: the program's slices.Concat, closure under conjugation, commutator subgroup; SubgroupJoin, NormalClosure, CommutatorSubgroup.
  Conditions: stated at each theorem.
-/
namespace Go.Proofs.YtgomfjhhfmhlgaaGreat
open Go Go.Pc
theorem SeqAt.ext {p : Pr} {bs b0 base : Nat} {av : Nat → Prop} {w w' : World} {vp vb : Value} {t : Tab p} (h : SeqAt bs b0 base av w vp vb t) (x : Ext w w') : SeqAt bs b0 base av w' vp vb t := by
  obtain ⟨c0, c1, hn, ho, us, hL, hnil⟩ := h
  exact ⟨c0.same (x.same _ _) x.size, c1.same (x.same _ _) x.size, hn, ho, us, hL.ext x, hnil⟩
theorem canonicalM_ok {p : Pr} [hcon : ConAll p] {t : Tab p} (hf : Full t) {av : Nat → Prop} {base bs b0 : Nat} {w : World} {vp vb : Value} {lo hi : Nat} [hp : PresP lo hi w vp p] (hq : SeqAt bs b0 base av w vp vb t) :
    Calls Tryz.prog 66 #[.pointer (some ⟨bs, 0, none⟩)] w (Ret fun v w' => Ext w w' ∧ ∃ rs, canon (Gen (Ents t)) = rs.map (·.2) ∧ MatO w.heap.size w'.heap.size w' v rs) :=
  Pc.Calls.ret_mono (canonicalO_ok hf hq) fun _ _ ⟨h1, rs, h2, h3, h4⟩ => ⟨h1, rs, h3, MatO.ofLst h2 h4 h2.newRows⟩
theorem canonicalG_ok {p : Pr} [hcon : ConAll p] {t : Tab p} (hf : Full t) {av : Nat → Prop} {base bs b0 : Nat} {w : World} {vp vb : Value} {lo hi : Nat} [hp : PresP lo hi w vp p] (hq : SeqAt bs b0 base av w vp vb t) :
    Calls Tryz.prog 66 #[.pointer (some ⟨bs, 0, none⟩)] w (Ret fun v w' => Ext w w' ∧ ∃ rs, canon (Gen (Ents t)) = rs.map (·.2) ∧ GrowL 22 w.heap.size w' v rs) :=
  Pc.Calls.ret_mono (canonicalO_ok hf hq) fun _ _ ⟨h1, rs, h2, h3, h4⟩ => ⟨h1, rs, h3, ⟨h2, h4⟩⟩
theorem flat_take {α : Type} (L : List (List α)) {k : Nat} (hk : k < L.length) : (L.take (k + 1)).flatten = (L.take k).flatten ++ L.getD k [] := by
  rw [List.take_succ_eq_append_getElem hk, List.flatten_append]; simp [hk]
theorem rows_one {lo hi : Nat} {w : World} {v : Value} {us : List Value} {xss : List (List Int)} (h : Pc.Rows lo hi w v us xss) : ∀ u ∈ us, u.oneCell' = true := by
  intro u hu
  obtain ⟨i, hi, rfl⟩ := List.getElem_of_mem hu
  have := (h.vals.at_ i).sl.one
  rwa [show us.getD i nilv = us[i] by simp [hi]] at this
end Go.Proofs.YtgomfjhhfmhlgaaGreat

/-
  Walks: the program's CosetRepresentative.
  Conditions: what the arguments read as.
-/
namespace Go.Proofs.YtgomfjhhfmhlgaaGreat
open Go Go.Pc
end Go.Proofs.YtgomfjhhfmhlgaaGreat

/-
  Walks: the program's order of a subgroup (sizeOf, SubgroupOrder).
  Conditions: stated at each theorem.
-/
namespace Go.Proofs.YtgomfjhhfmhlgaaGreat
open Go Go.Pc
set_option maxHeartbeats 1000000 in
theorem sizeOf_ok {p : Pr} [hc : ConAll p] {ys : List (El p)} (hs : SeqEl ys) {w : World} {vp vu : Value} {us : List Value} {xss : List (List Int)} {lo hi lo1 hi1 : Nat} [hp : PresP lo hi w vp p] [hu : Pc.Rows lo1 hi1 w vu us xss] (hus : xss = vecs ys) :
    Calls Tryz.prog 45 #[vp, vu] w (Ret fun v w' => v = .int .i64 (ordOf p ys) ∧ Ext w w') := by
  subst hus
  have hv := hc.valid
  have hn6 := hv.n6
  have hol : p.ord.length = p.n := rfl
  have hlen := hs.len
  have hvl : (vecs ys).length = ys.length := by simp
  obtain ⟨g, vo, vpw, vc, ps, cs, css, rfl, hg1, hg2, hc0, hc1, hc2, h1, h2, h3⟩ := hp.ex
  refine enter (args := [.pointer (some ⟨g, 0, none⟩), vu]) (l := [.tmp 4]) Tryz.func45 rfl rfl Tryz.ntmps45 (by simp) ?_
  refine go ?_
  refine rc (pivots_ok (xss := vecs ys) ?_ ?_) (next := fun v2 w2 h5 => ?_)
  · omega
  · intro i hi
    rw [vecs_getD ys (by omega), (ys[i]'(by omega)).inr.len]
    exact ⟨(hs.ok.lead1 _ (List.getElem_mem _)).1, by omega⟩
  obtain ⟨he2, hf2⟩ := h5
  have hpi := hf2.ints
  have hpl : ((vecs ys).map fun x => (lead x : Int)).length = ys.length := by simp
  have hpg : ∀ i (h : i < ys.length), ((vecs ys).map fun x => (lead x : Int)).getD i 0 = (lead (ys[i]).v : Int) := fun i h => by simp [vecs, h]
  refine go ?_
  refine r_for ys.length (fun k ρ w' => Has ρ [(0, .pointer (some ⟨g, 0, none⟩)), (5, .int .i64 (ordOf p (ys.take k))), (9, v2), (10, .int .i64 ((vecs ys).map fun x => (lead x : Int)).length), (11, .int .i64 k)] ∧ Ext w2 w') ?_ ?_
  · refine ⟨?_, Ext.refl _⟩
    exact hasP
  rintro k ρ w3 hk ⟨hH, he3⟩
  refine rwp_has hH fun ρ0 => ?_
  refine go ?_
  refine c_if (fun h4 => ?_) (fun h4 => ?_)
  · have hkn : k < ys.length := by omega
    have hpk := hpg k hkn
    obtain ⟨hdn, hy1⟩ := hs.ok.lead1 _ (List.getElem_mem hkn)
    obtain ⟨d, hd⟩ : ∃ d, lead (ys[k]).v = d := ⟨_, rfl⟩
    rw [hd] at hdn hpk
    have hod := hv.opos hdn
    have hr := ordOf_rng (k := k) (by omega) (by omega) fun y hy => (hs.ok.lead1 y hy).1
    have hm : 0 ≤ ordOf p (ys.take k) * p.o d ∧ ordOf p (ys.take k) * p.o d ≤ 117649 * 7 := ⟨Int.mul_nonneg (by omega) (by omega), Int.mul_le_mul hr.2 hod.2 (by omega) (by omega)⟩
    have hmb : -9223372036854775808 ≤ ordOf p (ys.take k) * p.o d ∧ ordOf p (ys.take k) * p.o d ≤ 9223372036854775807 := ⟨by omega, by omega⟩
    refine go ?_
    rw [hpk]
    refine go ?_
    rw [show p.ord.getD ((d : Int).toNat) 0 = p.o d from rfl]
    refine ra (h := rd_mul (by ((try simp only [ev_tmp, ev_const, ev_func, get_put, get_args, get_putL, get_putL_nil, Nat.reduceEqDiff, reduceIte, List.getD_cons_zero, List.getD_cons_succ, List.getD_nil]); first | done | with_reducible rfl)) (by ((try simp only [ev_tmp, ev_const, ev_func, get_put, get_args, get_putL, get_putL_nil, Nat.reduceEqDiff, reduceIte, List.getD_cons_zero, List.getD_cons_succ, List.getD_nil]); first | done | with_reducible rfl)) hmb) (next := ?_)
    refine go ?_
    refine forQ_normal (by omega) ⟨?_, he3⟩
    have ht := ordOf_take ys hkn
    rw [hd] at ht
    rw [ht]
    exact hasP
  · refine go ?_
    rw [show k = ys.length by omega, List.take_length]
    exact ret1 ⟨rfl, he2.trans he3⟩
end Go.Proofs.YtgomfjhhfmhlgaaGreat

/-
  Walks: the program's GeneratedSubgroup, ConjugateSubgroup, IsNormalSubgroup, SubgroupIndex, SubgroupDepths.
  Conditions: what the arguments read as.
-/
namespace Go.Proofs.YtgomfjhhfmhlgaaGreat
open Go Go.Pc
theorem ordOf_pos' {p : Pr} [hc : ConAll p] {ys : List (El p)} (hs : SeqEl ys) : 1 ≤ ordOf p ys ∧ ordOf p ys ≤ 117649 := by
  have h := ordOf_rng (ys := ys) (k := ys.length) (by have := hs.len; have := hc.valid.n6; omega) (Nat.le_refl _) fun y hy => (hs.ok.lead1 y hy).1
  rwa [List.take_length] at h
end Go.Proofs.YtgomfjhhfmhlgaaGreat

/-
  Walks: the program's CosetNumber, MemberElement, MemberExponents.
  Conditions: what the arguments read as.
-/
namespace Go.Proofs.YtgomfjhhfmhlgaaGreat
open Go Go.Pc
end Go.Proofs.YtgomfjhhfmhlgaaGreat

/-
  Walks: the program's order, index code, transversal; Transversal.
  Conditions: stated at each theorem.
-/
namespace Go.Proofs.YtgomfjhhfmhlgaaGreat
open Go Go.Pc
set_option maxHeartbeats 1000000 in
theorem orderOf_ok {p : Pr} (hv : Valid p) {w : World} {vp : Value} {lo hi : Nat} [hp : PresP lo hi w vp p] :
    Calls Tryz.prog 70 #[vp] w (Ret fun v w' => v = .int .i64 (ordL p (List.range p.n)) ∧ Ext w w') := by
  have hn6 := hv.n6
  have hol : p.ord.length = p.n := rfl
  have hrl : (List.range p.n).length = p.n := by simp
  obtain ⟨g, vo, vpw, vc, ps, cs, css, rfl, hg1, hg2, hc0, hc1, hc2, h1, h2, h3⟩ := hp.ex
  refine enter (args := [.pointer (some ⟨g, 0, none⟩)]) (l := [.tmp 2]) Tryz.func70 rfl rfl Tryz.ntmps70 (by simp) ?_
  refine go ?_
  refine r_for p.n (fun k ρ w' => Has ρ [(3, .int .i64 (ordL p ((List.range p.n).take k))), (9, vo), (10, .int .i64 p.ord.length), (11, .int .i64 k)] ∧ Ext w w') ?_ ?_
  · refine ⟨?_, Ext.refl _⟩
    exact hasP
  rintro k ρ w2 hk ⟨hH, he2⟩
  refine rwp_has hH fun ρ0 => ?_
  refine go ?_
  refine c_if (fun h4 => ?_) (fun h4 => ?_)
  · have hkn : k < p.n := by omega
    have hod := hv.opos hkn
    have hr := ordL_rng hv (l := List.range p.n) (fun d hd => List.mem_range.1 hd) (by omega) (k := k) (by omega)
    have hm : 0 ≤ ordL p ((List.range p.n).take k) * p.o k ∧ ordL p ((List.range p.n).take k) * p.o k ≤ 117649 * 7 := ⟨Int.mul_nonneg (by omega) (by omega), Int.mul_le_mul hr.2 hod.2 (by omega) (by omega)⟩
    have hmb : -9223372036854775808 ≤ ordL p ((List.range p.n).take k) * p.o k ∧ ordL p ((List.range p.n).take k) * p.o k ≤ 9223372036854775807 := ⟨by omega, by omega⟩
    have hst := ordL_take (p := p) (List.range p.n) (show k < (List.range p.n).length by omega)
    rw [show (List.range p.n).getD k 0 = k by simp [hkn]] at hst
    refine go ?_
    rw [show p.ord.getD k 0 = p.o k from rfl]
    refine ra (h := rd_mul (by ((try simp only [ev_tmp, ev_const, ev_func, get_put, get_args, get_putL, get_putL_nil, Nat.reduceEqDiff, reduceIte, List.getD_cons_zero, List.getD_cons_succ, List.getD_nil]); first | done | with_reducible rfl)) (by ((try simp only [ev_tmp, ev_const, ev_func, get_put, get_args, get_putL, get_putL_nil, Nat.reduceEqDiff, reduceIte, List.getD_cons_zero, List.getD_cons_succ, List.getD_nil]); first | done | with_reducible rfl)) hmb) (next := ?_)
    refine go ?_
    refine forQ_normal (by omega) ⟨?_, he2⟩
    rw [hst]
    exact hasP
  · refine go ?_
    have e : (List.range p.n).take k = List.range p.n := by rw [show k = p.n by omega, List.take_of_length_le (by omega)]
    rw [e]
    exact ret1 ⟨rfl, he2⟩
theorem ordL_all_rng' {p : Pr} (hv : Valid p) : 1 ≤ ordL p (List.range p.n) ∧ ordL p (List.range p.n) ≤ 117649 := by
  have hn6 := hv.n6
  have h := ordL_rng hv (l := List.range p.n) (fun d hd => List.mem_range.1 hd) (by simp; omega) (k := p.n) (by simp)
  rwa [List.take_of_length_le (by simp)] at h
theorem grow_one {e b : Nat} {w0 w1 w2 : World} {v u : Value} {xs : List Int} (ho : Own e b w2 v [u]) (hb : b = w1.heap.size) (hu : Fr w0.heap.size w1 u xs) (x0 : Ext w0 w1) (x : Ext w1 w2) : GrowL e w0.heap.size w2 v [(u, xs)] := by
  have hvb := ho.toN_block
  have h0 := x0.size
  have h1 := x.size
  refine ⟨⟨ho.toN.mono (by omega), ⟨rfl, fun i => ?_⟩, fun g hg => ?_, fun g hg => by omega⟩, ?_⟩
  · cases i with
    | zero =>
      have h : IntsAp (fun g => g < w0.heap.size ∨ v.ownBlock = some g) w1 u xs := ⟨w0.heap.size, w1.heap.size, hu.ints, Nat.le_refl _, fun g hg => by
        rcases hg with hg | hg
        · exact .inl hg
        · rw [hvb] at hg; injection hg with hg; exact .inr (by omega)⟩
      exact h.ext x
    | succ i => exact IntsAp.nil _ _
  · rw [hvb] at hg; injection hg with hg; omega
  · exact ((RowsO.nil w0.heap.size w0).cons x0 (Nat.le_refl _) hu).ext x
theorem take_flatMap {α β : Type} (L : List α) (f : α → List β) (z : α) {j : Nat} (hj : j < L.length) : (L.take (j + 1)).flatMap f = (L.take j).flatMap f ++ f (L.getD j z) := by
  rw [List.take_succ_eq_append_getElem hj, List.flatMap_append]; simp [hj]
end Go.Proofs.YtgomfjhhfmhlgaaGreat

/-
  Walks: the program's element with a number, all elements, subgroups of all elements with a property; Center.
  Conditions: stated at each theorem.
-/
namespace Go.Proofs.YtgomfjhhfmhlgaaGreat
open Go Go.Pc
set_option maxHeartbeats 2000000 in
theorem elementAt_ok {p : Pr} [hc : ConAll p] {t : Nat} (ht : t ≤ 1000000) {w : World} {vp : Value} {lo hi : Nat} [hp : PresP lo hi w vp p] :
    Calls Tryz.prog 71 #[vp, .int .i64 t] w (Ret fun v w' => Ext w w' ∧ Fr w.heap.size w' v (allE p t).v) := by
  have hv := hc.valid
  have hn6 := hv.n6
  have hol : p.ord.length = p.n := rfl
  rw [allE_val]
  obtain ⟨l, hl⟩ : ∃ l, List.range p.n = l := ⟨_, rfl⟩
  have hll : l.length = p.n := by rw [← hl]; simp
  have hlt : ∀ d, d ∈ l → d < p.n := fun d hd => by rw [← hl] at hd; exact List.mem_range.1 hd
  have hnd : l.Nodup := by rw [← hl]; exact List.nodup_range
  have hlg : ∀ i, i < p.n → l.getD i 0 = i := fun i hi => by rw [← hl]; simp [hi]
  rw [hl]
  replace hp := hp.wide
  obtain ⟨g, vo, vpw, vc, ps, cs, css, rfl, hg1, hg2, hc0, hc1, hc2, h1, h2, h3⟩ := hp.ex
  refine enter (args := [.pointer (some ⟨g, 0, none⟩), .int .i64 t]) (l := [.tmp 4]) Tryz.func71 rfl rfl Tryz.ntmps71 (by simp) ?_
  refine go ?_
  refine st_make_int (by ((try simp only [ev_tmp, ev_const, ev_func, get_put, get_args, get_putL, get_putL_nil, Nat.reduceEqDiff, reduceIte, List.getD_cons_zero, List.getD_cons_succ, List.getD_nil]); first | done | with_reducible rfl)) (by ((try simp only [ev_tmp, ev_const, ev_func, get_put, get_args, get_putL, get_putL_nil, Nat.reduceEqDiff, reduceIte, List.getD_cons_zero, List.getD_cons_succ, List.getD_nil]); first | done | with_reducible rfl)) (by omega) (by omega) (by first | exact True.intro | exact ⟨_, rfl, by ((try simp only [ev_tmp, ev_const, ev_func, get_put, get_args, get_putL, get_putL_nil, Nat.reduceEqDiff, reduceIte, List.getD_cons_zero, List.getD_cons_succ, List.getD_nil, Bool.not_true, Bool.not_false]); first | done | with_reducible rfl)⟩) fun w2 v2 he2 hs2 ho2 => ?_
  have hz2 := he2.size
  have hzz : List.replicate p.ord.length (0 : Int) = zeros p.n := rfl
  rw [hzz] at ho2
  have hzl := zeros_len p.n
  have ap1 : Apart 0 w.heap.size w.heap.size := ⟨.inr (Nat.le_refl _)⟩
  have hgs : g + 1 ≤ w.heap.size := by have := hc0.lt; omega
  have ap2 : Apart g (g + 1) w.heap.size := ⟨.inr hgs⟩
  refine go ?_
  refine r_for p.n (fun k ρ w' => ∃ (tk : Int) (xs : List Int), Has ρ [(0, .pointer (some ⟨g, 0, none⟩)), (1, .int .i64 tk), (5, v2), (6, .int .i64 (p.n - 1 - k))] ∧ Chg w.heap.size w2 w' ∧ OwnI 2 w.heap.size w' v2 xs ∧ xs.length = p.n ∧ 0 ≤ tk ∧ tk ≤ 1000000 ∧ fillTo p l (p.n - k) tk xs = elTo p l l.length t) ?_ ?_
  · refine ⟨t, zeros p.n, ?_, Chg.refl _ _, ho2, hzl, by omega, by omega, ?_⟩
    · exact hasP
    · have := fill_eq hnd hlt (t : Int)
      rwa [hll] at this ⊢
  clear ho2
  rintro k ρ w4 hk ⟨tk, xs, hH, hch4, ho4, hxl, ht0, ht1, hfill⟩
  refine rwp_has hH fun ρ0 => ?_
  refine go ?_
  refine c_if (fun h4 => ?_) (fun h4 => ?_)
  · have hkn : k < p.n := by omega
    obtain ⟨i, hi⟩ : ∃ i, p.n - 1 - k = i := ⟨_, rfl⟩
    have hil : i < p.n := by omega
    have hcast : ((p.n : Int) - 1 - k) = (i : Int) := by omega
    have hod := hv.opos hil
    have hmod : 0 ≤ tk % p.o i ∧ tk % p.o i < p.o i := ⟨Int.emod_nonneg _ (by omega), Int.emod_lt_of_pos _ (by omega)⟩
    have hdiv : 0 ≤ tk / p.o i ∧ tk / p.o i ≤ 1000000 := ⟨Int.ediv_nonneg ht0 (by omega), Int.le_trans (Int.ediv_le_self _ ht0) ht1⟩
    have hstep : fillTo p l (p.n - (k + 1)) (tk / p.o i) (xs.set i (tk % p.o i)) = elTo p l l.length t := by
      rw [← hfill, show p.n - k = i + 1 by omega, show p.n - (k + 1) = i by omega]
      show _ = fillTo p l i (tk / p.o (l.getD i 0)) (xs.set (l.getD i 0) (tk % p.o (l.getD i 0)))
      rw [hlg i hil]
    rw [hcast]
    refine go ?_
    first
      | rw [show p.ord.getD i 0 = p.o i from rfl]
      | rw [show p.ord.getD ((i : Int).toNat) 0 = p.o i from rfl]
    refine go ?_
    refine st_store_int (h := ho4) (by ((try simp only [ev_tmp, ev_const, ev_func, get_put, get_args, get_putL, get_putL_nil, Nat.reduceEqDiff, reduceIte, List.getD_cons_zero, List.getD_cons_succ, List.getD_nil]); first | done | with_reducible rfl)) (by ((try simp only [ev_tmp, ev_const, ev_func, get_put, get_args, get_putL, get_putL_nil, Nat.reduceEqDiff, reduceIte, List.getD_cons_zero, List.getD_cons_succ, List.getD_nil]); first | done | with_reducible rfl)) ?_ (by first | exact True.intro | exact ⟨_, rfl, by ((try simp only [ev_tmp, ev_const, ev_func, get_put, get_args, get_putL, get_putL_nil, Nat.reduceEqDiff, reduceIte, List.getD_cons_zero, List.getD_cons_succ, List.getD_nil, Bool.not_true, Bool.not_false]); first | done | with_reducible rfl)⟩) fun w6 hc6 hs6 ho6 => ?_
    · omega
    have hch6 : Chg w.heap.size w2 w6 := hch4.trans hc6
    clear hch4 hc6 ho4
    refine go ?_
    first
      | rw [show p.ord.getD i 0 = p.o i from rfl]
      | rw [show p.ord.getD ((i : Int).toNat) 0 = p.o i from rfl]
    refine go ?_
    refine forQ_normal (by omega) ⟨tk / p.o i, _, ?_, hch6, ho6, by simp [hxl], hdiv.1, hdiv.2, hstep⟩
    exact hasP
  · refine go ?_
    obtain rfl : k = p.n := by omega
    rw [Nat.sub_self] at hfill
    have hx : xs = elTo p l l.length t := hfill
    refine ret1 ⟨hch4.ext he2 (Nat.le_refl _), ?_⟩
    rw [← hx]
    exact ho4.toFr (Nat.le_refl _)
set_option maxHeartbeats 2000000 in
theorem allElements_ok {p : Pr} [hc : ConAll p] {w : World} {vp : Value} {lo hi : Nat} [hp : PresP lo hi w vp p] :
    Calls Tryz.prog 46 #[vp] w (Ret fun v w' => Ext w w' ∧ ∃ rs, vecs ((List.range (ordN p)).map (allE p)) = rs.map (·.2) ∧ MatO w.heap.size w'.heap.size w' v rs) := by
  have hv := hc.valid
  obtain ⟨hoe, ho1, ho2⟩ := ordN_rng p
  have hpw := hp.wide
  refine enter (args := [vp]) (l := [.tmp 2]) Tryz.func46 rfl rfl Tryz.ntmps46 (by simp) ?_
  refine go ?_
  refine rc (orderOf_ok (p := p) hv) (next := fun v2 w2 h4 => ?_)
  obtain ⟨rfl, he2⟩ := h4
  rw [hoe]
  have hz2 := he2.size
  refine go ?_
  refine r_for (ordN p) (fun k ρ w' => ∃ vl rs, Has ρ [(0, vp), (3, vl), (6, .int .i64 (ordN p)), (7, .int .i64 k)] ∧ Ext w2 w' ∧ GrowL 22 w2.heap.size w' vl rs ∧ rs.map (·.2) = vecs ((List.range k).map (allE p))) ?_ ?_
  · refine ⟨nilv, [], ?_, Ext.refl _, GrowL.nil _ _ _ (Nat.le_refl _), by simp⟩
    exact hasP
  rintro k ρ w3 hk ⟨vl, rs, hH, he3, hG, hrs⟩
  refine rwp_has hH fun ρ0 => ?_
  have hz3 := he3.size
  have hrl : rs.length = k := by have := congrArg List.length hrs; simp at this; omega
  have hE3 := he2.trans he3
  refine go ?_
  refine c_if (fun h4 => ?_) (fun h4 => ?_)
  · refine go ?_
    refine rc (elementAt_ok (p := p) (t := k) (by omega)) (next := fun v4 w4 h5 => ?_)
    obtain ⟨he4, hf4⟩ := h5
    refine go ?_
    refine st_grow hG he4 hf4 hz3 (by omega) (next := fun v6 v7 w7 hG7 hx7 hz7 hgs7 => ?_)
    refine go ?_
    refine forQ_normal (by omega) ⟨v7, _, ?_, hx7 w2 (he3.trans he4) (Nat.le_refl _), hG7, ?_⟩
    · exact hasP
    · rw [List.range_succ, List.map_append, List.map_append, hrs]; simp
  · obtain rfl : k = ordN p := by omega
    refine go ?_
    exact ret1 ⟨hE3, rs, hrs.symm, hG.mat.lower hz2⟩
set_option maxHeartbeats 4000000 in
theorem elementsWith_ok {f : FuncId} {caps : Array Value} [hf : FnT Tryz.prog f] {p : Pr} [hcon : ConAll p] {P : El p → Prop} {w : World} {vp : Value} {lo hi : Nat} [hp : PresP lo hi w vp p]
    (hcall : ∀ {w' : World} {vx : Value} {lo' hi' : Nat} {xs : List Int}, Ext w w' → ∀ x : El p, Ints lo' hi' w' vx xs → xs = x.v → Calls Tryz.prog f (#[vx] ++ caps) w' (Ret fun r w'' => ∃ b, r = .bool b ∧ (b = true ↔ P x) ∧ Ext w' w'')) :
    Calls Tryz.prog 40 #[vp, .func (.func f) #[] caps] w (Ret fun v w' => Ext w w' ∧ ∃ rs, canon (Gen (fun a : El p => P a)) = rs.map (·.2) ∧ MatO w.heap.size w'.heap.size w' v rs) := by
  have hn6 := hcon.valid.n6
  obtain ⟨hoe, ho1, ho2⟩ := ordN_rng p
  replace hp := hp.wide
  refine enter (args := [vp, .func (.func f) #[] caps]) (l := [.tmp 4]) Tryz.func40 rfl rfl Tryz.ntmps40 (by simp) ?_
  refine go ?_
  refine rc (newSequence_ok (p := p) hn6) (next := fun v1 w1 h1 => ?_)
  obtain ⟨st, vt, rfl, he1, hc0, hc1, hst, hvt, ho⟩ := h1
  have hz1 := he1.size
  have hq : SeqAt st w.heap.size w.heap.size (fun _ => False) w1 vp vt (fun _ => none : Tab p) := by
    refine ⟨hc0, hc1, by omega, hvt, List.replicate p.n nilv, ?_, fun d hd _ => ?_⟩
    · rw [tabL_none]
      exact Lst.ofNils ho (Nat.le_refl _) (fun h => h) (fun g h => h.elim)
    · rw [List.getD_eq_getElem?_getD, List.getElem?_replicate]; split <;> rfl
  have hap : Apart 0 w.heap.size w.heap.size := ⟨.inr (Nat.le_refl _)⟩
  have hz11 : w.heap.size + 1 ≤ w1.heap.size := by have := ho.lt; omega
  clear hc0 hc1 ho
  refine go ?_
  refine rc (allElements_ok (p := p)) (next := fun v2 w2 h2 => ?_)
  obtain ⟨he2, rs2, hrs2, hM2⟩ := h2
  have hR2 := hM2.rows
  rw [← hrs2] at hR2
  have hE2 := he1.trans he2
  have hz2 := he2.size
  have hvl : (vecs ((List.range (ordN p)).map (allE p))).length = ordN p := by simp
  have hq2 := hq.ext he2
  clear hq
  refine go ?_
  refine r_for (ordN p) (fun k ρ w' => ∃ (t : Tab p) (S : El p → Prop), Has ρ [(0, vp), (1, .func (.func f) #[] caps), (5, .pointer (some ⟨st, 0, none⟩)), (11, v2), (12, .int .i64 (ordN p)), (13, .int .i64 k)] ∧ Chg w.heap.size w2 w' ∧ SeqAt st w.heap.size w.heap.size (fun _ => False) w' vp vt t ∧ Wk S t (fun _ => False) ∧ ∀ a, S a ↔ a ∈ selL P k) ?_ ?_
  · refine ⟨fun _ => none, fun _ => False, ?_, Chg.refl _ _, hq2, Wk.none, fun a => by simp [selL]⟩
    exact hasP
  clear hq2
  rintro k ρ w3 hk ⟨t, S, hH, hch3, hq3, hW3, hS3⟩
  refine rwp_has hH fun ρ0 => ?_
  have hE3 : Ext w w3 := hch3.ext hE2 (Nat.le_refl _)
  have hz3 := hch3.size
  have hR3 : Pc.Rows w1.heap.size w2.heap.size w3 v2 _ _ := hR2.same (hch3.same (.inl (by omega)))
  refine go ?_
  refine c_if (fun h4 => ?_) (fun h4 => ?_)
  · have hkn : k < ordN p := by omega
    have hxk : (vecs ((List.range (ordN p)).map (allE p))).getD k [] = (allE p k).v := by
      rw [vecs_getD _ (by simpa using hkn)]; simp
    have hxi : Ints w1.heap.size w2.heap.size w3 (Pc.rowAt v2 (rs2.map fun x : Value × List Int => x.1) k) ((vecs ((List.range (ordN p)).map (allE p))).getD k []) := hR3.vals.at_ k
    refine go ?_
    refine rc (hcall hE3 (allE p k) hxi hxk) (ho := cl_clo (by ((try simp only [ev_tmp, ev_const, ev_func, get_put, get_args, get_putL, get_putL_nil, Nat.reduceEqDiff, reduceIte, List.getD_cons_zero, List.getD_cons_succ, List.getD_nil]); first | done | with_reducible rfl)) (by simp only [List.map_toArray, List.map_cons, List.map_nil, ev_tmp, ev_const, ev_func, get_put, get_args, get_putL, get_putL_nil, Nat.reduceEqDiff, reduceIte, List.getD_cons_zero, List.getD_cons_succ, List.getD_nil])) (next := fun v5 w5 h5 => ?_)
    obtain ⟨b5, rfl, hb5, he5⟩ := h5
    have hq5 := hq3.ext he5
    have hch5 := hch3.grow he5
    have hxi5 : Ints w1.heap.size w2.heap.size w5 (Pc.rowAt v2 (rs2.map (·.1)) k) (allE p k).v := by rw [← hxk]; exact hxi.same (he5.same _ _)
    clear hq3 hch3
    refine go ?_
    refine c_b (fun e5 => ?_) (fun e5 => ?_)
    · refine go ?_
      refine st_slice1 (u := Pc.rowAt v2 (rs2.map (·.1)) k) (by ((try simp only [ev_tmp, ev_const, ev_func, get_put, get_args, get_putL, get_putL_nil, Nat.reduceEqDiff, reduceIte, List.getD_cons_zero, List.getD_cons_succ, List.getD_nil]); first | done | with_reducible rfl)) hxi5.sl.cells rfl (by first | exact True.intro | exact ⟨_, rfl, by ((try simp only [ev_tmp, ev_const, ev_func, get_put, get_args, get_putL, get_putL_nil, Nat.reduceEqDiff, reduceIte, List.getD_cons_zero, List.getD_cons_succ, List.getD_nil, Bool.not_true, Bool.not_false]); first | done | with_reducible rfl)⟩) fun w6 v6 he6 hs6 hsl6 => ?_
      have hq6 := hq5.ext he6
      have hch6 := hch5.grow he6
      have hz6 := hch6.size
      have hxi6 : Ints w1.heap.size w2.heap.size w6 (Pc.rowAt v2 (rs2.map (·.1)) k) (allE p k).v := hxi5.same (he6.same _ _)
      have hr6 : RowsAp (fun g => g = w.heap.size) w6 [Pc.rowAt v2 (rs2.map (·.1)) k] (vecs [allE p k]) := by
        refine ⟨rfl, fun i => ?_⟩
        cases i with
        | zero => exact ⟨w1.heap.size, w2.heap.size, hxi6, by omega, fun g hg => .inl (by omega)⟩
        | succ i => exact IntsAp.nil _ _
      refine go ?_
      refine rc (add_ok (p := p) (S := S) (by omega) hq6 hW3 hr6 (by simp)) (next := fun v7 w7 h7 => ?_)
      obtain ⟨bg7, t7, rfl, hch7, hq7, hW7, _⟩ := h7
      refine go ?_
      refine forQ_normal (by omega) ⟨t7, _, ?_, hch6.trans hch7, hq7, hW7, fun a => ?_⟩
      · exact hasP
      · rw [selL_yes (hb5.1 e5), List.mem_append, hS3]
    · refine go ?_
      refine forQ_normal (by omega) ⟨t, S, ?_, hch5, hq5, hW3, fun a => ?_⟩
      · exact hasP
      · rw [selL_no (fun h => by rw [hb5.2 h] at e5; cases e5), hS3]
  · obtain rfl : k = ordN p := by omega
    have hgen := hW3.gen (fun _ h => h)
    have hfull := hW3.full (fun _ h => h)
    have hSP : S = fun a => P a := by
      have h := selL_all P
      funext a
      exact propext ((hS3 a).trans (by rw [← congrFun h a]))
    refine go ?_
    refine rc (canonicalM_ok (p := p) hfull hq3) (next := fun v9 w9 h9 => ?_)
    obtain ⟨he9, rs9, hrs9, hM9⟩ := h9
    rw [hgen, hSP] at hrs9
    refine go ?_
    exact ret1 ⟨hE3.trans he9, rs9, hrs9, hM9.lower hE3.size⟩
set_option maxHeartbeats 2000000 in
theorem centerFn_ok {p : Pr} [hc : ConAll p] {ys : List (El p)} (hs : SeqEl ys) {w : World} {vp vu vx : Value} {us : List Value} {xss : List (List Int)} {x : El p} {xs : List Int} {bp bu lo hi lo1 hi1 lo2 hi2 : Nat} [hp : PresP lo hi w vp p] [hu : Pc.Rows lo1 hi1 w vu us xss] [hx : Ints lo2 hi2 w vx xs] [hcp : Cell w bp 0 vp] [hcu : Cell w bu 0 vu] (hus : xss = vecs ys) (hxe : xs = x.v) :
    Calls Tryz.prog 53 #[vx, .pointer (some ⟨bp, 0, none⟩), .pointer (some ⟨bu, 0, none⟩)] w (Ret fun v w' => ∃ b, v = .bool b ∧ (b = true ↔ AbP ys x) ∧ Ext w w') := by
  have hn6 := hc.valid.n6
  have hgl := gensL_len p
  refine enter (args := [vx, .pointer (some ⟨bp, 0, none⟩), .pointer (some ⟨bu, 0, none⟩)]) (l := [.tmp 4]) Tryz.func53 rfl rfl Tryz.ntmps53 (by simp) ?_
  refine go ?_
  refine rc (generators_ok (p := p)) (next := fun v2 w2 h4 => ?_)
  obtain ⟨he2, rs2, hrs2, hM2⟩ := h4
  have hR2 := hM2.rows
  rw [← hrs2] at hR2
  have hvl : (vecs (gensL p)).length = p.n := by simp [hgl]
  refine go ?_
  refine r_for p.n (fun k ρ w' => Has ρ [(0, vx), (1, .pointer (some ⟨bp, 0, none⟩)), (2, .pointer (some ⟨bu, 0, none⟩)), (8, v2), (9, .int .i64 (vecs (gensL p)).length), (10, .int .i64 k)] ∧ Ext w2 w' ∧ ∀ j (h : j < (gensL p).length), j < k → Gen (fun a : El p => a ∈ ys) (Grp.cm x (gensL p)[j])) ?_ ?_
  · refine ⟨?_, Ext.refl _, fun j _ hj => by omega⟩
    exact hasP
  rintro k ρ w3 hk ⟨hH, he3, hI⟩
  refine rwp_has hH fun ρ0 => ?_
  have hE3 := he2.trans he3
  refine go ?_
  refine c_if (fun h4 => ?_) (fun h4 => ?_)
  · have hkn : k < (gensL p).length := by omega
    have hgk := vecs_getD (gensL p) hkn
    refine go ?_
    refine d_order [0, 1, 2, 3, 4, 5, 6, 7] (h := fun w4 he4 _ => ?_)
    refine dgo ?_
    refine dce (commutator_ok (p := p) (i := 0) (x := x) (y := (gensL p)[k]) (Nat.zero_le _) hxe hgk) (next := fun v5 w5 h5 => ?_)
    obtain ⟨he5, hf5⟩ := h5
    refine dce (isMember_ok (p := p) (x := Grp.cm x (gensL p)[k]) hs hus rfl) (next := fun v6 w6 h6 => ?_)
    obtain ⟨b6, rfl, hb6, he6⟩ := h6
    refine dgo ?_
    refine d_end (h := ?_)
    have hE6 := ((he4.trans he5).trans he6)
    refine go ?_
    refine c_b (fun e6 => ?_) (fun e6 => ?_)
    · refine go ?_
      refine ret1 ⟨false, rfl, ?_, hE3.trans hE6⟩
      simp only [Bool.false_eq_true, false_iff]
      intro h
      rw [hb6.2 (h k hkn)] at e6; cases e6
    · have hb : b6 = true := by simpa using e6
      refine go ?_
      refine forQ_normal (by omega) ⟨?_, he3.trans hE6, fun j hj hjk => ?_⟩
      · exact hasP
      · by_cases e : j = k
        · subst e; exact hb6.1 hb
        · exact hI j hj (by omega)
  · refine go ?_
    exact ret1 ⟨true, rfl, ⟨fun _ j hj => hI j hj (by omega), fun _ => rfl⟩, hE3⟩
set_option maxHeartbeats 2000000 in
theorem centerAbove_ok {p : Pr} [hc : ConAll p] {ys : List (El p)} (hs : SeqEl ys) {w : World} {vp vu : Value} {us : List Value} {xss : List (List Int)} {lo hi lo1 hi1 : Nat} [hp : PresP lo hi w vp p] [hu : Pc.Rows lo1 hi1 w vu us xss] (hus : xss = vecs ys) :
    Calls Tryz.prog 36 #[vp, vu] w (Ret fun v w' => Ext w w' ∧ ∃ rs, canon (Gen (fun a : El p => AbP ys a)) = rs.map (·.2) ∧ MatO w.heap.size w'.heap.size w' v rs) := by
  have hpc : vp.cells = #[vp] := by obtain ⟨g, _, _, _, _, _, _, rfl, _⟩ := hp.ex; rfl
  refine enter (args := [vp, vu]) (l := [.tmp 4]) Tryz.func36 rfl rfl Tryz.ntmps36 (by simp) ?_
  refine go ?_
  refine st_box1 (v := vp) (by ((try simp only [ev_tmp, ev_const, ev_func, get_put, get_args, get_putL, get_putL_nil, Nat.reduceEqDiff, reduceIte, List.getD_cons_zero, List.getD_cons_succ, List.getD_nil]); first | done | with_reducible rfl)) hpc (by first | exact True.intro | exact ⟨_, rfl, by ((try simp only [ev_tmp, ev_const, ev_func, get_put, get_args, get_putL, get_putL_nil, Nat.reduceEqDiff, reduceIte, List.getD_cons_zero, List.getD_cons_succ, List.getD_nil, Bool.not_true, Bool.not_false]); first | done | with_reducible rfl)⟩) fun w1 bp he1 hb1 hs1 hbk1 => ?_
  have hcp := hbk1.cell (k := 0) rfl
  refine go ?_
  refine st_box1 (v := vu) (by ((try simp only [ev_tmp, ev_const, ev_func, get_put, get_args, get_putL, get_putL_nil, Nat.reduceEqDiff, reduceIte, List.getD_cons_zero, List.getD_cons_succ, List.getD_nil]); first | done | with_reducible rfl)) hu.sl.cells (by first | exact True.intro | exact ⟨_, rfl, by ((try simp only [ev_tmp, ev_const, ev_func, get_put, get_args, get_putL, get_putL_nil, Nat.reduceEqDiff, reduceIte, List.getD_cons_zero, List.getD_cons_succ, List.getD_nil, Bool.not_true, Bool.not_false]); first | done | with_reducible rfl)⟩) fun w2 bu he2 hb2 hs2 hbk2 => ?_
  have hcu := hbk2.cell (k := 0) rfl
  have hE2 := he1.trans he2
  have hcp2 : Cell w2 bp 0 vp := hcp.same (he2.same _ _) he2.size
  refine go ?_
  refine ra (h := rd_makeFunc (caps := #[.pointer (some ⟨bp, 0, none⟩), .pointer (some ⟨bu, 0, none⟩)]) (by simp only [List.map_toArray, List.map_cons, List.map_nil, ev_tmp, ev_const, ev_func, get_put, get_args, get_putL, get_putL_nil, Nat.reduceEqDiff, reduceIte, List.getD_cons_zero, List.getD_cons_succ, List.getD_nil])) (next := ?_)
  refine go ?_
  refine rc (elementsWith_ok (p := p) (P := AbP ys) (fun {w'} {vx} {lo'} {hi'} {xs} x0 x hx hxe => ?_)) (next := fun v3 w3 h3 => ?_)
  · have hx' := hE2.trans x0
    haveI : Ints lo' hi' w' vx xs := hx
    haveI : Cell w' bp 0 vp := hcp2.same (x0.same _ _) x0.size
    haveI : Cell w' bu 0 vu := hcu.same (x0.same _ _) x0.size
    haveI : Pc.Rows lo1 hi1 w' vu us xss := hu.same (hx'.same _ _)
    haveI : PresP lo hi w' vp p := hp.same (hx'.same _ _) hx'.size
    exact centerFn_ok (p := p) (x := x) hs hus hxe
  obtain ⟨he3, rs3, hrs3, hM3⟩ := h3
  refine go ?_
  exact ret1 ⟨hE2.trans he3, rs3, hrs3, hM3.lower hE2.size⟩
end Go.Proofs.YtgomfjhhfmhlgaaGreat

/-
  Walks: the program's series of subgroups; DerivedSeries, LowerCentralSeries, NilpotencyClass.
  Conditions: stated at each theorem.
-/
namespace Go.Proofs.YtgomfjhhfmhlgaaGreat
open Go Go.Pc
set_option maxHeartbeats 4000000 in
theorem series_ok {f : FuncId} {caps : Array Value} [hf : FnT Tryz.prog f] {p : Pr} [hcon : ConAll p] {F : List (El p) → List (El p)} {y0 : List (El p)} (hS : SerOk F y0) {s : Nat} {w : World} {v0 : Value} {rs0 : List (Value × List Int)} (hs : s ≤ w.heap.size) (hM0 : MatO s w.heap.size w v0 rs0) (he0 : vecs y0 = rs0.map (·.2))
    (hcall : ∀ {w' : World} {vx : Value} {lo' hi' : Nat} {us : List Value} {xss : List (List Int)}, Ext w w' → ∀ ys : List (El p), SeqEl ys → Pc.Rows lo' hi' w' vx us xss → xss = vecs ys → Calls Tryz.prog f (#[vx] ++ caps) w' (Ret fun r w'' => Ext w' w'' ∧ ∃ rs, vecs (F ys) = rs.map (·.2) ∧ MatO w'.heap.size w''.heap.size w'' r rs)) :
    Calls Tryz.prog 34 #[v0, .func (.func f) #[] caps] w (Ret fun v w' => Ext w w' ∧ ∃ K gs, SerR F y0 K ∧ (gs.map fun q : Value × List (Value × List Int) => q.2.map (·.2)) = (List.range (K + 1)).map (fun j => vecs (itL F y0 j)) ∧ MatC s w'.heap.size w' v gs) := by
  have hn6 := hcon.valid.n6
  have hR0 := hM0.rows
  refine enter (args := [v0, .func (.func f) #[] caps]) (l := [.tmp 4]) Tryz.func34 rfl rfl Tryz.ntmps34 (by simp) ?_
  refine go ?_
  refine st_slice1o (u := v0) (by ((try simp only [ev_tmp, ev_const, ev_func, get_put, get_args, get_putL, get_putL_nil, Nat.reduceEqDiff, reduceIte, List.getD_cons_zero, List.getD_cons_succ, List.getD_nil]); first | done | with_reducible rfl)) ?_ ?_ (by first | exact True.intro | exact ⟨_, rfl, by ((try simp only [ev_tmp, ev_const, ev_func, get_put, get_args, get_putL, get_putL_nil, Nat.reduceEqDiff, reduceIte, List.getD_cons_zero, List.getD_cons_succ, List.getD_nil, Bool.not_true, Bool.not_false]); first | done | with_reducible rfl)⟩) fun w1 v1 he1 hs1 ho1 => ?_
  · exact hR0.sl.cells
  · rfl
  have hG1 := GrowV.one ho1 rfl (Nat.le_refl _) hR0 hs he1
  have hO1 := OwnC.one ho1 rfl hM0 hs he1
  have hz1 := he1.size
  refine go ?_
  refine r_for p.n (fun j ρ w' => ∃ vl gs, Has ρ [(1, .func (.func f) #[] caps), (5, vl)] ∧ Ext w w' ∧ GrowV 23 w.heap.size s w' vl (gs.map (·.1)) (gs.map fun q : Value × List (Value × List Int) => q.2.map (·.1)) (gs.map fun q : Value × List (Value × List Int) => q.2.map (·.2)) ∧ OwnC s w' vl gs ∧ (gs.map fun q : Value × List (Value × List Int) => q.2.map (·.2)) = (List.range (j + 1)).map (fun i => vecs (itL F y0 i)) ∧ ∀ i, i < j → itL F y0 (i + 1) ≠ itL F y0 i) ?_ ?_
  · refine ⟨v1, [(v0, rs0)], ?_, he1, ?_, hO1, ?_, fun i hi => by omega⟩
    · exact hasP
    · simpa using hG1
    · simp [← he0, itL]
  clear hG1 hO1
  rintro j ρ w2 hj ⟨vl, gs, hH, he2, hG2, hO2, hgs, hne⟩
  refine rwp_has hH fun ρ0 => ?_
  have hz2 := he2.size
  have hgl : gs.length = j + 1 := by have := congrArg List.length hgs; simpa using this
  have hRs := hG2.rowss hs (by omega)
  rw [hgs] at hRs
  have hlen : ((List.range (j + 1)).map (fun i => vecs (itL F y0 i))).length = j + 1 := by simp
  have hgj : ((List.range (j + 1)).map (fun i => vecs (itL F y0 i))).getD j [] = vecs (itL F y0 j) := by simp [List.getD_eq_getElem?_getD]
  have hidx : (((j + 1 : Nat) : Int) - 1) = (j : Int) := by omega
  have hsq := hS.seq j
  have hsl := hsq.len
  refine go ?_
  have hix : ((List.range (j + 1)).map (fun i => vecs (itL F y0 i))).length - 1 = j := by simp
  rw [hix]
  have hRj : Pc.Rows s w2.heap.size w2 (Pc.rowAt vl (gs.map fun q : Value × List (Value × List Int) => q.1) j) ((gs.map fun q : Value × List (Value × List Int) => q.2.map (·.1)).getD j []) (((List.range (j + 1)).map (fun i => vecs (itL F y0 i))).getD j []) := hRs.vals.at_ j
  refine rc (hcall he2 (itL F y0 j) hsq hRj hgj) (ho := cl_clo (by ((try simp only [ev_tmp, ev_const, ev_func, get_put, get_args, get_putL, get_putL_nil, Nat.reduceEqDiff, reduceIte, List.getD_cons_zero, List.getD_cons_succ, List.getD_nil]); first | done | with_reducible rfl)) (by simp only [List.map_toArray, List.map_cons, List.map_nil, ev_tmp, ev_const, ev_func, get_put, get_args, get_putL, get_putL_nil, Nat.reduceEqDiff, reduceIte, List.getD_cons_zero, List.getD_cons_succ, List.getD_nil])) (next := fun v3 w3 h3 => ?_)
  obtain ⟨he3, rs3, hrs3, hM3⟩ := h3
  have hR3 := hM3.rows
  rw [← hrs3] at hR3
  have hz3 := he3.size
  have hRs3 : Rowss s w2.heap.size w3 vl _ _ _ := hRs.same (he3.same _ _)
  have hsl1 := (hS.seq (j + 1)).len
  have hsl2 : (F (itL F y0 j)).length ≤ p.n := hsl1
  clear hRs
  refine go ?_
  rw [hix]
  refine rc (sameRows_ok (xss := vecs (F (itL F y0 j))) (yss := ((List.range (j + 1)).map (fun i => vecs (itL F y0 i))).getD j []) (fun i => ?_) (by simp; omega)) (next := fun v4 w4 h4 => ?_)
  · by_cases hi : i < (F (itL F y0 j)).length
    · rw [vecs_getD _ hi, ((F (itL F y0 j))[i]).inr.len]; omega
    · rw [List.getD_eq_getElem?_getD, List.getElem?_eq_none (by simp; omega)]; simp
  obtain ⟨b4, rfl, hb4, he4⟩ := h4
  rw [hgj] at hb4
  have hb5 : b4 = true ↔ itL F y0 (j + 1) = itL F y0 j := hb4.trans ⟨fun h => vecs_inj h, fun h => congrArg vecs h⟩
  have he34 := he3.trans he4
  have hz4 := he4.size
  clear hRs3
  refine go ?_
  refine c_b (fun e5 => ?_) (fun e5 => ?_)
  · refine go ?_
    refine ret1 ⟨he2.trans he34, j, gs, ⟨hb5.1 e5, hne⟩, hgs, MatC.of (hO2.ext he34 fun b hb => (hG2.own.lt b hb).2) (hG2.ext he34) hs (by omega)⟩
  · have hnej : itL F y0 (j + 1) ≠ itL F y0 j := fun h => by rw [hb5.2 h] at e5; cases e5
    have hne' : ∀ i, i < j + 1 → itL F y0 (i + 1) ≠ itL F y0 i := fun i hi => by
      by_cases e : i = j
      · subst e; exact hnej
      · exact hne i (by omega)
    have hjn := hS.bd (j + 1) hne'
    have hM4 : MatO w2.heap.size w4.heap.size w4 v3 rs3 := (hM3.wr (.ofExt (B := fun _ => False) he4) (fun b hb => hb.elim)).sub (Nat.le_refl _) hz4
    refine go ?_
    refine st_growv hG2 he34 (hM4.rows) (by omega) hz2 (by simp; omega) (next := fun v5 v6 w6 wm hG6 hx6 hz6 hxm hgm hvm => ?_)
    have hO6 := hO2.push (fun b hb => (hG2.own.lt b hb).2) he34 hM4 (by omega) hxm hgm hvm
    refine go ?_
    refine forQ_normal (by omega) ⟨v6, gs ++ [(v3, rs3)], ?_, hx6 w (he2.trans he34) (Nat.le_refl _), ?_, hO6, ?_, hne'⟩
    · exact hasP
    · simpa using hG6
    · rw [List.range_succ, List.map_append, List.map_append, hgs]
      simp only [List.map_cons, List.map_nil, ← hrs3]
      rfl
end Go.Proofs.YtgomfjhhfmhlgaaGreat

/-
  Walks: the program's DerivedSeries, LowerCentralSeries, UpperCentralSeries.
  Conditions: stated at each theorem.
-/
namespace Go.Proofs.YtgomfjhhfmhlgaaGreat
open Go Go.Pc
set_option maxHeartbeats 1000000 in
theorem upperFn_ok {p : Pr} [hc : ConAll p] {ys : List (El p)} (hs : SeqEl ys) {w : World} {vp vx : Value} {us : List Value} {xss : List (List Int)} {lo hi lo1 hi1 : Nat} [hp : PresP lo hi w vp p] [hx : Pc.Rows lo1 hi1 w vx us xss] (hxe : xss = vecs ys) :
    Calls Tryz.prog 35 #[vx, vp] w (Ret fun r w' => Ext w w' ∧ ∃ rs, vecs (abF ys) = rs.map (·.2) ∧ MatO w.heap.size w'.heap.size w' r rs) := by
  refine enter (args := [vx, vp]) (l := [.tmp 3]) Tryz.func35 rfl rfl Tryz.ntmps35 (by simp) ?_
  refine go ?_
  refine rc (centerAbove_ok (p := p) (ys := ys) hs hxe) (next := fun v3 w3 h3 => ?_)
  obtain ⟨he3, rs3, hrs3, hM3⟩ := h3
  rw [abF_vecs] at hrs3
  refine go ?_
  exact ret1 ⟨he3, rs3, hrs3, hM3⟩
set_option maxHeartbeats 1000000 in
theorem impl_UpperCentralSeries_ok {p : Pr} {w : World} {vp : Value} {lo hi : Nat} [hp : Pres lo hi w vp p] (hl : p.ord.length ≤ 2000000) :
    Calls Tryz.prog 9 #[vp] w (Ret fun v w' => ∃ (u : Value) (k : List (List (List Int))) (e : Int), v = .tuple #[u, .int .i64 e] ∧ Ans (IsGrp p) (SrV p (UpC p)) [] k e ∧ Ext w w' ∧ ∃ gs : List (Value × List (Value × List Int)), k = (gs.map fun q => q.2.map (·.2)) ∧ MatC w.heap.size w'.heap.size w' u gs) := by
  obtain ⟨vo, vpw, vc, ps, cs, css, rfl, h1, h2, h3⟩ := hp.ex
  refine enter (args := [.agg #[vo, vpw, vc]]) (l := [.tmp 2, .tmp 3]) Tryz.func9 rfl rfl Tryz.ntmps9 (by simp) ?_
  refine go ?_
  refine st_box3 (by ((try simp only [ev_tmp, ev_const, ev_func, get_put, get_args, get_putL, get_putL_nil, Nat.reduceEqDiff, reduceIte, List.getD_cons_zero, List.getD_cons_succ, List.getD_nil]); first | done | with_reducible rfl)) (by first | exact True.intro | exact ⟨_, rfl, by ((try simp only [ev_tmp, ev_const, ev_func, get_put, get_args, get_putL, get_putL_nil, Nat.reduceEqDiff, reduceIte, List.getD_cons_zero, List.getD_cons_succ, List.getD_nil, Bool.not_true, Bool.not_false]); first | done | with_reducible rfl)⟩) fun w1 b he1 hb1 hs1 hc0 hc1 hc2 => ?_
  have hpp := hp.boxed he1 hc0 hc1 hc2
  refine go ?_
  refine rc (impl_IsConsistent_ok (p := p) hl) (next := fun v5 w5 h5 => ?_)
  obtain ⟨b5, rfl, hb5, he5⟩ := h5
  have hE5 := he1.trans he5
  refine go ?_
  refine c_b (fun e5 => ?_) (fun e5 => ?_)
  · refine go ?_
    refine ret2 ⟨nilv, [], 1, rfl, .inr ⟨fun h => ?_, rfl, rfl⟩, hE5, [], rfl, MatC.nilR _ _ _ hE5.size⟩
    rw [hb5.2 h] at e5; cases e5
  have hG := hb5.1 (by simpa using e5)
  haveI : ConAll p := ⟨hG.con⟩
  have hpp5 : PresP 0 w5.heap.size w5 (.pointer (some ⟨b, 0, none⟩)) p := PresP.wide inferInstance
  refine go ?_
  refine ra (h := rd_makeFunc (caps := #[.pointer (some ⟨b, 0, none⟩)]) (by simp only [List.map_toArray, List.map_cons, List.map_nil, ev_tmp, ev_const, ev_func, get_put, get_args, get_putL, get_putL_nil, Nat.reduceEqDiff, reduceIte, List.getD_cons_zero, List.getD_cons_succ, List.getD_nil])) (next := ?_)
  refine go ?_
  refine rc (series_ok (p := p) serOk_up (Nat.le_refl _) (MatO.nilR _ _ _) rfl (fun {w'} {vx} {lo'} {hi'} {us} {xss} x0 ys hsy hx hxe => ?_)) (next := fun v3 w3 h3 => ?_)
  · haveI : Pc.Rows lo' hi' w' vx us xss := hx
    haveI : PresP 0 w5.heap.size w' (.pointer (some ⟨b, 0, none⟩)) p := hpp5.same (x0.same _ _) x0.size
    exact upperFn_ok (p := p) (vp := .pointer (some ⟨b, 0, none⟩)) hsy hxe
  obtain ⟨he3, K, gs, hK, hgs, hM3⟩ := h3
  refine go ?_
  exact ret2 ⟨v3, _, 0, rfl, .inl ⟨hG, ⟨inferInstance, K, hK, rfl, rfl⟩⟩, hE5.trans he3, gs, hgs.symm, hM3.lower hE5.size⟩
end Go.Proofs.YtgomfjhhfmhlgaaGreat

/-
  Walks: the statement's own helpers on lists: sizes, copies, comparisons (szInt64S, .., toInt64S, .., eqInt64SSS).
  Conditions: stated at each theorem.
-/
namespace Go.Proofs.YtgomfjhhfmhlgaaGreat
open Go Go.Pc
theorem szInt64S_ok {w : World} {v : Value} {xs : List Int} {k : Int} {lo hi : Nat} [hx : Ints lo hi w v xs] (hk : 0 ≤ k ∧ k ≤ 2000000) :
    Calls Tryz.prog 27 #[v, .int .i64 k] w (Ret fun v w' => ∃ j : Int, v = .int .i64 j ∧ (j < 0 ∨ 0 ≤ j ∧ j ≤ k ∧ (xs.length : Int) ≤ k) ∧ Ext w w') := by
  have hl : xs.length ≤ 9223372036854775807 := by
    obtain ⟨A, c, _, hc, hm, _⟩ := hx.sl.ex
    simp at hc; omega
  refine enter (args := [v, .int .i64 k]) (l := [.tmp 4]) Tryz.func27 rfl rfl Tryz.ntmps27 (by simp) ?_
  refine go ?_
  refine c_if (fun h4 => ?_) (fun h4 => ?_)
  · refine go ?_
    exact ret1 ⟨-1, rfl, .inl (by omega), Ext.refl _⟩
  · refine go ?_
    exact ret1 ⟨k - xs.length, rfl, .inr ⟨by omega, by omega, by omega⟩, Ext.refl _⟩
theorem sl_len {lo hi : Nat} {w : World} {v : Value} {us : List Value} (h : Sl lo hi w v us) : us.length ≤ 9223372036854775807 := by
  obtain ⟨A, c, _, hc, hm, _⟩ := h.ex
  omega
set_option maxHeartbeats 1000000 in
theorem szInt64SS_ok {w : World} {v : Value} {us : List Value} {xss : List (List Int)} {k : Int} {lo hi : Nat} [hx : Pc.Rows lo hi w v us xss] (hk : 0 ≤ k ∧ k ≤ 2000000) :
    Calls Tryz.prog 15 #[v, .int .i64 k] w (Ret fun v w' => ∃ j : Int, v = .int .i64 j ∧ (j < 0 ∨ 0 ≤ j ∧ j ≤ k ∧ (xss.length : Int) ≤ k ∧ ∀ i, ((xss.getD i []).length : Int) ≤ k) ∧ Ext w w') := by
  have hl := sl_len hx.sl
  have hul := hx.vals.len
  refine enter (args := [v, .int .i64 k]) (l := [.tmp 4]) Tryz.func15 rfl rfl Tryz.ntmps15 (by simp) ?_
  refine go ?_
  refine c_if (fun h4 => ?_) (fun h4 => ?_)
  · refine go ?_
    exact ret1 ⟨-1, rfl, .inl (by omega), Ext.refl _⟩
  refine go ?_
  refine r_for xss.length (fun q ρ w' => ∃ j : Int, Has ρ [(0, v), (1, .int .i64 j), (5, .int .i64 q)] ∧ Ext w w' ∧ 0 ≤ j ∧ j ≤ k ∧ ∀ i, i < q → ((xss.getD i []).length : Int) ≤ k) ?_ ?_
  · refine ⟨k - xss.length, ?_, Ext.refl _, by omega, by omega, fun i hi => by omega⟩
    exact hasP
  rintro q ρ w2 hq ⟨j, hH, he2, hj0, hjk, hI⟩
  refine rwp_has hH fun ρ0 => ?_
  refine go ?_
  refine c_if (fun h5 => ?_) (fun h5 => ?_)
  · refine go ?_
    refine rc (szInt64S_ok (xs := xss.getD q []) (k := j) ?_) (next := fun v3 w3 h3 => ?_)
    · omega
    obtain ⟨j3, rfl, hj3, he3⟩ := h3
    refine go ?_
    refine c_if (fun h6 => ?_) (fun h6 => ?_)
    · refine go ?_
      exact ret1 ⟨-1, rfl, .inl (by omega), he2.trans he3⟩
    · have h7 : 0 ≤ j3 ∧ j3 ≤ j ∧ ((xss.getD q []).length : Int) ≤ j := by
        rcases hj3 with h | h
        · omega
        · exact h
      refine go ?_
      refine forQ_normal (by omega) ⟨j3, ?_, he2.trans he3, by omega, by omega, fun i hi => ?_⟩
      · exact hasP
      · by_cases e : i = q
        · subst e; omega
        · exact hI i (by omega)
  · refine go ?_
    refine ret1 ⟨j, rfl, .inr ⟨hj0, hjk, by omega, fun i => ?_⟩, he2⟩
    by_cases hi : i < xss.length
    · exact hI i (by omega)
    · rw [List.getD_eq_getElem?_getD, List.getElem?_eq_none (by omega)]; simp; omega
set_option maxHeartbeats 1000000 in
theorem szInt64SSS_ok {w : World} {v : Value} {us : List Value} {uss : List (List Value)} {xsss : List (List (List Int))} {k : Int} {lo hi : Nat} [hx : Rowss lo hi w v us uss xsss] (hk : 0 ≤ k ∧ k ≤ 2000000) :
    Calls Tryz.prog 28 #[v, .int .i64 k] w (Ret fun v w' => ∃ j : Int, v = .int .i64 j ∧ (j < 0 ∨ 0 ≤ j ∧ j ≤ k ∧ (xsss.length : Int) ≤ k ∧ ∀ i, ((xsss.getD i []).length : Int) ≤ k ∧ ∀ h, (((xsss.getD i []).getD h []).length : Int) ≤ k) ∧ Ext w w') := by
  have hl := sl_len hx.sl
  have hul := hx.vals.len
  refine enter (args := [v, .int .i64 k]) (l := [.tmp 4]) Tryz.func28 rfl rfl Tryz.ntmps28 (by simp) ?_
  refine go ?_
  refine c_if (fun h4 => ?_) (fun h4 => ?_)
  · refine go ?_
    exact ret1 ⟨-1, rfl, .inl (by omega), Ext.refl _⟩
  refine go ?_
  refine r_for xsss.length (fun q ρ w' => ∃ j : Int, Has ρ [(0, v), (1, .int .i64 j), (5, .int .i64 q)] ∧ Ext w w' ∧ 0 ≤ j ∧ j ≤ k ∧ ∀ i, i < q → ((xsss.getD i []).length : Int) ≤ k ∧ ∀ h, (((xsss.getD i []).getD h []).length : Int) ≤ k) ?_ ?_
  · refine ⟨k - xsss.length, ?_, Ext.refl _, by omega, by omega, fun i hi => by omega⟩
    exact hasP
  rintro q ρ w2 hq ⟨j, hH, he2, hj0, hjk, hI⟩
  refine rwp_has hH fun ρ0 => ?_
  refine go ?_
  refine c_if (fun h5 => ?_) (fun h5 => ?_)
  · refine go ?_
    refine rc (szInt64SS_ok (xss := xsss.getD q []) (k := j) ?_) (next := fun v3 w3 h3 => ?_)
    · omega
    obtain ⟨j3, rfl, hj3, he3⟩ := h3
    refine go ?_
    refine c_if (fun h6 => ?_) (fun h6 => ?_)
    · refine go ?_
      exact ret1 ⟨-1, rfl, .inl (by omega), he2.trans he3⟩
    · have h7 : 0 ≤ j3 ∧ j3 ≤ j ∧ ((xsss.getD q []).length : Int) ≤ j ∧ ∀ i, (((xsss.getD q []).getD i []).length : Int) ≤ j := by
        rcases hj3 with h | h
        · omega
        · exact h
      refine go ?_
      refine forQ_normal (by omega) ⟨j3, ?_, he2.trans he3, by omega, by omega, fun i hi => ?_⟩
      · exact hasP
      · by_cases e : i = q
        · subst e; exact ⟨by omega, fun h => by have := h7.2.2.2 h; omega⟩
        · exact hI i (by omega)
  · refine go ?_
    refine ret1 ⟨j, rfl, .inr ⟨hj0, hjk, by omega, fun i => ?_⟩, he2⟩
    by_cases hi : i < xsss.length
    · exact hI i (by omega)
    · rw [List.getD_eq_getElem?_getD, List.getElem?_eq_none (by omega)]; simp; omega
set_option maxHeartbeats 1000000 in
theorem toInt64S_ok {w : World} {v : Value} {xs : List Int} {lo hi : Nat} [hx : Ints lo hi w v xs] (hl : xs.length ≤ 2000000) :
    Calls Tryz.prog 31 #[v] w (Ret fun v' w' => Ext w w' ∧ Fr w.heap.size w' v' xs) := by
  refine enter (args := [v]) (l := [.tmp 2]) Tryz.func31 rfl rfl Tryz.ntmps31 (by simp) ?_
  refine go ?_
  refine st_make_int (by ((try simp only [ev_tmp, ev_const, ev_func, get_put, get_args, get_putL, get_putL_nil, Nat.reduceEqDiff, reduceIte, List.getD_cons_zero, List.getD_cons_succ, List.getD_nil]); first | done | with_reducible rfl)) (by ((try simp only [ev_tmp, ev_const, ev_func, get_put, get_args, get_putL, get_putL_nil, Nat.reduceEqDiff, reduceIte, List.getD_cons_zero, List.getD_cons_succ, List.getD_nil]); first | done | with_reducible rfl)) (by omega) (by omega) (by first | exact True.intro | exact ⟨_, rfl, by ((try simp only [ev_tmp, ev_const, ev_func, get_put, get_args, get_putL, get_putL_nil, Nat.reduceEqDiff, reduceIte, List.getD_cons_zero, List.getD_cons_succ, List.getD_nil, Bool.not_true, Bool.not_false]); first | done | with_reducible rfl)⟩) fun w1 v1 he1 hs1 ho1 => ?_
  replace hx := hx.wide
  have ap : Apart 0 w.heap.size w.heap.size := ⟨.inr (Nat.le_refl _)⟩
  refine go ?_
  refine r_for xs.length (fun k ρ w' => ∃ ys, Has ρ [(0, v), (3, v1), (4, .int .i64 k)] ∧ Chg w.heap.size w1 w' ∧ OwnI 2 w.heap.size w' v1 ys ∧ ys.length = xs.length ∧ ∀ i, i < k → ys.getD i 0 = xs.getD i 0) ?_ ?_
  · refine ⟨_, ?_, Chg.refl _ _, ho1, by simp, fun i hi => by omega⟩
    exact hasP
  clear ho1
  rintro k ρ w2 hk ⟨ys, hH, hc2, ho2, hl2, hI⟩
  refine rwp_has hH fun ρ0 => ?_
  refine go ?_
  refine c_if (fun h4 => ?_) (fun h4 => ?_)
  · refine go ?_
    refine st_store_int (by ((try simp only [ev_tmp, ev_const, ev_func, get_put, get_args, get_putL, get_putL_nil, Nat.reduceEqDiff, reduceIte, List.getD_cons_zero, List.getD_cons_succ, List.getD_nil]); first | done | with_reducible rfl)) (by ((try simp only [ev_tmp, ev_const, ev_func, get_put, get_args, get_putL, get_putL_nil, Nat.reduceEqDiff, reduceIte, List.getD_cons_zero, List.getD_cons_succ, List.getD_nil]); first | done | with_reducible rfl)) ?_ (by first | exact True.intro | exact ⟨_, rfl, by ((try simp only [ev_tmp, ev_const, ev_func, get_put, get_args, get_putL, get_putL_nil, Nat.reduceEqDiff, reduceIte, List.getD_cons_zero, List.getD_cons_succ, List.getD_nil, Bool.not_true, Bool.not_false]); first | done | with_reducible rfl)⟩) fun w3 hc3 hs3 ho3 => ?_
    · omega
    refine go ?_
    refine forQ_normal (by omega) ⟨_, ?_, hc2.trans hc3, ho3, by simp [hl2], fun i hi => ?_⟩
    · exact hasP
    · by_cases e : k = i
      · subst e; rw [Pc.getD_set_eq _ _ _ (by omega)]
      · rw [Pc.getD_set_ne _ _ _ _ e]; exact hI i (by omega)
  · refine go ?_
    have hy : ys = xs := list_ext0 hl2 fun i hi => hI i (by omega)
    subst hy
    exact ret1 ⟨hc2.ext he1 (Nat.le_refl _), ho2.toFr (Nat.le_refl _)⟩
theorem rows_ext {xss yss : List (List Int)} (hl : xss.length = yss.length) (h : ∀ i, i < xss.length → xss.getD i [] = yss.getD i []) : xss = yss := by
  apply List.ext_getElem hl
  intro i h1 h2
  have := h i h1
  simpa [h1, h2] using this
theorem set_nils {α : Type} (l : List α) (z u : α) (m : Nat) : (l ++ List.replicate (m + 1) z).set l.length u = (l ++ [u]) ++ List.replicate m z := by
  simp [List.replicate_succ]
set_option maxHeartbeats 1000000 in
theorem toInt64SSO_ok {w : World} {v : Value} {us : List Value} {xss : List (List Int)} {lo hi : Nat} [hx : Pc.Rows lo hi w v us xss] (hl : xss.length ≤ 2000000) (hr : ∀ i, (xss.getD i []).length ≤ 2000000) :
    Calls Tryz.prog 17 #[v] w (Ret fun v' w' => Ext w w' ∧ ∃ rs, Lst 22 w.heap.size (· < w.heap.size) w' v' (rs.map (·.1)) xss ∧ xss = rs.map (·.2) ∧ RowsO w.heap.size w' rs) := by
  refine enter (args := [v]) (l := [.tmp 2]) Tryz.func17 rfl rfl Tryz.ntmps17 (by simp) ?_
  refine go ?_
  refine st_make_nil (by ((try simp only [ev_tmp, ev_const, ev_func, get_put, get_args, get_putL, get_putL_nil, Nat.reduceEqDiff, reduceIte, List.getD_cons_zero, List.getD_cons_succ, List.getD_nil]); first | done | with_reducible rfl)) (by ((try simp only [ev_tmp, ev_const, ev_func, get_put, get_args, get_putL, get_putL_nil, Nat.reduceEqDiff, reduceIte, List.getD_cons_zero, List.getD_cons_succ, List.getD_nil]); first | done | with_reducible rfl)) (by omega) (by omega) (by first | exact True.intro | exact ⟨_, rfl, by ((try simp only [ev_tmp, ev_const, ev_func, get_put, get_args, get_putL, get_putL_nil, Nat.reduceEqDiff, reduceIte, List.getD_cons_zero, List.getD_cons_succ, List.getD_nil, Bool.not_true, Bool.not_false]); first | done | with_reducible rfl)⟩) fun w1 v1 he1 hs1 ho1 => ?_
  have hvb := ho1.toN_block
  have hL1 : Lst 22 w.heap.size (· < w.heap.size) w1 v1 _ _ := Lst.ofNils ho1 (Nat.le_refl _) (by omega) (fun g hg => by omega)
  refine go ?_
  refine r_for xss.length (fun k ρ w' => ∃ rs : List (Value × List Int), Has ρ [(0, v), (3, v1), (4, .int .i64 k)] ∧ Ext w w' ∧ Lst 22 w.heap.size (· < w.heap.size) w' v1 (rs.map (·.1) ++ List.replicate (xss.length - k) nilv) (rs.map (·.2) ++ List.replicate (xss.length - k) []) ∧ rs.length = k ∧ rs.map (·.2) = xss.take k ∧ RowsO (w.heap.size + 1) w' rs ∧ w.heap.size + 1 ≤ w'.heap.size) ?_ ?_
  · refine ⟨[], ?_, he1, by simpa using hL1, rfl, by simp, RowsO.nil _ _, by omega⟩
    exact hasP
  clear hL1 ho1
  rintro k ρ w2 hk ⟨rs, hH, he2, hL2, hl2, hI, hO2, hsz2⟩
  refine rwp_has hH fun ρ0 => ?_
  have hLr := hL2.toRows
  refine go ?_
  refine c_if (fun h4 => ?_) (fun h4 => ?_)
  · refine go ?_
    refine rc (toInt64S_ok (xs := xss.getD k []) (hr k)) (next := fun v3 w3 h3 => ?_)
    obtain ⟨he3, hf3⟩ := h3
    have hL3 := hL2.ext he3
    have hO3 := hL3.toOwn hvb
    have hz2 := he2.size
    have hul : (rs.map (·.1) ++ List.replicate (xss.length - k) nilv).length = xss.length := by simp; omega
    have hul2 : (rs.map (·.2) ++ List.replicate (xss.length - k) ([] : List Int)).length = xss.length := by simp; omega
    refine go ?_
    refine st_store_val (h := hO3) (by ((try simp only [ev_tmp, ev_const, ev_func, get_put, get_args, get_putL, get_putL_nil, Nat.reduceEqDiff, reduceIte, List.getD_cons_zero, List.getD_cons_succ, List.getD_nil]); first | done | with_reducible rfl)) (by ((try simp only [ev_tmp, ev_const, ev_func, get_put, get_args, get_putL, get_putL_nil, Nat.reduceEqDiff, reduceIte, List.getD_cons_zero, List.getD_cons_succ, List.getD_nil]); first | done | with_reducible rfl)) ?_ ?_ (by first | exact True.intro | exact ⟨_, rfl, by ((try simp only [ev_tmp, ev_const, ev_func, get_put, get_args, get_putL, get_putL_nil, Nat.reduceEqDiff, reduceIte, List.getD_cons_zero, List.getD_cons_succ, List.getD_nil, Bool.not_true, Bool.not_false]); first | done | with_reducible rfl)⟩) fun w4 hc4 hs4 ho4 => ?_
    · exact hf3.ints.sl.one
    · omega
    have hL4 := hL3.set hvb (IntsAp.ofFr hf3 (fun g hg => by
      rcases hg with hg | hg
      · omega
      · exact (hL2.lt hg).2)) hc4 ho4 (by omega)
    have hkn : k < xss.length := by omega
    have e0 : xss.length - k = (xss.length - (k + 1)) + 1 := by omega
    have e1 := set_nils (rs.map (·.1)) nilv v3 (xss.length - (k + 1))
    have e2 := set_nils (rs.map (·.2)) [] (xss.getD k []) (xss.length - (k + 1))
    rw [List.length_map, hl2, ← e0] at e1 e2
    rw [e1, e2] at hL4
    have hO4 := hO2.push he3 hsz2 hf3
    have hO5 := hO4.wr (.one (B := fun b => b = w.heap.size) rfl hc4) fun b hb e => by have := (hO4.blk hb).1; omega
    have hz3 := he3.size
    refine go ?_
    refine forQ_normal (by omega) ⟨rs ++ [(v3, xss.getD k [])], ?_, hc4.ext (he2.trans he3) (Nat.le_refl _), by simpa using hL4, by simp [hl2], ?_, hO5, by omega⟩
    · exact hasP
    · rw [List.take_succ_eq_append_getElem hkn, List.map_append, hI]; simp [hkn]
  · refine go ?_
    obtain rfl : k = xss.length := by omega
    rw [List.take_length] at hI
    refine ret1 ⟨he2, rs, ?_, hI.symm, hO2.mono (by omega)⟩
    simpa [hI] using hL2
theorem toInt64SS_ok {w : World} {v : Value} {us : List Value} {xss : List (List Int)} {lo hi : Nat} [hx : Pc.Rows lo hi w v us xss] (hl : xss.length ≤ 2000000) (hr : ∀ i, (xss.getD i []).length ≤ 2000000) :
    Calls Tryz.prog 17 #[v] w (Ret fun v' w' => Ext w w' ∧ ∃ us', Lst 22 w.heap.size (· < w.heap.size) w' v' us' xss) :=
  Pc.Calls.ret_mono (toInt64SSO_ok hl hr) fun _ _ ⟨h1, _, h2, _⟩ => ⟨h1, _, h2⟩
end Go.Proofs.YtgomfjhhfmhlgaaGreat

/-
  Walks: the statement's own helpers on presentations: sizes, copies, comparisons (toInt64SSS, szPresentation, toPresentation, eqInt64SSS, eqPresentation).
  Conditions: stated at each theorem.
-/
namespace Go.Proofs.YtgomfjhhfmhlgaaGreat
open Go Go.Pc
set_option maxHeartbeats 1000000 in
theorem toInt64SSS_ok {w : World} {v : Value} {us : List Value} {uss : List (List Value)} {xsss : List (List (List Int))} {lo hi : Nat} [hx : Rowss lo hi w v us uss xsss] (hl : xsss.length ≤ 2000000) (hr : ∀ i, (xsss.getD i []).length ≤ 2000000 ∧ ∀ j, ((xsss.getD i []).getD j []).length ≤ 2000000) :
    Calls Tryz.prog 32 #[v] w (Ret fun v' w' => Ext w w' ∧ ∃ us' uss', Rowss w.heap.size w'.heap.size w' v' us' uss' xsss) := by
  refine enter (args := [v]) (l := [.tmp 2]) Tryz.func32 rfl rfl Tryz.ntmps32 (by simp) ?_
  refine go ?_
  refine st_make_nil (by ((try simp only [ev_tmp, ev_const, ev_func, get_put, get_args, get_putL, get_putL_nil, Nat.reduceEqDiff, reduceIte, List.getD_cons_zero, List.getD_cons_succ, List.getD_nil]); first | done | with_reducible rfl)) (by ((try simp only [ev_tmp, ev_const, ev_func, get_put, get_args, get_putL, get_putL_nil, Nat.reduceEqDiff, reduceIte, List.getD_cons_zero, List.getD_cons_succ, List.getD_nil]); first | done | with_reducible rfl)) (by omega) (by omega) (by first | exact True.intro | exact ⟨_, rfl, by ((try simp only [ev_tmp, ev_const, ev_func, get_put, get_args, get_putL, get_putL_nil, Nat.reduceEqDiff, reduceIte, List.getD_cons_zero, List.getD_cons_succ, List.getD_nil, Bool.not_true, Bool.not_false]); first | done | with_reducible rfl)⟩) fun w1 v1 he1 hs1 ho1 => ?_
  refine go ?_
  refine r_for xsss.length (fun k ρ w' => ∃ (us' : List Value) (uss' : List (List Value)) (ysss : List (List (List Int))), Has ρ [(0, v), (3, v1), (4, .int .i64 k)] ∧ Ext w w' ∧ Own 23 w.heap.size w' v1 us' ∧ us'.length = xsss.length ∧ uss'.length = xsss.length ∧ ysss.length = xsss.length ∧
    (∀ i, Pc.Rows (w.heap.size + 1) w'.heap.size w' (us'.getD i nilv) (uss'.getD i []) (ysss.getD i [])) ∧ ∀ i, i < k → ysss.getD i [] = xsss.getD i []) ?_ ?_
  · refine ⟨_, List.replicate xsss.length [], List.replicate xsss.length [], ?_, he1, ho1, by simp, by simp, by simp, fun i => ?_, fun i hi => by omega⟩
    · exact hasP
    · have e1 : (List.replicate xsss.length nilv).getD i nilv = nilv := by
        rw [List.getD_eq_getElem?_getD, List.getElem?_replicate]; split <;> rfl
      have e2 : (List.replicate xsss.length ([] : List Value)).getD i [] = [] := by
        rw [List.getD_eq_getElem?_getD, List.getElem?_replicate]; split <;> rfl
      have e3 : (List.replicate xsss.length ([] : List (List Int))).getD i [] = [] := by
        rw [List.getD_eq_getElem?_getD, List.getElem?_replicate]; split <;> rfl
      rw [e1, e2, e3]
      refine ⟨⟨⟨none, 0, rfl, Nat.le_refl _, by omega, fun k u hu => by simp at hu⟩⟩, rfl, fun i => ?_⟩
      exact ⟨⟨none, 0, by simp, by simp, by omega, fun k u hu => by simp at hu⟩⟩
  clear ho1
  rintro k ρ w2 hk ⟨us', uss', ysss, hH, he2, ho2, hl1, hl2, hl3, hR, hI⟩
  refine rwp_has hH fun ρ0 => ?_
  have hsl := ho2.toSl
  refine go ?_
  refine c_if (fun h4 => ?_) (fun h4 => ?_)
  · refine go ?_
    refine rc (toInt64SS_ok (xss := xsss.getD k []) (hr k).1 (hr k).2) (next := fun v3 w3 h3 => ?_)
    obtain ⟨he3, us3, hL3⟩ := h3
    have hN3 := hL3.newRows
    have ho3 : Own 23 w.heap.size w3 v1 us' := Own.ext (h := ho2)
    have hsl3 := ho3.toSl
    have hlen3 := hsl3.toLen
    have hz2 := he2.size
    have hz3 := he3.size
    have hol := ho2.lt
    refine go ?_
    refine st_store_val (h := ho3) (by ((try simp only [ev_tmp, ev_const, ev_func, get_put, get_args, get_putL, get_putL_nil, Nat.reduceEqDiff, reduceIte, List.getD_cons_zero, List.getD_cons_succ, List.getD_nil]); first | done | with_reducible rfl)) (by ((try simp only [ev_tmp, ev_const, ev_func, get_put, get_args, get_putL, get_putL_nil, Nat.reduceEqDiff, reduceIte, List.getD_cons_zero, List.getD_cons_succ, List.getD_nil]); first | done | with_reducible rfl)) ?_ ?_ (by first | exact True.intro | exact ⟨_, rfl, by ((try simp only [ev_tmp, ev_const, ev_func, get_put, get_args, get_putL, get_putL_nil, Nat.reduceEqDiff, reduceIte, List.getD_cons_zero, List.getD_cons_succ, List.getD_nil, Bool.not_true, Bool.not_false]); first | done | with_reducible rfl)⟩) fun w4 hc4 hs4 ho4 => ?_
    · exact hN3.sl.one
    · omega
    refine go ?_
    refine forQ_normal (by omega) ⟨us'.set k v3, uss'.set k us3, ysss.set k (xsss.getD k []), ?_, hc4.ext (he2.trans he3) (Nat.le_refl _), ho4, by simp [hl1], by simp [hl2], by simp [hl3], fun i => ?_, fun i hi => ?_⟩
    · exact hasP
    · by_cases e : k = i
      · subst e
        have e1 : (us'.set k v3).getD k nilv = v3 := by simp [show k < us'.length by omega]
        have e2 : (uss'.set k us3).getD k [] = us3 := by simp [show k < uss'.length by omega]
        have e3 : (ysss.set k (xsss.getD k [])).getD k [] = xsss.getD k [] := by simp [show k < ysss.length by omega]
        rw [e1, e2, e3]
        exact (hN3.same (hc4.same (.inl (by omega)))).mono (by omega) (by omega)
      · have e1 : (us'.set k v3).getD i nilv = us'.getD i nilv := by simp [List.getElem?_set_ne e]
        have e2 : (uss'.set k us3).getD i [] = uss'.getD i [] := by simp [List.getElem?_set_ne e]
        have e3 : (ysss.set k (xsss.getD k [])).getD i [] = ysss.getD i [] := by simp [List.getElem?_set_ne e]
        rw [e1, e2, e3]
        exact (((hR i).same (he3.same _ _)).same (hc4.same (.inl (by omega)))).mono (Nat.le_refl _) (by omega)
    · by_cases e : k = i
      · subst e; simp [show k < ysss.length by omega]
      · have : (ysss.set k (xsss.getD k [])).getD i [] = ysss.getD i [] := by simp [List.getElem?_set_ne e]
        rw [this]; exact hI i (by omega)
  · refine go ?_
    refine ret1 ⟨he2, us', uss', ?_⟩
    have hy : ysss = xsss := by
      apply List.ext_getElem hl3
      intro i h1 h2
      have := hI i (by omega)
      simpa [h1, h2] using this
    subst hy
    exact ⟨hsl.mono (Nat.le_refl _) (by have := ho2.lt; omega), hl1, hl2, fun i => (hR i).mono (by omega) (Nat.le_refl _)⟩
theorem rowss_mono {lo hi lo' hi' : Nat} {w : World} {v : Value} {us : List Value} {uss : List (List Value)} {xsss : List (List (List Int))} (h : Rowss lo hi w v us uss xsss) (h1 : lo' ≤ lo) (h2 : hi ≤ hi') : Rowss lo' hi' w v us uss xsss :=
  ⟨h.sl.mono h1 h2, h.vals.len, h.vals.len', fun i => (h.vals.at_ i).mono h1 h2⟩
/-- The sizes of a presentation, none above k. -/
structure SizeP (p : Pr) (k : Int) : Prop where
  ord : (p.ord.length : Int) ≤ k
  pow : (p.pow.length : Int) ≤ k
  powi : ∀ i, ((p.pow.getD i []).length : Int) ≤ k
  cnj : (p.cnj.length : Int) ≤ k
  cnji : ∀ i, ((p.cnj.getD i []).length : Int) ≤ k
  cnjij : ∀ i j, (((p.cnj.getD i []).getD j []).length : Int) ≤ k
set_option maxHeartbeats 1000000 in
theorem szPresentation_ok {w : World} {v : Value} {p : Pr} {k : Int} {lo hi : Nat} [hp : Pres lo hi w v p] (hk : 0 ≤ k ∧ k ≤ 2000000) :
    Calls Tryz.prog 6 #[v, .int .i64 k] w (Ret fun v w' => ∃ j : Int, v = .int .i64 j ∧ (j < 0 ∨ 0 ≤ j ∧ j ≤ k ∧ SizeP p k) ∧ Ext w w') := by
  obtain ⟨vo, vpw, vc, ps, cs, css, rfl, h1, h2, h3⟩ := hp.ex
  refine enter (args := [.agg #[vo, vpw, vc], .int .i64 k]) (l := [.tmp 4]) Tryz.func6 rfl rfl Tryz.ntmps6 (by simp) ?_
  refine go ?_
  refine st_box3 (by ((try simp only [ev_tmp, ev_const, ev_func, get_put, get_args, get_putL, get_putL_nil, Nat.reduceEqDiff, reduceIte, List.getD_cons_zero, List.getD_cons_succ, List.getD_nil]); first | done | with_reducible rfl)) (by first | exact True.intro | exact ⟨_, rfl, by ((try simp only [ev_tmp, ev_const, ev_func, get_put, get_args, get_putL, get_putL_nil, Nat.reduceEqDiff, reduceIte, List.getD_cons_zero, List.getD_cons_succ, List.getD_nil, Bool.not_true, Bool.not_false]); first | done | with_reducible rfl)⟩) fun w1 b he1 hb1 hs1 hc0 hc1 hc2 => ?_
  refine go ?_
  refine rc (szInt64S_ok (xs := p.ord) hk) (next := fun v2 w2 h4 => ?_)
  obtain ⟨j2, rfl, hj2, he2⟩ := h4
  refine go ?_
  refine c_if (fun h5 => ?_) (fun h5 => ?_)
  · refine go ?_
    exact ret1 ⟨-1, rfl, .inl (by omega), he1.trans he2⟩
  have h6 : 0 ≤ j2 ∧ j2 ≤ k ∧ (p.ord.length : Int) ≤ k := by
    rcases hj2 with h | h
    · omega
    · exact h
  refine go ?_
  refine rc (szInt64SS_ok (xss := p.pow) (k := j2) ?_) (next := fun v3 w3 h7 => ?_)
  · omega
  obtain ⟨j3, rfl, hj3, he3⟩ := h7
  refine go ?_
  refine c_if (fun h8 => ?_) (fun h8 => ?_)
  · refine go ?_
    exact ret1 ⟨-1, rfl, .inl (by omega), (he1.trans he2).trans he3⟩
  have h9 : 0 ≤ j3 ∧ j3 ≤ j2 ∧ (p.pow.length : Int) ≤ j2 ∧ ∀ i, ((p.pow.getD i []).length : Int) ≤ j2 := by
    rcases hj3 with h | h
    · omega
    · exact h
  refine go ?_
  refine rc (szInt64SSS_ok (xsss := p.cnj) (k := j3) ?_) (next := fun v4 w4 h10 => ?_)
  · omega
  obtain ⟨j4, rfl, hj4, he4⟩ := h10
  refine go ?_
  refine c_if (fun h11 => ?_) (fun h11 => ?_)
  · refine go ?_
    exact ret1 ⟨-1, rfl, .inl (by omega), ((he1.trans he2).trans he3).trans he4⟩
  have h12 : 0 ≤ j4 ∧ j4 ≤ j3 ∧ (p.cnj.length : Int) ≤ j3 ∧ ∀ i, ((p.cnj.getD i []).length : Int) ≤ j3 ∧ ∀ h, (((p.cnj.getD i []).getD h []).length : Int) ≤ j3 := by
    rcases hj4 with h | h
    · omega
    · exact h
  refine go ?_
  refine ret1 ⟨j4, rfl, .inr ⟨h12.1, by omega, ⟨h6.2.2, by omega, fun i => by have := h9.2.2.2 i; omega, by omega, fun i => by have := (h12.2.2.2 i).1; omega, fun i j => by have := (h12.2.2.2 i).2 j; omega⟩⟩, ((he1.trans he2).trans he3).trans he4⟩
set_option maxHeartbeats 1000000 in
theorem toPresentation_ok {w : World} {v : Value} {p : Pr} {lo hi : Nat} [hp : Pres lo hi w v p] (hs : SizeP p 2000000) :
    Calls Tryz.prog 8 #[v] w (Ret fun v w' => Ext w w' ∧ Pres w.heap.size w'.heap.size w' v p) := by
  have hs1 := hs.ord
  have hs2 := hs.pow
  have hs3 := hs.cnj
  obtain ⟨vo, vpw, vc, ps, cs, css, rfl, h1, h2, h3⟩ := hp.ex
  refine enter (args := [.agg #[vo, vpw, vc]]) (l := [.cell 2 30]) Tryz.func8 rfl rfl Tryz.ntmps8 (by simp) ?_
  refine go ?_
  refine st_box3 (by ((try simp only [ev_tmp, ev_const, ev_func, get_put, get_args, get_putL, get_putL_nil, Nat.reduceEqDiff, reduceIte, List.getD_cons_zero, List.getD_cons_succ, List.getD_nil]); first | done | with_reducible rfl)) (by first | exact True.intro | exact ⟨_, rfl, by ((try simp only [ev_tmp, ev_const, ev_func, get_put, get_args, get_putL, get_putL_nil, Nat.reduceEqDiff, reduceIte, List.getD_cons_zero, List.getD_cons_succ, List.getD_nil, Bool.not_true, Bool.not_false]); first | done | with_reducible rfl)⟩) fun w1 b he1 hb1 hsz1 hc0 hc1 hc2 => ?_
  refine go ?_
  refine st_alloc (by first | exact True.intro | exact ⟨_, rfl, by ((try simp only [ev_tmp, ev_const, ev_func, get_put, get_args, get_putL, get_putL_nil, Nat.reduceEqDiff, reduceIte, List.getD_cons_zero, List.getD_cons_succ, List.getD_nil, Bool.not_true, Bool.not_false]); first | done | with_reducible rfl)⟩) fun w2 br he2 hbr hsz2 hbk2 => ?_
  refine go ?_
  refine st_alloc (by first | exact True.intro | exact ⟨_, rfl, by ((try simp only [ev_tmp, ev_const, ev_func, get_put, get_args, get_putL, get_putL_nil, Nat.reduceEqDiff, reduceIte, List.getD_cons_zero, List.getD_cons_succ, List.getD_nil, Bool.not_true, Bool.not_false]); first | done | with_reducible rfl)⟩) fun w3 bo he3 hbo hsz3 hbk3 => ?_
  have hE3 := (he1.trans he2).trans he3
  refine go ?_
  refine rc (toInt64S_ok (xs := p.ord) (by omega)) (next := fun v4 w4 h4 => ?_)
  obtain ⟨he4, hf4⟩ := h4
  have hb4 : Blk w4 bo _ := Blk.ext (h := hbk3)
  have hz4 := he4.size
  refine go ?_
  refine st_store_fld (h := hb4) (by ((try simp only [ev_tmp, ev_const, ev_func, get_put, get_args, get_putL, get_putL_nil, Nat.reduceEqDiff, reduceIte, List.getD_cons_zero, List.getD_cons_succ, List.getD_nil]); first | done | with_reducible rfl)) (by ((try simp only [ev_tmp, ev_const, ev_func, get_put, get_args, get_putL, get_putL_nil, Nat.reduceEqDiff, reduceIte, List.getD_cons_zero, List.getD_cons_succ, List.getD_nil]); first | done | with_reducible rfl)) ?_ ?_ (by first | exact True.intro | exact ⟨_, rfl, by ((try simp only [ev_tmp, ev_const, ev_func, get_put, get_args, get_putL, get_putL_nil, Nat.reduceEqDiff, reduceIte, List.getD_cons_zero, List.getD_cons_succ, List.getD_nil, Bool.not_true, Bool.not_false]); first | done | with_reducible rfl)⟩) fun w5 hc5 hs5 hb5 => ?_
  · exact hf4.ints.sl.one
  · simp
  have hE15 : Ext w1 w5 := hc5.ext ((he2.trans he3).trans he4) (by have := he2.size; omega)
  have hz15 := hE15.size
  have hz2 := he2.size
  have hi5 : Ints w3.heap.size w4.heap.size w5 v4 p.ord := hf4.ints.same (hc5.same (.inl (by omega)))
  have hr5 : Blk w5 br _ := (Blk.ext (x := he3.trans he4) (h := hbk2)).chg' hc5 (by omega)
  refine go ?_
  refine rc (toInt64SS_ok (xss := p.pow) (by omega) (fun i => by have := hs.powi i; omega)) (next := fun v6 w6 h6 => ?_)
  obtain ⟨he6, us6, hL6⟩ := h6
  have hN6 := hL6.newRows
  have hb6 : Blk w6 bo _ := Blk.ext (h := hb5)
  have hz6 := he6.size
  refine go ?_
  refine st_store_fld (h := hb6) (by ((try simp only [ev_tmp, ev_const, ev_func, get_put, get_args, get_putL, get_putL_nil, Nat.reduceEqDiff, reduceIte, List.getD_cons_zero, List.getD_cons_succ, List.getD_nil]); first | done | with_reducible rfl)) (by ((try simp only [ev_tmp, ev_const, ev_func, get_put, get_args, get_putL, get_putL_nil, Nat.reduceEqDiff, reduceIte, List.getD_cons_zero, List.getD_cons_succ, List.getD_nil]); first | done | with_reducible rfl)) ?_ ?_ (by first | exact True.intro | exact ⟨_, rfl, by ((try simp only [ev_tmp, ev_const, ev_func, get_put, get_args, get_putL, get_putL_nil, Nat.reduceEqDiff, reduceIte, List.getD_cons_zero, List.getD_cons_succ, List.getD_nil, Bool.not_true, Bool.not_false]); first | done | with_reducible rfl)⟩) fun w7 hc7 hs7 hb7 => ?_
  · exact hN6.sl.one
  · simp
  have hE17 : Ext w1 w7 := hc7.ext (hE15.trans he6) (by omega)
  have hi7 : Ints w3.heap.size w4.heap.size w7 v4 p.ord := (hi5.same (he6.same _ _)).same (hc7.same (.inl (by omega)))
  have hp7 : Pc.Rows w5.heap.size w6.heap.size w7 v6 us6 p.pow := hN6.same (hc7.same (.inl (by omega)))
  have hr7 : Blk w7 br _ := (Blk.ext (x := he6) (h := hr5)).chg' hc7 (by omega)
  refine go ?_
  refine rc (toInt64SSS_ok (xsss := p.cnj) (by omega) (fun i => ⟨by have := hs.cnji i; omega, fun j => by have := hs.cnjij i j; omega⟩)) (next := fun v8 w8 h8 => ?_)
  obtain ⟨he8, us8, uss8, hR8⟩ := h8
  have hb8 : Blk w8 bo _ := Blk.ext (h := hb7)
  have hz8 := he8.size
  refine go ?_
  refine st_store_fld (h := hb8) (by ((try simp only [ev_tmp, ev_const, ev_func, get_put, get_args, get_putL, get_putL_nil, Nat.reduceEqDiff, reduceIte, List.getD_cons_zero, List.getD_cons_succ, List.getD_nil]); first | done | with_reducible rfl)) (by ((try simp only [ev_tmp, ev_const, ev_func, get_put, get_args, get_putL, get_putL_nil, Nat.reduceEqDiff, reduceIte, List.getD_cons_zero, List.getD_cons_succ, List.getD_nil]); first | done | with_reducible rfl)) ?_ ?_ (by first | exact True.intro | exact ⟨_, rfl, by ((try simp only [ev_tmp, ev_const, ev_func, get_put, get_args, get_putL, get_putL_nil, Nat.reduceEqDiff, reduceIte, List.getD_cons_zero, List.getD_cons_succ, List.getD_nil, Bool.not_true, Bool.not_false]); first | done | with_reducible rfl)⟩) fun w9 hc9 hs9 hb9 => ?_
  · exact hR8.sl.one
  · simp
  have hE19 : Ext w1 w9 := hc9.ext (hE17.trans he8) (by omega)
  have hi9 : Ints w3.heap.size w4.heap.size w9 v4 p.ord := (hi7.same (he8.same _ _)).same (hc9.same (.inl (by omega)))
  have hp9 : Pc.Rows w5.heap.size w6.heap.size w9 v6 us6 p.pow := (hp7.same (he8.same _ _)).same (hc9.same (.inl (by omega)))
  have hq9 : Rowss w7.heap.size w8.heap.size w9 v8 us8 uss8 p.cnj := hR8.same (hc9.same (.inl (by omega)))
  have hr9 : Blk w9 br _ := (Blk.ext (x := he8) (h := hr7)).chg' hc9 (by omega)
  refine go ?_
  have hb9' : Blk w9 bo [v4, v6, v8] := hb9
  refine ra (v := .agg #[v4, v6, v8]) (h := rd_load_blk (hb := hb9') (by ((try simp only [ev_tmp, ev_const, ev_func, get_put, get_args, get_putL, get_putL_nil, Nat.reduceEqDiff, reduceIte, List.getD_cons_zero, List.getD_cons_succ, List.getD_nil]); first | done | with_reducible rfl)) rfl) (next := ?_)
  refine st_store_agg (vs := [v4, v6, v8]) (cs := _) (hb := hr9) (by ((try simp only [ev_tmp, ev_const, ev_func, get_put, get_args, get_putL, get_putL_nil, Nat.reduceEqDiff, reduceIte, List.getD_cons_zero, List.getD_cons_succ, List.getD_nil]); first | done | with_reducible rfl)) (by ((try simp only [ev_tmp, ev_const, ev_func, get_put, get_args, get_putL, get_putL_nil, Nat.reduceEqDiff, reduceIte, List.getD_cons_zero, List.getD_cons_succ, List.getD_nil]); first | done | with_reducible rfl)) rfl ?_ ?_ (by first | exact True.intro | exact ⟨_, rfl, by ((try simp only [ev_tmp, ev_const, ev_func, get_put, get_args, get_putL, get_putL_nil, Nat.reduceEqDiff, reduceIte, List.getD_cons_zero, List.getD_cons_succ, List.getD_nil, Bool.not_true, Bool.not_false]); first | done | with_reducible rfl)⟩) fun w10 hc10 hs10 hb10 => ?_
  · rfl
  · have e1 := hi9.sl.one
    have e2 := hp9.sl.one
    have e3 := hq9.sl.one
    simp [e1, e2, e3]
  refine go ?_
  refine retc (b := br) (hb := hb10) ⟨hc10.ext (he1.trans hE19) (by omega), ?_⟩ rfl
  have hi10 := (hi9.same (hc10.same (.inl (by omega)))).mono (lo' := w.heap.size) (hi' := w10.heap.size) (by omega) (by omega)
  have hp10 := (hp9.same (hc10.same (.inl (by omega)))).mono (lo' := w.heap.size) (hi' := w10.heap.size) (by omega) (by omega)
  have hq10 := rowss_mono (lo' := w.heap.size) (hi' := w10.heap.size) (hq9.same (hc10.same (.inl (by omega)))) (by omega) (by omega)
  exact ⟨⟨v4, v6, v8, us6, us8, uss8, rfl, hi10, hp10, hq10⟩⟩
set_option maxHeartbeats 1000000 in
theorem eqInt64SSS_ok {w : World} {va vb : Value} {us vs : List Value} {uss vss : List (List Value)} {xsss ysss : List (List (List Int))} {lo hi lo1 hi1 : Nat} [hx : Rowss lo hi w va us uss xsss] [hy : Rowss lo1 hi1 w vb vs vss ysss] (hm : ∀ i, (xsss.getD i []).length ≤ 2000000 ∧ ∀ j, ((xsss.getD i []).getD j []).length ≤ 2000000) (hl : xsss.length ≤ 10000000) :
    Calls Tryz.prog 10 #[va, vb] w (Ret fun v w' => ∃ b, v = .bool b ∧ (b = true ↔ xsss = ysss) ∧ Ext w w') := by
  have hul := hx.vals.len
  have hvl := hy.vals.len
  refine enter (args := [va, vb]) (l := [.tmp 4]) Tryz.func10 rfl rfl Tryz.ntmps10 (by simp) ?_
  refine go ?_
  refine c_if (fun h1 => ?_) (fun h1 => ?_)
  · refine go ?_
    refine ret1 ⟨_, rfl, ?_, Ext.refl _⟩
    simp only [Bool.false_eq_true, false_iff]
    rintro rfl
    omega
  · have hxy : xsss.length = ysss.length := by omega
    refine go ?_
    refine r_for xsss.length (fun k ρ w' => Has ρ [(0, va), (1, vb), (5, .int .i64 k)] ∧ Ext w w' ∧ ∀ i, i < k → xsss.getD i [] = ysss.getD i []) ?_ ?_
    · refine ⟨?_, Ext.refl _, fun i hi => by omega⟩
      exact hasP
    rintro k ρ w1 hk ⟨hH, he1, hI⟩
    refine rwp_has hH fun ρ0 => ?_
    refine go ?_
    refine c_if (fun h4 => ?_) (fun h4 => ?_)
    · refine go ?_
      refine d_region fun w2 he2 _ => ?_
      refine dgo ?_
      refine dce (eqInt64SS_ok (xss := xsss.getD k []) (yss := ysss.getD k []) (hm k).2 (by have := (hm k).1; omega)) (next := fun v3 w3 h3 => ?_)
      obtain ⟨b3, rfl, hb3, he3⟩ := h3
      refine dgo ?_
      refine d_end (h := ?_)
      refine go ?_
      refine c_b (fun h5 => ?_) (fun h5 => ?_)
      · refine go ?_
        refine ret1 ⟨_, rfl, ?_, (he1.trans he2).trans he3⟩
        simp only [Bool.false_eq_true, false_iff]
        rintro rfl
        have := hb3.2 rfl
        rw [this] at h5; cases h5
      · have h6 := hb3.1 (by simpa using h5)
        refine go ?_
        refine forQ_normal (by omega) ⟨?_, (he1.trans he2).trans he3, fun i hi => ?_⟩
        · exact hasP
        · by_cases e : i = k
          · subst e; exact h6
          · exact hI i (by omega)
    · refine go ?_
      refine ret1 ⟨_, rfl, ?_, he1⟩
      simp only [true_iff]
      apply List.ext_getElem hxy
      intro i h1 h2
      have := hI i (by omega)
      simpa [h1, h2] using this
theorem pr_ext {p q : Pr} (h1 : p.ord = q.ord) (h2 : p.pow = q.pow) (h3 : p.cnj = q.cnj) : p = q := by cases p; cases q; simp_all
set_option maxHeartbeats 1000000 in
theorem eqPresentation_ok {w : World} {va vb : Value} {p q : Pr} {lo hi lo1 hi1 : Nat} [hp : Pres lo hi w va p] [hq : Pres lo1 hi1 w vb q] (hs : SizeP p 2000000) :
    Calls Tryz.prog 11 #[va, vb] w (Ret fun v w' => ∃ b, v = .bool b ∧ (b = true ↔ p = q) ∧ Ext w w') := by
  have hs1 := hs.ord
  have hs2 := hs.pow
  have hs3 := hs.cnj
  obtain ⟨vo, vpw, vc, ps, cs, css, rfl, h1, h2, h3⟩ := hp.ex
  obtain ⟨vo', vpw', vc', ps', cs', css', rfl, h1', h2', h3'⟩ := hq.ex
  refine enter (args := [.agg #[vo, vpw, vc], .agg #[vo', vpw', vc']]) (l := [.tmp 4]) Tryz.func11 rfl rfl Tryz.ntmps11 (by simp) ?_
  refine go ?_
  refine st_box3 (by ((try simp only [ev_tmp, ev_const, ev_func, get_put, get_args, get_putL, get_putL_nil, Nat.reduceEqDiff, reduceIte, List.getD_cons_zero, List.getD_cons_succ, List.getD_nil]); first | done | with_reducible rfl)) (by first | exact True.intro | exact ⟨_, rfl, by ((try simp only [ev_tmp, ev_const, ev_func, get_put, get_args, get_putL, get_putL_nil, Nat.reduceEqDiff, reduceIte, List.getD_cons_zero, List.getD_cons_succ, List.getD_nil, Bool.not_true, Bool.not_false]); first | done | with_reducible rfl)⟩) fun w1 b he1 hb1 hsz1 hc0 hc1 hc2 => ?_
  refine go ?_
  refine st_box3 (by ((try simp only [ev_tmp, ev_const, ev_func, get_put, get_args, get_putL, get_putL_nil, Nat.reduceEqDiff, reduceIte, List.getD_cons_zero, List.getD_cons_succ, List.getD_nil]); first | done | with_reducible rfl)) (by first | exact True.intro | exact ⟨_, rfl, by ((try simp only [ev_tmp, ev_const, ev_func, get_put, get_args, get_putL, get_putL_nil, Nat.reduceEqDiff, reduceIte, List.getD_cons_zero, List.getD_cons_succ, List.getD_nil, Bool.not_true, Bool.not_false]); first | done | with_reducible rfl)⟩) fun w2 b' he2 hb2 hsz2 hc0' hc1' hc2' => ?_
  have hE2 := he1.trans he2
  have no : ∀ {w' : World}, p ≠ q → Ext w w' → ∃ b, Value.bool false = .bool b ∧ (b = true ↔ p = q) ∧ Ext w w' := fun h he => ⟨_, rfl, by simp [h], he⟩
  refine go ?_
  refine rc (eqInt64S_ok (xs := p.ord) (ys := q.ord) (by omega)) (next := fun v3 w3 h4 => ?_)
  obtain ⟨b3, rfl, hb3, he3⟩ := h4
  refine go ?_
  refine c_b (fun h5 => ?_) (fun h5 => ?_)
  · refine go ?_
    refine ret1 (no (fun e => ?_) (hE2.trans he3))
    rw [hb3.2 (by rw [e])] at h5; cases h5
  have e1 := hb3.1 (by simpa using h5)
  refine go ?_
  refine rc (eqInt64SS_ok (xss := p.pow) (yss := q.pow) (fun i => by have := hs.powi i; omega) (by omega)) (next := fun v4 w4 h6 => ?_)
  obtain ⟨b4, rfl, hb4, he4⟩ := h6
  refine go ?_
  refine c_b (fun h7 => ?_) (fun h7 => ?_)
  · refine go ?_
    refine ret1 (no (fun e => ?_) ((hE2.trans he3).trans he4))
    rw [hb4.2 (by rw [e])] at h7; cases h7
  have e2 := hb4.1 (by simpa using h7)
  refine go ?_
  refine rc (eqInt64SSS_ok (xsss := p.cnj) (ysss := q.cnj) (fun i => ⟨by have := hs.cnji i; omega, fun j => by have := hs.cnjij i j; omega⟩) (by omega)) (next := fun v5 w5 h8 => ?_)
  obtain ⟨b5, rfl, hb5, he5⟩ := h8
  refine go ?_
  refine c_b (fun h9 => ?_) (fun h9 => ?_)
  · refine go ?_
    refine ret1 (no (fun e => ?_) (((hE2.trans he3).trans he4).trans he5))
    rw [hb5.2 (by rw [e])] at h9; cases h9
  have e3 := hb5.1 (by simpa using h9)
  refine go ?_
  exact ret1 ⟨_, rfl, ⟨fun _ => pr_ext e1 e2 e3, fun _ => rfl⟩, ((hE2.trans he3).trans he4).trans he5⟩
end Go.Proofs.YtgomfjhhfmhlgaaGreat

/-
  Walks: the statement's own helpers that mark memory and read the marks (markInt64S, markInt64SS, heldInt64S, heldInt64SS).
  Conditions: stated at each theorem.
-/
namespace Go.Proofs.YtgomfjhhfmhlgaaGreat
open Go Go.Pc
set_option maxHeartbeats 1000000 in
theorem markInt64S_ok {s : Nat} {w : World} {v : Value} {xs : List Int} {k : Int} (hf : Fr s w v xs) (hk : 0 ≤ k) (hb : k + xs.length ≤ 9000000000000000000) :
    Calls Tryz.prog 25 #[v, .int .i64 k] w (Ret fun v' w' => v' = .int .i64 (k + xs.length) ∧ Fr s w' v (marks k xs.length) ∧ Wrt (fun b => xs ≠ [] ∧ v.ownBlock = some b) w w') := by
  by_cases hn : xs = []
  · subst hn
    have hx := hf.ints
    refine enter (args := [v, .int .i64 k]) (l := [.tmp 4]) Tryz.func25 rfl rfl Tryz.ntmps25 (by simp) ?_
    refine go ?_
    refine r_for 0 (fun i ρ w' => Has ρ [(0, v), (1, .int .i64 k), (5, .int .i64 i)] ∧ w' = w) ?_ ?_
    · refine ⟨?_, rfl⟩
      exact hasP
    rintro i ρ w2 hi ⟨hH, rfl⟩
    refine rwp_has hH fun ρ0 => ?_
    refine go ?_
    refine c_if (fun h4 => ?_) (fun h4 => ?_)
    · simp at h4; omega
    · refine go ?_
      exact ret1 (v := .int .i64 k) ⟨by simp, hf, .refl _⟩
  obtain ⟨e, b, hsb, ho⟩ := hf.own hn
  have hl := sl_len ho.own.toSl
  simp only [List.length_map] at hl
  refine enter (args := [v, .int .i64 k]) (l := [.tmp 4]) Tryz.func25 rfl rfl Tryz.ntmps25 (by simp) ?_
  refine go ?_
  refine r_for xs.length (fun i ρ w' => ∃ ys, Has ρ [(0, v), (1, .int .i64 (k + i)), (5, .int .i64 i)] ∧ Chg b w w' ∧ OwnI e b w' v ys ∧ ys.length = xs.length ∧ ∀ j : Nat, j < i → ys.getD j 0 = k + j) ?_ ?_
  · refine ⟨xs, ?_, Chg.refl _ _, ho, rfl, fun j hj => by omega⟩
    exact hasP
  have hblk := ho.block
  clear ho hf
  rintro i ρ w2 hi ⟨ys, hH, hc2, ho2, hl2, hI⟩
  refine rwp_has hH fun ρ0 => ?_
  refine go ?_
  refine c_if (fun h4 => ?_) (fun h4 => ?_)
  · refine go ?_
    refine st_store_int (by ((try simp only [ev_tmp, ev_const, ev_func, get_put, get_args, get_putL, get_putL_nil, Nat.reduceEqDiff, reduceIte, List.getD_cons_zero, List.getD_cons_succ, List.getD_nil]); first | done | with_reducible rfl)) (by ((try simp only [ev_tmp, ev_const, ev_func, get_put, get_args, get_putL, get_putL_nil, Nat.reduceEqDiff, reduceIte, List.getD_cons_zero, List.getD_cons_succ, List.getD_nil]); first | done | with_reducible rfl)) ?_ (by first | exact True.intro | exact ⟨_, rfl, by ((try simp only [ev_tmp, ev_const, ev_func, get_put, get_args, get_putL, get_putL_nil, Nat.reduceEqDiff, reduceIte, List.getD_cons_zero, List.getD_cons_succ, List.getD_nil, Bool.not_true, Bool.not_false]); first | done | with_reducible rfl)⟩) fun w3 hc3 hs3 ho3 => ?_
    · omega
    refine go ?_
    refine forQ_normal (by omega) ⟨_, ?_, hc2.trans hc3, ho3, by simp [hl2], fun j hj => ?_⟩
    · exact hasP
    · by_cases ee : i = j
      · subst ee; rw [Pc.getD_set_eq _ _ _ (by omega)]
      · rw [Pc.getD_set_ne _ _ _ _ ee]; exact hI j (by omega)
  · refine go ?_
    obtain rfl : i = xs.length := by omega
    have hy : ys = marks k xs.length := list_ext0 (by rw [marks_len]; exact hl2) fun j hj => by rw [hI j (by omega), marks_getD _ (by omega)]
    refine ret1 ⟨rfl, ?_, .one ⟨hn, hblk⟩ hc2⟩
    rw [← hy]
    exact ho2.toFr hsb
set_option maxHeartbeats 1000000 in
theorem heldInt64S_ok {w : World} {v : Value} {k : Int} {n lo hi : Nat} {xs : List Int} [hx : Ints lo hi w v xs] (hxs : xs = marks k n) (hk : 0 ≤ k) (hb : k + n ≤ 9000000000000000000) :
    Calls Tryz.prog 26 #[v, .int .i64 k] w (Ret fun v' w' => v' = .int .i64 (k + n) ∧ Ext w w') := by
  have hl : xs.length = n := by rw [hxs, marks_len]
  have hg : ∀ i, i < n → xs.getD i 0 = k + i := fun i hi => by rw [hxs, marks_getD _ hi]
  have hm : n ≤ 9223372036854775807 := by have := sl_len hx.sl; simp at this; omega
  refine enter (args := [v, .int .i64 k]) (l := [.tmp 4]) Tryz.func26 rfl rfl Tryz.ntmps26 (by simp) ?_
  refine go ?_
  refine r_for n (fun i ρ w' => Has ρ [(0, v), (1, .int .i64 (k + i)), (5, .int .i64 i)] ∧ Ext w w') ?_ ?_
  · refine ⟨?_, Ext.refl _⟩
    exact hasP
  rintro i ρ w2 hi ⟨hH, he2⟩
  refine rwp_has hH fun ρ0 => ?_
  refine go ?_
  refine c_if (fun h4 => ?_) (fun h4 => ?_)
  · have hgi := hg i (by omega)
    refine go ?_
    refine c_if (fun h5 => ?_) (fun h5 => ?_)
    · exact absurd hgi h5
    · refine go ?_
      refine forQ_normal (by omega) ⟨?_, he2⟩
      exact hasP
  · refine go ?_
    obtain rfl : i = n := by omega
    exact ret1 ⟨rfl, he2⟩
set_option maxHeartbeats 1000000 in
theorem heldInt64SS_ok {w : World} {v : Value} {k : Int} {lo hi : Nat} {us : List Value} {xss yss : List (List Int)} [hx : Pc.Rows lo hi w v us xss] (hxs : xss = markL k yss) (hk : 0 ≤ k) (hb : k + tot yss ≤ 9000000000000000000) :
    Calls Tryz.prog 21 #[v, .int .i64 k] w (Ret fun v' w' => v' = .int .i64 (k + tot yss) ∧ Ext w w') := by
  have hl : xss.length = yss.length := by rw [hxs, markL_len]
  have hul := hx.vals.len
  have hm := sl_len hx.sl
  have hg : ∀ i, i < yss.length → xss.getD i [] = marks (k + tot (yss.take i)) (yss.getD i []).length := fun i hi => by rw [hxs, markL_getD _ _ _ hi]
  refine enter (args := [v, .int .i64 k]) (l := [.tmp 4]) Tryz.func21 rfl rfl Tryz.ntmps21 (by simp) ?_
  refine go ?_
  refine r_for yss.length (fun i ρ w' => Has ρ [(0, v), (1, .int .i64 (k + tot (yss.take i))), (5, .int .i64 i)] ∧ Ext w w') ?_ ?_
  · refine ⟨?_, Ext.refl _⟩
    simp only [List.take_zero, tot]
    exact hasP
  rintro i ρ w2 hi ⟨hH, he2⟩
  refine rwp_has hH fun ρ0 => ?_
  have ht := tot_take_le yss i
  refine go ?_
  refine c_if (fun h4 => ?_) (fun h4 => ?_)
  · have hin : i < yss.length := by omega
    have hts := tot_take_succ yss hin
    have ht2 := tot_take_le yss (i + 1)
    refine go ?_
    refine rc (heldInt64S_ok (xs := xss.getD i []) (hg i hin) ?_ ?_) (next := fun v3 w3 h3 => ?_)
    · omega
    · omega
    obtain ⟨rfl, he3⟩ := h3
    refine go ?_
    refine c_if (fun h5 => ?_) (fun h5 => ?_)
    · omega
    · refine go ?_
      refine forQ_normal (by omega) ⟨?_, he2.trans he3⟩
      exact hasP
  · refine go ?_
    obtain rfl : i = yss.length := by omega
    refine ret1 ⟨?_, he2⟩
    rw [List.take_length]
theorem split_at {α : Type} (l : List α) {i : Nat} (h : i < l.length) : l = l.take i ++ l[i] :: l.drop (i + 1) := by
  rw [List.getElem_cons_drop]; exact (List.take_append_drop i l).symm
set_option maxHeartbeats 2000000 in
theorem markInt64SS_ok {A : Nat → Prop} {s : Nat} {w : World} {v : Value} {k : Int} {pre rs post : List (Value × List Int)} (hO : RowsO s w (pre ++ rs ++ post)) (hS : SpA A w v (rs.map (·.1))) (hA : ∀ b, BlkOf rs b → A b) (hk : 0 ≤ k) (hb : k + tot (rs.map (·.2)) ≤ 9000000000000000000) :
    Calls Tryz.prog 20 #[v, .int .i64 k] w (Ret fun v' w' => v' = .int .i64 (k + tot (rs.map (·.2))) ∧ RowsO s w' (pre ++ mkR k rs ++ post) ∧ Wrt (BlkOf rs) w w') := by
  have hm := sl_len hS.sl
  simp only [List.length_map] at hm
  have hsl := hS.sl
  have hlen := hsl.toLen
  refine enter (args := [v, .int .i64 k]) (l := [.tmp 4]) Tryz.func20 rfl rfl Tryz.ntmps20 (by simp) ?_
  refine go ?_
  refine r_for rs.length (fun i ρ w' => Has ρ [(0, v), (1, .int .i64 (k + tot ((rs.take i).map (·.2)))), (5, .int .i64 i)] ∧ RowsO s w' (pre ++ (mkR k (rs.take i) ++ rs.drop i) ++ post) ∧ Wrt (BlkOf rs) w w') ?_ ?_
  · refine ⟨?_, by simpa [mkR] using hO, .refl _⟩
    simp only [List.take_zero, List.map_nil, tot]
    exact hasP
  clear hO hsl hlen
  rintro i ρ w2 hi ⟨hH, hO2, hW2⟩
  refine rwp_has hH fun ρ0 => ?_
  have hS2 := hS.wr hW2 hA
  have hsl2 := hS2.sl
  have hlen2 := hsl2.toLen
  have hll : (rs.map (·.1)).length = rs.length := by simp
  have ht : tot ((rs.take i).map (·.2)) ≤ tot (rs.map (·.2)) := by rw [List.map_take]; exact tot_take_le _ _
  refine go ?_
  refine c_if (fun h4 => ?_) (fun h4 => ?_)
  · have hin : i < rs.length := by simp at h4; omega
    have e1 : Pc.rowAt v (rs.map (·.1)) i = rs[i].1 := by simp [Pc.rowAt, hin]
    have e2 : rs.drop i = rs[i] :: rs.drop (i + 1) := (List.getElem_cons_drop (h := hin)).symm
    have e3 : rs.take (i + 1) = rs.take i ++ [rs[i]] := List.take_succ_eq_append_getElem hin
    have hts : tot ((rs.take (i + 1)).map (·.2)) = tot ((rs.take i).map (·.2)) + (rs[i]).2.length := by rw [e3, List.map_append, tot_append]; simp [tot]
    have ht2 : tot ((rs.take (i + 1)).map (·.2)) ≤ tot (rs.map (·.2)) := by rw [List.map_take]; exact tot_take_le _ _
    have hO3 : RowsO s w2 ((pre ++ mkR k (rs.take i)) ++ rs[i] :: (rs.drop (i + 1) ++ post)) := by
      rw [e2] at hO2
      simpa only [List.append_assoc, List.cons_append] using hO2
    have hfr := hO3.fr rs[i] (by simp)
    refine go ?_
    refine ra (v := Pc.rowAt v (rs.map fun x : Value × List Int => x.1) i) (h := rd_load_sl (us := rs.map fun x : Value × List Int => x.1) (by ((try simp only [ev_tmp, ev_const, ev_func, get_put, get_args, get_putL, get_putL_nil, Nat.reduceEqDiff, reduceIte, List.getD_cons_zero, List.getD_cons_succ, List.getD_nil]); first | done | with_reducible rfl)) (by omega)) (next := ?_)
    rw [e1]
    refine go ?_
    refine rc (markInt64S_ok hfr ?_ ?_) (next := fun v3 w3 h3 => ?_)
    · omega
    · omega
    obtain ⟨rfl, hf3, hW3⟩ := h3
    have hO4 := hO3.upd hW3 hf3 marks_ne.1
    refine go ?_
    refine forQ_normal (by omega) ⟨?_, ?_, hW2.trans (hW3.mono fun b ⟨hn, e⟩ => ⟨_, List.getElem_mem hin, hn, e⟩)⟩
    · exact hasP
    · rw [e3, mkR_append]
      simpa only [mkR, List.append_assoc, List.cons_append, List.nil_append] using hO4
  · refine go ?_
    obtain rfl : i = rs.length := by simp at h4; omega
    rw [List.take_length] at hO2 ⊢
    exact ret1 ⟨rfl, by simpa using hO2, hW2⟩
end Go.Proofs.YtgomfjhhfmhlgaaGreat

/-
  Walks: copies that are the call's own (toInt64SSS, toPresentation), marks of presentations (markInt64SSS, markPresentation).
  Conditions: stated at each theorem.
-/
namespace Go.Proofs.YtgomfjhhfmhlgaaGreat
open Go Go.Pc
theorem toInt64SSM_ok {w : World} {v : Value} {us : List Value} {xss : List (List Int)} {lo hi : Nat} [hx : Pc.Rows lo hi w v us xss] (hl : xss.length ≤ 2000000) (hr : ∀ i, (xss.getD i []).length ≤ 2000000) :
    Calls Tryz.prog 17 #[v] w (Ret fun v' w' => Ext w w' ∧ ∃ rs, xss = rs.map (·.2) ∧ MatO w.heap.size w'.heap.size w' v' rs) :=
  Pc.Calls.ret_mono (toInt64SSO_ok hl hr) fun _ _ ⟨h1, rs, h2, h3, h4⟩ => by subst h3; exact ⟨h1, rs, rfl, MatO.ofLst h2 h4 h2.newRows⟩
theorem getD_nils {α : Type} (l : List α) (z : α) (m i : Nat) : (l ++ List.replicate m z).getD i z = l.getD i z := by
  by_cases h : i < l.length
  · simp [List.getElem?_append_left h, h]
  · rw [List.getD_eq_getElem?_getD, List.getElem?_append_right (by omega), List.getElem?_replicate]
    rw [List.getD_eq_getElem?_getD, List.getElem?_eq_none (by omega)]
    split <;> rfl
theorem rowss_of_cub {A : Nat → Prop} {s : Nat} {w : World} {v : Value} {gs : List (Value × List (Value × List Int))} {lo hi : Nat} (hs : Sl lo hi w v (gs.map (·.1))) (hlo : lo ≤ hi) (h : ∀ q, q ∈ gs → Pc.Rows lo hi w q.1 (q.2.map (·.1)) (q.2.map (·.2))) :
    Rowss lo hi w v (gs.map (·.1)) (gs.map fun q => q.2.map (·.1)) (gs.map fun q => q.2.map (·.2)) := by
  refine ⟨hs, by simp, by simp, fun i => ?_⟩
  by_cases hi' : i < gs.length
  · have := h gs[i] (List.getElem_mem hi')
    simpa [hi'] using this
  · have e1 : (gs.map (·.1)).getD i nilv = nilv := by rw [List.getD_eq_getElem?_getD, List.getElem?_eq_none (by simp; omega)]; rfl
    have e2 : (gs.map fun q => q.2.map (·.1)).getD i [] = [] := by rw [List.getD_eq_getElem?_getD, List.getElem?_eq_none (by simp; omega)]; rfl
    have e3 : (gs.map fun q => q.2.map (·.2)).getD i [] = [] := by rw [List.getD_eq_getElem?_getD, List.getElem?_eq_none (by simp; omega)]; rfl
    rw [e1, e2, e3]
    exact ⟨⟨⟨none, 0, rfl, Nat.le_refl _, by omega, fun k u hu => by simp at hu⟩⟩, rfl, fun i => ⟨⟨none, 0, by simp, by simp, by omega, fun k u hu => by simp at hu⟩⟩⟩
set_option maxHeartbeats 2000000 in
theorem toInt64SSSO_ok {w : World} {v : Value} {us : List Value} {uss : List (List Value)} {xsss : List (List (List Int))} {lo hi : Nat} [hx : Rowss lo hi w v us uss xsss] (hl : xsss.length ≤ 2000000) (hr : ∀ i, (xsss.getD i []).length ≤ 2000000 ∧ ∀ j, ((xsss.getD i []).getD j []).length ≤ 2000000) :
    Calls Tryz.prog 32 #[v] w (Ret fun v' w' => Ext w w' ∧ ∃ gs, xsss = gs.map (fun q => q.2.map (·.2)) ∧ RowsO w.heap.size w' (flat gs) ∧ CubO (fun b => BlkOf (flat gs) b ∨ b < w.heap.size) w' v' gs ∧ Rowss w.heap.size w'.heap.size w' v' (gs.map (·.1)) (gs.map fun q => q.2.map (·.1)) xsss) := by
  refine enter (args := [v]) (l := [.tmp 2]) Tryz.func32 rfl rfl Tryz.ntmps32 (by simp) ?_
  refine go ?_
  refine st_make_nil (by ((try simp only [ev_tmp, ev_const, ev_func, get_put, get_args, get_putL, get_putL_nil, Nat.reduceEqDiff, reduceIte, List.getD_cons_zero, List.getD_cons_succ, List.getD_nil]); first | done | with_reducible rfl)) (by ((try simp only [ev_tmp, ev_const, ev_func, get_put, get_args, get_putL, get_putL_nil, Nat.reduceEqDiff, reduceIte, List.getD_cons_zero, List.getD_cons_succ, List.getD_nil]); first | done | with_reducible rfl)) (by omega) (by omega) (by first | exact True.intro | exact ⟨_, rfl, by ((try simp only [ev_tmp, ev_const, ev_func, get_put, get_args, get_putL, get_putL_nil, Nat.reduceEqDiff, reduceIte, List.getD_cons_zero, List.getD_cons_succ, List.getD_nil, Bool.not_true, Bool.not_false]); first | done | with_reducible rfl)⟩) fun w1 v1 he1 hs1 ho1 => ?_
  refine go ?_
  refine r_for xsss.length (fun k ρ w' => ∃ gs : List (Value × List (Value × List Int)), Has ρ [(0, v), (3, v1), (4, .int .i64 k)] ∧ Ext w w' ∧ w.heap.size + 1 ≤ w'.heap.size ∧ Own 23 w.heap.size w' v1 (gs.map (·.1) ++ List.replicate (xsss.length - k) nilv) ∧ gs.length = k ∧ gs.map (fun q => q.2.map (·.2)) = xsss.take k ∧
    RowsO (w.heap.size + 1) w' (flat gs) ∧ (∀ q, q ∈ gs → SpA (fun b => BlkOf (flat gs) b ∨ b < w.heap.size + 1) w' q.1 (q.2.map (·.1))) ∧ ∀ q, q ∈ gs → Pc.Rows (w.heap.size + 1) w'.heap.size w' q.1 (q.2.map (·.1)) (q.2.map (·.2))) ?_ ?_
  · refine ⟨[], ?_, he1, by omega, by simpa using ho1, rfl, by simp, RowsO.nil _ _, fun q hq => (by cases hq), fun q hq => (by cases hq)⟩
    exact hasP
  clear ho1
  rintro k ρ w2 hk ⟨gs, hH, he2, hz2, ho2, hgl, hI, hO2, hS2, hR2⟩
  refine rwp_has hH fun ρ0 => ?_
  have hsl := ho2.toSl
  have hul : (gs.map (·.1) ++ List.replicate (xsss.length - k) nilv).length = xsss.length := by simp; omega
  refine go ?_
  refine c_if (fun h4 => ?_) (fun h4 => ?_)
  · have hkn : k < xsss.length := by omega
    refine go ?_
    refine rc (toInt64SSM_ok (xss := xsss.getD k []) (hr k).1 (hr k).2) (next := fun v3 w3 h3 => ?_)
    obtain ⟨he3, rs, hrs, hM3⟩ := h3
    have ho3 : Own 23 w.heap.size w3 v1 _ := Own.ext (h := ho2)
    have hsl3 := ho3.toSl
    have hlen3 := hsl3.toLen
    have hz3 := he3.size
    have hol := ho2.lt
    refine go ?_
    refine st_store_val (h := ho3) (by ((try simp only [ev_tmp, ev_const, ev_func, get_put, get_args, get_putL, get_putL_nil, Nat.reduceEqDiff, reduceIte, List.getD_cons_zero, List.getD_cons_succ, List.getD_nil]); first | done | with_reducible rfl)) (by ((try simp only [ev_tmp, ev_const, ev_func, get_put, get_args, get_putL, get_putL_nil, Nat.reduceEqDiff, reduceIte, List.getD_cons_zero, List.getD_cons_succ, List.getD_nil]); first | done | with_reducible rfl)) ?_ ?_ (by first | exact True.intro | exact ⟨_, rfl, by ((try simp only [ev_tmp, ev_const, ev_func, get_put, get_args, get_putL, get_putL_nil, Nat.reduceEqDiff, reduceIte, List.getD_cons_zero, List.getD_cons_succ, List.getD_nil, Bool.not_true, Bool.not_false]); first | done | with_reducible rfl)⟩) fun w4 hc4 hs4 ho4 => ?_
    · exact hM3.rows.sl.one
    · omega
    refine go ?_
    have e0 : xsss.length - k = (xsss.length - (k + 1)) + 1 := by omega
    have e1 := set_nils (gs.map (·.1)) nilv v3 (xsss.length - (k + 1))
    rw [List.length_map, hgl, ← e0] at e1
    rw [e1] at ho4
    have hW4 : Wrt (fun b => b = w.heap.size) w3 w4 := .one rfl hc4
    have hM4 := hM3.wr hW4 (fun b hb => .inl (by omega))
    have hf : flat (gs ++ [(v3, rs)]) = flat gs ++ rs := by rw [flat_append, flat_one]
    have hO3 := hO2.append he3 (by omega) hM3.own
    have hO4 := hO3.wr hW4 (fun b hb e => by have := (hO3.blk hb).1; omega)
    refine forQ_normal (by omega) ⟨gs ++ [(v3, rs)], ?_, hc4.ext (he2.trans he3) (Nat.le_refl _), by omega, by simpa using ho4, by simp [hgl], ?_, ?_, fun q hq => ?_, fun q hq => ?_⟩
    · exact hasP
    · rw [List.take_succ_eq_append_getElem hkn, List.map_append, hI]
      simp only [List.map_cons, List.map_nil, ← hrs]
      simp [hkn]
    · rw [hf]; exact hO4
    · rw [hf]
      rcases List.mem_append.1 hq with hq | hq
      · have h5 := (hS2 q hq).grow he3 (A' := fun b => BlkOf (flat gs ++ rs) b ∨ b < w.heap.size + 1) (fun b hb => by
          rcases hb with hb | hb
          · rcases blkOf_append'.1 hb with hb | hb
            · exact .inl (.inl hb)
            · exact .inr (hM3.own.blk hb).1
          · exact .inl (.inr hb))
        exact h5.wr hW4 (fun b hb => .inr (by omega))
      · obtain rfl := List.mem_singleton.1 hq
        refine SpA.weak hM4.sp fun b hb => ?_
        rcases hb with hb | hb
        · rcases blkOf_append'.1 hb with hb | hb
          · exact .inr (hO2.blk hb).2
          · exact .inl hb
        · exact .inr (by omega)
    · rcases List.mem_append.1 hq with hq | hq
      · exact (((hR2 q hq).same (he3.same _ _)).same (hc4.same (.inl (by omega)))).mono (Nat.le_refl _) (by omega)
      · obtain rfl := List.mem_singleton.1 hq
        exact hM4.rows.mono (by omega) (by omega)
  · refine go ?_
    obtain rfl : k = xsss.length := by omega
    rw [List.take_length] at hI
    rw [Nat.sub_self, List.replicate_zero, List.append_nil] at ho2
    have hol := ho2.lt
    refine ret1 ⟨he2, gs, hI.symm, hO2.mono (by omega), ⟨⟨_, _, ho2.toSl, fun b hb => ?_⟩, fun q hq => (hS2 q hq).weak fun b hb => hb.imp id (by omega)⟩, ?_⟩
    · rcases hb with hb | hb
      · have := (hO2.blk hb).1; omega
      · omega
    · rw [← hI]
      exact rowss_of_cub (A := fun _ => True) (s := 0) (ho2.toSl.mono (Nat.le_refl _) (by omega)) (by omega) fun q hq => (hR2 q hq).mono (by omega) (Nat.le_refl _)
theorem flat_blk {gs : List (Value × List (Value × List Int))} {q : Value × List (Value × List Int)} (hq : q ∈ gs) {b : Nat} (h : BlkOf q.2 b) : BlkOf (flat gs) b := by
  obtain ⟨r, hr, h1, h2⟩ := h
  refine ⟨r, ?_, h1, h2⟩
  unfold flat
  rw [List.mem_flatten]
  exact ⟨q.2, List.mem_map.2 ⟨q, hq, rfl⟩, hr⟩
theorem flat_tot (gs : List (Value × List (Value × List Int))) : (flat gs).map (·.2) = (gs.map fun q => q.2.map (·.2)).flatten := by
  unfold flat
  rw [List.map_flatten, List.map_map]; rfl
set_option maxHeartbeats 2000000 in
theorem markInt64SSS_ok {A : Nat → Prop} {s : Nat} {w : World} {v : Value} {k : Int} {gs : List (Value × List (Value × List Int))} {pre post : List (Value × List Int)} (hO : RowsO s w (pre ++ flat gs ++ post)) (hS : CubO A w v gs) (hA : ∀ b, BlkOf (flat gs) b → A b) (hk : 0 ≤ k) (hb : k + tot ((flat gs).map (·.2)) ≤ 9000000000000000000) :
    Calls Tryz.prog 13 #[v, .int .i64 k] w (Ret fun v' w' => v' = .int .i64 (k + tot ((flat gs).map (·.2))) ∧ RowsO s w' (pre ++ mkR k (flat gs) ++ post) ∧ Wrt (BlkOf (flat gs)) w w') := by
  have hm := sl_len hS.sp0.sl
  simp only [List.length_map] at hm
  have hsl := hS.sp0.sl
  have hlen := hsl.toLen
  refine enter (args := [v, .int .i64 k]) (l := [.tmp 4]) Tryz.func13 rfl rfl Tryz.ntmps13 (by simp) ?_
  refine go ?_
  refine r_for gs.length (fun i ρ w' => Has ρ [(0, v), (1, .int .i64 (k + tot ((flat (gs.take i)).map (·.2)))), (5, .int .i64 i)] ∧ RowsO s w' (pre ++ (mkR k (flat (gs.take i)) ++ flat (gs.drop i)) ++ post) ∧ Wrt (BlkOf (flat gs)) w w') ?_ ?_
  · refine ⟨?_, by simpa [mkR, flat] using hO, .refl _⟩
    have e : ((flat (gs.take 0)).map (·.2)) = [] := rfl
    rw [e]
    simp only [tot]
    exact hasP
  clear hO hsl hlen
  rintro i ρ w2 hi ⟨hH, hO2, hW2⟩
  refine rwp_has hH fun ρ0 => ?_
  have hS2 := hS.wr hW2 hA
  have hsl2 := hS2.sp0.sl
  have hlen2 := hsl2.toLen
  have hll : (gs.map (·.1)).length = gs.length := by simp
  have ht0 : ∀ j, tot ((flat (gs.take j)).map (·.2)) ≤ tot ((flat gs).map (·.2)) := fun j => by
    have e : flat gs = flat (gs.take j) ++ flat (gs.drop j) := by rw [← flat_append, List.take_append_drop]
    rw [e, List.map_append, tot_append]; omega
  have ht := ht0 i
  refine go ?_
  refine c_if (fun h4 => ?_) (fun h4 => ?_)
  · have hin : i < gs.length := by simp at h4; omega
    have e1 : Pc.rowAt v (gs.map (·.1)) i = gs[i].1 := by simp [Pc.rowAt, hin]
    have e2 : flat (gs.drop i) = gs[i].2 ++ flat (gs.drop (i + 1)) := by
      have e : gs.drop i = [gs[i]] ++ gs.drop (i + 1) := (List.getElem_cons_drop (h := hin)).symm
      rw [e, flat_append, flat_one]
    have e3 : flat (gs.take (i + 1)) = flat (gs.take i) ++ gs[i].2 := by rw [List.take_succ_eq_append_getElem hin, flat_append, flat_one]
    have hts : tot ((flat (gs.take (i + 1))).map (·.2)) = tot ((flat (gs.take i)).map (·.2)) + tot ((gs[i]).2.map (·.2)) := by rw [e3, List.map_append, tot_append]
    have ht2 := ht0 (i + 1)
    have hmem := List.getElem_mem hin
    have hO3 : RowsO s w2 ((pre ++ mkR k (flat (gs.take i))) ++ gs[i].2 ++ (flat (gs.drop (i + 1)) ++ post)) := by
      rw [e2] at hO2
      simpa only [List.append_assoc] using hO2
    refine go ?_
    refine ra (v := Pc.rowAt v (gs.map fun x : Value × List (Value × List Int) => x.1) i) (h := rd_load_sl (us := gs.map fun x : Value × List (Value × List Int) => x.1) (by ((try simp only [ev_tmp, ev_const, ev_func, get_put, get_args, get_putL, get_putL_nil, Nat.reduceEqDiff, reduceIte, List.getD_cons_zero, List.getD_cons_succ, List.getD_nil]); first | done | with_reducible rfl)) (by omega)) (next := ?_)
    rw [e1]
    refine go ?_
    refine rc (markInt64SS_ok hO3 (hS2.sp _ hmem) (fun b hb => hA b (flat_blk hmem hb)) ?_ ?_) (next := fun v3 w3 h3 => ?_)
    · omega
    · omega
    obtain ⟨rfl, hO4, hW3⟩ := h3
    refine go ?_
    refine forQ_normal (by omega) ⟨?_, ?_, hW2.trans (hW3.mono fun b hb => flat_blk hmem hb)⟩
    · exact hasP
    · rw [e3, mkR_append]
      simpa only [List.append_assoc] using hO4
  · refine go ?_
    obtain rfl : i = gs.length := by simp at h4; omega
    rw [List.take_length] at hO2 ⊢
    exact ret1 ⟨rfl, by simpa [flat] using hO2, hW2⟩
set_option maxHeartbeats 1000000 in
/-- Marks on a presentation that is the call's own. -/
theorem markPresentation_ok {s t : Nat} {w : World} {v : Value} {p : Pr} {k : Int} (hP : PresO s t w v p) (hk : 0 ≤ k) (hb : k + totP p ≤ 9000000000000000000) :
    Calls Tryz.prog 12 #[v, .int .i64 k] w (Ret fun v' w' => v' = .int .i64 (k + totP p) ∧ Wrt (fun b => s ≤ b ∧ b < t) w w') := by
  obtain ⟨vo, vp, vc, rp, gs, rfl, hO, hlt, hsp, hcub, hpow, hcnj, _, _, _⟩ := hP.ex
  have hA : ∀ b, BlkOf ((vo, p.ord) :: (rp ++ flat gs)) b → s ≤ b ∧ b < t := fun b hb => ⟨(hO.blk hb).1, hlt b hb⟩
  have e1 : totP p = p.ord.length + (tot (rp.map (·.2)) + tot ((flat gs).map (·.2))) := by rw [flat_tot, ← hpow, ← hcnj]; rfl
  refine enter (args := [.agg #[vo, vp, vc], .int .i64 k]) (l := [.tmp 4]) Tryz.func12 rfl rfl Tryz.ntmps12 (by simp) ?_
  refine go ?_
  refine st_box3 (by ((try simp only [ev_tmp, ev_const, ev_func, get_put, get_args, get_putL, get_putL_nil, Nat.reduceEqDiff, reduceIte, List.getD_cons_zero, List.getD_cons_succ, List.getD_nil]); first | done | with_reducible rfl)) (by first | exact True.intro | exact ⟨_, rfl, by ((try simp only [ev_tmp, ev_const, ev_func, get_put, get_args, get_putL, get_putL_nil, Nat.reduceEqDiff, reduceIte, List.getD_cons_zero, List.getD_cons_succ, List.getD_nil, Bool.not_true, Bool.not_false]); first | done | with_reducible rfl)⟩) fun w1 b he1 hb1 hs1 hc0 hc1 hc2 => ?_
  have hO1 := hO.ext he1
  have hB1 : ∀ g, BlkOf ((vo, p.ord) :: (rp ++ flat gs)) g → g ≠ b := fun g hg e => by have := (hO.blk hg).2; omega
  have hcell : ∀ {w2 : World} {j : Nat} {u : Value}, Cell w1 b j u → Wrt (BlkOf ((vo, p.ord) :: (rp ++ flat gs))) w1 w2 → Cell w2 b j u := fun h k => h.same (k.same fun g hg => by have := hB1 g hg; omega) k.size
  have hfr : Fr s w1 vo p.ord := hO1.fr _ List.mem_cons_self
  refine go ?_
  refine rc (markInt64S_ok hfr hk ?_) (next := fun v2 w2 h2 => ?_)
  · omega
  obtain ⟨rfl, hf2, hW2⟩ := h2
  have hW2' : Wrt (BlkOf ((vo, p.ord) :: (rp ++ flat gs))) w1 w2 := hW2.mono fun g ⟨hn, e⟩ => ⟨_, List.mem_cons_self, hn, e⟩
  have hO2 : RowsO s w2 ([] ++ (vo, marks k p.ord.length) :: (rp ++ flat gs)) := RowsO.upd (pre := []) (by simpa using hO1) hW2 hf2 marks_ne.1
  have hc0' := hcell hc0 hW2'
  have hc1' := hcell hc1 hW2'
  have hc2' := hcell hc2 hW2'
  have hO2' : RowsO s w2 (([(vo, marks k p.ord.length)]) ++ rp ++ flat gs) := by simpa using hO2
  have hsp2 := (SpA.grow hsp he1 (fun g hg => .inl hg)).wr hW2' (fun g hg => hg)
  refine go ?_
  refine rc (markInt64SS_ok hO2' hsp2 (fun g hg => ?_) ?_ ?_) (next := fun v3 w3 h3 => ?_)
  · obtain ⟨r, h1, h2⟩ := hg
    exact ⟨r, List.mem_cons_of_mem _ (List.mem_append_left _ h1), h2⟩
  · omega
  · omega
  obtain ⟨rfl, hO3, hW3⟩ := h3
  have hW3' : Wrt (BlkOf ((vo, p.ord) :: (rp ++ flat gs))) w2 w3 := hW3.mono fun g ⟨r, h1, h2⟩ => ⟨r, List.mem_cons_of_mem _ (List.mem_append_left _ h1), h2⟩
  have hc2'' := hcell hc2 (hW2'.trans hW3')
  have hO3' : RowsO s w3 (([(vo, marks k p.ord.length)] ++ mkR (k + p.ord.length) rp) ++ flat gs ++ []) := by simpa using hO3
  have hcub3 : CubO (BlkOf ((vo, p.ord) :: (rp ++ flat gs))) w3 vc gs := CubO.wr ⟨(SpA.grow hcub.sp0 he1 (fun g hg => .inl hg)).wr hW2' (fun g hg => hg), fun q hq => (SpA.grow (hcub.sp q hq) he1 (fun g hg => .inl hg)).wr hW2' (fun g hg => hg)⟩ hW3' (fun g hg => hg)
  clear hc0' hc1' hc2'
  refine go ?_
  refine rc (markInt64SSS_ok hO3' hcub3 (fun g hg => ?_) ?_ ?_) (next := fun v4 w4 h4 => ?_)
  · obtain ⟨r, h1, h2⟩ := hg
    exact ⟨r, List.mem_cons_of_mem _ (List.mem_append_right _ h1), h2⟩
  · omega
  · omega
  obtain ⟨rfl, hO4, hW4⟩ := h4
  refine go ?_
  refine ret1 ⟨?_, ?_⟩
  · rw [e1]
    exact int_congr (by omega)
  · refine (Wrt.ofExt he1).trans ((hW2'.mono hA).trans ((hW3'.mono hA).trans (hW4.mono fun g hg => hA g ?_)))
    obtain ⟨r, h1, h2⟩ := hg
    exact ⟨r, List.mem_cons_of_mem _ (List.mem_append_right _ h1), h2⟩
end Go.Proofs.YtgomfjhhfmhlgaaGreat

/-
  Walk: a copy of a presentation that is the call's own (toPresentation).
  Conditions: stated at the theorem.
-/
namespace Go.Proofs.YtgomfjhhfmhlgaaGreat
open Go Go.Pc
theorem rd_neqb {ρ : Env} {w : World} {ty tt : TypeId} {x y : Operand} {a b : Bool} (h : ev ρ x = .bool a) (k : ev ρ y = .bool b) : Rd Tryz.prog (.binOp .neq 4 x y tt) ty ρ w (.bool (!(a == b))) := by
  constructor; intro _ _ _ _
  simp [execOp, h, k, eqGuard, binOp, run_equal_bool w 4 a b Tryz.underlying4]
theorem rd_neqb_same {ρ : Env} {w : World} {ty tt : TypeId} {x y : Operand} {a : Bool} (h : ev ρ x = .bool a) (k : ev ρ y = .bool a) : Rd Tryz.prog (.binOp .neq 4 x y tt) ty ρ w (.bool false) := by
  have := rd_neqb (w := w) (ty := ty) (tt := tt) h k
  simpa using this
set_option maxHeartbeats 2000000 in
theorem toPresentationO_ok {w : World} {v : Value} {p : Pr} {lo hi : Nat} [hp : Pres lo hi w v p] (hs : SizeP p 2000000) :
    Calls Tryz.prog 8 #[v] w (Ret fun v w' => Ext w w' ∧ PresO w.heap.size w'.heap.size w' v p) := by
  have hs1 := hs.ord
  have hs2 := hs.pow
  have hs3 := hs.cnj
  obtain ⟨vo, vpw, vc, ps, cs, css, rfl, h1, h2, h3⟩ := hp.ex
  refine enter (args := [.agg #[vo, vpw, vc]]) (l := [.cell 2 30]) Tryz.func8 rfl rfl Tryz.ntmps8 (by simp) ?_
  refine go ?_
  refine st_box3 (by ((try simp only [ev_tmp, ev_const, ev_func, get_put, get_args, get_putL, get_putL_nil, Nat.reduceEqDiff, reduceIte, List.getD_cons_zero, List.getD_cons_succ, List.getD_nil]); first | done | with_reducible rfl)) (by first | exact True.intro | exact ⟨_, rfl, by ((try simp only [ev_tmp, ev_const, ev_func, get_put, get_args, get_putL, get_putL_nil, Nat.reduceEqDiff, reduceIte, List.getD_cons_zero, List.getD_cons_succ, List.getD_nil, Bool.not_true, Bool.not_false]); first | done | with_reducible rfl)⟩) fun w1 b he1 hb1 hsz1 hc0 hc1 hc2 => ?_
  refine go ?_
  refine st_alloc (by first | exact True.intro | exact ⟨_, rfl, by ((try simp only [ev_tmp, ev_const, ev_func, get_put, get_args, get_putL, get_putL_nil, Nat.reduceEqDiff, reduceIte, List.getD_cons_zero, List.getD_cons_succ, List.getD_nil, Bool.not_true, Bool.not_false]); first | done | with_reducible rfl)⟩) fun w2 br he2 hbr hsz2 hbk2 => ?_
  refine go ?_
  refine st_alloc (by first | exact True.intro | exact ⟨_, rfl, by ((try simp only [ev_tmp, ev_const, ev_func, get_put, get_args, get_putL, get_putL_nil, Nat.reduceEqDiff, reduceIte, List.getD_cons_zero, List.getD_cons_succ, List.getD_nil, Bool.not_true, Bool.not_false]); first | done | with_reducible rfl)⟩) fun w3 bo he3 hbo hsz3 hbk3 => ?_
  have hE3 := (he1.trans he2).trans he3
  refine go ?_
  refine rc (toInt64S_ok (xs := p.ord) (by omega)) (next := fun v4 w4 h4 => ?_)
  obtain ⟨he4, hf4⟩ := h4
  have hb4 : Blk w4 bo _ := Blk.ext (h := hbk3)
  have hz4 := he4.size
  refine go ?_
  refine st_store_fld (h := hb4) (by ((try simp only [ev_tmp, ev_const, ev_func, get_put, get_args, get_putL, get_putL_nil, Nat.reduceEqDiff, reduceIte, List.getD_cons_zero, List.getD_cons_succ, List.getD_nil]); first | done | with_reducible rfl)) (by ((try simp only [ev_tmp, ev_const, ev_func, get_put, get_args, get_putL, get_putL_nil, Nat.reduceEqDiff, reduceIte, List.getD_cons_zero, List.getD_cons_succ, List.getD_nil]); first | done | with_reducible rfl)) ?_ ?_ (by first | exact True.intro | exact ⟨_, rfl, by ((try simp only [ev_tmp, ev_const, ev_func, get_put, get_args, get_putL, get_putL_nil, Nat.reduceEqDiff, reduceIte, List.getD_cons_zero, List.getD_cons_succ, List.getD_nil, Bool.not_true, Bool.not_false]); first | done | with_reducible rfl)⟩) fun w5 hc5 hs5 hb5 => ?_
  · exact hf4.ints.sl.one
  · simp
  have hE15 : Ext w1 w5 := hc5.ext ((he2.trans he3).trans he4) (by have := he2.size; omega)
  have hz15 := hE15.size
  have hz2 := he2.size
  have hi5 : Ints w3.heap.size w4.heap.size w5 v4 p.ord := hf4.ints.same (hc5.same (.inl (by omega)))
  have hr5 : Blk w5 br _ := (Blk.ext (x := he3.trans he4) (h := hbk2)).chg' hc5 (by omega)
  have hO4 : RowsO w3.heap.size w4 [(v4, p.ord)] := (RowsO.nil w3.heap.size w3).push he4 (Nat.le_refl _) hf4
  have hO5 : RowsO w3.heap.size w5 [(v4, p.ord)] := hO4.wr (.one (B := fun g => g = bo) rfl hc5) (fun g hg e => by have := (hO4.blk hg).1; omega)
  refine go ?_
  refine rc (toInt64SSM_ok (xss := p.pow) (by omega) (fun i => by have := hs.powi i; omega)) (next := fun v6 w6 h6 => ?_)
  obtain ⟨he6, rp, hrp, hM6⟩ := h6
  have hN6 := hM6.rows
  have hb6 : Blk w6 bo _ := Blk.ext (h := hb5)
  have hz6 := he6.size
  refine go ?_
  refine st_store_fld (h := hb6) (by ((try simp only [ev_tmp, ev_const, ev_func, get_put, get_args, get_putL, get_putL_nil, Nat.reduceEqDiff, reduceIte, List.getD_cons_zero, List.getD_cons_succ, List.getD_nil]); first | done | with_reducible rfl)) (by ((try simp only [ev_tmp, ev_const, ev_func, get_put, get_args, get_putL, get_putL_nil, Nat.reduceEqDiff, reduceIte, List.getD_cons_zero, List.getD_cons_succ, List.getD_nil]); first | done | with_reducible rfl)) ?_ ?_ (by first | exact True.intro | exact ⟨_, rfl, by ((try simp only [ev_tmp, ev_const, ev_func, get_put, get_args, get_putL, get_putL_nil, Nat.reduceEqDiff, reduceIte, List.getD_cons_zero, List.getD_cons_succ, List.getD_nil, Bool.not_true, Bool.not_false]); first | done | with_reducible rfl)⟩) fun w7 hc7 hs7 hb7 => ?_
  · exact hN6.sl.one
  · simp
  have hE17 : Ext w1 w7 := hc7.ext (hE15.trans he6) (by omega)
  have hi7 : Ints w3.heap.size w4.heap.size w7 v4 p.ord := (hi5.same (he6.same _ _)).same (hc7.same (.inl (by omega)))
  have hM7 := hM6.wr (.one (B := fun g => g = bo) rfl hc7) (fun g hg => .inl (by omega))
  have hp7 := hM7.rows
  have hr7 : Blk w7 br _ := (Blk.ext (x := he6) (h := hr5)).chg' hc7 (by omega)
  have hO6 := hO5.append he6 (by omega) hM6.own
  have hO7 := hO6.wr (.one (B := fun g => g = bo) rfl hc7) (fun g hg e => by have := (hO6.blk hg).1; omega)
  refine go ?_
  refine rc (toInt64SSSO_ok (xsss := p.cnj) (by omega) (fun i => ⟨by have := hs.cnji i; omega, fun j => by have := hs.cnjij i j; omega⟩)) (next := fun v8 w8 h8 => ?_)
  obtain ⟨he8, gs, hgs, hOg, hCu, hR8⟩ := h8
  have hb8 : Blk w8 bo _ := Blk.ext (h := hb7)
  have hz8 := he8.size
  have hO8 := hO7.append he8 (by omega) hOg
  have hAll : ∀ g, BlkOf ([(v4, p.ord)] ++ rp ++ flat gs) g → (w3.heap.size ≤ g ∧ g < w5.heap.size) ∨ BlkOf rp g ∨ w7.heap.size ≤ g := fun g hg => by
    rcases blkOf_append'.1 hg with hg | hg
    · rcases blkOf_append'.1 hg with hg | hg
      · exact .inl (hO5.blk hg)
      · exact .inr (.inl hg)
    · exact .inr (.inr (hOg.blk hg).1)
  have hsp8 : SpA (fun g => BlkOf ([(v4, p.ord)] ++ rp ++ flat gs) g ∨ g < w3.heap.size) w8 v6 (rp.map (·.1)) := hM7.sp.grow he8 fun g hg => by
    rcases hg with hg | hg
    · rcases hAll g hg with h | h | h
      · exact .inl (.inr h.2)
      · exact .inl (.inl h)
      · exact .inr h
    · exact .inl (.inr (by omega))
  have hcu8 : CubO (fun g => BlkOf ([(v4, p.ord)] ++ rp ++ flat gs) g ∨ g < w3.heap.size) w8 v8 gs := by
    have hA : ∀ g, (BlkOf ([(v4, p.ord)] ++ rp ++ flat gs) g ∨ g < w3.heap.size) → BlkOf (flat gs) g ∨ g < w7.heap.size := fun g hg => by
      rcases hg with hg | hg
      · rcases blkOf_append'.1 hg with hg | hg
        · have := (hO7.blk hg).2; exact .inr this
        · exact .inl hg
      · exact .inr (by omega)
    exact ⟨hCu.sp0.weak hA, fun q hq => (hCu.sp q hq).weak hA⟩
  refine go ?_
  refine st_store_fld (h := hb8) (by ((try simp only [ev_tmp, ev_const, ev_func, get_put, get_args, get_putL, get_putL_nil, Nat.reduceEqDiff, reduceIte, List.getD_cons_zero, List.getD_cons_succ, List.getD_nil]); first | done | with_reducible rfl)) (by ((try simp only [ev_tmp, ev_const, ev_func, get_put, get_args, get_putL, get_putL_nil, Nat.reduceEqDiff, reduceIte, List.getD_cons_zero, List.getD_cons_succ, List.getD_nil]); first | done | with_reducible rfl)) ?_ ?_ (by first | exact True.intro | exact ⟨_, rfl, by ((try simp only [ev_tmp, ev_const, ev_func, get_put, get_args, get_putL, get_putL_nil, Nat.reduceEqDiff, reduceIte, List.getD_cons_zero, List.getD_cons_succ, List.getD_nil, Bool.not_true, Bool.not_false]); first | done | with_reducible rfl)⟩) fun w9 hc9 hs9 hb9 => ?_
  · exact hR8.sl.one
  · simp
  have hE19 : Ext w1 w9 := hc9.ext (hE17.trans he8) (by omega)
  have hi9 : Ints w3.heap.size w4.heap.size w9 v4 p.ord := (hi7.same (he8.same _ _)).same (hc9.same (.inl (by omega)))
  have hp9 := (hp7.same (he8.same _ _)).same (hc9.same (.inl (by omega)))
  have hq9 := hR8.same (hc9.same (.inl (by omega)))
  have hr9 : Blk w9 br _ := (Blk.ext (x := he8) (h := hr7)).chg' hc9 (by omega)
  refine go ?_
  have hb9' : Blk w9 bo [v4, v6, v8] := hb9
  refine ra (v := .agg #[v4, v6, v8]) (h := rd_load_blk (hb := hb9') (by ((try simp only [ev_tmp, ev_const, ev_func, get_put, get_args, get_putL, get_putL_nil, Nat.reduceEqDiff, reduceIte, List.getD_cons_zero, List.getD_cons_succ, List.getD_nil]); first | done | with_reducible rfl)) rfl) (next := ?_)
  refine st_store_agg (vs := [v4, v6, v8]) (cs := _) (hb := hr9) (by ((try simp only [ev_tmp, ev_const, ev_func, get_put, get_args, get_putL, get_putL_nil, Nat.reduceEqDiff, reduceIte, List.getD_cons_zero, List.getD_cons_succ, List.getD_nil]); first | done | with_reducible rfl)) (by ((try simp only [ev_tmp, ev_const, ev_func, get_put, get_args, get_putL, get_putL_nil, Nat.reduceEqDiff, reduceIte, List.getD_cons_zero, List.getD_cons_succ, List.getD_nil]); first | done | with_reducible rfl)) rfl ?_ ?_ (by first | exact True.intro | exact ⟨_, rfl, by ((try simp only [ev_tmp, ev_const, ev_func, get_put, get_args, get_putL, get_putL_nil, Nat.reduceEqDiff, reduceIte, List.getD_cons_zero, List.getD_cons_succ, List.getD_nil, Bool.not_true, Bool.not_false]); first | done | with_reducible rfl)⟩) fun w10 hc10 hs10 hb10 => ?_
  · rfl
  · have e1 := hi9.sl.one
    have e2 := hp9.sl.one
    have e3 := hq9.sl.one
    simp [e1, e2, e3]
  have hW10 : Wrt (fun g => g = bo ∨ g = br) w8 w10 := (Wrt.one (.inl rfl) hc9).trans (.one (.inr rfl) hc10)
  have hO10 := hO8.wr hW10 (fun g hg e => by have := (hO8.blk hg).1; omega)
  have hlow : ∀ g, (g = bo ∨ g = br) → BlkOf ([(v4, p.ord)] ++ rp ++ flat gs) g ∨ g < w3.heap.size := fun g hg => .inr (by omega)
  refine go ?_
  refine retc (b := br) (hb := hb10) ⟨hc10.ext (he1.trans hE19) (by omega), ?_⟩ rfl
  have hi10 := (hi9.same (hc10.same (.inl (by omega)))).mono (lo' := w.heap.size) (hi' := w10.heap.size) (by omega) (by omega)
  have hp10 := (hp9.same (hc10.same (.inl (by omega)))).mono (lo' := w.heap.size) (hi' := w10.heap.size) (by omega) (by omega)
  have hq10 := rowss_mono (lo' := w.heap.size) (hi' := w10.heap.size) (hq9.same (hc10.same (.inl (by omega)))) (by omega) (by omega)
  have e : (v4, p.ord) :: (rp ++ flat gs) = [(v4, p.ord)] ++ rp ++ flat gs := by simp
  rw [hgs] at hq10
  refine ⟨v4, v6, v8, rp, gs, rfl, ?_, ?_, ?_, ?_, hrp, hgs, hi10, hp10, hq10⟩ <;> rw [e]
  · exact hO10.mono (by omega)
  · exact fun g hg => (hO10.blk hg).2
  · exact (hsp8.wr hW10 hlow).weak fun g hg => .inl hg
  · exact ⟨(hcu8.sp0.wr hW10 hlow).weak fun g hg => .inl hg, fun q hq => ((hcu8.sp q hq).wr hW10 hlow).weak fun g hg => .inl hg⟩
/-- The number of integers of a presentation of bounded sizes. -/
theorem totP_le {p : Pr} (hs : SizeP p 1048576) : totP p ≤ 1048576 + (1048576 * 1048576 + 1048576 * (1048576 * 1048576)) := by
  have h1 := hs.ord
  have h2 := hs.pow
  have h3 := hs.cnj
  have e2 : tot p.pow ≤ p.pow.length * 1048576 := tot_le _ fun x hx => by
    obtain ⟨i, hi, rfl⟩ := List.getElem_of_mem hx
    have := hs.powi i
    simp only [List.getD_eq_getElem?_getD, List.getElem?_eq_getElem hi, Option.getD_some] at this
    omega
  have e3 : tot p.cnj.flatten ≤ p.cnj.length * (1048576 * 1048576) := tot_flatten _ fun x hx => by
    obtain ⟨i, hi, rfl⟩ := List.getElem_of_mem hx
    have h4 := hs.cnji i
    simp only [List.getD_eq_getElem?_getD, List.getElem?_eq_getElem hi, Option.getD_some] at h4
    refine ⟨by omega, fun y hy => ?_⟩
    obtain ⟨j, hj, rfl⟩ := List.getElem_of_mem hy
    have h5 := hs.cnjij i j
    simp only [List.getD_eq_getElem?_getD, List.getElem?_eq_getElem hi, Option.getD_some, List.getElem?_eq_getElem hj] at h5
    omega
  unfold totP
  omega
theorem SizeP.mono {p : Pr} {k j : Int} (h : SizeP p k) (hkj : k ≤ j) : SizeP p j :=
  ⟨by have := h.ord; omega, by have := h.pow; omega, fun i => by have := h.powi i; omega, by have := h.cnj; omega, fun i => by have := h.cnji i; omega, fun i j => by have := h.cnjij i j; omega⟩
theorem tot_rows_le {xss : List (List Int)} {n : Nat} (hl : xss.length ≤ n) (hr : ∀ i, (xss.getD i []).length ≤ n) : tot xss ≤ n * n :=
  Nat.le_trans (tot_le xss fun x hx => by
    obtain ⟨i, hi, rfl⟩ := List.getElem_of_mem hx
    have := hr i
    simpa [hi] using this) (Nat.mul_le_mul_right _ hl)
end Go.Proofs.YtgomfjhhfmhlgaaGreat

/-
  Walks: the check of marks on lists of lists of lists (heldInt64SSS); sizes of series.
  Conditions: stated at each theorem.
-/
namespace Go.Proofs.YtgomfjhhfmhlgaaGreat
open Go Go.Pc
def markC (k : Int) : List (List (List Int)) → List (List (List Int))
  | [] => []
  | x :: l => markL k x :: markC (k + tot x) l
def mkC (k : Int) : List (Value × List (Value × List Int)) → List (Value × List (Value × List Int))
  | [] => []
  | q :: l => (q.1, mkR k q.2) :: mkC (k + tot (q.2.map (·.2))) l
theorem mkC_fst : ∀ (gs : List (Value × List (Value × List Int))) (k : Int), (mkC k gs).map (·.1) = gs.map (·.1)
  | [], _ => rfl
  | q :: l, k => by simp [mkC, mkC_fst l]
theorem mkC_mid : ∀ (gs : List (Value × List (Value × List Int))) (k : Int), ((mkC k gs).map fun q => q.2.map (·.1)) = gs.map fun q => q.2.map (·.1)
  | [], _ => rfl
  | q :: l, k => by
    show (mkR k q.2).map (·.1) :: ((mkC (k + tot (q.2.map (·.2))) l).map fun q => q.2.map (·.1)) = _
    rw [mkR_fst, mkC_mid l]; rfl
theorem mkC_snd : ∀ (gs : List (Value × List (Value × List Int))) (k : Int), ((mkC k gs).map fun q => q.2.map (·.2)) = markC k (gs.map fun q => q.2.map (·.2))
  | [], _ => rfl
  | q :: l, k => by
    show (mkR k q.2).map (·.2) :: ((mkC (k + tot (q.2.map (·.2))) l).map fun q => q.2.map (·.2)) = _
    rw [mkR_snd, mkC_snd l]; rfl
theorem flat_cons (q : Value × List (Value × List Int)) (l : List (Value × List (Value × List Int))) : flat (q :: l) = q.2 ++ flat l := by simp [flat]
theorem flat_mkC : ∀ (gs : List (Value × List (Value × List Int))) (k : Int), flat (mkC k gs) = mkR k (flat gs)
  | [], _ => rfl
  | q :: l, k => by
    rw [flat_cons, mkR_append, ← flat_mkC l]
    show flat ((q.1, mkR k q.2) :: mkC (k + tot (q.2.map (·.2))) l) = _
    rw [flat_cons]
theorem markC_len : ∀ (l : List (List (List Int))) (k : Int), (markC k l).length = l.length
  | [], _ => rfl
  | x :: l, k => by simp [markC, markC_len l]
theorem markC_getD : ∀ (l : List (List (List Int))) (k : Int) (i : Nat), i < l.length → (markC k l).getD i [] = markL (k + tot (l.take i).flatten) (l.getD i [])
  | [], _, _, h => by simp at h
  | x :: l, k, 0, _ => by simp [markC, tot]
  | x :: l, k, i + 1, h => by
    have := markC_getD l (k + tot x) i (by simpa using h)
    simp only [markC, List.getD_cons_succ, this, List.take_succ_cons, List.flatten_cons, tot_append]
    rw [Int.add_assoc]; simp
theorem tot_takeF_le (l : List (List (List Int))) (k : Nat) : tot (l.take k).flatten ≤ tot l.flatten := by
  have e : l.flatten = (l.take k).flatten ++ (l.drop k).flatten := by rw [← List.flatten_append, List.take_append_drop]
  rw [e, tot_append]; omega
theorem tot_takeF_succ (l : List (List (List Int))) {k : Nat} (hk : k < l.length) : tot (l.take (k + 1)).flatten = tot (l.take k).flatten + tot (l.getD k []) := by
  rw [List.take_succ_eq_append_getElem hk, List.flatten_append, tot_append]
  simp [hk]
theorem mkC_mem {gs : List (Value × List (Value × List Int))} {k : Int} {q : Value × List (Value × List Int)} (hq : q ∈ mkC k gs) : ∃ q', q' ∈ gs ∧ q.1 = q'.1 ∧ q.2.map (·.1) = q'.2.map (·.1) := by
  induction gs generalizing k with
  | nil => cases hq
  | cons g l ih =>
    rcases List.mem_cons.1 hq with rfl | hq
    · exact ⟨g, List.mem_cons_self, rfl, mkR_fst _ _⟩
    · obtain ⟨q', h1, h2⟩ := ih hq
      exact ⟨q', List.mem_cons_of_mem _ h1, h2⟩
theorem RowsO.ofFlat {s : Nat} {w : World} {gs : List (Value × List (Value × List Int))} (h : RowsO s w (flat gs)) {q : Value × List (Value × List Int)} (hq : q ∈ gs) : RowsO s w q.2 := by
  have hs : List.Sublist q.2 (flat gs) := List.sublist_flatten_of_mem (List.mem_map.2 ⟨q, hq, rfl⟩)
  exact ⟨fun r hr => h.fr r (hs.subset hr), h.sep.sublist hs⟩
theorem matC_mk {s t : Nat} {w w' : World} {v : Value} {k : Int} {gs : List (Value × List (Value × List Int))} (h : MatC s t w v gs) (hO : RowsO s w' (mkR k (flat gs))) (hW : Wrt (BlkOf (flat gs)) w w') :
    Rowss 0 w'.heap.size w' v (gs.map (·.1)) (gs.map fun q => q.2.map (·.1)) (markC k (gs.map fun q => q.2.map (·.2))) := by
  have hC := h.cub.wr hW (fun b hb => .inl hb)
  rw [← flat_mkC] at hO
  rw [← mkC_fst gs k, ← mkC_mid gs k, ← mkC_snd gs k]
  refine rowss_of_cub (A := fun _ => True) (s := 0) ?_ (Nat.zero_le _) fun q hq => ?_
  · rw [mkC_fst]; exact hC.sp0.sl
  · obtain ⟨q', h1, h2, h3⟩ := mkC_mem hq
    refine (RowsO.ofFlat hO hq).rows (v := q.1) ?_
    rw [h2, h3]
    exact (hC.sp _ h1).sl
set_option maxHeartbeats 1000000 in
theorem heldInt64SSS_ok {w : World} {v : Value} {k : Int} {lo hi : Nat} {us : List Value} {uss : List (List Value)} {xsss ysss : List (List (List Int))} [hx : Rowss lo hi w v us uss xsss] (hxs : xsss = markC k ysss) (hk : 0 ≤ k) (hb : k + tot ysss.flatten ≤ 9000000000000000000) :
    Calls Tryz.prog 14 #[v, .int .i64 k] w (Ret fun v' w' => v' = .int .i64 (k + tot ysss.flatten) ∧ Ext w w') := by
  have hl : xsss.length = ysss.length := by rw [hxs, markC_len]
  have hul := hx.vals.len
  have hm := sl_len hx.sl
  have hg : ∀ i, i < ysss.length → xsss.getD i [] = markL (k + tot (ysss.take i).flatten) (ysss.getD i []) := fun i hi => by rw [hxs, markC_getD _ _ _ hi]
  refine enter (args := [v, .int .i64 k]) (l := [.tmp 4]) Tryz.func14 rfl rfl Tryz.ntmps14 (by simp) ?_
  refine go ?_
  refine r_for ysss.length (fun i ρ w' => Has ρ [(0, v), (1, .int .i64 (k + tot (ysss.take i).flatten)), (5, .int .i64 i)] ∧ Ext w w') ?_ ?_
  · refine ⟨?_, Ext.refl _⟩
    simp only [List.take_zero, List.flatten_nil, tot]
    exact hasP
  rintro i ρ w2 hi ⟨hH, he2⟩
  refine rwp_has hH fun ρ0 => ?_
  have ht := tot_takeF_le ysss i
  refine go ?_
  refine c_if (fun h4 => ?_) (fun h4 => ?_)
  · have hin : i < ysss.length := by omega
    have hts := tot_takeF_succ ysss hin
    have ht2 := tot_takeF_le ysss (i + 1)
    refine go ?_
    refine rc (heldInt64SS_ok (xss := xsss.getD i []) (yss := ysss.getD i []) (hg i hin) ?_ ?_) (next := fun v3 w3 h3 => ?_)
    · omega
    · omega
    obtain ⟨rfl, he3⟩ := h3
    refine go ?_
    refine c_if (fun h5 => ?_) (fun h5 => ?_)
    · omega
    · refine go ?_
      refine forQ_normal (by omega) ⟨?_, he2.trans he3⟩
      exact hasP
  · refine go ?_
    obtain rfl : i = ysss.length := by omega
    refine ret1 ⟨?_, he2⟩
    rw [List.take_length]
/-- Sizes of a series. -/
theorem sz3 {r : List (List (List Int))} (h : r.length ≤ 7) (h2 : ∀ x, x ∈ r → x.length ≤ 6 ∧ ∀ y, y ∈ x → y.length ≤ 6) : r.length ≤ 2000000 ∧ (∀ i, (r.getD i []).length ≤ 2000000 ∧ ∀ j, ((r.getD i []).getD j []).length ≤ 2000000) ∧ tot r.flatten ≤ 4000000000000 := by
  refine ⟨by omega, fun i => ?_, ?_⟩
  · by_cases hi : i < r.length
    · have e : r.getD i [] = r[i] := by simp [hi]
      have h3 := h2 _ (List.getElem_mem hi)
      rw [e]
      refine ⟨by omega, fun j => ?_⟩
      by_cases hj : j < (r[i]).length
      · have e2 : (r[i]).getD j [] = (r[i])[j] := by simp [hj]
        have := h3.2 _ (List.getElem_mem hj)
        rw [e2]; omega
      · rw [List.getD_eq_getElem?_getD, List.getElem?_eq_none (by omega)]; simp
    · have e : r.getD i [] = [] := by rw [List.getD_eq_getElem?_getD, List.getElem?_eq_none (by omega)]; rfl
      rw [e]; simp
  · have h3 := tot_flatten (n := 6) r fun x hx => h2 x hx
    have : r.length * (6 * 6) ≤ 7 * (6 * 6) := Nat.mul_le_mul_right _ h
    omega
theorem SrV.sz {p : Pr} {C : ConAll p → (List (El p) → List (El p)) × List (El p)} {r : List (List (List Int))} {e : Int} (h : SrV p C r e) (hS : ∀ c : ConAll p, SerOk (C c).1 (C c).2) : r.length ≤ 2000000 ∧ (∀ i, (r.getD i []).length ≤ 2000000 ∧ ∀ j, ((r.getD i []).getD j []).length ≤ 2000000) ∧ tot r.flatten ≤ 4000000000000 := by
  obtain ⟨c, K, hK, rfl, _⟩ := h
  have hn := c.valid.n6
  have hb := (hS c).bd K hK.2
  refine sz3 (by simp; omega) fun x hx => ?_
  obtain ⟨j, _, rfl⟩ := List.mem_map.1 hx
  have hl := ((hS c).seq j).len
  refine ⟨by simp; omega, fun y hy => ?_⟩
  obtain ⟨a, _, rfl⟩ := List.mem_map.1 hy
  rw [a.inr.len]; omega
theorem nil_sz3 : ([] : List (List (List Int))).length ≤ 2000000 ∧ (∀ i, (([] : List (List (List Int))).getD i []).length ≤ 2000000 ∧ ∀ j, ((([] : List (List (List Int))).getD i []).getD j []).length ≤ 2000000) ∧ tot ([] : List (List (List Int))).flatten ≤ 4000000000000 := sz3 (by simp) (by simp)
theorem DerivedSeries_sz0 {p : Pr} {r : List (List (List Int))} {e : Int} (_ : p.ord.length ≤ 2000000) (h : Ans (IsGrp p) (SrV p (DerC p)) [] r e) : r.length ≤ 2000000 ∧ (∀ i, (r.getD i []).length ≤ 2000000 ∧ ∀ j, ((r.getD i []).getD j []).length ≤ 2000000) ∧ tot r.flatten ≤ 4000000000000 := by
  rcases h with ⟨_, h⟩ | ⟨_, rfl, _⟩
  · exact h.sz fun c => serOk_der
  · exact nil_sz3
theorem LowerCentralSeries_sz0 {p : Pr} {r : List (List (List Int))} {e : Int} (_ : p.ord.length ≤ 2000000) (h : Ans (IsGrp p) (SrV p (LowC p)) [] r e) : r.length ≤ 2000000 ∧ (∀ i, (r.getD i []).length ≤ 2000000 ∧ ∀ j, ((r.getD i []).getD j []).length ≤ 2000000) ∧ tot r.flatten ≤ 4000000000000 := by
  rcases h with ⟨_, h⟩ | ⟨_, rfl, _⟩
  · exact h.sz fun c => serOk_low
  · exact nil_sz3
theorem UpperCentralSeries_sz0 {p : Pr} {r : List (List (List Int))} {e : Int} (_ : p.ord.length ≤ 2000000) (h : Ans (IsGrp p) (SrV p (UpC p)) [] r e) : r.length ≤ 2000000 ∧ (∀ i, (r.getD i []).length ≤ 2000000 ∧ ∀ j, ((r.getD i []).getD j []).length ≤ 2000000) ∧ tot r.flatten ≤ 4000000000000 := by
  rcases h with ⟨_, h⟩ | ⟨_, rfl, _⟩
  · exact h.sz fun c => serOk_up
  · exact nil_sz3
theorem LowerExponentSeries_sz0 {p : Pr} {q : Int} {r : List (List (List Int))} {e : Int} (_ : p.ord.length ≤ 2000000) (h : Ans (IsGrp p) (ExV p q) [] r e) : r.length ≤ 2000000 ∧ (∀ i, (r.getD i []).length ≤ 2000000 ∧ ∀ j, ((r.getD i []).getD j []).length ≤ 2000000) ∧ tot r.flatten ≤ 4000000000000 := by
  rcases h with ⟨_, ⟨_, rfl, _⟩ | ⟨hq, h⟩⟩ | ⟨_, rfl, _⟩
  · exact nil_sz3
  · exact h.sz fun c => serOk_exp (by rcases hq with e | e | e | e <;> omega)
  · exact nil_sz3
end Go.Proofs.YtgomfjhhfmhlgaaGreat

/-
  Arguments that read as slices of integers, slices of slices, slices of slices of slices: what the calculus knows of them.
  Conditions: none; nothing of the program stands here.
-/
namespace Go.Pc
open Go Go.RowKit Go.Deep Go.ChangeShapes Go.WideShapes
section
variable {H : Type} {enc : TypeId × Value → H} {P : Program} {w : World} {base : Nat} {held : Bool} {fuel : Nat} {v : Value} {x : DataW H × List MemPlace}
theorem ints_of_trod {t e : TypeId} (ht : P.underlying t = some (.slice e)) (he : P.underlying e = some (.int .i64)) (hc : P.cellsOf e = 1) (h : DataW.trod enc P w base (fun _ => true) held fuel t [v] = some x) : ∃ xs, Ints 0 w.heap.size w v xs := by
  rcases open_ints ht he hc h with ⟨hcs, _⟩ | ⟨a, len, cap, zs, hcs, _, hl, hm, hz, _, hcell, _⟩
  · have : v = nilv := by simpa using hcs
    subst this
    exact ⟨[], (Ints.nil_ w).mono (Nat.le_refl 0) (Nat.zero_le _)⟩
  · have : v = .slice (some a) len cap := by simpa using hcs
    subst this
    simp only [if_true] at hz
    have hlen : (zs.take len).length = len := by rw [List.length_take]; omega
    refine ⟨zs.take len, ⟨⟨some a, cap, by rw [List.length_map, hlen], by rw [List.length_map, hlen]; omega, by simp only [maxLen] at hm; omega, fun k u hu => ?_⟩⟩⟩
    rw [List.getElem?_map, List.getElem?_take] at hu
    split at hu
    · have hk : k < zs.length := by omega
      have hck := hcell k hk
      rw [List.getElem?_eq_getElem hk] at hu
      simp only [Option.map_some, Option.some.injEq] at hu
      have e : zs.getD k 0 = zs[k] := by simp [hk]
      rw [e, hu] at hck
      exact ⟨a, rfl, Nat.zero_le _, by have := block_lt hck; rwa [add_block] at this, hck⟩
    · cases hu
theorem sl_of {a : Addr} {len cap m : Nat} {V : Nat → Value} (hl : len ≤ cap) (hm : cap ≤ maxLen) (hlm : len ≤ m) (hx : ∀ i, i < m → w.cell? (a.add i) = some (V i)) : Sl 0 w.heap.size w (.slice (some a) len cap) ((List.range len).map V) := by
  refine ⟨⟨some a, cap, by simp, by simpa using hl, by simp only [maxLen] at hm; omega, fun k u hu => ?_⟩⟩
  rw [List.getElem?_map] at hu
  by_cases hk : k < len
  · rw [List.getElem?_range hk] at hu
    simp only [Option.map_some, Option.some.injEq] at hu
    have hck := hx k (by omega)
    rw [hu] at hck
    exact ⟨a, rfl, Nat.zero_le _, by have := block_lt hck; rwa [add_block] at this, hck⟩
  · rw [List.getElem?_eq_none (by simp; omega)] at hu; cases hu
theorem getD_map_range {α : Type} {n i : Nat} {f : Nat → α} {d : α} (h : i < n) : ((List.range n).map f).getD i d = f i := by simp [h]
theorem getD_map_range' {α : Type} {n i : Nat} {f : Nat → α} {d : α} (h : ¬ i < n) : ((List.range n).map f).getD i d = d := by
  rw [List.getD_eq_getElem?_getD, List.getElem?_eq_none (by simp; omega)]; rfl
theorem Rows.nil_ (w : World) : Rows 0 w.heap.size w nilv [] [] :=
  ⟨⟨⟨none, 0, rfl, Nat.le_refl _, by omega, fun k u hu => by simp at hu⟩⟩, rfl, fun i => by simpa using (Ints.nil_ w).mono (Nat.le_refl 0) (Nat.zero_le _)⟩
theorem rows_of_trod {t e q : TypeId} (ht : P.underlying t = some (.slice e)) (he : P.underlying e = some (.slice q)) (hq : P.underlying q = some (.int .i64)) (ce : P.cellsOf e = 1) (cq : P.cellsOf q = 1)
    (h : DataW.trod enc P w base (fun _ => true) held fuel t [v] = some x) : ∃ us xss, Rows 0 w.heap.size w v us xss := by
  rcases open_slice1 ht ce h with ⟨hcs, _⟩ | ⟨a, len, cap, m, n, V, D, Pl, hcs, _, hl, hm, hmm, _, hx⟩
  · have : v = nilv := by simpa using hcs
    subst this
    exact ⟨[], [], Rows.nil_ w⟩
  · have : v = .slice (some a) len cap := by simpa using hcs
    subst this
    simp only [if_true] at hmm
    have hlm : len ≤ m := by omega
    obtain ⟨X, hX⟩ := choose_lt (α := List Int) (n := len) (p := fun i xs => Ints 0 w.heap.size w (V i) xs) fun i hi => ints_of_trod he hq cq (hx i (by omega)).2
    refine ⟨(List.range len).map V, (List.range len).map X, sl_of hl hm hlm fun i hi => (hx i hi).1, by simp, fun i => ?_⟩
    by_cases hi : i < len
    · rw [getD_map_range hi, getD_map_range hi]; exact hX i hi
    · rw [getD_map_range' hi, getD_map_range' hi]; exact (Ints.nil_ w).mono (Nat.le_refl 0) (Nat.zero_le _)
theorem rowss_of_trod {t e q r : TypeId} (ht : P.underlying t = some (.slice e)) (he : P.underlying e = some (.slice q)) (hq : P.underlying q = some (.slice r)) (hr : P.underlying r = some (.int .i64)) (ce : P.cellsOf e = 1) (cq : P.cellsOf q = 1) (cr : P.cellsOf r = 1)
    (h : DataW.trod enc P w base (fun _ => true) held fuel t [v] = some x) : ∃ us uss xsss, Rowss 0 w.heap.size w v us uss xsss := by
  rcases open_slice1 ht ce h with ⟨hcs, _⟩ | ⟨a, len, cap, m, n, V, D, Pl, hcs, _, hl, hm, hmm, _, hx⟩
  · have : v = nilv := by simpa using hcs
    subst this
    exact ⟨[], [], [], ⟨⟨none, 0, rfl, Nat.le_refl _, by omega, fun k u hu => by simp at hu⟩⟩, rfl, rfl, fun i => by simpa using Rows.nil_ w⟩
  · have : v = .slice (some a) len cap := by simpa using hcs
    subst this
    simp only [if_true] at hmm
    have hlm : len ≤ m := by omega
    obtain ⟨X, hX⟩ := choose_lt (α := List Value × List (List Int)) (n := len) (p := fun i y => Rows 0 w.heap.size w (V i) y.1 y.2) fun i hi => by
      obtain ⟨us, xss, hR⟩ := rows_of_trod he hq hr cq cr (hx i (by omega)).2
      exact ⟨(us, xss), hR⟩
    refine ⟨(List.range len).map V, (List.range len).map fun i => (X i).1, (List.range len).map fun i => (X i).2, sl_of hl hm hlm fun i hi => (hx i hi).1, by simp, by simp, fun i => ?_⟩
    by_cases hi : i < len
    · rw [getD_map_range hi, getD_map_range hi, getD_map_range hi]; exact hX i hi
    · rw [getD_map_range' hi, getD_map_range' hi, getD_map_range' hi]; exact Rows.nil_ w
end
end Go.Pc

/-
  Centralizers, normalizers, conjugators of subgroups: what the answers are.
  Conditions: none.
-/
namespace Go.Proofs.YtgomfjhhfmhlgaaGreat
open Go Go.Pc
section
variable {p : Pr} [hc : ConAll p]
/-- The element commutes with all elements of a list. -/
def CenP (ys : List (El p)) (a : El p) : Prop := ∀ i (h : i < ys.length), a * ys[i] = ys[i] * a
/-- The element carries the elements of a list into a subgroup. -/
def CarP (ys zs : List (El p)) (a : El p) : Prop := ∀ i (h : i < ys.length), Gen (fun b : El p => b ∈ zs) (Grp.cj ys[i] a)
end
theorem rows_one1 {w w' : World} {v u : Value} {xs : List Int} {lo hi lo1 hi1 : Nat} (hu : Ints lo hi w u xs) (x : Ext w w') (hs : Sl lo1 hi1 w' v [u]) : Pc.Rows 0 w'.heap.size w' v [u] [xs] := by
  refine ⟨hs.wide, rfl, fun i => ?_⟩
  cases i with
  | zero => exact (hu.same (x.same _ _)).wide
  | succ i => exact (Ints.nil_ w').mono (Nat.le_refl 0) (Nat.zero_le _)
def GrpE (p : Pr) (xs : List Int) : Prop := IsGrp p ∧ InR p xs
def CeV (p : Pr) (xss r : List (List Int)) (e : Int) : Prop := (∃ (_ : ConAll p) (ys : List (El p)), xss = vecs ys ∧ r = canon (Gen (fun a : El p => CenP ys a))) ∧ e = 0
theorem CeV.uniq {p : Pr} {xss : List (List Int)} (a b : List (List Int)) (c d : Int) (h : CeV p xss a c) (k : CeV p xss b d) : a = b ∧ c = d := by
  obtain ⟨⟨hc, ys, h2, h4⟩, h5⟩ := h
  obtain ⟨⟨hc', ys', k2, k4⟩, k5⟩ := k
  obtain rfl := vecs_inj (h2.symm.trans k2)
  exact ⟨by rw [h4, k4], by rw [h5, k5]⟩
def NzV (p : Pr) (xss r : List (List Int)) (e : Int) : Prop := (∃ (_ : ConAll p) (ys : List (El p)), xss = vecs ys ∧ r = canon (Gen (fun a : El p => CarP ys ys a))) ∧ e = 0
theorem NzV.uniq {p : Pr} {xss : List (List Int)} (a b : List (List Int)) (c d : Int) (h : NzV p xss a c) (k : NzV p xss b d) : a = b ∧ c = d := by
  obtain ⟨⟨hc, ys, h2, h4⟩, h5⟩ := h
  obtain ⟨⟨hc', ys', k2, k4⟩, k5⟩ := k
  obtain rfl := vecs_inj (h2.symm.trans k2)
  exact ⟨by rw [h4, k4], by rw [h5, k5]⟩
/-- The least element that carries a subgroup to another one. -/
def ScV (p : Pr) (xss yss : List (List Int)) (r : List Int) (e : Int) : Prop := ∃ (_ : ConAll p) (ys zs : List (El p)), xss = vecs ys ∧ yss = vecs zs ∧
  (((ordOf p ys ≠ ordOf p zs ∨ ∀ j, j < ordN p → ¬ CarP ys zs (allE p j)) ∧ r = [] ∧ e = 4) ∨ (ordOf p ys = ordOf p zs ∧ ∃ k, k < ordN p ∧ CarP ys zs (allE p k) ∧ (∀ j, j < k → ¬ CarP ys zs (allE p j)) ∧ r = (allE p k).v ∧ e = 0))
theorem ScV.uniq {p : Pr} {xss yss : List (List Int)} (a b : List Int) (c d : Int) (h : ScV p xss yss a c) (k : ScV p xss yss b d) : a = b ∧ c = d := by
  obtain ⟨hc, ys, zs, h2, h3, h4⟩ := h
  obtain ⟨hc', ys', zs', k2, k3, k4⟩ := k
  obtain rfl := vecs_inj (h2.symm.trans k2)
  obtain rfl := vecs_inj (h3.symm.trans k3)
  rcases h4 with ⟨h5, rfl, rfl⟩ | ⟨h5, i, hi, h6, h7, rfl, rfl⟩ <;> rcases k4 with ⟨k5, rfl, rfl⟩ | ⟨k5, j, hj, k6, k7, rfl, rfl⟩
  · exact ⟨rfl, rfl⟩
  · rcases h5 with h5 | h5
    · exact absurd k5 h5
    · exact absurd k6 (h5 j hj)
  · rcases k5 with k5 | k5
    · exact absurd h5 k5
    · exact absurd h6 (k5 i hi)
  · rcases Nat.lt_trichotomy i j with e | e | e
    · exact absurd h6 (k7 i e)
    · subst e; exact ⟨rfl, rfl⟩
    · exact absurd k6 (h7 j e)
theorem ElementCentralizer_sz0 {p : Pr} {xs : List Int} {r : List (List Int)} {e : Int} (_ : p.ord.length ≤ 2000000) (h : Ans (GrpE p xs) (CeV p [xs]) [] r e) : r.length ≤ 2000000 ∧ ∀ i, (r.getD i []).length ≤ 2000000 := by
  rcases h with ⟨⟨hG, _⟩, ⟨hc, ys, _, rfl⟩, _⟩ | ⟨_, rfl, _⟩
  · exact canon_sz _ hG.valid.n6
  · simp
theorem SubgroupCentralizer_sz0 {p : Pr} {xss r : List (List Int)} {e : Int} (_ : p.ord.length ≤ 2000000) (h : Ans (IsSubP p xss) (CeV p xss) [] r e) : r.length ≤ 2000000 ∧ ∀ i, (r.getD i []).length ≤ 2000000 := by
  rcases h with ⟨⟨hG, _⟩, ⟨hc, ys, _, rfl⟩, _⟩ | ⟨_, rfl, _⟩
  · exact canon_sz _ hG.valid.n6
  · simp
theorem SubgroupNormalizer_sz0 {p : Pr} {xss r : List (List Int)} {e : Int} (_ : p.ord.length ≤ 2000000) (h : Ans (IsSubP p xss) (NzV p xss) [] r e) : r.length ≤ 2000000 ∧ ∀ i, (r.getD i []).length ≤ 2000000 := by
  rcases h with ⟨⟨hG, _⟩, ⟨hc, ys, _, rfl⟩, _⟩ | ⟨_, rfl, _⟩
  · exact canon_sz _ hG.valid.n6
  · simp
theorem SubgroupConjugator_sz0 {p : Pr} {xss yss : List (List Int)} {r : List Int} {e : Int} (_ : p.ord.length ≤ 2000000) (h : Ans (IsSubP p xss ∧ IsSubP p yss) (ScV p xss yss) [] r e) : r.length ≤ 2000000 := by
  rcases h with ⟨⟨⟨hG, _⟩, _⟩, hc, ys, zs, _, _, h⟩ | ⟨_, rfl, _⟩
  · have := hG.valid.n6
    rcases h with ⟨_, rfl, _⟩ | ⟨_, k, _, _, _, rfl, _⟩
    · simp
    · rw [(allE p k).inr.len]; omega
  · simp
/-- The index of the centre. -/
def CiV (p : Pr) (r e : Int) : Prop := (∃ (_ : ConAll p), r = idxOf p (canEls (Gen (fun a : El p => AbP [] a)))) ∧ e = 0
theorem CiV.uniq {p : Pr} (a b : Int) (c d : Int) (h : CiV p a c) (k : CiV p b d) : a = b ∧ c = d := by
  obtain ⟨⟨_, h1⟩, h2⟩ := h
  obtain ⟨⟨_, k1⟩, k2⟩ := k
  exact ⟨by rw [h1, k1], by rw [h2, k2]⟩
end Go.Proofs.YtgomfjhhfmhlgaaGreat

/-
  Walks: the reference's ElementCentralizer, SubgroupCentralizer, SubgroupNormalizer, SubgroupConjugator, CountInner.
  Conditions: stated at each theorem.
-/
namespace Go.Proofs.YtgomfjhhfmhlgaaGreat
open Go Go.Pc
set_option maxHeartbeats 2000000 in
theorem l18Carries_ok {p : Pr} [hc : ConAll p] {ys zs : List (El p)} {x : El p} (hyl : ys.length ≤ 1000) (hs : SeqEl zs) {w : World} {vp vu vx vv : Value} {us vs : List Value} {xss yss : List (List Int)} {xs : List Int} {lo hi lo1 hi1 lo2 hi2 lo3 hi3 : Nat} [hp : Pres lo hi w vp p] [hu : Pc.Rows lo1 hi1 w vu us xss] [hx : Ints lo2 hi2 w vx xs] [hvv : Pc.Rows lo3 hi3 w vv vs yss] (hus : xss = vecs ys) (hxe : xs = x.v) (hvs : yss = vecs zs) :
    Calls Tryz.prog 60 #[vp, vu, vx, vv] w (Ret fun v w' => ∃ b, v = .bool b ∧ (b = true ↔ CarP ys zs x) ∧ Ext w w') := by
  subst hus hxe hvs
  have hn6 := hc.valid.n6
  have hyv : (vecs ys).length = ys.length := by simp
  have hvl := hu.vals.len
  obtain ⟨vo, vpw, vc, ps, cs, css, rfl, h1, h2, h3⟩ := hp.ex
  refine enter (args := [.agg #[vo, vpw, vc], vu, vx, vv]) (l := [.tmp 8]) Tryz.func60 rfl rfl Tryz.ntmps60 (by simp) ?_
  refine go ?_
  refine st_box3 (by ((try simp only [ev_tmp, ev_const, ev_func, get_put, get_args, get_putL, get_putL_nil, Nat.reduceEqDiff, reduceIte, List.getD_cons_zero, List.getD_cons_succ, List.getD_nil]); first | done | with_reducible rfl)) (by first | exact True.intro | exact ⟨_, rfl, by ((try simp only [ev_tmp, ev_const, ev_func, get_put, get_args, get_putL, get_putL_nil, Nat.reduceEqDiff, reduceIte, List.getD_cons_zero, List.getD_cons_succ, List.getD_nil, Bool.not_true, Bool.not_false]); first | done | with_reducible rfl)⟩) fun w1 b he1 hb1 hs1 hc0 hc1 hc2 => ?_
  refine go ?_
  refine r_for ys.length (fun k ρ w' => Has ρ [(1, vu), (2, vx), (3, vv), (4, .pointer (some ⟨b, 0, none⟩)), (9, .int .i64 k)] ∧ Ext w1 w' ∧ ∀ j (h : j < ys.length), j < k → Gen (fun a : El p => a ∈ zs) (Grp.cj ys[j] x)) ?_ ?_
  · refine ⟨?_, Ext.refl _, fun j _ hj => by omega⟩
    exact hasP
  rintro k ρ w2 hk ⟨hH, he2, hI⟩
  refine rwp_has hH fun ρ0 => ?_
  have hE2 := he1.trans he2
  refine go ?_
  refine c_if (fun h4 => ?_) (fun h4 => ?_)
  · have hkn : k < ys.length := by omega
    have hgk := vecs_getD ys hkn
    refine go ?_
    refine d_order [0, 1, 2, 3, 4, 5, 6, 7, 8, 9, 10] (h := fun w4 he4 _ => ?_)
    refine dgo ?_
    refine dce (l10Conj_ok (p := p) (x := ys[k]) (y := x) hgk rfl) (next := fun v5 w5 h5 => ?_)
    obtain ⟨he5, hf5⟩ := h5
    refine dce (l12Has_ok (p := p) (x := Grp.cj ys[k] x) hs rfl rfl) (next := fun v6 w6 h6 => ?_)
    obtain ⟨b6, rfl, hb6, he6⟩ := h6
    refine dgo ?_
    refine d_end (h := ?_)
    have hE6 := (he4.trans he5).trans he6
    refine go ?_
    refine c_b (fun e6 => ?_) (fun e6 => ?_)
    · refine go ?_
      refine ret1 ⟨false, rfl, ?_, hE2.trans hE6⟩
      simp only [Bool.false_eq_true, false_iff]
      intro h
      rw [hb6.2 (h k hkn)] at e6; cases e6
    · have hb : b6 = true := by simpa using e6
      refine go ?_
      refine forQ_normal (by omega) ⟨?_, he2.trans hE6, fun j hj hjk => ?_⟩
      · exact hasP
      · by_cases e : j = k
        · subst e; exact hb6.1 hb
        · exact hI j hj (by omega)
  · refine go ?_
    exact ret1 ⟨true, rfl, ⟨fun _ j hj => hI j hj (by omega), fun _ => rfl⟩, hE2⟩
set_option maxHeartbeats 4000000 in
theorem l18Normalizer_ok {p : Pr} [hc : ConAll p] {ys : List (El p)} (hs : SeqEl ys) {w : World} {vp vu : Value} {us : List Value} {xss : List (List Int)} {lo hi lo1 hi1 : Nat} [hp : Pres lo hi w vp p] [hu : Pc.Rows lo1 hi1 w vu us xss] (hus : xss = vecs ys) :
    Calls Tryz.prog 38 #[vp, vu] w (Ret fun v w' => Ext w w' ∧ ∃ us', Pc.Rows w.heap.size w'.heap.size w' v us' (canon (Gen (fun a : El p => CarP ys ys a)))) := by
  subst hus
  have hv := hc.valid
  have hn6 := hv.n6
  have hyl := hs.len
  obtain ⟨hoe, ho1, ho2⟩ := ordN_rng p
  replace hp := hp.wide
  replace hu := hu.wide
  obtain ⟨vo, vpw, vc, ps, cs, css, rfl, h1, h2, h3⟩ := hp.ex
  refine enter (args := [.agg #[vo, vpw, vc], vu]) (l := [.tmp 4]) Tryz.func38 rfl rfl Tryz.ntmps38 (by simp) ?_
  refine go ?_
  refine st_box3 (by ((try simp only [ev_tmp, ev_const, ev_func, get_put, get_args, get_putL, get_putL_nil, Nat.reduceEqDiff, reduceIte, List.getD_cons_zero, List.getD_cons_succ, List.getD_nil]); first | done | with_reducible rfl)) (by first | exact True.intro | exact ⟨_, rfl, by ((try simp only [ev_tmp, ev_const, ev_func, get_put, get_args, get_putL, get_putL_nil, Nat.reduceEqDiff, reduceIte, List.getD_cons_zero, List.getD_cons_succ, List.getD_nil, Bool.not_true, Bool.not_false]); first | done | with_reducible rfl)⟩) fun w2 b he2 hb2 hs2 hc0 hc1 hc2 => ?_
  have hz2 := he2.size
  refine go ?_
  refine st_slice0 (by first | exact True.intro | exact ⟨_, rfl, by ((try simp only [ev_tmp, ev_const, ev_func, get_put, get_args, get_putL, get_putL_nil, Nat.reduceEqDiff, reduceIte, List.getD_cons_zero, List.getD_cons_succ, List.getD_nil, Bool.not_true, Bool.not_false]); first | done | with_reducible rfl)⟩) fun w3 v3 he3 hs3 ho3 => ?_
  refine go ?_
  refine r_for (ordN p) (fun k ρ w' => ∃ vl rs, Has ρ [(1, vu), (2, .pointer (some ⟨b, 0, none⟩)), (5, vl), (6, .int .i64 k)] ∧ Ext w2 w' ∧ GrowL 22 w2.heap.size w' vl rs ∧ rs.map (·.2) = vecs (selL (CarP ys ys) k)) ?_ ?_
  · refine ⟨v3, [], ?_, he3, GrowL.start ho3 (Nat.le_refl _), by simp [selL]⟩
    exact hasP
  clear ho3 hs3 he3
  rintro k ρ wa hk ⟨vl, rs, hH, hea, hG, hrs⟩
  refine rwp_has hH fun ρ0 => ?_
  have hza := hea.size
  have hrl : rs.length ≤ k := by have := congrArg List.length hrs; have := selL_len (CarP ys ys) k; simp at *; omega
  have hEa := he2.trans hea
  refine go ?_
  refine rc (l10Order_ok (p := p) hv) (next := fun v4 w4 h5 => ?_)
  obtain ⟨rfl, he4⟩ := h5
  rw [hoe]
  have hG4 := hG.ext he4
  have hea4 := hea.trans he4
  have hEa4 := hEa.trans he4
  clear hG
  refine go ?_
  refine c_if (fun h6 => ?_) (fun h6 => ?_)
  · have hkn : k < ordN p := by omega
    refine go ?_
    refine rc (l10At_ok (p := p) (t := k) (by omega)) (next := fun v5 w5 h7 => ?_)
    obtain ⟨he5, hf5⟩ := h7
    have hi5 := hf5.ints
    have hE5 := hEa4.trans he5
    refine go ?_
    refine rc (l18Carries_ok (p := p) (ys := ys) (zs := ys) (x := allE p k) (by omega) hs rfl rfl rfl) (next := fun v6 w6 h8 => ?_)
    obtain ⟨b6, rfl, hb6, he6⟩ := h8
    refine go ?_
    refine c_b (fun e6 => ?_) (fun e6 => ?_)
    · have hP := hb6.1 e6
      refine go ?_
      refine st_grow hG4 (he5.trans he6) (hf5.ext' he6) (by have := hea4.size; omega) (by omega) (next := fun v10 v11 w11 hG11 hx11 hz11 hgs11 => ?_)
      refine go ?_
      refine forQ_normal (by omega) ⟨v11, _, ?_, hx11 w2 (hea4.trans (he5.trans he6)) (Nat.le_refl _), hG11, ?_⟩
      · exact hasP
      · rw [selL_yes hP]; simp [hrs]
    · have hP : ¬ CarP ys ys (allE p k) := fun h => by rw [hb6.2 h] at e6; cases e6
      refine go ?_
      refine forQ_normal (by omega) ⟨vl, rs, ?_, hea4.trans (he5.trans he6), hG4.ext (he5.trans he6), ?_⟩
      · exact hasP
      · rw [selL_no hP]; exact hrs
  · obtain rfl : k = ordN p := by omega
    have hRl := hG4.mat.rows
    rw [hrs] at hRl
    have hsl := selL_len (CarP ys ys) (ordN p)
    refine go ?_
    refine rc (l12Close_ok (p := p) (ys := selL (CarP ys ys) (ordN p)) rfl (by omega)) (next := fun v12 w12 h12 => ?_)
    obtain ⟨he12, us12, hL12⟩ := h12
    rw [selL_all] at hL12
    refine go ?_
    exact ret1 ⟨hEa4.trans he12, us12, hL12.newRows.mono hEa4.size (Nat.le_refl _)⟩
set_option maxHeartbeats 1000000 in
theorem spec_SubgroupNormalizer_ok {p : Pr} {w : World} {vp vu : Value} {us : List Value} {xss : List (List Int)} {lo hi lo1 hi1 : Nat} [hp : Pres lo hi w vp p] [hu : Pc.Rows lo1 hi1 w vu us xss] (hl : p.ord.length ≤ 2000000) :
    Calls Tryz.prog 16 #[vp, vu] w (Ret fun v w' => ∃ (u : Value) (k : List (List Int)) (e : Int), v = .tuple #[u, .int .i64 e] ∧ Ans (IsSubP p xss) (NzV p xss) [] k e ∧ Ext w w' ∧ ∃ us', Pc.Rows w.heap.size w'.heap.size w' u us' k) := by
  obtain ⟨vo, vpw, vc, ps, cs, css, rfl, h1, h2, h3⟩ := hp.ex
  refine enter (args := [.agg #[vo, vpw, vc], vu]) (l := [.tmp 4, .tmp 5]) Tryz.func16 rfl rfl Tryz.ntmps16 (by simp) ?_
  refine go ?_
  refine st_box3 (by ((try simp only [ev_tmp, ev_const, ev_func, get_put, get_args, get_putL, get_putL_nil, Nat.reduceEqDiff, reduceIte, List.getD_cons_zero, List.getD_cons_succ, List.getD_nil]); first | done | with_reducible rfl)) (by first | exact True.intro | exact ⟨_, rfl, by ((try simp only [ev_tmp, ev_const, ev_func, get_put, get_args, get_putL, get_putL_nil, Nat.reduceEqDiff, reduceIte, List.getD_cons_zero, List.getD_cons_succ, List.getD_nil, Bool.not_true, Bool.not_false]); first | done | with_reducible rfl)⟩) fun w1 b he1 hb1 hs1 hc0 hc1 hc2 => ?_
  refine go ?_
  refine rc (spec_IsSubgroup_ok (p := p) (xss := xss) hl) (next := fun v5 w5 h5 => ?_)
  obtain ⟨b5, rfl, hb5, he5⟩ := h5
  have hE5 := he1.trans he5
  refine go ?_
  refine c_b (fun e5 => ?_) (fun e5 => ?_)
  · refine go ?_
    refine ret2 ⟨nilv, [], 1, rfl, .inr ⟨fun h => ?_, rfl, rfl⟩, hE5, [], Rows.nilR _ _ _⟩
    rw [hb5.2 h] at e5; cases e5
  have hS := hb5.1 (by simpa using e5)
  obtain ⟨hG, hq⟩ := hS
  haveI : ConAll p := ⟨hG.con⟩
  have hv := hG.valid
  have hn6 := hv.n6
  obtain ⟨ys, hys, hse⟩ := isSeq_iff.1 hq
  have hyl := hse.len
  have hE6 := hE5
  refine go ?_
  refine rc (l18Normalizer_ok (p := p) (ys := ys) hse hys) (next := fun v7 w7 h7 => ?_)
  obtain ⟨he7, us7, hR7⟩ := h7
  refine go ?_
  exact ret2 ⟨v7, _, 0, rfl, .inl ⟨⟨hG, hq⟩, ⟨inferInstance, ys, hys, rfl⟩, rfl⟩, hE6.trans he7, us7, hR7.mono hE6.size (Nat.le_refl _)⟩
set_option maxHeartbeats 4000000 in
theorem l18Mover_ok {p : Pr} [hc : ConAll p] {ys zs : List (El p)} (hs : SeqEl ys) (hs2 : SeqEl zs) {w : World} {vp vu vv : Value} {us vs : List Value} {xss yss : List (List Int)} {lo hi lo1 hi1 lo2 hi2 : Nat} [hp : Pres lo hi w vp p] [hu : Pc.Rows lo1 hi1 w vu us xss] [hvv : Pc.Rows lo2 hi2 w vv vs yss] (hus : xss = vecs ys) (hvs : yss = vecs zs) :
    Calls Tryz.prog 44 #[vp, vu, vv] w (Ret fun v w' => ∃ (u : Value) (ok : Bool) (r : List Int), v = .tuple #[u, .bool ok] ∧ Ext w w' ∧ Fr w.heap.size w' u r ∧
      ((ok = false ∧ r = [] ∧ (ordOf p ys ≠ ordOf p zs ∨ ∀ j, j < ordN p → ¬ CarP ys zs (allE p j))) ∨ (ok = true ∧ ordOf p ys = ordOf p zs ∧ ∃ k, k < ordN p ∧ CarP ys zs (allE p k) ∧ (∀ j, j < k → ¬ CarP ys zs (allE p j)) ∧ r = (allE p k).v))) := by
  subst hus hvs
  have hv := hc.valid
  have hn6 := hv.n6
  have hyl := hs.len
  obtain ⟨hoe, ho1, ho2⟩ := ordN_rng p
  have hoy := ordOf_pos hs
  have hoz := ordOf_pos hs2
  replace hp := hp.wide
  replace hu := hu.wide
  replace hvv := hvv.wide
  obtain ⟨vo, vpw, vc, ps, cs, css, rfl, h1, h2, h3⟩ := hp.ex
  refine enter (args := [.agg #[vo, vpw, vc], vu, vv]) (l := [.tmp 6, .tmp 7]) Tryz.func44 rfl rfl Tryz.ntmps44 (by simp) ?_
  refine go ?_
  refine st_box3 (by ((try simp only [ev_tmp, ev_const, ev_func, get_put, get_args, get_putL, get_putL_nil, Nat.reduceEqDiff, reduceIte, List.getD_cons_zero, List.getD_cons_succ, List.getD_nil]); first | done | with_reducible rfl)) (by first | exact True.intro | exact ⟨_, rfl, by ((try simp only [ev_tmp, ev_const, ev_func, get_put, get_args, get_putL, get_putL_nil, Nat.reduceEqDiff, reduceIte, List.getD_cons_zero, List.getD_cons_succ, List.getD_nil, Bool.not_true, Bool.not_false]); first | done | with_reducible rfl)⟩) fun w2 b he2 hb2 hs2' hc0 hc1 hc2 => ?_
  have hz2 := he2.size
  refine go ?_
  refine r_for (ordN p) (fun k ρ w' => Has ρ [(1, vu), (2, vv), (3, .pointer (some ⟨b, 0, none⟩)), (8, .int .i64 k)] ∧ Ext w2 w' ∧ ∀ j, j < k → ¬ CarP ys zs (allE p j)) ?_ ?_
  · refine ⟨?_, Ext.refl _, fun j hj => by omega⟩
    exact hasP
  rintro k ρ wa hk ⟨hH, hea, hI⟩
  refine rwp_has hH fun ρ0 => ?_
  have hEa := he2.trans hea
  refine go ?_
  refine d_order [0, 1, 2, 3, 4, 5, 6, 8, 9, 7, 10, 11, 12] (h := fun w3 he3 _ => ?_)
  refine dgo ?_
  refine dce (l10Order_ok (p := p) hv) (next := fun v4 w4 h5 => ?_)
  obtain ⟨rfl, he4⟩ := h5
  rw [hoe]
  have hE4 := (hEa.trans he3).trans he4
  refine dgo ?_
  refine dspd (fun h6 => ?_) (fun h6 => ?_)
  · have hkn : k < ordN p := by omega
    refine dgo ?_
    refine dce (l12Order_ok (p := p) hs rfl) (next := fun v5 w5 h7 => ?_)
    obtain ⟨rfl, he5⟩ := h7
    refine dce (l12Order_ok (p := p) hs2 rfl) (next := fun v6 w6 h8 => ?_)
    obtain ⟨rfl, he6⟩ := h8
    have hE6 := (hE4.trans he5).trans he6
    refine dgo ?_
    refine d_end (h := ?_)
    refine go ?_
    refine c_if (fun h9 => ?_) (fun h9 => ?_)
    · refine go ?_
      refine rc (l10At_ok (p := p) (t := k) (by omega)) (next := fun v7 w7 h10 => ?_)
      obtain ⟨he7, hf7⟩ := h10
      have hi7 := hf7.ints
      have hE7 := hE6.trans he7
      refine go ?_
      refine rc (l18Carries_ok (p := p) (ys := ys) (zs := zs) (x := allE p k) (by omega) hs2 rfl rfl rfl) (next := fun v8 w8 h11 => ?_)
      obtain ⟨b8, rfl, hb8, he8⟩ := h11
      refine go ?_
      refine c_b (fun e8 => ?_) (fun e8 => ?_)
      · refine go ?_
        exact ret2 ⟨v7, true, _, rfl, hE7.trans he8, (hf7.ext' he8).mono hE6.size, .inr ⟨rfl, h9, k, hkn, hb8.1 e8, hI, rfl⟩⟩
      · refine go ?_
        refine forQ_normal (by omega) ⟨?_, hea.trans (((((he3.trans he4).trans he5).trans he6).trans he7).trans he8), fun j hj => ?_⟩
        · exact hasP
        · by_cases e : j = k
          · subst e; exact fun h => by rw [hb8.2 h] at e8; cases e8
          · exact hI j (by omega)
    · refine go ?_
      exact ret2 ⟨nilv, false, [], rfl, hE6, Fr.nilR _ _, .inl ⟨rfl, rfl, .inl h9⟩⟩
  · obtain rfl : k = ordN p := by omega
    refine dgo ?_
    refine d_end (h := ?_)
    refine go ?_
    exact ret2 ⟨nilv, false, [], rfl, hE4, Fr.nilR _ _, .inl ⟨rfl, rfl, .inr hI⟩⟩
set_option maxHeartbeats 1000000 in
theorem spec_SubgroupConjugator_ok {p : Pr} {w : World} {vp vu vx : Value} {us vs : List Value} {xss yss : List (List Int)} {lo hi lo1 hi1 lo2 hi2 : Nat} [hp : Pres lo hi w vp p] [hu : Pc.Rows lo1 hi1 w vu us xss] [hx : Pc.Rows lo2 hi2 w vx vs yss] (hl : p.ord.length ≤ 2000000) :
    Calls Tryz.prog 22 #[vp, vu, vx] w (Ret fun v w' => ∃ (u : Value) (k : List Int) (e : Int), v = .tuple #[u, .int .i64 e] ∧ Ans (IsSubP p xss ∧ IsSubP p yss) (ScV p xss yss) [] k e ∧ Ext w w' ∧ Ints w.heap.size w'.heap.size w' u k) := by
  obtain ⟨vo, vpw, vc, ps, cs, css, rfl, h1, h2, h3⟩ := hp.ex
  refine enter (args := [.agg #[vo, vpw, vc], vu, vx]) (l := [.tmp 6, .tmp 7]) Tryz.func22 rfl rfl Tryz.ntmps22 (by simp) ?_
  refine go ?_
  refine st_box3 (by ((try simp only [ev_tmp, ev_const, ev_func, get_put, get_args, get_putL, get_putL_nil, Nat.reduceEqDiff, reduceIte, List.getD_cons_zero, List.getD_cons_succ, List.getD_nil]); first | done | with_reducible rfl)) (by first | exact True.intro | exact ⟨_, rfl, by ((try simp only [ev_tmp, ev_const, ev_func, get_put, get_args, get_putL, get_putL_nil, Nat.reduceEqDiff, reduceIte, List.getD_cons_zero, List.getD_cons_succ, List.getD_nil, Bool.not_true, Bool.not_false]); first | done | with_reducible rfl)⟩) fun w1 b he1 hb1 hs1 hc0 hc1 hc2 => ?_
  refine go ?_
  refine rc (l13Two_ok (p := p) (xss := xss) (yss := yss) hl) (next := fun v5 w5 h5 => ?_)
  obtain ⟨b5, rfl, hb5, he5⟩ := h5
  have hE5 := he1.trans he5
  refine go ?_
  refine c_b (fun e5 => ?_) (fun e5 => ?_)
  · refine go ?_
    refine ret2 ⟨nilv, [], 1, rfl, .inr ⟨fun h => ?_, rfl, rfl⟩, hE5, (Fr.nilR _ _).ints⟩
    rw [hb5.2 h] at e5; cases e5
  have hS := hb5.1 (by simpa using e5)
  obtain ⟨⟨hG, hq⟩, ⟨_, hI⟩⟩ := hS
  haveI : ConAll p := ⟨hG.con⟩
  have hv := hG.valid
  have hn6 := hv.n6
  obtain ⟨ys, hys, hse⟩ := isSeq_iff.1 hq
  obtain ⟨zs, hzs, hsz⟩ := isSeq_iff.1 hI
  have hyl := hse.len
  have hzl := hsz.len
  have hE6 := hE5
  refine go ?_
  refine rc (l18Mover_ok (p := p) (ys := ys) (zs := zs) hse hsz hys hzs) (next := fun v7 w7 h7 => ?_)
  obtain ⟨u7, ok, r7, rfl, he7, hf7, hok⟩ := h7
  refine go ?_
  refine c_b (fun e7 => ?_) (fun e7 => ?_)
  · refine go ?_
    rcases hok with ⟨rfl, rfl, h8⟩ | ⟨rfl, h8⟩
    · exact ret2 ⟨nilv, [], 4, rfl, .inl ⟨⟨⟨hG, hq⟩, ⟨hG, hI⟩⟩, ⟨inferInstance, ys, zs, hys, hzs, .inl ⟨h8, rfl, rfl⟩⟩⟩, hE6.trans he7, (Fr.nilR _ _).ints⟩
    · cases e7
  · refine go ?_
    rcases hok with ⟨rfl, rfl, h8⟩ | ⟨rfl, h8, k, hk1, hk2, hk3, rfl⟩
    · cases e7
    · exact ret2 ⟨u7, _, 0, rfl, .inl ⟨⟨⟨hG, hq⟩, ⟨hG, hI⟩⟩, ⟨inferInstance, ys, zs, hys, hzs, .inr ⟨h8, k, hk1, hk2, hk3, rfl, rfl⟩⟩⟩, hE6.trans he7, (hf7.mono hE6.size).ints⟩
end Go.Proofs.YtgomfjhhfmhlgaaGreat

/-
  Walks: the program's ElementCentralizer, SubgroupCentralizer, SubgroupNormalizer, SubgroupConjugator, CountInner.
  Conditions: stated at each theorem.
-/
namespace Go.Proofs.YtgomfjhhfmhlgaaGreat
open Go Go.Pc
set_option maxHeartbeats 2000000 in
theorem movesInto_ok {p : Pr} [hc : ConAll p] {ys zs : List (El p)} {x : El p} (hyl : ys.length ≤ 1000) (hs : SeqEl zs) {w : World} {vp vu vx vv : Value} {us vs : List Value} {xss yss : List (List Int)} {xs : List Int} {lo hi lo1 hi1 lo2 hi2 lo3 hi3 : Nat} [hp : PresP lo hi w vp p] [hu : Pc.Rows lo1 hi1 w vu us xss] [hx : Ints lo2 hi2 w vx xs] [hvv : Pc.Rows lo3 hi3 w vv vs yss] (hus : xss = vecs ys) (hxe : xs = x.v) (hvs : yss = vecs zs) :
    Calls Tryz.prog 42 #[vp, vu, vv, vx] w (Ret fun v w' => ∃ b, v = .bool b ∧ (b = true ↔ CarP ys zs x) ∧ Ext w w') := by
  subst hus hxe hvs
  have hn6 := hc.valid.n6
  have hyv : (vecs ys).length = ys.length := by simp
  have hvl := hu.vals.len
  refine enter (args := [vp, vu, vv, vx]) (l := [.tmp 8]) Tryz.func42 rfl rfl Tryz.ntmps42 (by simp) ?_
  refine go ?_
  refine r_for ys.length (fun k ρ w' => Has ρ [(0, vp), (2, vv), (3, vx), (11, vu), (12, .int .i64 (vecs ys).length), (13, .int .i64 k)] ∧ Ext w w' ∧ ∀ j (h : j < ys.length), j < k → Gen (fun a : El p => a ∈ zs) (Grp.cj ys[j] x)) ?_ ?_
  · refine ⟨?_, Ext.refl _, fun j _ hj => by omega⟩
    exact hasP
  rintro k ρ w2 hk ⟨hH, he2, hI⟩
  refine rwp_has hH fun ρ0 => ?_
  refine go ?_
  refine c_if (fun h4 => ?_) (fun h4 => ?_)
  · have hkn : k < ys.length := by omega
    have hgk := vecs_getD ys hkn
    refine go ?_
    refine rc (conjugate_ok (p := p) (i := 0) (x := ys[k]) (y := x) (Nat.zero_le _) hgk rfl) (next := fun v5 w5 h5 => ?_)
    obtain ⟨he5, hf5⟩ := h5
    have hi5 := hf5.ints
    refine go ?_
    refine rc (isMember_ok (p := p) (x := Grp.cj ys[k] x) hs rfl rfl) (next := fun v6 w6 h6 => ?_)
    obtain ⟨b6, rfl, hb6, he6⟩ := h6
    have hE6 := he5.trans he6
    refine go ?_
    refine c_b (fun e6 => ?_) (fun e6 => ?_)
    · refine go ?_
      refine ret1 ⟨false, rfl, ?_, he2.trans hE6⟩
      simp only [Bool.false_eq_true, false_iff]
      intro h
      rw [hb6.2 (h k hkn)] at e6; cases e6
    · have hb : b6 = true := by simpa using e6
      refine go ?_
      refine forQ_normal (by omega) ⟨?_, he2.trans hE6, fun j hj hjk => ?_⟩
      · exact hasP
      · by_cases e : j = k
        · subst e; exact hb6.1 hb
        · exact hI j hj (by omega)
  · refine go ?_
    exact ret1 ⟨true, rfl, ⟨fun _ j hj => hI j hj (by omega), fun _ => rfl⟩, he2⟩
set_option maxHeartbeats 1000000 in
theorem normalFn_ok {p : Pr} [hc : ConAll p] {ys : List (El p)} (hs : SeqEl ys) {w : World} {vp vu vx : Value} {us : List Value} {xss : List (List Int)} {x : El p} {xs : List Int} {bu lo hi lo1 hi1 lo2 hi2 : Nat} [hp : PresP lo hi w vp p] [hu : Pc.Rows lo1 hi1 w vu us xss] [hx : Ints lo2 hi2 w vx xs] [hcu : Cell w bu 0 vu] (hus : xss = vecs ys) (hxe : xs = x.v) :
    Calls Tryz.prog 41 #[vx, vp, .pointer (some ⟨bu, 0, none⟩)] w (Ret fun v w' => ∃ b, v = .bool b ∧ (b = true ↔ CarP ys ys x) ∧ Ext w w') := by
  have hn6 := hc.valid.n6
  have hyl := hs.len
  refine enter (args := [vx, vp, .pointer (some ⟨bu, 0, none⟩)]) (l := [.tmp 4]) Tryz.func41 rfl rfl Tryz.ntmps41 (by simp) ?_
  refine go ?_
  refine rc (movesInto_ok (p := p) (ys := ys) (zs := ys) (x := x) (by omega) hs hus hxe hus) (next := fun v6 w6 h6 => ?_)
  obtain ⟨b6, rfl, hb6, he6⟩ := h6
  refine go ?_
  exact ret1 ⟨b6, rfl, hb6, he6⟩
set_option maxHeartbeats 2000000 in
theorem impl_SubgroupNormalizer_ok {p : Pr} {w : World} {vp vu : Value} {us : List Value} {xss : List (List Int)} {lo hi lo1 hi1 : Nat} [hp : Pres lo hi w vp p] [hu : Pc.Rows lo1 hi1 w vu us xss] (hl : p.ord.length ≤ 2000000) :
    Calls Tryz.prog 18 #[vp, vu] w (Ret fun v w' => ∃ (u : Value) (k : List (List Int)) (e : Int), v = .tuple #[u, .int .i64 e] ∧ Ans (IsSubP p xss) (NzV p xss) [] k e ∧ Ext w w' ∧ ∃ rs, k = rs.map (·.2) ∧ MatO w.heap.size w'.heap.size w' u rs) := by
  replace hu := hu.wide
  obtain ⟨vo, vpw, vc, ps, cs, css, rfl, h1, h2, h3⟩ := hp.ex
  refine enter (args := [.agg #[vo, vpw, vc], vu]) (l := [.tmp 4, .tmp 5]) Tryz.func18 rfl rfl Tryz.ntmps18 (by simp) ?_
  refine go ?_
  refine st_box3 (by ((try simp only [ev_tmp, ev_const, ev_func, get_put, get_args, get_putL, get_putL_nil, Nat.reduceEqDiff, reduceIte, List.getD_cons_zero, List.getD_cons_succ, List.getD_nil]); first | done | with_reducible rfl)) (by first | exact True.intro | exact ⟨_, rfl, by ((try simp only [ev_tmp, ev_const, ev_func, get_put, get_args, get_putL, get_putL_nil, Nat.reduceEqDiff, reduceIte, List.getD_cons_zero, List.getD_cons_succ, List.getD_nil, Bool.not_true, Bool.not_false]); first | done | with_reducible rfl)⟩) fun w1 b he1 hb1 hs1 hc0 hc1 hc2 => ?_
  have hpp := hp.boxed he1 hc0 hc1 hc2
  refine go ?_
  refine st_box1 (v := vu) (by ((try simp only [ev_tmp, ev_const, ev_func, get_put, get_args, get_putL, get_putL_nil, Nat.reduceEqDiff, reduceIte, List.getD_cons_zero, List.getD_cons_succ, List.getD_nil]); first | done | with_reducible rfl)) hu.sl.cells (by first | exact True.intro | exact ⟨_, rfl, by ((try simp only [ev_tmp, ev_const, ev_func, get_put, get_args, get_putL, get_putL_nil, Nat.reduceEqDiff, reduceIte, List.getD_cons_zero, List.getD_cons_succ, List.getD_nil, Bool.not_true, Bool.not_false]); first | done | with_reducible rfl)⟩) fun w3 bu he3 hb3 hs3 hbk3 => ?_
  have hcu := hbk3.cell (k := 0) rfl
  have hE3 := he1.trans he3
  have hu3 : Pc.Rows 0 w.heap.size w3 vu us xss := hu.same (hE3.same _ _)
  refine go ?_
  refine st_slice1 (u := vu) (by ((try simp only [ev_tmp, ev_const, ev_func, get_put, get_args, get_putL, get_putL_nil, Nat.reduceEqDiff, reduceIte, List.getD_cons_zero, List.getD_cons_succ, List.getD_nil]); first | done | with_reducible rfl)) hu3.sl.cells rfl (by first | exact True.intro | exact ⟨_, rfl, by ((try simp only [ev_tmp, ev_const, ev_func, get_put, get_args, get_putL, get_putL_nil, Nat.reduceEqDiff, reduceIte, List.getD_cons_zero, List.getD_cons_succ, List.getD_nil, Bool.not_true, Bool.not_false]); first | done | with_reducible rfl)⟩) fun w2 v2 he2 hs2 ho2 => ?_
  have hE2 := hE3.trans he2
  have hR := rowss_one (xss := xss) ho2 (hu3.same (he2.same _ _))
  refine go ?_
  refine rc (areSubgroups_ok (p := p) (xsss := [xss]) hl (by simp)) (next := fun v5 w5 h5 => ?_)
  obtain ⟨b5, rfl, hb5, he5⟩ := h5
  rw [areSub1] at hb5
  have hE5 := hE2.trans he5
  refine go ?_
  refine c_b (fun e5 => ?_) (fun e5 => ?_)
  · refine go ?_
    refine ret2 ⟨nilv, [], 1, rfl, .inr ⟨fun h => ?_, rfl, rfl⟩, hE5, [], rfl, MatO.nilR _ _ _⟩
    rw [hb5.2 h] at e5; cases e5
  have hS := hb5.1 (by simpa using e5)
  obtain ⟨hG, hq⟩ := hS
  haveI : ConAll p := ⟨hG.con⟩
  obtain ⟨ys, hys, hse⟩ := isSeq_iff.1 hq
  have hx35 := he2.trans he5
  have hcu5 : Cell w5 bu 0 vu := hcu.same (hx35.same _ _) hx35.size
  have hu5 : Pc.Rows 0 w.heap.size w5 vu us xss := hu3.same (hx35.same _ _)
  have hpp5 : PresP 0 w5.heap.size w5 (.pointer (some ⟨b, 0, none⟩)) p := PresP.wide inferInstance
  refine go ?_
  refine ra (h := rd_makeFunc (caps := #[.pointer (some ⟨b, 0, none⟩), .pointer (some ⟨bu, 0, none⟩)]) (by simp only [List.map_toArray, List.map_cons, List.map_nil, ev_tmp, ev_const, ev_func, get_put, get_args, get_putL, get_putL_nil, Nat.reduceEqDiff, reduceIte, List.getD_cons_zero, List.getD_cons_succ, List.getD_nil])) (next := ?_)
  refine go ?_
  refine rc (elementsWith_ok (p := p) (P := CarP ys ys) (fun {w'} {vx} {lo'} {hi'} {xs} x0 x hx hxe => ?_)) (next := fun v7 w7 h7 => ?_)
  · haveI : Ints lo' hi' w' vx xs := hx
    haveI : Cell w' bu 0 vu := hcu5.same (x0.same _ _) x0.size
    haveI : Pc.Rows 0 w.heap.size w' vu us xss := hu5.same (x0.same _ _)
    haveI : PresP 0 w5.heap.size w' (.pointer (some ⟨b, 0, none⟩)) p := hpp5.same (x0.same _ _) x0.size
    exact normalFn_ok (p := p) (vp := .pointer (some ⟨b, 0, none⟩)) (x := x) hse hys hxe
  obtain ⟨he7, rs7, hrs7, hM7⟩ := h7
  refine go ?_
  exact ret2 ⟨v7, _, 0, rfl, .inl ⟨⟨hG, hq⟩, ⟨inferInstance, ys, hys, rfl⟩, rfl⟩, hE5.trans he7, rs7, hrs7, hM7.lower hE5.size⟩
set_option maxHeartbeats 2000000 in
theorem impl_SubgroupConjugator_ok {p : Pr} {w : World} {vp vu vx : Value} {us vs : List Value} {xss yss : List (List Int)} {lo hi lo1 hi1 lo2 hi2 : Nat} [hp : Pres lo hi w vp p] [hu : Pc.Rows lo1 hi1 w vu us xss] [hx : Pc.Rows lo2 hi2 w vx vs yss] (hl : p.ord.length ≤ 2000000) :
    Calls Tryz.prog 23 #[vp, vu, vx] w (Ret fun v w' => ∃ (u : Value) (k : List Int) (e : Int), v = .tuple #[u, .int .i64 e] ∧ Ans (IsSubP p xss ∧ IsSubP p yss) (ScV p xss yss) [] k e ∧ Ext w w' ∧ Fr w.heap.size w' u k) := by
  replace hu := hu.wide
  replace hx := hx.wide
  obtain ⟨vo, vpw, vc, ps, cs, css, rfl, h1, h2, h3⟩ := hp.ex
  refine enter (args := [.agg #[vo, vpw, vc], vu, vx]) (l := [.tmp 6, .tmp 7]) Tryz.func23 rfl rfl Tryz.ntmps23 (by simp) ?_
  refine go ?_
  refine st_box3 (by ((try simp only [ev_tmp, ev_const, ev_func, get_put, get_args, get_putL, get_putL_nil, Nat.reduceEqDiff, reduceIte, List.getD_cons_zero, List.getD_cons_succ, List.getD_nil]); first | done | with_reducible rfl)) (by first | exact True.intro | exact ⟨_, rfl, by ((try simp only [ev_tmp, ev_const, ev_func, get_put, get_args, get_putL, get_putL_nil, Nat.reduceEqDiff, reduceIte, List.getD_cons_zero, List.getD_cons_succ, List.getD_nil, Bool.not_true, Bool.not_false]); first | done | with_reducible rfl)⟩) fun w1 b he1 hb1 hs1 hc0 hc1 hc2 => ?_
  have hpp := hp.boxed he1 hc0 hc1 hc2
  refine go ?_
  refine st_slice2 (u := vu) (v := vx) (by ((try simp only [ev_tmp, ev_const, ev_func, get_put, get_args, get_putL, get_putL_nil, Nat.reduceEqDiff, reduceIte, List.getD_cons_zero, List.getD_cons_succ, List.getD_nil]); first | done | with_reducible rfl)) (by ((try simp only [ev_tmp, ev_const, ev_func, get_put, get_args, get_putL, get_putL_nil, Nat.reduceEqDiff, reduceIte, List.getD_cons_zero, List.getD_cons_succ, List.getD_nil]); first | done | with_reducible rfl)) ?_ ?_ ?_ (by first | exact True.intro | exact ⟨_, rfl, by ((try simp only [ev_tmp, ev_const, ev_func, get_put, get_args, get_putL, get_putL_nil, Nat.reduceEqDiff, reduceIte, List.getD_cons_zero, List.getD_cons_succ, List.getD_nil, Bool.not_true, Bool.not_false]); first | done | with_reducible rfl)⟩) fun w2 v2 he2 hs2 ho2 => ?_
  · exact hu.sl.cells
  · exact hx.sl.cells
  · rfl
  have hE2 := he1.trans he2
  have hR := rowss_two (xss := xss) (yss := yss) ho2 inferInstance inferInstance
  refine go ?_
  refine rc (areSubgroups_ok (p := p) (xsss := [xss, yss]) hl (by simp)) (next := fun v5 w5 h5 => ?_)
  obtain ⟨b5, rfl, hb5, he5⟩ := h5
  rw [areSub2] at hb5
  have hE5 := hE2.trans he5
  refine go ?_
  refine c_b (fun e5 => ?_) (fun e5 => ?_)
  · refine go ?_
    refine ret2 ⟨nilv, [], 1, rfl, .inr ⟨fun h => ?_, rfl, rfl⟩, hE5, Fr.nilR _ _⟩
    rw [hb5.2 h] at e5; cases e5
  have hS := hb5.1 (by simpa using e5)
  obtain ⟨⟨hG, hq⟩, ⟨_, hI⟩⟩ := hS
  haveI : ConAll p := ⟨hG.con⟩
  have hv := hG.valid
  have hn6 := hv.n6
  obtain ⟨ys, hys, hse⟩ := isSeq_iff.1 hq
  obtain ⟨zs, hzs, hsz⟩ := isSeq_iff.1 hI
  have hyl := hse.len
  have hzl := hsz.len
  have hE6 := hE5
  have hoy := ordOf_pos' hse
  have hoz := ordOf_pos' hsz
  obtain ⟨hoe, ho1, ho3⟩ := ordN_rng p
  refine go ?_
  refine rc (sizeOf_ok (p := p) hse hys) (next := fun v7 w7 h7 => ?_)
  obtain ⟨rfl, he7⟩ := h7
  refine go ?_
  refine rc (sizeOf_ok (p := p) hsz hzs) (next := fun v8 w8 h8 => ?_)
  obtain ⟨rfl, he8⟩ := h8
  have hE8 := (hE6.trans he7).trans he8
  refine go ?_
  refine c_if (fun h9 => ?_) (fun h9 => ?_)
  · refine go ?_
    refine rc (allElements_ok (p := p)) (next := fun v9 w9 h10 => ?_)
    obtain ⟨he9, rs9, hrs9, hM9⟩ := h10
    have hR9 := hM9.rows
    rw [← hrs9] at hR9
    have hE9 := hE8.trans he9
    have hz9 := he9.size
    have hvl : (vecs ((List.range (ordN p)).map (allE p))).length = ordN p := by simp
    have hrl : (rs9.map fun x : Value × List Int => x.1).length = ordN p := by rw [← hvl]; exact hR9.vals.len
    have hrl9 : rs9.length = ordN p := by simpa using hrl
    refine go ?_
    refine r_for (ordN p) (fun k ρ w' => Has ρ [(1, vu), (2, vx), (3, .pointer (some ⟨b, 0, none⟩)), (20, v9), (21, .int .i64 (ordN p)), (22, .int .i64 k)] ∧ Ext w9 w' ∧ ∀ j, j < k → ¬ CarP ys zs (allE p j)) ?_ ?_
    · refine ⟨?_, Ext.refl _, fun j hj => by omega⟩
      exact hasP
    rintro k ρ wa hk ⟨hH, hea, hIa⟩
    refine rwp_has hH fun ρ0 => ?_
    have hEa := hE9.trans hea
    have hRa : Pc.Rows w8.heap.size w9.heap.size wa v9 _ _ := hR9.same (hea.same _ _)
    refine go ?_
    refine c_if (fun h10 => ?_) (fun h10 => ?_)
    · have hkn : k < ordN p := by omega
      have hxk : (vecs ((List.range (ordN p)).map (allE p))).getD k [] = (allE p k).v := by
        rw [vecs_getD _ (by simpa using hkn)]; simp
      have hxi : Ints w8.heap.size w9.heap.size wa (Pc.rowAt v9 (rs9.map fun x : Value × List Int => x.1) k) (allE p k).v := by rw [← hxk]; exact hRa.vals.at_ k
      refine go ?_
      refine rc (movesInto_ok (p := p) (ys := ys) (zs := zs) (x := allE p k) (by omega) hsz hys rfl hzs) (next := fun v10 w10 h11 => ?_)
      obtain ⟨b10, rfl, hb10, he10⟩ := h11
      refine go ?_
      refine c_b (fun e10 => ?_) (fun e10 => ?_)
      · have hrow : ∃ u, Fr w8.heap.size w10 (Pc.rowAt v9 (rs9.map fun x : Value × List Int => x.1) k) u ∧ u = (allE p k).v := by
          have hk9 : k < rs9.length := by omega
          have e1 : Pc.rowAt v9 (rs9.map fun x : Value × List Int => x.1) k = (rs9[k]).1 := by simp [Pc.rowAt, hk9]
          have e2 : (rs9[k]).2 = (allE p k).v := by
            rw [← hxk, hrs9]; simp [hk9]
          refine ⟨(rs9[k]).2, ?_, e2⟩
          rw [e1]
          exact (hM9.own.fr _ (List.getElem_mem hk9)).ext' (hea.trans he10)
        obtain ⟨u10, hu10, rfl⟩ := hrow
        refine go ?_
        exact ret2 ⟨_, _, 0, rfl, .inl ⟨⟨⟨hG, hq⟩, ⟨hG, hI⟩⟩, ⟨inferInstance, ys, zs, hys, hzs, .inr ⟨h9, k, hkn, hb10.1 e10, hIa, rfl, rfl⟩⟩⟩, hEa.trans he10, hu10.mono hE8.size⟩
      · refine go ?_
        refine forQ_normal (by omega) ⟨?_, hea.trans he10, fun j hj => ?_⟩
        · exact hasP
        · by_cases e : j = k
          · subst e; exact fun h => by rw [hb10.2 h] at e10; cases e10
          · exact hIa j (by omega)
    · obtain rfl : k = ordN p := by omega
      refine go ?_
      exact ret2 ⟨nilv, [], 4, rfl, .inl ⟨⟨⟨hG, hq⟩, ⟨hG, hI⟩⟩, ⟨inferInstance, ys, zs, hys, hzs, .inl ⟨.inr hIa, rfl, rfl⟩⟩⟩, hEa, Fr.nilR _ _⟩
  · refine go ?_
    exact ret2 ⟨nilv, [], 4, rfl, .inl ⟨⟨⟨hG, hq⟩, ⟨hG, hI⟩⟩, ⟨inferInstance, ys, zs, hys, hzs, .inl ⟨.inl h9, rfl, rfl⟩⟩⟩, hE8, Fr.nilR _ _⟩
end Go.Proofs.YtgomfjhhfmhlgaaGreat
