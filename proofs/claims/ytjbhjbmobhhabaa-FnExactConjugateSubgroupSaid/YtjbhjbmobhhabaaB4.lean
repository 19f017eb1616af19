/-
  Texts of one proof, put together by program: Seq2, W12d, Ans, Mem6, W13, W13b, W13c, W14, I03, I08d, I08e, I12e, I14, L01, L02, L03, L04, L05, Open, Ans2, Clo, Grow, W01d, W16.
  Conditions: those told at each part.
-/
import Derived.Test.YtjbhjbmobhhabaaB3
import Derived.Deep.Slices
set_option linter.unusedVariables false
set_option linter.unusedSimpArgs false
set_option linter.unusedSectionVars false
set_option linter.constructorNameAsVariable false
set_option linter.unnecessarySimpa false
set_option linter.deprecated false
/-
  Canonical sequences: every depth of a subgroup has its element; representatives are unique; the order.
  Conditions: the tails at all levels are groups; nothing of the program stands here.
-/
namespace Go.Proofs.Ytjbhjbmobhhabaa
open Go Go.Pc
section
variable {p : Pr} [hc : ConAll p] {H : El p → Prop} {d : Nat}
theorem dep_one (hH : Pc.Sub H) (h : Dep H d) : ∃ z, H z ∧ Tl d z ∧ co z d = 1 := by
  have hd := h.lt
  obtain ⟨x, h1, h2, h3⟩ := h
  have hr := co_rng x hd
  obtain ⟨k, _, _, hk⟩ := inv_ex (hc.valid.prime d hd) ⟨by omega, hr.2⟩
  exact ⟨Grp.pwz x k, hH.pwz h1 k, h2.pwz (by omega) k, by rw [co_pwz hd h2, Int.mul_comm]; exact hk⟩
theorem can_ex (hH : Pc.Sub H) (h : Dep H d) : ∃ x, CanAt H d x := by
  have key : ∀ m e, e ≤ p.n → p.n - e = m → d < e → (∃ x, CanTo H d e x) → ∃ x, CanTo H d p.n x := by
    intro m
    induction m with
    | zero =>
      intro e h1 h2 _ h4
      obtain rfl : e = p.n := by omega
      exact h4
    | succ m ih =>
      intro e h1 h2 h3 ⟨x, h4⟩
      refine ih (e + 1) (by omega) (by omega) (by omega) ?_
      by_cases hD : Dep H e
      · obtain ⟨z, hz, hzt, hz1⟩ := dep_one hH hD
        exact ⟨_, h4.step hH h3 hD.lt hz hzt hz1⟩
      · exact ⟨x, h4.skip (.inr hD)⟩
  have hd := h.lt
  obtain ⟨z, hz, hzt, hz1⟩ := dep_one hH h
  obtain ⟨x, hx⟩ := key (p.n - (d + 1)) (d + 1) (by omega) rfl (by omega) ⟨z, hz, hzt, hz1, fun k h1 h2 _ => by omega⟩
  exact ⟨x, hx.can⟩
theorem canT_ex (hH : Pc.Sub H) (h : Dep H d) : ∃ x, canT H d = some x := by
  obtain ⟨x, hx⟩ := can_ex hH h
  exact ⟨x, canT_eq hH hx⟩
/-- The elements of a canonical sequence. -/
structure SeqEl (ys : List (El p)) : Prop where
  can : canon (Gen (fun a : El p => a ∈ ys)) = vecs ys
theorem SeqEl.eq {ys : List (El p)} (h : SeqEl ys) : ys = canElsF (Gen (fun a : El p => a ∈ ys)) 0 := by
  have := vecs_inj (h.can.symm.trans (canon_vecs _))
  rw [canElsF_zero]; exact this
theorem SeqEl.ok {ys : List (El p)} (h : SeqEl ys) : SeqOk ys := by
  have := canElsF_ok (Gen (fun a : El p => a ∈ ys)) 0
  rwa [← h.eq] at this
theorem SeqEl.len {ys : List (El p)} (h : SeqEl ys) : ys.length ≤ p.n := by
  have := canElsF_len (Gen (fun a : El p => a ∈ ys)) 0
  rwa [← h.eq] at this
theorem SeqEl.dep {ys : List (El p)} (h : SeqEl ys) {d : Nat} (hd : Dep (Gen (fun a : El p => a ∈ ys)) d) : ∃ y, y ∈ ys ∧ lead y.v = d := by
  obtain ⟨x, hx⟩ := canT_ex (Gen.sub _) hd
  have hm := canElsF_mem.2 ⟨d, Nat.zero_le _, hd.lt, hx⟩
  rw [← h.eq] at hm
  have hca := canT_some hx
  exact ⟨x, hm, lead_of hca.tl (by rw [hca.lead]; omega)⟩
theorem isSeq_iff {xss : List (List Int)} : IsSeq p xss ↔ ∃ ys : List (El p), xss = vecs ys ∧ SeqEl ys :=
  ⟨fun ⟨ys, h1, h2⟩ => ⟨ys, h1, ⟨h2.trans h1⟩⟩, fun ⟨ys, h1, h2⟩ => ⟨ys, h1, h2.can.trans h1.symm⟩⟩
variable {ys : List (El p)} {x r s : El p}
theorem RepOf.gen (h : RepOf ys x r) : Gen (fun a : El p => a ∈ ys) (x⁻¹ * r) := h.mem _ (Gen.sub _) fun y hy => .of y hy
theorem RepOf.unique (hs : SeqEl ys) (h : RepOf ys x r) (k : RepOf ys x s) : r = s := by
  refine rep_unique (Gen.sub (fun a : El p => a ∈ ys)) ?_ fun d hd => ?_
  · have h1 := (Gen.sub (fun a : El p => a ∈ ys)).mul _ _ ((Gen.sub _).inv _ h.gen) k.gen
    rwa [Grp.mul_inv_rev, Grp.inv_inv, Grp.mul_assoc, Grp.mul_inv_cancel_left] at h1
  · obtain ⟨y, hy, rfl⟩ := hs.dep hd
    rw [h.zero y hy, k.zero y hy]
theorem RepOf.one_iff (hs : SeqEl ys) (h : RepOf ys x r) : r = 1 ↔ Gen (fun a : El p => a ∈ ys) x := by
  have hS := Gen.sub (fun a : El p => a ∈ ys)
  constructor
  · rintro rfl
    have h1 := hS.inv _ h.gen
    rwa [Grp.mul_one, Grp.inv_inv] at h1
  · intro hx
    have h1 := hS.mul _ _ hx h.gen
    rw [Grp.mul_inv_cancel_left] at h1
    refine rep_unique hS (hS.mul _ _ (hS.inv _ h1) hS.one) fun d hd => ?_
    obtain ⟨y, hy, rfl⟩ := hs.dep hd
    rw [h.zero y hy, co_one]
/-- The order that a sequence tells. -/
def ordOf (p : Pr) (ys : List (El p)) : Int := ys.foldl (fun a y => a * p.o (lead y.v)) 1
theorem ordOf_take (ys : List (El p)) {k : Nat} (hk : k < ys.length) : ordOf p (ys.take (k + 1)) = ordOf p (ys.take k) * p.o (lead (ys[k]).v) := by
  unfold ordOf
  rw [List.take_succ_eq_append_getElem hk, List.foldl_append]; rfl
theorem ordOf_bd : ∀ k : Nat, k ≤ ys.length → (∀ y, y ∈ ys → lead y.v < p.n) → 1 ≤ ordOf p (ys.take k) ∧ ordOf p (ys.take k) ≤ (7 ^ k : Nat)
  | 0, _, _ => by simp [ordOf]
  | k + 1, hk, h => by
    have ih := ordOf_bd k (by omega) h
    have ho := hc.valid.opos (h _ (List.getElem_mem (show k < ys.length by omega)))
    rw [ordOf_take ys (by omega)]
    refine ⟨?_, ?_⟩
    · have := Int.mul_le_mul ih.1 (show (1 : Int) ≤ p.o (lead (ys[k]).v) by omega) (by omega) (by omega)
      simpa using this
    · have := Int.mul_le_mul ih.2 ho.2 (by omega) (by omega)
      rw [Nat.pow_succ]
      push_cast
      push_cast at this
      exact this
theorem ordOf_rng {k : Nat} (h6 : ys.length ≤ 6) (hk : k ≤ ys.length) (h : ∀ y, y ∈ ys → lead y.v < p.n) : 1 ≤ ordOf p (ys.take k) ∧ ordOf p (ys.take k) ≤ 117649 := by
  have h1 := ordOf_bd k hk h
  have h2 : 7 ^ k ≤ 7 ^ 6 := Nat.pow_le_pow_right (by omega) (by omega)
  refine ⟨h1.1, ?_⟩
  have h3 : ((7 ^ k : Nat) : Int) ≤ (117649 : Nat) := Int.ofNat_le.2 h2
  omega
/-- The table of a sequence. -/
def tabOf (ys : List (El p)) : Tab p := ys.foldl (fun t y => Tab.set t (lead y.v) y) (fun _ => none)
theorem tabOf_take (ys : List (El p)) {k : Nat} (hk : k < ys.length) : tabOf (ys.take (k + 1)) = Tab.set (tabOf (ys.take k)) (lead (ys[k]).v) (ys[k]) := by
  unfold tabOf
  rw [List.take_succ_eq_append_getElem hk, List.foldl_append]; rfl
theorem tabOf_some_take (ys : List (El p)) : ∀ k, k ≤ ys.length → ∀ d y, tabOf (ys.take k) d = some y → y ∈ ys ∧ lead y.v = d
  | 0, _, d, y, h => by cases h
  | k + 1, hk, d, y, h => by
    rw [tabOf_take ys (by omega)] at h
    unfold Tab.set at h
    split at h
    · rename_i e
      injection h with h
      subst h
      exact ⟨List.getElem_mem _, e.symm⟩
    · exact tabOf_some_take ys k (by omega) d y h
theorem tabOf_some {d : Nat} {y : El p} (h : tabOf ys d = some y) : y ∈ ys ∧ lead y.v = d := by
  have := tabOf_some_take ys ys.length (Nat.le_refl _) d y
  rw [List.take_length] at this
  exact this h
theorem tabOf_ok (hs : SeqOk ys) : TabOk (tabOf ys) := by
  refine ⟨fun d y h => ?_, fun d y h => ?_, fun d y h => ?_⟩ <;> obtain ⟨h1, rfl⟩ := tabOf_some h
  · exact (hs.lead1 y h1).1
  · exact lead_tl y
  · exact (hs.lead1 y h1).2
theorem tabOf_mem (hs : SeqOk ys) {y : El p} (hy : y ∈ ys) : tabOf ys (lead y.v) ≠ none := by
  have key : ∀ k, k ≤ ys.length → ∀ i (h : i < ys.length), i < k → tabOf (ys.take k) (lead (ys[i]).v) ≠ none := by
    intro k
    induction k with
    | zero => intro _ i h h1; omega
    | succ k ih =>
      intro hk i h h1
      rw [tabOf_take ys (by omega)]
      unfold Tab.set
      split
      · simp
      · rename_i e
        refine ih (by omega) i h ?_
        by_cases e2 : i = k
        · subst e2; exact absurd rfl e
        · omega
  obtain ⟨i, hi, rfl⟩ := List.getElem_of_mem hy
  have := key ys.length (Nat.le_refl _) i hi hi
  rwa [List.take_length] at this
end
end Go.Proofs.Ytjbhjbmobhhabaa

/-
  Walks: the reference's test of subgroups (l12Is, IsSubgroup).
  Conditions: stated at each theorem.
-/
namespace Go.Proofs.Ytjbhjbmobhhabaa
open Go Go.Pc
/-- The presentation is a group, and the list is the canonical sequence of a subgroup of it. -/
def IsSubP (p : Pr) (xss : List (List Int)) : Prop := ∃ h : IsGrp p, @IsSeq p ⟨h.con⟩ xss
set_option maxHeartbeats 1000000 in
theorem l12Is_ok {p : Pr} [hc : ConAll p] {w : World} {vp vu : Value} {us : List Value} {xss : List (List Int)} {lo hi lo1 hi1 : Nat} [hp : Pres lo hi w vp p] [hu : Pc.Rows lo1 hi1 w vu us xss] :
    Calls Try.prog 64 #[vp, vu] w (Ret fun v w' => ∃ b, v = .bool b ∧ (b = true ↔ IsSeq p xss) ∧ Ext w w') := by
  have hv := hc.valid
  have hn6 := hv.n6
  have hol : p.ord.length = p.n := rfl
  obtain ⟨vo, vpw, vc, ps, cs, css, rfl, h1, h2, h3⟩ := hp.ex
  refine enter (args := [.agg #[vo, vpw, vc], vu]) (l := [.tmp 4]) Try.func64 rfl rfl Try.ntmps64 (by simp) ?_
  refine go ?_
  refine st_box3 (by ((try simp only [ev_tmp, ev_const, ev_func, get_put, get_args, get_putL, get_putL_nil, Nat.reduceEqDiff, reduceIte, List.getD_cons_zero, List.getD_cons_succ, List.getD_nil]); first | done | with_reducible rfl)) (by first | exact True.intro | exact ⟨_, rfl, by ((try simp only [ev_tmp, ev_const, ev_func, get_put, get_args, get_putL, get_putL_nil, Nat.reduceEqDiff, reduceIte, List.getD_cons_zero, List.getD_cons_succ, List.getD_nil, Bool.not_true, Bool.not_false]); first | done | with_reducible rfl)⟩) fun w1 b he1 hb1 hs1 hc0 hc1 hc2 => ?_
  refine go ?_
  refine spd (fun h4 => ?_) (fun h4 => ?_)
  · refine go ?_
    refine rc (l10Elements_ok hv (xss := xss) ?_) (next := fun v5 w5 h5 => ?_)
    · omega
    obtain ⟨b5, rfl, hb5, he5⟩ := h5
    refine go ?_
    refine sp (fun e5 => ?_) (fun e5 => ?_)
    · obtain ⟨ys, hys⟩ := els_of (hb5.1 e5)
      have hyl : xss.length = ys.length := by rw [hys]; simp
      refine go ?_
      refine rc (l12Close_ok (ys := ys) hys ?_) (next := fun v6 w6 h6 => ?_)
      · omega
      obtain ⟨he6, us6, hL6⟩ := h6
      have hr6 := hL6.toRows
      have hcl := canTo_len (Gen (fun a : El p => a ∈ ys)) p.n
      rw [canTo_end] at hcl
      refine go ?_
      refine rc (l01Same2_ok (xss := canon (Gen (fun a : El p => a ∈ ys))) (yss := xss) ?_ ?_) (next := fun v7 w7 h7 => ?_)
      · intro i
        have := canon_row (Gen (fun a : El p => a ∈ ys)) i
        omega
      · omega
      obtain ⟨b7, rfl, hb7, he7⟩ := h7
      refine go ?_
      refine ret1 ⟨_, rfl, hb7.trans ⟨fun h => ⟨ys, hys, h⟩, ?_⟩, ((he1.trans he5).trans he6).trans he7⟩
      rintro ⟨zs, hzs, h⟩
      obtain rfl : ys = zs := vecs_inj (hys.symm.trans hzs)
      exact h
    · refine go ?_
      refine ret1 ⟨_, rfl, ?_, he1.trans he5⟩
      simp only [Bool.false_eq_true, false_iff]
      rintro ⟨ys, hys, _⟩
      have := hb5.2 (by rw [hys]; exact fun i hi => vecs_in hi)
      rw [e5] at this; cases this
  · refine go ?_
    refine ret1 ⟨_, rfl, ?_, he1⟩
    simp only [Bool.false_eq_true, false_iff]
    intro h
    have := h.len
    omega
set_option maxHeartbeats 1000000 in
theorem spec_IsSubgroup_ok {p : Pr} {w : World} {vp vu : Value} {us : List Value} {xss : List (List Int)} {lo hi lo1 hi1 : Nat} [hp : Pres lo hi w vp p] [hu : Pc.Rows lo1 hi1 w vu us xss] (hl : p.ord.length ≤ 2000000) :
    Calls Try.prog 54 #[vp, vu] w (Ret fun v w' => ∃ b, v = .bool b ∧ (b = true ↔ IsSubP p xss) ∧ Ext w w') := by
  obtain ⟨vo, vpw, vc, ps, cs, css, rfl, h1, h2, h3⟩ := hp.ex
  refine enter (args := [.agg #[vo, vpw, vc], vu]) (l := [.tmp 4]) Try.func54 rfl rfl Try.ntmps54 (by simp) ?_
  refine go ?_
  refine st_box3 (by ((try simp only [ev_tmp, ev_const, ev_func, get_put, get_args, get_putL, get_putL_nil, Nat.reduceEqDiff, reduceIte, List.getD_cons_zero, List.getD_cons_succ, List.getD_nil]); first | done | with_reducible rfl)) (by first | exact True.intro | exact ⟨_, rfl, by ((try simp only [ev_tmp, ev_const, ev_func, get_put, get_args, get_putL, get_putL_nil, Nat.reduceEqDiff, reduceIte, List.getD_cons_zero, List.getD_cons_succ, List.getD_nil, Bool.not_true, Bool.not_false]); first | done | with_reducible rfl)⟩) fun w1 b he1 hb1 hs1 hc0 hc1 hc2 => ?_
  refine go ?_
  refine rc (l08Group_ok hl) (next := fun v5 w5 h5 => ?_)
  obtain ⟨b5, rfl, hb5, he5⟩ := h5
  refine go ?_
  refine sp (fun e5 => ?_) (fun e5 => ?_)
  · have hG := hb5.1 e5
    haveI : ConAll p := ⟨hG.con⟩
    refine go ?_
    refine rc (l12Is_ok (xss := xss)) (next := fun v6 w6 h6 => ?_)
    obtain ⟨b6, rfl, hb6, he6⟩ := h6
    refine go ?_
    exact ret1 ⟨_, rfl, hb6.trans ⟨fun h => ⟨hG, h⟩, fun ⟨_, h⟩ => h⟩, (he1.trans he5).trans he6⟩
  · refine go ?_
    refine ret1 ⟨_, rfl, ?_, he1.trans he5⟩
    simp only [Bool.false_eq_true, false_iff]
    rintro ⟨h, _⟩
    have := hb5.2 h
    rw [e5] at this; cases this
end Go.Proofs.Ytjbhjbmobhhabaa

/-
  Answers that the program and the reference give: what they have to be, and that they are the same.
  Conditions: none.
-/
namespace Go.Proofs.Ytjbhjbmobhhabaa
open Go Go.Pc
/-- An answer with a code: under A the pair meets V, else it is z with the code 1. -/
def Ans {α : Type} (A : Prop) (V : α → Int → Prop) (z k : α) (e : Int) : Prop := (A ∧ V k e) ∨ (¬ A ∧ k = z ∧ e = 1)
theorem Ans.same {α : Type} {A : Prop} {V : α → Int → Prop} {z k k' : α} {e e' : Int} (h : Ans A V z k e) (h' : Ans A V z k' e') (hu : A → ∀ a b c d, V a c → V b d → a = b ∧ c = d) : k = k' ∧ e = e' := by
  rcases h with ⟨h1, h2⟩ | ⟨h1, h2, h3⟩ <;> rcases h' with ⟨k1, k2⟩ | ⟨k1, k2, k3⟩
  · exact hu h1 _ _ _ _ h2 k2
  · exact absurd h1 k1
  · exact absurd k1 h1
  · exact ⟨by rw [h2, k2], by rw [h3, k3]⟩
theorem bool_eq {b c : Bool} {P : Prop} (h : b = true ↔ P) (k : c = true ↔ P) : b = c := by
  have e : b = true ↔ c = true := h.trans k.symm
  cases b <;> cases c <;> simp_all
theorem el_one_iff {p : Pr} [hc : ConAll p] (r : El p) : r = 1 ↔ ∀ i, i < r.v.length → r.v.getD i 0 = 0 := by
  have hl := r.inr.len
  constructor
  · rintro rfl i _; exact co_one i
  · intro h; exact el_ext fun d hd => by rw [co_one]; exact h d (by omega)
/-- The list is an element of the subgroup that the sequence tells. -/
def MemP (p : Pr) (xss : List (List Int)) (xs : List Int) : Prop := ∃ (_ : ConAll p) (ys : List (El p)) (x : El p), xss = vecs ys ∧ xs = x.v ∧ Gen (fun a : El p => a ∈ ys) x
theorem memP_iff {p : Pr} [hc : ConAll p] {ys : List (El p)} {x : El p} : MemP p (vecs ys) x.v ↔ Gen (fun a : El p => a ∈ ys) x := by
  constructor
  · rintro ⟨hc', ys', x', h1, h2, h3⟩
    obtain rfl := vecs_inj h1
    obtain rfl : x = x' := T.ext h2
    exact h3
  · exact fun h => ⟨hc, ys, x, rfl, rfl, h⟩
def MemV (p : Pr) (xss : List (List Int)) (xs : List Int) (b : Bool) (e : Int) : Prop := (b = true ↔ MemP p xss xs) ∧ e = 0
theorem MemV.uniq {p : Pr} {xss : List (List Int)} {xs : List Int} (a b : Bool) (c d : Int) (h : MemV p xss xs a c) (k : MemV p xss xs b d) : a = b ∧ c = d := ⟨bool_eq h.1 k.1, by rw [h.2, k.2]⟩
def SubV (p : Pr) (xss yss : List (List Int)) (b : Bool) (e : Int) : Prop := (b = true ↔ ∀ x, x ∈ xss → MemP p yss x) ∧ e = 0
theorem SubV.uniq {p : Pr} {xss yss : List (List Int)} (a b : Bool) (c d : Int) (h : SubV p xss yss a c) (k : SubV p xss yss b d) : a = b ∧ c = d := ⟨bool_eq h.1 k.1, by rw [h.2, k.2]⟩
theorem subV_iff {p : Pr} [hc : ConAll p] {ys zs : List (El p)} : (∀ x, x ∈ vecs ys → MemP p (vecs zs) x) ↔ ∀ y, y ∈ ys → Gen (fun a : El p => a ∈ zs) y := by
  constructor
  · exact fun h y hy => memP_iff.1 (h y.v (List.mem_map.2 ⟨y, hy, rfl⟩))
  · intro h x hx
    obtain ⟨y, hy, rfl⟩ := List.mem_map.1 hx
    exact memP_iff.2 (h y hy)
/-- Two lists are both sequences of subgroups. -/
def TwoP (p : Pr) (xss yss : List (List Int)) : Prop := IsSubP p xss ∧ IsSubP p yss
end Go.Proofs.Ytjbhjbmobhhabaa

/-
  More rules: a slice value stored in a drawn region; a slice of two values.
  Conditions: none; nothing of the program stands here.
-/
namespace Go.Pc
open Go Go.RowKit
theorem Sl.le_max {lo hi : Nat} {w : World} {v : Value} {us : List Value} (h : Sl lo hi w v us) : us.length ≤ 9223372036854775807 := by
  obtain ⟨A, c, _, hc, hm, _⟩ := h.ex
  omega
theorem Ints.nilR (lo hi : Nat) (w : World) : Ints lo hi w nilv [] := ⟨⟨none, 0, rfl, Nat.le_refl _, by omega, fun k u hu => by simp at hu⟩⟩
theorem Fr.nilR (s : Nat) (w : World) : Fr s w nilv [] := ⟨Ints.nilR _ _ _, fun h => absurd rfl h⟩
theorem Rows.nilR (lo hi : Nat) (w : World) : Rows lo hi w nilv [] [] := ⟨⟨none, 0, rfl, Nat.le_refl _, by omega, fun k u hu => by simp at hu⟩, rfl, fun j => by simpa using Ints.nilR lo hi w⟩
theorem MatO.nilR (s t : Nat) (w : World) : MatO s t w nilv [] := ⟨Rows.nilR _ _ _, RowsO.nil _ _, fun b hb => absurd hb (blkOf_nil b), ⟨0, 0, ⟨none, 0, rfl, Nat.le_refl _, by omega, fun k u hu => by simp at hu⟩, fun b _ => .inr (Nat.zero_le _)⟩⟩
section
variable {P : Program} {N : Nat} {ops : Array Oper} {π : List Nat} {K : Env → World → Prop} {ρ : Env} {w w0 : World} {l : List Oper}
variable {i : Nat} {ty : TypeId} {pos : String} {after : Array Edge} {g : Option (Nat × Bool)} {d : Nat}
theorem z_store_val {e b t m bytes : Nat} {x y : Operand} {v u z : Value} {us : List Value} [he : ElT P t 1 bytes z] [h : Own e b w v us] (hi : opAt ops π i = some ⟨none, .store t x y, ty, pos, after, g⟩ := by exact rfl) (hx : ev ρ x = eptr v m) (hy : ev ρ y = u) (hu : u.oneCell' = true) (hm : m < us.length)
    (next : ∀ w', Chg b w w' → w'.heap.size = w.heap.size → Own e b w' v (us.set m u) → dops P N ops π (Chg b w0) K (i + 1) ρ w')
    (hn : nextOk ops π i = true := by decide +kernel) (hg : Wants ops ρ g := by first | exact True.intro | exact ⟨_, rfl, by ((try simp only [ev_tmp, ev_const, ev_func, get_put, get_args, get_putL, get_putL_nil, Nat.reduceEqDiff, reduceIte, List.getD_cons_zero, List.getD_cons_succ, List.getD_nil, Bool.not_true, Bool.not_false]); first | done | with_reducible rfl)⟩) : dops P N ops π (Chg b w0) K i ρ w := by
  have hs := setCell_own h (m := m) u
  exact z_wr hi hn hg (wr_store (P := P) (ρ := ρ) (ty := ty) (t := t) (h := h) hx hy hu hm) (fun h => h.trans hs.2.1) (next _ hs.2.1 hs.2.2 hs.1)
theorem st_slice2 {t e bytes : Nat} {x y : Operand} {u v z : Value} [ht : SlT P t e] [he : ElT P e 1 bytes z] (h : ev ρ x = u) (k : ev ρ y = v) (hu : u.cells = #[u]) (hv : v.cells = #[v]) (hz : z.cells = #[z]) (hg : Wants ops ρ g)
    (next : ∀ w' s, Ext w w' → w'.heap.size = w.heap.size + 2 - 1 → Sl w.heap.size (w.heap.size + 1) w' s [u, v] → rops P N ops K l (put ρ d s) w') : rops P N ops K (⟨some d, .buildSlice t 2 #[(0, x), (1, y)], ty, pos, after, g⟩ :: l) ρ w := by
  obtain ⟨i, hi, hs, hby, hz'⟩ := he.ex
  refine st_ex (v := .slice (some ⟨w.heap.size, 0, none⟩) 2 2) (w' := w.alloc (.cells #[u, v] e)) hg ⟨fun _ _ _ _ => ?_⟩ (next _ _ (Ext.alloc _ _) (by simp) ?_)
  · simp [execOp, h, k, Instr.buildSlice, run_underlying ht.eq, sizeOf, typeInfo, hi, hs, zeroValue, hz', hz, Instr.fill, hu, hv, newRow]
    refine congrArg (fun a => w.alloc (Obj.cells a e)) (Array.ext (by simp) fun j h1 h2 => ?_)
    have : j = 0 ∨ j = 1 := by simp at h2; omega
    rcases this with rfl | rfl <;> simp
  · have := own_alloc w [u, v] e (by simp [maxLen])
    simpa using this.toSl
end
end Go.Pc

/-
  Walks: the reference's depth, order, table, reduction, representative and membership (l02Lead, l12Depth, l12Order).
  Conditions: stated at each theorem.
-/
namespace Go.Proofs.Ytjbhjbmobhhabaa
open Go Go.Pc
set_option maxHeartbeats 400000 in
theorem l02Lead_ok {w : World} {v : Value} {xs : List Int} {lo hi : Nat} [hx : Ints lo hi w v xs] (hl : xs.length ≤ 2000000) :
    Calls Try.prog 102 #[v] w (Ret fun v w' => v = .int .i64 (lead xs) ∧ Ext w w') := by
  refine enter (args := [v]) (l := [.tmp 2]) Try.func102 rfl rfl Try.ntmps102 (by simp) ?_
  refine go ?_
  refine r_for xs.length (fun k ρ w' => Has ρ [(0, v), (3, .int .i64 k)] ∧ Ext w w' ∧ ∀ i, i < k → xs.getD i 0 = 0) ?_ ?_
  · refine ⟨?_, Ext.refl _, fun i hi => by omega⟩
    exact hasP
  rintro k ρ w2 hk ⟨hH, he2, hI⟩
  refine rwp_has hH fun ρ0 => ?_
  refine go ?_
  refine c_if (fun h4 => ?_) (fun h4 => ?_)
  · refine go ?_
    refine c_if (fun h5 => ?_) (fun h5 => ?_)
    · refine go ?_
      exact ret1 ⟨by rw [lead_eq hI h5], he2⟩
    · refine go ?_
      refine forQ_normal (by omega) ⟨?_, he2, fun i hi => ?_⟩
      · exact hasP
      · by_cases e : i = k
        · subst e; exact Decidable.not_not.1 h5
        · exact hI i (by omega)
  · refine go ?_
    exact ret1 ⟨by rw [lead_len fun i hi => hI i (by omega)], he2⟩
theorem l12Depth_ok {w : World} {v : Value} {xs : List Int} {lo hi : Nat} [hx : Ints lo hi w v xs] (hl : xs.length ≤ 2000000) :
    Calls Try.prog 72 #[v] w (Ret fun v w' => v = .int .i64 (lead xs) ∧ Ext w w') := by
  refine enter (args := [v]) (l := [.tmp 2]) Try.func72 rfl rfl Try.ntmps72 (by simp) ?_
  refine go ?_
  refine rc (l02Lead_ok (xs := xs) hl) (next := fun v1 w1 h1 => ?_)
  obtain ⟨rfl, he1⟩ := h1
  refine go ?_
  exact ret1 ⟨rfl, he1⟩
set_option maxHeartbeats 1000000 in
theorem l12Order_ok {p : Pr} [hc : ConAll p] {ys : List (El p)} (hs : SeqEl ys) {w : World} {vp vu : Value} {us : List Value} {xss : List (List Int)} {lo hi lo1 hi1 : Nat} [hp : Pres lo hi w vp p] [hu : Pc.Rows lo1 hi1 w vu us xss] (hus : xss = vecs ys) :
    Calls Try.prog 55 #[vp, vu] w (Ret fun v w' => v = .int .i64 (ordOf p ys) ∧ Ext w w') := by
  subst hus
  have hv := hc.valid
  have hn6 := hv.n6
  have hol : p.ord.length = p.n := rfl
  have hlen := hs.len
  have hvl : (vecs ys).length = ys.length := by simp
  obtain ⟨vo, vpw, vc, ps, cs, css, rfl, h1, h2, h3⟩ := hp.ex
  refine enter (args := [.agg #[vo, vpw, vc], vu]) (l := [.tmp 4]) Try.func55 rfl rfl Try.ntmps55 (by simp) ?_
  refine go ?_
  refine st_box3 (by ((try simp only [ev_tmp, ev_const, ev_func, get_put, get_args, get_putL, get_putL_nil, Nat.reduceEqDiff, reduceIte, List.getD_cons_zero, List.getD_cons_succ, List.getD_nil]); first | done | with_reducible rfl)) (by first | exact True.intro | exact ⟨_, rfl, by ((try simp only [ev_tmp, ev_const, ev_func, get_put, get_args, get_putL, get_putL_nil, Nat.reduceEqDiff, reduceIte, List.getD_cons_zero, List.getD_cons_succ, List.getD_nil, Bool.not_true, Bool.not_false]); first | done | with_reducible rfl)⟩) fun w1 b he1 hb1 hs1 hc0 hc1 hc2 => ?_
  refine go ?_
  refine r_for ys.length (fun k ρ w' => Has ρ [(1, vu), (2, .pointer (some ⟨b, 0, none⟩)), (5, .int .i64 (ordOf p (ys.take k))), (6, .int .i64 k)] ∧ Ext w1 w') ?_ ?_
  · refine ⟨?_, Ext.refl _⟩
    exact hasP
  rintro k ρ w2 hk ⟨hH, he2⟩
  refine rwp_has hH fun ρ0 => ?_
  refine go ?_
  refine c_if (fun h4 => ?_) (fun h4 => ?_)
  · have hkn : k < ys.length := by omega
    have hg := vecs_getD ys hkn
    have hgl : ((vecs ys).getD k []).length = p.n := by rw [hg]; exact (ys[k]).inr.len
    obtain ⟨hdn, hy1⟩ := hs.ok.lead1 _ (List.getElem_mem hkn)
    obtain ⟨d, hd⟩ : ∃ d, lead (ys[k]).v = d := ⟨_, rfl⟩
    rw [hd] at hdn
    have hod := hv.opos hdn
    have hr := ordOf_rng (k := k) (by omega) (by omega) fun y hy => (hs.ok.lead1 y hy).1
    have hm : 0 ≤ ordOf p (ys.take k) * p.o d ∧ ordOf p (ys.take k) * p.o d ≤ 117649 * 7 := ⟨Int.mul_nonneg (by omega) (by omega), Int.mul_le_mul hr.2 hod.2 (by omega) (by omega)⟩
    have hmb : -9223372036854775808 ≤ ordOf p (ys.take k) * p.o d ∧ ordOf p (ys.take k) * p.o d ≤ 9223372036854775807 := ⟨by omega, by omega⟩
    refine go ?_
    refine d_region fun w4 he4 _ => ?_
    refine dgo ?_
    refine dce (l12Depth_ok (xs := (vecs ys).getD k []) ?_) (next := fun v5 w5 h7 => ?_)
    · omega
    obtain ⟨rfl, he5⟩ := h7
    rw [hg, hd]
    refine dgo ?_
    rw [show p.ord.getD d 0 = p.o d from rfl]
    refine da (h := rs_mul (by ((try simp only [ev_tmp, ev_const, ev_func, get_put, get_args, get_putL, get_putL_nil, Nat.reduceEqDiff, reduceIte, List.getD_cons_zero, List.getD_cons_succ, List.getD_nil]); first | done | with_reducible rfl)) (by ((try simp only [ev_tmp, ev_const, ev_func, get_put, get_args, get_putL, get_putL_nil, Nat.reduceEqDiff, reduceIte, List.getD_cons_zero, List.getD_cons_succ, List.getD_nil]); first | done | with_reducible rfl)) hmb) (next := ?_)
    refine dgo ?_
    refine d_end (h := ?_)
    refine go ?_
    refine forQ_normal (by omega) ⟨?_, (he2.trans he4).trans he5⟩
    have ht := ordOf_take ys hkn
    rw [hd] at ht
    rw [ht]
    exact hasP
  · refine go ?_
    rw [show k = ys.length by omega, List.take_length]
    exact ret1 ⟨rfl, he1.trans he2⟩
/-- The order of a list that is a sequence. -/
def ordOfL (p : Pr) (xss : List (List Int)) : Int := xss.foldl (fun a x => a * p.o (lead x)) 1
theorem ordOfL_vecs {p : Pr} (ys : List (El p)) : ordOfL p (vecs ys) = ordOf p ys := by
  unfold ordOfL ordOf vecs
  rw [List.foldl_map]
/-- The answer of SubgroupOrder. -/
def OrdAns (p : Pr) (xss : List (List Int)) (k e : Int) : Prop := (IsSubP p xss ∧ k = ordOfL p xss ∧ e = 0) ∨ (¬ IsSubP p xss ∧ k = 0 ∧ e = 1)
theorem OrdAns.same {p : Pr} {xss : List (List Int)} {k e k' e' : Int} (h : OrdAns p xss k e) (h' : OrdAns p xss k' e') : k' = k ∧ e' = e := by
  rcases h with ⟨h1, h2, h3⟩ | ⟨h1, h2, h3⟩ <;> rcases h' with ⟨k1, k2, k3⟩ | ⟨k1, k2, k3⟩
  · exact ⟨by rw [h2, k2], by rw [h3, k3]⟩
  · exact absurd h1 k1
  · exact absurd k1 h1
  · exact ⟨by rw [h2, k2], by rw [h3, k3]⟩
set_option maxHeartbeats 1000000 in
theorem spec_SubgroupOrder_ok {p : Pr} {w : World} {vp vu : Value} {us : List Value} {xss : List (List Int)} {lo hi lo1 hi1 : Nat} [hp : Pres lo hi w vp p] [hu : Pc.Rows lo1 hi1 w vu us xss] (hl : p.ord.length ≤ 2000000) :
    Calls Try.prog 17 #[vp, vu] w (Ret fun v w' => ∃ k e, v = .tuple #[.int .i64 k, .int .i64 e] ∧ OrdAns p xss k e ∧ Ext w w') := by
  obtain ⟨vo, vpw, vc, ps, cs, css, rfl, h1, h2, h3⟩ := hp.ex
  refine enter (args := [.agg #[vo, vpw, vc], vu]) (l := [.tmp 4, .tmp 5]) Try.func17 rfl rfl Try.ntmps17 (by simp) ?_
  refine go ?_
  refine st_box3 (by ((try simp only [ev_tmp, ev_const, ev_func, get_put, get_args, get_putL, get_putL_nil, Nat.reduceEqDiff, reduceIte, List.getD_cons_zero, List.getD_cons_succ, List.getD_nil]); first | done | with_reducible rfl)) (by first | exact True.intro | exact ⟨_, rfl, by ((try simp only [ev_tmp, ev_const, ev_func, get_put, get_args, get_putL, get_putL_nil, Nat.reduceEqDiff, reduceIte, List.getD_cons_zero, List.getD_cons_succ, List.getD_nil, Bool.not_true, Bool.not_false]); first | done | with_reducible rfl)⟩) fun w1 b he1 hb1 hs1 hc0 hc1 hc2 => ?_
  refine go ?_
  refine rc (spec_IsSubgroup_ok (p := p) (xss := xss) hl) (next := fun v5 w5 h5 => ?_)
  obtain ⟨b5, rfl, hb5, he5⟩ := h5
  refine go ?_
  refine c_b (fun e5 => ?_) (fun e5 => ?_)
  · refine go ?_
    refine ret2 ⟨0, 1, rfl, .inr ⟨fun h => ?_, rfl, rfl⟩, he1.trans he5⟩
    rw [hb5.2 h] at e5; cases e5
  · have hS := hb5.1 (by simpa using e5)
    obtain ⟨hG, hq⟩ := hS
    haveI : ConAll p := ⟨hG.con⟩
    obtain ⟨ys, hys, hse⟩ := isSeq_iff.1 hq
    refine go ?_
    refine rc (l12Order_ok (p := p) hse (xss := xss) hys) (next := fun v6 w6 h6 => ?_)
    obtain ⟨rfl, he6⟩ := h6
    refine go ?_
    exact ret2 ⟨_, _, rfl, .inl ⟨⟨hG, hq⟩, by rw [hys, ordOfL_vecs], rfl⟩, (he1.trans he5).trans he6⟩
end Go.Proofs.Ytjbhjbmobhhabaa

/-
  Walks: the reference's table, reduction, representative and membership (l12Table, l12Reduce, l12Sift, l12Has).
  Conditions: the tails at all levels are groups; the list is a sequence.
-/
namespace Go.Proofs.Ytjbhjbmobhhabaa
open Go Go.Pc
set_option maxHeartbeats 1000000 in
/-- A reduction keeps the coset, and clears the places of the table's entries. -/
theorem l12Reduce_ok {p : Pr} [hc : ConAll p] {t : Tab p} (hT : TabOk t) {w : World} {vp vt vx : Value} {us : List Value} {x : El p} {xs : List Int} {lo hi lo1 hi1 lo2 hi2 : Nat} [hp : Pres lo hi w vp p] [ht : Pc.Rows lo1 hi1 w vt us (tabL t)] [hx : Ints lo2 hi2 w vx xs] (hxe : xs = x.v) :
    Calls Try.prog 105 #[vp, vt, vx] w (Ret fun v w' => Ext w w' ∧ ∃ r : El p, Fr w.heap.size w' v r.v ∧ (∀ H : El p → Prop, Pc.Sub H → (∀ d y, t d = some y → H y) → H (x⁻¹ * r)) ∧ (∀ d, t d ≠ none → co r d = 0) ∧ ∀ e, (∀ d, t d ≠ none → e < d) → co r e = co x e) := by
  subst hxe
  have hv := hc.valid
  have hn6 := hv.n6
  have htl := tabL_len t
  have hxl := x.inr.len
  obtain ⟨vo, vpw, vc, ps, cs, css, rfl, h1, h2, h3⟩ := hp.ex
  refine enter (args := [.agg #[vo, vpw, vc], vt, vx]) (l := [.tmp 6]) Try.func105 rfl rfl Try.ntmps105 (by simp) ?_
  refine go ?_
  refine st_box3 (by ((try simp only [ev_tmp, ev_const, ev_func, get_put, get_args, get_putL, get_putL_nil, Nat.reduceEqDiff, reduceIte, List.getD_cons_zero, List.getD_cons_succ, List.getD_nil]); first | done | with_reducible rfl)) (by first | exact True.intro | exact ⟨_, rfl, by ((try simp only [ev_tmp, ev_const, ev_func, get_put, get_args, get_putL, get_putL_nil, Nat.reduceEqDiff, reduceIte, List.getD_cons_zero, List.getD_cons_succ, List.getD_nil, Bool.not_true, Bool.not_false]); first | done | with_reducible rfl)⟩) fun w1 b he1 hb1 hs1 hc0 hc1 hc2 => ?_
  refine go ?_
  refine rc (l01Own_ok (xs := x.v) ?_) (next := fun v2 w2 h2 => ?_)
  · omega
  obtain ⟨he2, hf2⟩ := h2
  refine go ?_
  refine r_for p.n (fun k ρ w' => ∃ vr r, Has ρ [(1, vt), (3, .pointer (some ⟨b, 0, none⟩)), (7, vr), (8, .int .i64 k)] ∧ Ext w1 w' ∧ Fr w.heap.size w' vr (T.v (p := p) (i := 0) r) ∧
    (∀ H : El p → Prop, Pc.Sub H → (∀ d y, t d = some y → H y) → H (x⁻¹ * r)) ∧ (∀ d, d < k → t d ≠ none → co r d = 0) ∧ ∀ e, (∀ d, t d ≠ none → e < d) → co r e = co x e) ?_ ?_
  · refine ⟨v2, x, ?_, he2, hf2.mono he1.size, fun H hH _ => by rw [Grp.inv_mul]; exact hH.one, fun d hd => by omega, fun e _ => rfl⟩
    exact hasP
  rintro k ρ w3 hk ⟨vr, r, hH, he3, hf3, hm, hz, hlow⟩
  refine rwp_has hH fun ρ0 => ?_
  have hrl := r.inr.len
  refine go ?_
  refine c_if (fun h4 => ?_) (fun h4 => ?_)
  · have hkn : k < p.n := by omega
    have hrk := r.inr.rng k hkn
    have hok := hv.opos hkn
    have hrow : ((tabL t).getD k []).length = 0 ↔ t k = none := by rw [tabL_at t hkn]; exact rowOf_len hkn
    refine go ?_
    refine spd (fun h5 => ?_) (fun h5 => ?_)
    · refine go ?_
      refine c_if (fun h6 => ?_) (fun h6 => ?_)
      · obtain ⟨y, hy⟩ : ∃ y, t k = some y := by
          cases e : t k with
          | none => exact absurd (hrow.2 e) (by omega)
          | some y => exact ⟨y, rfl⟩
        have hye : (tabL t).getD k [] = y.v := by rw [tabL_at t hkn, rowOf_some hy]
        refine go ?_
        refine d_region fun w4 he4 _ => ?_
        refine dgo ?_
        refine dc (l10Pow_ok (p := p) (x := y) hye ?_) (next := fun v5 w5 h7 => ?_)
        · omega
        obtain ⟨he5, hf5⟩ := h7
        refine ⟨fun h => h.trans he5, ?_⟩
        refine dc (l08Mul_ok (p := p) (x := r) (y := Grp.pwz y (-(r.v.getD k 0))) rfl rfl) (next := fun v6 w6 h8 => ?_)
        obtain ⟨he6, hf6⟩ := h8
        refine ⟨fun h => h.trans he6, ?_⟩
        refine dgo ?_
        refine d_end (h := ?_)
        refine go ?_
        have hyt := hT.tl k y hy
        have hyl := hT.lead k y hy
        have hzt := hyt.pwz (by omega) (-(co r k))
        have hE := (he3.trans he4).trans he5
        have hsz := he1.size
        have hsz2 := hE.size
        refine forQ_normal (by omega) ⟨v6, r * Grp.pwz y (-(co r k)), ?_, hE.trans he6, hf6.mono (by omega), fun H hH hy' => ?_, fun d hd hne => ?_, fun e he => ?_⟩
        · exact hasP
        · rw [← Grp.mul_assoc]
          exact hH.mul _ _ (hm H hH hy') (hH.pwz (hy' k y hy) _)
        · by_cases e : d = k
          · subst e
            rw [co_at _ hkn hzt, co_pwz hkn hyt, hyl, Int.mul_one, Int.add_emod_emod, Int.add_right_neg, Int.zero_emod]
          · rw [co_low _ hkn hzt (by omega)]; exact hz d (by omega) hne
        · rw [co_low _ hkn hzt (he k (by rw [hy]; simp))]; exact hlow e he
      · refine go ?_
        refine forQ_normal (by omega) ⟨vr, r, ?_, he3, hf3, hm, fun d hd hne => ?_, hlow⟩
        · exact hasP
        · by_cases e : d = k
          · subst e; exact Decidable.not_not.1 h6
          · exact hz d (by omega) hne
    · refine go ?_
      refine forQ_normal (by omega) ⟨vr, r, ?_, he3, hf3, hm, fun d hd hne => ?_, hlow⟩
      · exact hasP
      · by_cases e : d = k
        · subst e; exact absurd (hrow.1 (by omega)) hne
        · exact hz d (by omega) hne
  · refine go ?_
    refine ret1 ⟨he1.trans he3, r, hf3, hm, fun d hne => hz d ?_ hne, hlow⟩
    cases e : t d with
    | none => exact absurd e hne
    | some y => have := hT.lt d y e; omega
end Go.Proofs.Ytjbhjbmobhhabaa

/-
  Walks: the reference's table, representative and membership (l12Table, l12Sift, l12Has, l12Within).
  Conditions: the tails at all levels are groups; the list is a sequence.
-/
namespace Go.Proofs.Ytjbhjbmobhhabaa
open Go Go.Pc
set_option maxHeartbeats 400000 in
theorem l01Zero_ok {w : World} {v : Value} {xs : List Int} {lo hi : Nat} [hx : Ints lo hi w v xs] (hl : xs.length ≤ 2000000) :
    Calls Try.prog 93 #[v] w (Ret fun v w' => ∃ b, v = .bool b ∧ (b = true ↔ ∀ i, i < xs.length → xs.getD i 0 = 0) ∧ Ext w w') := by
  refine enter (args := [v]) (l := [.tmp 2]) Try.func93 rfl rfl Try.ntmps93 (by simp) ?_
  refine go ?_
  refine r_for xs.length (fun k ρ w' => Has ρ [(0, v), (3, .int .i64 k)] ∧ Ext w w' ∧ ∀ i, i < k → xs.getD i 0 = 0) ?_ ?_
  · refine ⟨?_, Ext.refl _, fun i hi => by omega⟩
    exact hasP
  rintro k ρ w2 hk ⟨hH, he2, hI⟩
  refine rwp_has hH fun ρ0 => ?_
  refine go ?_
  refine c_if (fun h4 => ?_) (fun h4 => ?_)
  · refine go ?_
    refine c_if (fun h5 => ?_) (fun h5 => ?_)
    · refine go ?_
      refine ret1 ⟨_, rfl, ?_, he2⟩
      simp only [Bool.false_eq_true, false_iff]
      exact fun h => h5 (h k (by omega))
    · refine go ?_
      refine forQ_normal (by omega) ⟨?_, he2, fun i hi => ?_⟩
      · exact hasP
      · by_cases e : i = k
        · subst e; exact Decidable.not_not.1 h5
        · exact hI i (by omega)
  · refine go ?_
    refine ret1 ⟨_, rfl, ?_, he2⟩
    simp only [true_iff]
    exact fun i hi => hI i (by omega)
set_option maxHeartbeats 1000000 in
/-- The table of a sequence. -/
theorem l12Table_ok {p : Pr} [hc : ConAll p] (hv : Valid p) {ys : List (El p)} (hs : SeqOk ys) {w : World} {vp vu : Value} {us : List Value} {xss : List (List Int)} {lo hi lo1 hi1 : Nat} [hp : Pres lo hi w vp p] [hu : Pc.Rows lo1 hi1 w vu us xss] (hus : xss = vecs ys) :
    Calls Try.prog 106 #[vp, vu] w (Ret fun v w' => Ext w w' ∧ ∃ us', Pc.Rows 0 w'.heap.size w' v us' (tabL (tabOf ys))) := by
  subst hus
  have hn6 := hv.n6
  have hol : p.ord.length = p.n := rfl
  have hvl : (vecs ys).length = ys.length := by simp
  have hul := hu.vals.len
  have hul2 := hu.sl.le_max
  replace hu := hu.wide
  obtain ⟨vo, vpw, vc, ps, cs, css, rfl, h1, h2, h3⟩ := hp.ex
  refine enter (args := [.agg #[vo, vpw, vc], vu]) (l := [.tmp 4]) Try.func106 rfl rfl Try.ntmps106 (by simp) ?_
  refine go ?_
  refine st_box3 (by ((try simp only [ev_tmp, ev_const, ev_func, get_put, get_args, get_putL, get_putL_nil, Nat.reduceEqDiff, reduceIte, List.getD_cons_zero, List.getD_cons_succ, List.getD_nil]); first | done | with_reducible rfl)) (by first | exact True.intro | exact ⟨_, rfl, by ((try simp only [ev_tmp, ev_const, ev_func, get_put, get_args, get_putL, get_putL_nil, Nat.reduceEqDiff, reduceIte, List.getD_cons_zero, List.getD_cons_succ, List.getD_nil, Bool.not_true, Bool.not_false]); first | done | with_reducible rfl)⟩) fun w1 b he1 hb1 hs1 hc0 hc1 hc2 => ?_
  refine go ?_
  refine st_make_nil (by ((try simp only [ev_tmp, ev_const, ev_func, get_put, get_args, get_putL, get_putL_nil, Nat.reduceEqDiff, reduceIte, List.getD_cons_zero, List.getD_cons_succ, List.getD_nil]); first | done | with_reducible rfl)) (by ((try simp only [ev_tmp, ev_const, ev_func, get_put, get_args, get_putL, get_putL_nil, Nat.reduceEqDiff, reduceIte, List.getD_cons_zero, List.getD_cons_succ, List.getD_nil]); first | done | with_reducible rfl)) (by omega) (by omega) (by first | exact True.intro | exact ⟨_, rfl, by ((try simp only [ev_tmp, ev_const, ev_func, get_put, get_args, get_putL, get_putL_nil, Nat.reduceEqDiff, reduceIte, List.getD_cons_zero, List.getD_cons_succ, List.getD_nil, Bool.not_true, Bool.not_false]); first | done | with_reducible rfl)⟩) fun w2 v2 he2 hs2 ho2 => ?_
  have hE2 := he1.trans he2
  have hz1 := he1.size
  have hvb := ho2.toN_block
  have hL2 : Lst 22 w.heap.size (fun _ => False) w2 v2 _ _ := Lst.ofNils ho2 hz1 (fun h => h) (fun g h => h.elim)
  rw [hol, ← tabL_none] at hL2
  clear ho2
  have ap1 : Apart 0 w.heap.size w1.heap.size := ⟨.inr hz1⟩
  have ap2 : Apart b (b + 1) w1.heap.size := ⟨.inr (by omega)⟩
  refine go ?_
  refine r_for ys.length (fun k ρ w' => ∃ us', Has ρ [(1, vu), (2, .pointer (some ⟨b, 0, none⟩)), (5, v2), (6, .int .i64 k)] ∧ Ext w w' ∧ Lst 22 w.heap.size (fun _ => False) w' v2 us' (tabL (tabOf (ys.take k)))) ?_ ?_
  · refine ⟨_, ?_, hE2, by simpa [tabOf] using hL2⟩
    exact hasP
  clear hL2
  rintro k ρ w3 hk ⟨us3, hH, he3, hL3⟩
  refine rwp_has hH fun ρ0 => ?_
  have hz3 := he3.size
  refine go ?_
  refine c_if (fun h4 => ?_) (fun h4 => ?_)
  · have hkn : k < ys.length := by omega
    have hg := vecs_getD ys hkn
    have hgl : ((vecs ys).getD k []).length = p.n := by rw [hg]; exact (ys[k]).inr.len
    obtain ⟨hdn, hy1⟩ := hs.lead1 _ (List.getElem_mem hkn)
    obtain ⟨d, hd⟩ : ∃ d, lead (ys[k]).v = d := ⟨_, rfl⟩
    rw [hd] at hdn
    have htl := tabL_len (tabOf (ys.take k))
    have hul3 := hL3.len
    refine go ?_
    refine z_order w1.heap.size [0, 1, 2, 3, 4, 6, 7, 8, 9, 5, 10, 11] (h := fun w4 he4 _ => ?_)
    have hSl4 := ((hL3.ext he4).toOwn hvb).toSl
    have hlen4 := hSl4.toLen
    clear hSl4
    refine zgo ?_
    refine zc (l12Depth_ok (xs := (vecs ys).getD k []) ?_) (next := fun v5 w5 h7 => ?_)
    · omega
    obtain ⟨rfl, he5⟩ := h7
    rw [hg, hd]
    have hL5 := hL3.ext (he4.trans he5)
    have hO5 := hL5.toOwn hvb
    refine zgo ?_
    refine z_store_val (h := hO5) (hx := (by ((try simp only [ev_tmp, ev_const, ev_func, get_put, get_args, get_putL, get_putL_nil, Nat.reduceEqDiff, reduceIte, List.getD_cons_zero, List.getD_cons_succ, List.getD_nil]); first | done | with_reducible rfl))) (hy := (by ((try simp only [ev_tmp, ev_const, ev_func, get_put, get_args, get_putL, get_putL_nil, Nat.reduceEqDiff, reduceIte, List.getD_cons_zero, List.getD_cons_succ, List.getD_nil]); first | done | with_reducible rfl))) (hu := ?_) (hm := ?_) (next := fun w6 hc6 hs6 ho6 => ?_)
    · exact (hu.vals.at_ k).sl.one
    · omega
    refine z_end ?_
    refine go ?_
    have hu5 : IntsAp (fun g => False ∨ v2.ownBlock = some g) w5 (Pc.rowAt vu us k) ((vecs ys).getD k []) :=
      ((hu.ap (av := fun g => False ∨ v2.ownBlock = some g) (Nat.le_refl _) (fun g hg => by
        rcases hg with hg | hg
        · exact hg.elim
        · rw [hvb] at hg; injection hg with hg; exact .inr (by omega))).at_ k).ext ((he3.trans he4).trans he5)
    have hL6 := hL5.set hvb hu5 hc6 ho6 (by omega)
    have ht := tabOf_take ys hkn
    rw [hd] at ht
    have e : tabL (tabOf (ys.take (k + 1))) = (tabL (tabOf (ys.take k))).set d ((vecs ys).getD k []) := by rw [ht, tabL_set, hg]
    refine forQ_normal (by omega) ⟨_, ?_, hc6.ext ((he3.trans he4).trans he5) hz1, by rw [e]; exact hL6⟩
    exact hasP
  · refine go ?_
    obtain rfl : k = ys.length := by omega
    rw [List.take_length] at hL3
    exact ret1 ⟨he3, us3, hL3.toRows⟩
theorem tabOf_none {p : Pr} [ConAll p] {ys : List (El p)} {d : Nat} : tabOf ys d ≠ none → ∃ y, y ∈ ys ∧ lead y.v = d := fun h => by
  cases e : tabOf ys d with
  | none => exact absurd e h
  | some y => exact ⟨y, tabOf_some e⟩
set_option maxHeartbeats 1000000 in
theorem l12Sift_ok {p : Pr} [hc : ConAll p] {ys : List (El p)} (hs : SeqOk ys) {w : World} {vp vu vx : Value} {us : List Value} {xss : List (List Int)} {x : El p} {xs : List Int} {lo hi lo1 hi1 lo2 hi2 : Nat} [hp : Pres lo hi w vp p] [hu : Pc.Rows lo1 hi1 w vu us xss] [hx : Ints lo2 hi2 w vx xs] (hus : xss = vecs ys) (hxe : xs = x.v) :
    Calls Try.prog 75 #[vp, vu, vx] w (Ret fun v w' => Ext w w' ∧ ∃ r : El p, Fr w.heap.size w' v r.v ∧ RepOf ys x r) := by
  have hv := hc.valid
  obtain ⟨vo, vpw, vc, ps, cs, css, rfl, h1, h2, h3⟩ := hp.ex
  refine enter (args := [.agg #[vo, vpw, vc], vu, vx]) (l := [.tmp 6]) Try.func75 rfl rfl Try.ntmps75 (by simp) ?_
  refine go ?_
  refine st_box3 (by ((try simp only [ev_tmp, ev_const, ev_func, get_put, get_args, get_putL, get_putL_nil, Nat.reduceEqDiff, reduceIte, List.getD_cons_zero, List.getD_cons_succ, List.getD_nil]); first | done | with_reducible rfl)) (by first | exact True.intro | exact ⟨_, rfl, by ((try simp only [ev_tmp, ev_const, ev_func, get_put, get_args, get_putL, get_putL_nil, Nat.reduceEqDiff, reduceIte, List.getD_cons_zero, List.getD_cons_succ, List.getD_nil, Bool.not_true, Bool.not_false]); first | done | with_reducible rfl)⟩) fun w1 b he1 hb1 hs1 hc0 hc1 hc2 => ?_
  refine go ?_
  refine d_order [0, 1, 2, 4, 3, 5, 6] (h := fun w2 he2 _ => ?_)
  refine dgo ?_
  refine dce (l12Table_ok (p := p) hv hs hus) (next := fun v3 w3 h4 => ?_)
  obtain ⟨he3, us3, hR3⟩ := h4
  refine dgo ?_
  refine dce (l12Reduce_ok (p := p) (x := x) (tabOf_ok hs) hxe) (next := fun v4 w4 h5 => ?_)
  obtain ⟨he4, r, hf4, hm, hz, hlow⟩ := h5
  refine dgo ?_
  refine d_end (h := ?_)
  refine go ?_
  have hE := (he1.trans he2).trans he3
  refine ret1 ⟨hE.trans he4, r, hf4.mono hE.size, fun H hH hy => hm H hH fun d y e => hy y (tabOf_some e).1, fun y hy => hz _ (tabOf_mem hs hy), fun t ht => hlow t fun d hd => ?_⟩
  obtain ⟨y, hy, rfl⟩ := tabOf_none hd
  exact ht y hy
set_option maxHeartbeats 1000000 in
theorem l12Has_ok {p : Pr} [hc : ConAll p] {ys : List (El p)} (hs : SeqEl ys) {w : World} {vp vu vx : Value} {us : List Value} {xss : List (List Int)} {x : El p} {xs : List Int} {lo hi lo1 hi1 lo2 hi2 : Nat} [hp : Pres lo hi w vp p] [hu : Pc.Rows lo1 hi1 w vu us xss] [hx : Ints lo2 hi2 w vx xs] (hus : xss = vecs ys) (hxe : xs = x.v) :
    Calls Try.prog 61 #[vp, vu, vx] w (Ret fun v w' => ∃ b, v = .bool b ∧ (b = true ↔ Gen (fun a : El p => a ∈ ys) x) ∧ Ext w w') := by
  have hn6 := hc.valid.n6
  obtain ⟨vo, vpw, vc, ps, cs, css, rfl, h1, h2, h3⟩ := hp.ex
  refine enter (args := [.agg #[vo, vpw, vc], vu, vx]) (l := [.tmp 6]) Try.func61 rfl rfl Try.ntmps61 (by simp) ?_
  refine go ?_
  refine st_box3 (by ((try simp only [ev_tmp, ev_const, ev_func, get_put, get_args, get_putL, get_putL_nil, Nat.reduceEqDiff, reduceIte, List.getD_cons_zero, List.getD_cons_succ, List.getD_nil]); first | done | with_reducible rfl)) (by first | exact True.intro | exact ⟨_, rfl, by ((try simp only [ev_tmp, ev_const, ev_func, get_put, get_args, get_putL, get_putL_nil, Nat.reduceEqDiff, reduceIte, List.getD_cons_zero, List.getD_cons_succ, List.getD_nil, Bool.not_true, Bool.not_false]); first | done | with_reducible rfl)⟩) fun w1 b he1 hb1 hs1 hc0 hc1 hc2 => ?_
  refine go ?_
  refine rc (l12Sift_ok (p := p) (x := x) hs.ok hus hxe) (next := fun v2 w2 h4 => ?_)
  obtain ⟨he2, r, hf2, hr⟩ := h4
  have hrl := r.inr.len
  refine go ?_
  refine rc (l01Zero_ok (xs := r.v) (by omega)) (next := fun v3 w3 h5 => ?_)
  obtain ⟨b3, rfl, hb3, he3⟩ := h5
  refine go ?_
  exact ret1 ⟨b3, rfl, by rw [hb3, ← el_one_iff, hr.one_iff hs], (he1.trans he2).trans he3⟩
set_option maxHeartbeats 1000000 in
theorem l12Within_ok {p : Pr} [hc : ConAll p] {ys zs : List (El p)} (hs : SeqEl zs) (hyl : ys.length ≤ 2000000) {w : World} {vp vu vv : Value} {us vs : List Value} {xss yss : List (List Int)} {lo hi lo1 hi1 lo2 hi2 : Nat} [hp : Pres lo hi w vp p] [hu : Pc.Rows lo1 hi1 w vu us xss] [hx : Pc.Rows lo2 hi2 w vv vs yss] (hus : xss = vecs ys) (hvs : yss = vecs zs) :
    Calls Try.prog 65 #[vp, vu, vv] w (Ret fun v w' => ∃ b, v = .bool b ∧ (b = true ↔ ∀ y, y ∈ ys → Gen (fun a : El p => a ∈ zs) y) ∧ Ext w w') := by
  subst hus
  have hvl : (vecs ys).length = ys.length := by simp
  obtain ⟨vo, vpw, vc, ps, cs, css, rfl, h1, h2, h3⟩ := hp.ex
  refine enter (args := [.agg #[vo, vpw, vc], vu, vv]) (l := [.tmp 6]) Try.func65 rfl rfl Try.ntmps65 (by simp) ?_
  refine go ?_
  refine st_box3 (by ((try simp only [ev_tmp, ev_const, ev_func, get_put, get_args, get_putL, get_putL_nil, Nat.reduceEqDiff, reduceIte, List.getD_cons_zero, List.getD_cons_succ, List.getD_nil]); first | done | with_reducible rfl)) (by first | exact True.intro | exact ⟨_, rfl, by ((try simp only [ev_tmp, ev_const, ev_func, get_put, get_args, get_putL, get_putL_nil, Nat.reduceEqDiff, reduceIte, List.getD_cons_zero, List.getD_cons_succ, List.getD_nil, Bool.not_true, Bool.not_false]); first | done | with_reducible rfl)⟩) fun w1 b he1 hb1 hs1 hc0 hc1 hc2 => ?_
  refine go ?_
  refine r_for ys.length (fun k ρ w' => Has ρ [(1, vu), (2, vv), (3, .pointer (some ⟨b, 0, none⟩)), (7, .int .i64 k)] ∧ Ext w1 w' ∧ ∀ y, y ∈ ys.take k → Gen (fun a : El p => a ∈ zs) y) ?_ ?_
  · refine ⟨?_, Ext.refl _, fun y hy => by simp at hy⟩
    exact hasP
  rintro k ρ w2 hk ⟨hH, he2, hI⟩
  refine rwp_has hH fun ρ0 => ?_
  refine go ?_
  refine c_if (fun h4 => ?_) (fun h4 => ?_)
  · have hkn : k < ys.length := by omega
    have hg := vecs_getD ys hkn
    refine go ?_
    refine d_region fun w3 he3 _ => ?_
    refine dgo ?_
    refine dce (l12Has_ok (p := p) (x := ys[k]) hs hvs hg) (next := fun v4 w4 h5 => ?_)
    obtain ⟨b4, rfl, hb4, he4⟩ := h5
    refine dgo ?_
    refine d_end (h := ?_)
    refine go ?_
    have hE := (he2.trans he3).trans he4
    refine c_b (fun h6 => ?_) (fun h6 => ?_)
    · refine go ?_
      refine ret1 ⟨_, rfl, ?_, he1.trans hE⟩
      simp only [Bool.false_eq_true, false_iff]
      intro h
      rw [hb4.2 (h _ (List.getElem_mem hkn))] at h6; cases h6
    · refine go ?_
      refine forQ_normal (by omega) ⟨?_, hE, fun y hy => ?_⟩
      · exact hasP
      · rw [List.take_succ_eq_append_getElem hkn] at hy
        rcases List.mem_append.1 hy with hy | hy
        · exact hI y hy
        · rw [List.mem_singleton.1 hy]; exact hb4.1 (by simpa using h6)
  · refine go ?_
    refine ret1 ⟨_, rfl, ?_, he1.trans he2⟩
    rw [show k = ys.length by omega, List.take_length] at hI
    simp only [true_iff]
    exact hI
end Go.Proofs.Ytjbhjbmobhhabaa

/-
  Walks: the reference's IsMember and IsSubset.
  Conditions: what the arguments read as.
-/
namespace Go.Proofs.Ytjbhjbmobhhabaa
open Go Go.Pc
set_option maxHeartbeats 1000000 in
theorem spec_IsMember_ok {p : Pr} {w : World} {vp vu vx : Value} {us : List Value} {xss : List (List Int)} {xs : List Int} {lo hi lo1 hi1 lo2 hi2 : Nat} [hp : Pres lo hi w vp p] [hu : Pc.Rows lo1 hi1 w vu us xss] [hx : Ints lo2 hi2 w vx xs] (hl : p.ord.length ≤ 2000000) :
    Calls Try.prog 23 #[vp, vu, vx] w (Ret fun v w' => ∃ (k : Bool) (e : Int), v = .tuple #[.bool k, .int .i64 e] ∧ Ans (IsSubP p xss ∧ InR p xs) (MemV p xss xs) false k e ∧ Ext w w') := by
  obtain ⟨vo, vpw, vc, ps, cs, css, rfl, h1, h2, h3⟩ := hp.ex
  refine enter (args := [.agg #[vo, vpw, vc], vu, vx]) (l := [.tmp 6, .tmp 7]) Try.func23 rfl rfl Try.ntmps23 (by simp) ?_
  refine go ?_
  refine st_box3 (by ((try simp only [ev_tmp, ev_const, ev_func, get_put, get_args, get_putL, get_putL_nil, Nat.reduceEqDiff, reduceIte, List.getD_cons_zero, List.getD_cons_succ, List.getD_nil]); first | done | with_reducible rfl)) (by first | exact True.intro | exact ⟨_, rfl, by ((try simp only [ev_tmp, ev_const, ev_func, get_put, get_args, get_putL, get_putL_nil, Nat.reduceEqDiff, reduceIte, List.getD_cons_zero, List.getD_cons_succ, List.getD_nil, Bool.not_true, Bool.not_false]); first | done | with_reducible rfl)⟩) fun w1 b he1 hb1 hs1 hc0 hc1 hc2 => ?_
  refine go ?_
  refine rc (spec_IsSubgroup_ok (p := p) (xss := xss) hl) (next := fun v5 w5 h5 => ?_)
  obtain ⟨b5, rfl, hb5, he5⟩ := h5
  have hE5 := he1.trans he5
  refine go ?_
  refine sp (fun e5 => ?_) (fun e5 => ?_)
  · refine go ?_
    refine ret2 ⟨false, 1, rfl, .inr ⟨fun h => ?_, rfl, rfl⟩, hE5⟩
    rw [hb5.2 h.1] at e5; cases e5
  have hS := hb5.1 (by simpa using e5)
  obtain ⟨hG, hq⟩ := hS
  haveI : ConAll p := ⟨hG.con⟩
  have hv := hG.valid
  have hn6 := hv.n6
  obtain ⟨ys, hys, hse⟩ := isSeq_iff.1 hq
  have hyl := hse.len
  refine go ?_
  refine rc (l10Element_ok (p := p) (xs := xs) hG.valid) (next := fun v6 w6 h6 => ?_)
  obtain ⟨b6, rfl, hb6, he6⟩ := h6
  have hE6 := hE5.trans he6
  refine go ?_
  refine c_b (fun e6 => ?_) (fun e6 => ?_)
  · refine go ?_
    refine ret2 ⟨false, 1, rfl, .inr ⟨fun h => ?_, rfl, rfl⟩, hE6⟩
    rw [hb6.2 h.2] at e6; cases e6
  have hI := hb6.1 (by simpa using e6)
  obtain ⟨x, hx6⟩ : ∃ x : El p, xs = x.v := ⟨⟨xs, hI, fun i hi => absurd hi (Nat.not_lt_zero i)⟩, rfl⟩
  refine go ?_
  refine rc (l12Has_ok (p := p) (x := x) hse hys hx6) (next := fun v7 w7 h7 => ?_)
  obtain ⟨b7, rfl, hb7, he7⟩ := h7
  refine go ?_
  refine ret2 ⟨b7, 0, rfl, .inl ⟨⟨⟨hG, hq⟩, hI⟩, ?_, rfl⟩, hE6.trans he7⟩
  rw [hb7, hys, hx6, memP_iff]
set_option maxHeartbeats 1000000 in
theorem spec_IsSubset_ok {p : Pr} {w : World} {vp vu vx : Value} {us vs : List Value} {xss yss : List (List Int)} {lo hi lo1 hi1 lo2 hi2 : Nat} [hp : Pres lo hi w vp p] [hu : Pc.Rows lo1 hi1 w vu us xss] [hx : Pc.Rows lo2 hi2 w vx vs yss] (hl : p.ord.length ≤ 2000000) :
    Calls Try.prog 27 #[vp, vu, vx] w (Ret fun v w' => ∃ (k : Bool) (e : Int), v = .tuple #[.bool k, .int .i64 e] ∧ Ans (IsSubP p xss ∧ IsSubP p yss) (SubV p xss yss) false k e ∧ Ext w w') := by
  obtain ⟨vo, vpw, vc, ps, cs, css, rfl, h1, h2, h3⟩ := hp.ex
  refine enter (args := [.agg #[vo, vpw, vc], vu, vx]) (l := [.tmp 6, .tmp 7]) Try.func27 rfl rfl Try.ntmps27 (by simp) ?_
  refine go ?_
  refine st_box3 (by ((try simp only [ev_tmp, ev_const, ev_func, get_put, get_args, get_putL, get_putL_nil, Nat.reduceEqDiff, reduceIte, List.getD_cons_zero, List.getD_cons_succ, List.getD_nil]); first | done | with_reducible rfl)) (by first | exact True.intro | exact ⟨_, rfl, by ((try simp only [ev_tmp, ev_const, ev_func, get_put, get_args, get_putL, get_putL_nil, Nat.reduceEqDiff, reduceIte, List.getD_cons_zero, List.getD_cons_succ, List.getD_nil, Bool.not_true, Bool.not_false]); first | done | with_reducible rfl)⟩) fun w1 b he1 hb1 hs1 hc0 hc1 hc2 => ?_
  refine go ?_
  refine rc (spec_IsSubgroup_ok (p := p) (xss := xss) hl) (next := fun v5 w5 h5 => ?_)
  obtain ⟨b5, rfl, hb5, he5⟩ := h5
  have hE5 := he1.trans he5
  refine go ?_
  refine sp (fun e5 => ?_) (fun e5 => ?_)
  · refine go ?_
    refine ret2 ⟨false, 1, rfl, .inr ⟨fun h => ?_, rfl, rfl⟩, hE5⟩
    rw [hb5.2 h.1] at e5; cases e5
  have hS := hb5.1 (by simpa using e5)
  obtain ⟨hG, hq⟩ := hS
  haveI : ConAll p := ⟨hG.con⟩
  have hv := hG.valid
  have hn6 := hv.n6
  obtain ⟨ys, hys, hse⟩ := isSeq_iff.1 hq
  have hyl := hse.len
  refine go ?_
  refine rc (l12Is_ok (p := p) (xss := yss)) (next := fun v6 w6 h6 => ?_)
  obtain ⟨b6, rfl, hb6, he6⟩ := h6
  have hE6 := hE5.trans he6
  refine go ?_
  refine c_b (fun e6 => ?_) (fun e6 => ?_)
  · refine go ?_
    refine ret2 ⟨false, 1, rfl, .inr ⟨fun h => ?_, rfl, rfl⟩, hE6⟩
    obtain ⟨_, _, h⟩ := h
    rw [hb6.2 h] at e6; cases e6
  have hI := hb6.1 (by simpa using e6)
  obtain ⟨zs, hzs, hsz⟩ := isSeq_iff.1 hI
  have hzl := hsz.len
  refine go ?_
  refine rc (l12Within_ok (p := p) (ys := ys) hsz (by omega) hys hzs) (next := fun v7 w7 h7 => ?_)
  obtain ⟨b7, rfl, hb7, he7⟩ := h7
  refine go ?_
  refine ret2 ⟨b7, 0, rfl, .inl ⟨⟨⟨hG, hq⟩, ⟨hG, hI⟩⟩, ?_, rfl⟩, hE6.trans he7⟩
  rw [hb7, hys, hzs, subV_iff]
end Go.Proofs.Ytjbhjbmobhhabaa

/-
  Walk: the program's check of a presentation (IsPresentation).
  Conditions: stated at each theorem.
-/
namespace Go.Proofs.Ytjbhjbmobhhabaa
open Go Go.Pc
theorem foldl_mono : ∀ (l : List Int) (a : Int), (∀ o ∈ l, 1 ≤ o) → 1 ≤ a → a ≤ l.foldl (· * ·) a :=
  fun l a h ha => (capMul_foldl l a h ha).2.1
theorem prod_take {l : List Int} {k : Nat} (h : ∀ o ∈ l, 1 ≤ o) : 1 ≤ (l.take k).foldl (· * ·) 1 ∧ (l.take k).foldl (· * ·) 1 ≤ l.foldl (· * ·) 1 := by
  have h1 := foldl_mono (l.take k) 1 (fun o ho => h o (List.mem_of_mem_take ho)) (by omega)
  have h2 := foldl_mono (l.drop k) ((l.take k).foldl (· * ·) 1) (fun o ho => h o (List.mem_of_mem_drop ho)) h1
  rw [← List.foldl_append, List.take_append_drop] at h2
  exact ⟨h1, h2⟩
set_option maxHeartbeats 2000000 in
theorem impl_IsPresentation_ok {w : World} {v : Value} {p : Pr} {lo hi : Nat} [hp : Pres lo hi w v p] (hl : p.ord.length ≤ 2000000) :
    Calls Try.prog 128 #[v] w (Ret fun v' w' => ∃ b, v' = .bool b ∧ (b = true ↔ Valid p) ∧ Ext w w') := by
  have hol : p.ord.length = p.n := rfl
  obtain ⟨vo, vpw, vc, ps, cs, css, rfl, h1, h2, h3⟩ := hp.ex
  refine enter (args := [.agg #[vo, vpw, vc]]) (l := [.tmp 2]) Try.func128 rfl rfl Try.ntmps128 (by simp) ?_
  refine go ?_
  refine st_box3 (by ((try simp only [ev_tmp, ev_const, ev_func, get_put, get_args, get_putL, get_putL_nil, Nat.reduceEqDiff, reduceIte, List.getD_cons_zero, List.getD_cons_succ, List.getD_nil]); first | done | with_reducible rfl)) (by first | exact True.intro | exact ⟨_, rfl, by ((try simp only [ev_tmp, ev_const, ev_func, get_put, get_args, get_putL, get_putL_nil, Nat.reduceEqDiff, reduceIte, List.getD_cons_zero, List.getD_cons_succ, List.getD_nil, Bool.not_true, Bool.not_false]); first | done | with_reducible rfl)⟩) fun w1 b he1 hb1 hs1 hc0 hc1 hc2 => ?_
  have no : ∀ {w' : World}, ¬ Valid p → Ext w w' → ∃ b, Value.bool false = .bool b ∧ (b = true ↔ Valid p) ∧ Ext w w' := fun h he => ⟨_, rfl, by simp [h], he⟩
  have hpp := hp.boxed he1 hc0 hc1 hc2
  refine go ?_
  refine spd (fun hn => ?_) (fun hn => ?_)
  · refine go ?_
    exact ret1 (no (fun h => by have := h.n6; omega) he1)
  refine go ?_
  refine spd (fun hn2 => ?_) (fun hn2 => ?_)
  · refine go ?_
    exact ret1 (no (fun h => by have := h.lenw; omega) he1)
  refine go ?_
  refine c_if (fun hn3 => ?_) (fun hn3 => ?_)
  · refine go ?_
    exact ret1 (no (fun h => by have := h.lenc; omega) he1)
  refine go ?_
  refine r_for p.n (fun k ρ w' => Has ρ [(1, .pointer (some ⟨b, 0, none⟩)), (3, .int .i64 p.n), (4, .int .i64 ((p.ord.take k).foldl (· * ·) 1)), (30, vo), (31, .int .i64 p.n), (32, .int .i64 k)] ∧ Ext w1 w' ∧
    (p.ord.take k).foldl (· * ·) 1 ≤ 729 ∧ ∀ i, i < k → p.ord.getD i 0 = 2 ∨ p.ord.getD i 0 = 3 ∨ p.ord.getD i 0 = 5 ∨ p.ord.getD i 0 = 7) ?_ ?_
  · refine ⟨?_, Ext.refl _, by simp, fun i hi => by omega⟩
    exact hasP
  rintro k ρ w2 hk ⟨hH, he2, hpr, hpre⟩
  refine rwp_has hH fun ρ0 => ?_
  refine go ?_
  refine c_if (fun hk1 => ?_) (fun hk1 => ?_)
  · have hkn : k < p.n := by omega
    have hps : (p.ord.take (k + 1)).foldl (· * ·) 1 = (p.ord.take k).foldl (· * ·) 1 * p.ord.getD k 0 := foldl_take_succ _ _ _ _ _ hkn
    refine go ?_
    refine rc IsGroupPrime_ok (next := fun v3 w3 h3 => ?_)
    obtain ⟨b3, rfl, hb3, he3⟩ := h3
    refine go ?_
    refine sp (fun h4 => ?_) (fun h4 => ?_)
    · refine go ?_
      refine ret1 (no (fun h => ?_) ((he1.trans he2).trans he3))
      have := hb3.2 (h.prime k (by omega))
      rw [this] at h4; cases h4
    · have h5 := hb3.1 (by simpa using h4)
      have hone : 1 ≤ (p.ord.take k).foldl (· * ·) 1 := by
        refine foldl_mono _ 1 (fun o ho => ?_) (by omega)
        obtain ⟨i, hi, rfl⟩ := List.getElem_of_mem ho
        rw [List.length_take] at hi
        have := hpre i (by omega)
        simp only [List.getElem_take]
        have e : p.ord.getD i 0 = p.ord[i] := by simp [show i < p.ord.length by omega]
        rw [e] at this; omega
      have hm1 : 0 ≤ (p.ord.take k).foldl (· * ·) 1 * p.ord.getD k 0 := Int.mul_nonneg (by omega) (by omega)
      have hm2 : (p.ord.take k).foldl (· * ·) 1 * p.ord.getD k 0 ≤ 729 * 7 := Int.mul_le_mul hpr (by omega) (by omega) (by omega)
      have hmr : -9223372036854775808 ≤ (p.ord.take k).foldl (· * ·) 1 * p.ord.getD k 0 ∧ (p.ord.take k).foldl (· * ·) 1 * p.ord.getD k 0 ≤ 9223372036854775807 := by omega
      refine go ?_
      refine ra (h := rd_mul (by ((try simp only [ev_tmp, ev_const, ev_func, get_put, get_args, get_putL, get_putL_nil, Nat.reduceEqDiff, reduceIte, List.getD_cons_zero, List.getD_cons_succ, List.getD_nil]); first | done | with_reducible rfl)) (by ((try simp only [ev_tmp, ev_const, ev_func, get_put, get_args, get_putL, get_putL_nil, Nat.reduceEqDiff, reduceIte, List.getD_cons_zero, List.getD_cons_succ, List.getD_nil]); first | done | with_reducible rfl)) hmr) (next := ?_)
      refine go ?_
      refine c_if (fun h6 => ?_) (fun h6 => ?_)
      · refine go ?_
        refine ret1 (no (fun h => ?_) ((he1.trans he2).trans he3))
        have := (prod_take (k := k + 1) (fun o ho => (primes_bd h.prime o ho).1)).2
        have h8 := h.prod
        rw [hps] at this
        omega
      · refine go ?_
        refine ra (h := rd_mul (by ((try simp only [ev_tmp, ev_const, ev_func, get_put, get_args, get_putL, get_putL_nil, Nat.reduceEqDiff, reduceIte, List.getD_cons_zero, List.getD_cons_succ, List.getD_nil]); first | done | with_reducible rfl)) (by ((try simp only [ev_tmp, ev_const, ev_func, get_put, get_args, get_putL, get_putL_nil, Nat.reduceEqDiff, reduceIte, List.getD_cons_zero, List.getD_cons_succ, List.getD_nil]); first | done | with_reducible rfl)) hmr) (next := ?_)
        refine go ?_
        refine forQ_normal (by omega) ⟨?_, he2.trans he3, by rw [hps]; omega, fun i hi => ?_⟩
        · rw [hps]; exact hasP
        · by_cases e : i = k
          · subst e; exact h5
          · exact hpre i (by omega)
  · have hkn : k = p.n := by omega
    subst hkn
    have hprod : p.ord.foldl (· * ·) 1 ≤ 729 := by
      rw [← hol, List.take_length] at hpr; exact hpr
    have hbd : ∀ i, i < p.n → 2 ≤ p.o i ∧ p.o i ≤ 7 := fun i hi => by have := hpre i hi; unfold Pr.o; omega
    refine go ?_
    refine r_for p.n (fun k ρ w' => Has ρ [(1, .pointer (some ⟨b, 0, none⟩)), (3, .int .i64 p.n), (49, .int .i64 p.n), (50, .int .i64 k)] ∧ Ext w1 w' ∧ ∀ q, q < k → RowOk p q) ?_ ?_
    · refine ⟨?_, he2, fun i hi => by omega⟩
      exact hasP
    clear he2
    rintro k ρ w4 hk ⟨hH, he4, hrow⟩
    refine rwp_has hH fun ρ1 => ?_
    refine go ?_
    refine c_if (fun hk2 => ?_) (fun hk2 => ?_)
    · have hkn : k < p.n := by omega
      refine go ?_
      refine rc (tailVector_ok (p := p) (xs := p.pow.getD k []) rfl hkn hbd (by omega)) (next := fun v6 w6 h6 => ?_)
      obtain ⟨b6, rfl, hb6, he6⟩ := h6
      refine go ?_
      refine sp (fun h7 => ?_) (fun h7 => ?_)
      · refine go ?_
        refine ret1 (no (fun h => ?_) ((he1.trans he4).trans he6))
        have := hb6.2 ⟨h.w_in k hkn, h.w_zu k hkn⟩
        rw [this] at h7; cases h7
      · have h8 := exp_iff.2 (hb6.1 (by simpa using h7))
        refine go ?_
        refine c_if (fun h9 => ?_) (fun h9 => ?_)
        · refine go ?_
          refine ret1 (no (fun h => ?_) ((he1.trans he4).trans he6))
          have := ((valid_iff.1 h).2.2.2.2.2 k (by omega)).2.1
          omega
        · refine go ?_
          refine r_for (p.cnj.getD k []).length (fun m ρ w' => Has ρ [(1, .pointer (some ⟨b, 0, none⟩)), (3, .int .i64 p.n), (49, .int .i64 p.n), (50, .int .i64 k), (7, .int .i64 k), (78, Pc.rowAt vc cs k), (79, .int .i64 (p.cnj.getD k []).length), (80, .int .i64 m)] ∧ Ext w1 w' ∧ ∀ j, j < m → ExpP p.ord ((p.cnj.getD k []).getD j []) k) ?_ ?_
          · refine ⟨?_, he4.trans he6, fun i hi => by omega⟩
            exact hasP
          clear he4 he6
          rintro m ρ w7 hm ⟨hH, he7, hin⟩
          refine rwp_has hH fun ρ2 => ?_
          refine go ?_
          refine c_if (fun hm2 => ?_) (fun hm2 => ?_)
          · refine go ?_
            refine rc (tailVector_ok (p := p) (xs := (p.cnj.getD k []).getD m []) rfl hkn hbd (by omega)) (next := fun v9 w9 h9 => ?_)
            obtain ⟨b9, rfl, hb9, he9⟩ := h9
            refine go ?_
            refine c_b (fun h10 => ?_) (fun h10 => ?_)
            · refine go ?_
              refine ret1 (no (fun h => ?_) ((he1.trans he7).trans he9))
              have := hb9.2 (exp_iff.1 (((valid_iff.1 h).2.2.2.2.2 k (by omega)).2.2 m (by omega)))
              rw [this] at h10; cases h10
            · have h11 := exp_iff.2 (hb9.1 (by simpa using h10))
              refine go ?_
              refine forQ_normal (by omega) ⟨?_, he7.trans he9, fun j hj => ?_⟩
              · exact hasP
              · by_cases e : j = m
                · subst e; exact h11
                · exact hin j (by omega)
          · refine go ?_
            refine forQ_normal (by omega) ⟨?_, he7, fun q hq => ?_⟩
            · exact hasP
            · by_cases e : q = k
              · subst e
                exact ⟨h8, by omega, fun j hj => hin j (by omega)⟩
              · exact hrow q (by omega)
    · refine go ?_
      refine ret1 ⟨_, rfl, ?_, he1.trans he4⟩
      simp only [true_iff]
      exact valid_iff.2 ⟨by omega, by omega, by omega, hpre, hprod, fun q hq => hrow q (by omega)⟩
end Go.Proofs.Ytjbhjbmobhhabaa

/-
  Walks: the program's consistency (levelFault, consistentFrom, IsConsistent).
  Conditions: stated at each theorem.
-/
namespace Go.Proofs.Ytjbhjbmobhhabaa
open Go Go.Pc
def QC (p : Pr) (i : Nat) [h : Con p (i + 1)] (j k : Nat) : Prop := ∀ (hj : i < j ∧ j < p.n) (hk : i < k ∧ k < p.n), j < k → (Grp.cj (Tc h.valid hk) (Tc h.valid hj)).v = img p i (p.c j k)
def QI (p : Pr) (i : Nat) [h : Con p (i + 1)] (hi : i < p.n) (j : Nat) : Prop := ∀ (hj : i + 1 ≤ j ∧ j < p.n), rep (p.o i).toNat (img p i) (unitv p j 1) = (Grp.cj (gen h.valid (i + 1) j hj) (Tw h.valid hi)).v
theorem chk_iff2 {p : Pr} {i : Nat} [h : Con p (i + 1)] (hi : i < p.n) : Chk p i hi ↔ (∀ j, LP p i j) ∧ (∀ j k, QC p i j k) ∧ img p i (p.w i) = p.w i ∧ ∀ j, QI p i hi j := by
  constructor
  · intro hc
    refine ⟨fun j hj => congrArg T.v (hc.P j hj), fun j k hj hk hjk => congrArg T.v (hc.C j k hj hk hjk), congrArg T.v hc.F, fun j hj => ?_⟩
    have := congrArg T.v (hc.I j hj)
    rw [rep_Timg] at this
    exact this
  · rintro ⟨h1, h2, h3, h4⟩
    refine ⟨fun j hj => T.ext (h1 j hj), fun j k hj hk hjk => T.ext (h2 j k hj hk hjk), T.ext h3, fun j hj => T.ext ?_⟩
    rw [rep_Timg]
    exact h4 j hj
set_option maxHeartbeats 8000000 in
theorem levelFault_ok {p : Pr} {i : Nat} [hc : Con p (i + 1)] (hi : i < p.n) {w : World} {vp : Value} {ki : Int} {lo hi' : Nat} [hp : PresP lo hi' w vp p] (hki : ki = i) :
    Calls Try.prog 152 #[vp, .int .i64 ki] w (Ret fun v w' => ∃ k l f s : Int, v = faultV k l f s ∧ (k = 0 ↔ Chk p i hi) ∧ (k ≠ 0 → l = i) ∧ (k = 0 → l = 0 ∧ f = 0 ∧ s = 0) ∧ Ext w w') := by
  subst hki
  have hv := hc.valid
  have hn6 := hv.n6
  have hol : p.ord.length = p.n := rfl
  have hwl : p.pow.length = p.n := hv.lenw
  have hcl : p.cnj.length = p.n := hv.lenc
  have hci : (p.cnj.getD i []).length = p.n - 1 - i := hv.lenci i hi
  have hoi := hv.opos hi
  have hoe : p.o i = p.ord.getD i 0 := rfl
  obtain ⟨b, vo, vpw, vc, ps, cs, css, rfl, hb1, hb2, hc0, hc1, hc2, h1, h2, h3⟩ := hp.ex
  refine enter (args := [.pointer (some ⟨b, 0, none⟩), .int .i64 i]) (l := [.cell 4 120]) Try.func152 rfl rfl Try.ntmps152 (by simp) ?_
  refine go ?_
  refine st_alloc (by first | exact True.intro | exact ⟨_, rfl, by ((try simp only [ev_tmp, ev_const, ev_func, get_put, get_args, get_putL, get_putL_nil, Nat.reduceEqDiff, reduceIte, List.getD_cons_zero, List.getD_cons_succ, List.getD_nil, Bool.not_true, Bool.not_false]); first | done | with_reducible rfl)⟩) fun w2 bf he2 hbf hs2 hbk => ?_
  have bad : ∀ {w3 : World} {k f s : Int}, Ext w w3 → k ≠ 0 → ¬ Chk p i hi → ∃ k' l' f' s' : Int, faultV k i f s = faultV k' l' f' s' ∧ (k' = 0 ↔ Chk p i hi) ∧ (k' ≠ 0 → l' = i) ∧ (k' = 0 → l' = 0 ∧ f' = 0 ∧ s' = 0) ∧ Ext w w3 :=
    fun he hk hn => ⟨_, _, _, _, rfl, ⟨fun h => absurd h hk, fun h => absurd h hn⟩, fun _ => rfl, fun h => absurd h hk, he⟩
  have hTcv : ∀ j (hj : i < j ∧ j < p.n), (p.cnj.getD i []).getD (j - i - 1) [] = (Tc hv hj).v := fun j hj => rfl
  refine go ?_
  refine r_for (p.n - (i + 1)) (fun k ρ w' => Has ρ [(0, .pointer (some ⟨b, 0, none⟩)), (1, .int .i64 i), (4, .pointer (some ⟨bf, 0, none⟩)), (5, .int .i64 p.n), (6, .int .i64 i), (7, .int .i64 (i + 1 + k : Nat))] ∧ Ext w2 w' ∧ ∀ j, j < i + 1 + k → LP p i j) ?_ ?_
  · refine ⟨?_, Ext.refl _, fun j hj hj' => by omega⟩
    exact hasP
  rintro k ρ w3 hk ⟨hH, he3, hP⟩
  refine rwp_has hH fun ρ0 => ?_
  refine go ?_
  refine c_if (fun hj => ?_) (fun hj => ?_)
  · have hjn : i < i + 1 + k ∧ i + 1 + k < p.n := ⟨by omega, by omega⟩
    have hoj : 2 ≤ p.ord.getD (i + 1 + k) 0 ∧ p.ord.getD (i + 1 + k) 0 ≤ 7 := hv.opos hjn.2
    have hcv : (p.cnj.getD i []).getD (i + 1 + k - i - 1) [] = (Tc hv hjn).v := rfl
    refine go ?_
    refine d_order [0, 1, 2, 3, 4, 5, 6, 7, 8, 9, 10, 11, 12, 13, 14, 15, 16, 17, 18, 19, 20, 22, 23, 24, 25, 26, 27, 28, 29, 30, 21, 31, 32, 33] (h := fun w4 he4 _ => ?_)
    refine dgo ?_
    refine dce (power_ok (x := Tc hv hjn) (by omega) hcv ?_) (next := fun v5 w5 h5 => ?_)
    · omega
    obtain ⟨he5, hf5⟩ := h5
    refine dce (imageBy_ok hi (xs := p.w (i + 1 + k)) ?_ (hv.w_in _ hjn.2)) (next := fun v7 w7 h7 => ?_)
    · rfl
    obtain ⟨he7, hf7⟩ := h7
    have hlen := (Grp.pw (Tc hv hjn) (p.ord.getD (i + 1 + k) 0).toNat).inr.len
    refine dce (equalI_ok (xs := (Grp.pw (Tc hv hjn) (p.ord.getD (i + 1 + k) 0).toNat).v) (ys := img p i (p.w (i + 1 + k))) ?_) (next := fun v8 w8 h8 => ?_)
    · omega
    obtain ⟨b8, rfl, hb8, he8⟩ := h8
    have hE8 : Ext w2 w8 := (((he3.trans he4).trans he5).trans he7).trans he8
    refine dgo ?_
    refine d_end (h := ?_)
    refine go ?_
    refine c_b (fun h9 => ?_) (fun h9 => ?_)
    · refine go ?_
      refine ra (v := faultV 1 i (i + 1 + k : Nat) 0) (h := rd_build (by simp only [ev_tmp, ev_const, ev_func, get_put, get_args, get_putL, get_putL_nil, Nat.reduceEqDiff, reduceIte, List.getD_cons_zero, List.getD_cons_succ, List.getD_nil, List.map_toArray, List.map_cons, List.map_nil]; rfl) (fun _ => by kernel_rfl)) (next := ?_)
      refine st_store_agg (vs := [.int .i64 1, .int .i64 i, .int .i64 (i + 1 + k : Nat), .int .i64 0]) (cs := _) (by ((try simp only [ev_tmp, ev_const, ev_func, get_put, get_args, get_putL, get_putL_nil, Nat.reduceEqDiff, reduceIte, List.getD_cons_zero, List.getD_cons_succ, List.getD_nil]); first | done | with_reducible rfl)) (by ((try simp only [ev_tmp, ev_const, ev_func, get_put, get_args, get_putL, get_putL_nil, Nat.reduceEqDiff, reduceIte, List.getD_cons_zero, List.getD_cons_succ, List.getD_nil]); first | done | with_reducible rfl)) rfl ?_ rfl (by first | exact True.intro | exact ⟨_, rfl, by ((try simp only [ev_tmp, ev_const, ev_func, get_put, get_args, get_putL, get_putL_nil, Nat.reduceEqDiff, reduceIte, List.getD_cons_zero, List.getD_cons_succ, List.getD_nil, Bool.not_true, Bool.not_false]); first | done | with_reducible rfl)⟩) fun w9 hc9 hs9 hb9 => ?_
      · rfl
      refine go ?_
      refine retc (bad (k := 1) (f := (i + 1 + k : Nat)) (s := 0) (hc9.ext (he2.trans hE8) (by omega)) (by decide) fun h => ?_) rfl
      have := hb8.2 (((chk_iff2 hi).1 h).1 _ hjn)
      rw [this] at h9; cases h9
    · have h10 := hb8.1 (by simpa using h9)
      refine go ?_
      refine forQ_normal (by omega) ⟨?_, hE8, fun j hj => ?_⟩
      · exact hasP
      · by_cases e : j = i + 1 + k
        · subst e; exact fun _ => h10
        · exact hP j (by omega)
  refine go ?_
  have hP' : ∀ j, LP p i j := fun j => by
    by_cases e : j < i + 1 + k
    · exact hP j e
    · exact fun h => by omega
  clear hP hH hk hj
  refine r_for (p.n - (i + 1)) (fun k ρ w' => Has ρ [(0, .pointer (some ⟨b, 0, none⟩)), (1, .int .i64 i), (4, .pointer (some ⟨bf, 0, none⟩)), (5, .int .i64 p.n), (6, .int .i64 i), (8, .int .i64 (i + 1 + k : Nat))] ∧ Ext w2 w' ∧ ∀ j k', j < i + 1 + k → QC p i j k') ?_ ?_
  · refine ⟨?_, he3, fun j k' hj hj' => by omega⟩
    exact hasP
  clear he3 ρ0 k
  rintro k ρ w4 hk ⟨hH, he4, hC⟩
  refine rwp_has hH fun ρ1 => ?_
  refine go ?_
  refine c_if (fun hj => ?_) (fun hj => ?_)
  · have hjn : i < i + 1 + k ∧ i + 1 + k < p.n := ⟨by omega, by omega⟩
    refine go ?_
    refine r_for (p.n - (i + 1 + k + 1)) (fun l ρ w' => Has ρ [(0, .pointer (some ⟨b, 0, none⟩)), (1, .int .i64 i), (4, .pointer (some ⟨bf, 0, none⟩)), (5, .int .i64 p.n), (6, .int .i64 i), (8, .int .i64 (i + 1 + k : Nat)), (9, .int .i64 (i + 1 + k + 1 + l : Nat))] ∧ Ext w2 w' ∧ ∀ k', k' < i + 1 + k + 1 + l → QC p i (i + 1 + k) k') ?_ ?_
    · refine ⟨?_, he4, fun k' hk' h1 h2 h3 => by omega⟩
      exact hasP
    clear he4
    rintro l ρ w5 hl ⟨hH5, he5, hC5⟩
    refine rwp_has hH5 fun ρ2 => ?_
    refine go ?_
    refine c_if (fun hk2 => ?_) (fun hk2 => ?_)
    · have hkn : i < i + 1 + k + 1 + l ∧ i + 1 + k + 1 + l < p.n := ⟨by omega, by omega⟩
      have hjk : i + 1 + k < i + 1 + k + 1 + l := by omega
      have hcj := hv.lenci (i + 1 + k) hjn.2
      have hcv1 : (p.cnj.getD i []).getD (i + 1 + k - i - 1) [] = (Tc hv hjn).v := rfl
      have hcv2 : (p.cnj.getD i []).getD (i + 1 + k + 1 + l - i - 1) [] = (Tc hv hkn).v := rfl
      refine go ?_
      refine d_order [0, 1, 2, 3, 4, 5, 6, 7, 8, 9, 10, 11, 12, 13, 14, 15, 16, 17, 18, 19, 20, 21, 22, 23, 24, 25, 26, 28, 29, 30, 31, 32, 33, 34, 35, 36, 37, 38, 39, 40, 41, 42, 27, 43, 44, 45] (h := fun w6 he6 _ => ?_)
      refine dgo ?_
      refine dce (conjugate_ok (x := Tc hv hkn) (y := Tc hv hjn) (by omega) hcv2 hcv1) (next := fun v7 w7 h7 => ?_)
      obtain ⟨he7, hf7⟩ := h7
      refine dce (imageBy_ok hi (xs := p.c (i + 1 + k) (i + 1 + k + 1 + l)) ?_ (hv.c_in _ _ hjk hkn.2)) (next := fun v8 w8 h8 => ?_)
      · rfl
      obtain ⟨he8, hf8⟩ := h8
      have hlen := (Grp.cj (Tc hv hkn) (Tc hv hjn)).inr.len
      refine dce (equalI_ok (xs := (Grp.cj (Tc hv hkn) (Tc hv hjn)).v) (ys := img p i (p.c (i + 1 + k) (i + 1 + k + 1 + l))) ?_) (next := fun v9 w9 h9 => ?_)
      · omega
      obtain ⟨b9, rfl, hb9, he9⟩ := h9
      have hE9 : Ext w2 w9 := (((he5.trans he6).trans he7).trans he8).trans he9
      refine dgo ?_
      refine d_end (h := ?_)
      refine go ?_
      refine c_b (fun h10 => ?_) (fun h10 => ?_)
      · refine go ?_
        refine ra (v := faultV 2 i (i + 1 + k : Nat) (i + 1 + k + 1 + l : Nat)) (h := rd_build (by simp only [ev_tmp, ev_const, ev_func, get_put, get_args, get_putL, get_putL_nil, Nat.reduceEqDiff, reduceIte, List.getD_cons_zero, List.getD_cons_succ, List.getD_nil, List.map_toArray, List.map_cons, List.map_nil]; rfl) (fun _ => by kernel_rfl)) (next := ?_)
        refine st_store_agg (vs := [.int .i64 2, .int .i64 i, .int .i64 (i + 1 + k : Nat), .int .i64 (i + 1 + k + 1 + l : Nat)]) (cs := _) (by ((try simp only [ev_tmp, ev_const, ev_func, get_put, get_args, get_putL, get_putL_nil, Nat.reduceEqDiff, reduceIte, List.getD_cons_zero, List.getD_cons_succ, List.getD_nil]); first | done | with_reducible rfl)) (by ((try simp only [ev_tmp, ev_const, ev_func, get_put, get_args, get_putL, get_putL_nil, Nat.reduceEqDiff, reduceIte, List.getD_cons_zero, List.getD_cons_succ, List.getD_nil]); first | done | with_reducible rfl)) rfl ?_ rfl (by first | exact True.intro | exact ⟨_, rfl, by ((try simp only [ev_tmp, ev_const, ev_func, get_put, get_args, get_putL, get_putL_nil, Nat.reduceEqDiff, reduceIte, List.getD_cons_zero, List.getD_cons_succ, List.getD_nil, Bool.not_true, Bool.not_false]); first | done | with_reducible rfl)⟩) fun w10 hc10 hs10 hb10 => ?_
        · rfl
        refine go ?_
        refine retc (bad (k := 2) (f := (i + 1 + k : Nat)) (s := (i + 1 + k + 1 + l : Nat)) (hc10.ext (he2.trans hE9) (by omega)) (by decide) fun h => ?_) rfl
        have := hb9.2 (((chk_iff2 hi).1 h).2.1 _ _ hjn hkn hjk)
        rw [this] at h10; cases h10
      · have h11 := hb9.1 (by simpa using h10)
        refine go ?_
        refine forQ_normal (by omega) ⟨?_, hE9, fun k' hk' => ?_⟩
        · exact hasP
        · by_cases e : k' = i + 1 + k + 1 + l
          · subst e; exact fun _ _ _ => h11
          · exact hC5 k' (by omega)
    · refine go ?_
      refine forQ_normal (by omega) ⟨?_, he5, fun j k' hj2 => ?_⟩
      · exact hasP
      · by_cases e : j = i + 1 + k
        · subst e
          by_cases e2 : k' < i + 1 + k + 1 + l
          · exact hC5 k' e2
          · exact fun _ _ _ => by omega
        · exact hC j k' (by omega)
  refine go ?_
  have hC' : ∀ j k', QC p i j k' := fun j k' => by
    by_cases e : j < i + 1 + k
    · exact hC j k' e
    · exact fun h _ _ => by omega
  clear hC hH hk hj
  refine rc (imageBy_ok hi (xs := p.w i) ?_ (hv.w_in _ hi)) (next := fun v5 w5 h5 => ?_)
  · rfl
  obtain ⟨he5, hf5⟩ := h5
  have hlen := (img_in hv i (p.w i)).1.len
  refine go ?_
  refine rc (equalI_ok (xs := img p i (p.w i)) (ys := p.w i) ?_) (next := fun v6 w6 h6 => ?_)
  · omega
  obtain ⟨b6, rfl, hb6, he6⟩ := h6
  have hE6 : Ext w2 w6 := (he4.trans he5).trans he6
  clear he4 he5 he6 hf5
  refine go ?_
  refine c_b (fun h7 => ?_) (fun h7 => ?_)
  · refine go ?_
    refine ra (v := faultV 3 i 0 0) (h := rd_build (by simp only [ev_tmp, ev_const, ev_func, get_put, get_args, get_putL, get_putL_nil, Nat.reduceEqDiff, reduceIte, List.getD_cons_zero, List.getD_cons_succ, List.getD_nil, List.map_toArray, List.map_cons, List.map_nil]; rfl) (fun _ => by kernel_rfl)) (next := ?_)
    refine st_store_agg (vs := [.int .i64 3, .int .i64 i, .int .i64 0, .int .i64 0]) (cs := _) (by ((try simp only [ev_tmp, ev_const, ev_func, get_put, get_args, get_putL, get_putL_nil, Nat.reduceEqDiff, reduceIte, List.getD_cons_zero, List.getD_cons_succ, List.getD_nil]); first | done | with_reducible rfl)) (by ((try simp only [ev_tmp, ev_const, ev_func, get_put, get_args, get_putL, get_putL_nil, Nat.reduceEqDiff, reduceIte, List.getD_cons_zero, List.getD_cons_succ, List.getD_nil]); first | done | with_reducible rfl)) rfl ?_ rfl (by first | exact True.intro | exact ⟨_, rfl, by ((try simp only [ev_tmp, ev_const, ev_func, get_put, get_args, get_putL, get_putL_nil, Nat.reduceEqDiff, reduceIte, List.getD_cons_zero, List.getD_cons_succ, List.getD_nil, Bool.not_true, Bool.not_false]); first | done | with_reducible rfl)⟩) fun w9 hc9 hs9 hb9 => ?_
    · rfl
    refine go ?_
    refine retc (bad (k := 3) (f := 0) (s := 0) (hc9.ext (he2.trans hE6) (by omega)) (by decide) fun h => ?_) rfl
    have := hb6.2 ((chk_iff2 hi).1 h).2.2.1
    rw [this] at h7; cases h7
  have hF := hb6.1 (by simpa using h7)
  clear h7
  refine go ?_
  refine r_for (p.n - (i + 1)) (fun k ρ w' => Has ρ [(0, .pointer (some ⟨b, 0, none⟩)), (1, .int .i64 i), (4, .pointer (some ⟨bf, 0, none⟩)), (5, .int .i64 p.n), (6, .int .i64 i), (10, Pc.rowAt vpw ps i), (11, .int .i64 (i + 1 + k : Nat))] ∧ Ext w2 w' ∧ ∀ j, j < i + 1 + k → QI p i hi j) ?_ ?_
  · refine ⟨?_, hE6, fun j hj h1 => by omega⟩
    exact hasP
  clear hE6
  rintro l ρ w8 hk ⟨hH, he8, hI⟩
  refine rwp_has hH fun ρ2 => ?_
  refine go ?_
  refine c_if (fun hj => ?_) (fun hj => ?_)
  · have hjn : i + 1 ≤ i + 1 + l ∧ i + 1 + l < p.n := ⟨by omega, by omega⟩
    refine go ?_
    refine rc (unitVector_ok (n := p.n) (i := i + 1 + l) rfl rfl ?_ hjn.2) (next := fun v9 w9 h9 => ?_)
    · omega
    obtain ⟨he9, hf9⟩ := h9
    have hg0 : (zeros p.n).set (i + 1 + l) 1 = unitv p (i + 1 + l) 1 := rfl
    rw [hg0] at hf9
    have hz8 := he8.size
    refine go ?_
    refine r_for (p.o i).toNat (fun q ρ w' => ∃ vx, Has ρ [(0, .pointer (some ⟨b, 0, none⟩)), (1, .int .i64 i), (4, .pointer (some ⟨bf, 0, none⟩)), (5, .int .i64 p.n), (6, .int .i64 i), (10, Pc.rowAt vpw ps i), (11, .int .i64 (i + 1 + l : Nat)), (12, vx), (159, .int .i64 (p.ord.getD i 0)), (160, .int .i64 q)] ∧ Ext w8 w' ∧ Fr w8.heap.size w' vx (rep q (img p i) (unitv p (i + 1 + l) 1))) ?_ ?_
    · refine ⟨v9, ?_, he9, hf9⟩
      exact hasP
    clear he9 hf9
    rintro q ρ w10 hq ⟨vx, hH, he10, hf10⟩
    refine rwp_has hH fun ρ3 => ?_
    have hin : InR p (rep q (img p i) (unitv p (i + 1 + l) 1)) ∧ ZU (i + 1) (rep q (img p i) (unitv p (i + 1 + l) 1)) := by
      refine rep_inv (fun v => InR p v ∧ ZU (i + 1) v) (fun x _ => img_in hv i x) ⟨?_, unitv_zu p hjn.1 1⟩ q
      exact unitv_in hv (by omega) (fun h => by have := hv.opos h; omega)
    have hxi := hf10.ints
    refine go ?_
    refine c_if (fun hq2 => ?_) (fun hq2 => ?_)
    · refine go ?_
      refine rc (imageBy_ok hi (xs := rep q (img p i) (unitv p (i + 1 + l) 1)) ?_ hin.1) (next := fun v11 w11 h11 => ?_)
      · rfl
      obtain ⟨he11, hf11⟩ := h11
      refine go ?_
      refine forQ_normal (by omega) ⟨v11, ?_, he10.trans he11, hf11.mono he10.size⟩
      exact hasP
    · have hqe : q = (p.o i).toNat := by omega
      subst hqe
      refine go ?_
      refine rc (unitVector_ok (n := p.n) (i := i + 1 + l) rfl rfl ?_ hjn.2) (next := fun v11 w11 h11 => ?_)
      · omega
      obtain ⟨he11, hf11⟩ := h11
      refine go ?_
      refine rc (conjugate_ok (x := gen hv (i + 1) (i + 1 + l) hjn) (y := Tw hv hi) (xs := (zeros p.n).set (i + 1 + l) 1) (ys := p.w i) (by omega) rfl rfl) (next := fun v12 w12 h12 => ?_)
      obtain ⟨he12, hf12⟩ := h12
      have hlen2 := hin.1.len
      refine go ?_
      refine rc (equalI_ok (xs := rep (p.o i).toNat (img p i) (unitv p (i + 1 + l) 1)) (ys := (Grp.cj (gen hv (i + 1) (i + 1 + l) hjn) (Tw hv hi)).v) ?_) (next := fun v13 w13 h13 => ?_)
      · omega
      obtain ⟨b13, rfl, hb13, he13⟩ := h13
      have hE13 : Ext w2 w13 := (((he8.trans he10).trans he11).trans he12).trans he13
      refine go ?_
      refine c_b (fun h14 => ?_) (fun h14 => ?_)
      · refine go ?_
        refine ra (v := faultV 4 i (i + 1 + l : Nat) 0) (h := rd_build (by simp only [ev_tmp, ev_const, ev_func, get_put, get_args, get_putL, get_putL_nil, Nat.reduceEqDiff, reduceIte, List.getD_cons_zero, List.getD_cons_succ, List.getD_nil, List.map_toArray, List.map_cons, List.map_nil]; rfl) (fun _ => by kernel_rfl)) (next := ?_)
        refine st_store_agg (vs := [.int .i64 4, .int .i64 i, .int .i64 (i + 1 + l : Nat), .int .i64 0]) (cs := _) (by ((try simp only [ev_tmp, ev_const, ev_func, get_put, get_args, get_putL, get_putL_nil, Nat.reduceEqDiff, reduceIte, List.getD_cons_zero, List.getD_cons_succ, List.getD_nil]); first | done | with_reducible rfl)) (by ((try simp only [ev_tmp, ev_const, ev_func, get_put, get_args, get_putL, get_putL_nil, Nat.reduceEqDiff, reduceIte, List.getD_cons_zero, List.getD_cons_succ, List.getD_nil]); first | done | with_reducible rfl)) rfl ?_ rfl (by first | exact True.intro | exact ⟨_, rfl, by ((try simp only [ev_tmp, ev_const, ev_func, get_put, get_args, get_putL, get_putL_nil, Nat.reduceEqDiff, reduceIte, List.getD_cons_zero, List.getD_cons_succ, List.getD_nil, Bool.not_true, Bool.not_false]); first | done | with_reducible rfl)⟩) fun w15 hc15 hs15 hb15 => ?_
        · rfl
        refine go ?_
        refine retc (bad (k := 4) (f := (i + 1 + l : Nat)) (s := 0) (hc15.ext (he2.trans hE13) (by omega)) (by decide) fun h => ?_) rfl
        have := hb13.2 (((chk_iff2 hi).1 h).2.2.2 (i + 1 + l) hjn)
        rw [this] at h14; cases h14
      · have h15 := hb13.1 (by simpa using h14)
        refine go ?_
        refine forQ_normal (by omega) ⟨?_, hE13, fun j hj2 => ?_⟩
        · exact hasP
        · by_cases e : j = i + 1 + l
          · subst e; exact fun _ => h15
          · exact hI j (by omega)
  · refine go ?_
    refine ra (v := faultV 0 0 0 0) (h := rd_build (by rfl) (fun _ => by kernel_rfl)) (next := ?_)
    refine st_store_agg (vs := [.int .i64 0, .int .i64 0, .int .i64 0, .int .i64 0]) (cs := _) (by ((try simp only [ev_tmp, ev_const, ev_func, get_put, get_args, get_putL, get_putL_nil, Nat.reduceEqDiff, reduceIte, List.getD_cons_zero, List.getD_cons_succ, List.getD_nil]); first | done | with_reducible rfl)) (by ((try simp only [ev_tmp, ev_const, ev_func, get_put, get_args, get_putL, get_putL_nil, Nat.reduceEqDiff, reduceIte, List.getD_cons_zero, List.getD_cons_succ, List.getD_nil]); first | done | with_reducible rfl)) rfl ?_ rfl (by first | exact True.intro | exact ⟨_, rfl, by ((try simp only [ev_tmp, ev_const, ev_func, get_put, get_args, get_putL, get_putL_nil, Nat.reduceEqDiff, reduceIte, List.getD_cons_zero, List.getD_cons_succ, List.getD_nil, Bool.not_true, Bool.not_false]); first | done | with_reducible rfl)⟩) fun w15 hc15 hs15 hb15 => ?_
    · rfl
    refine go ?_
    exact retc ⟨0, 0, 0, 0, rfl, ⟨fun _ => (chk_iff2 hi).2 ⟨hP', hC', hF, fun j h1 => hI j (by omega) h1⟩, fun _ => rfl⟩, fun h => absurd rfl h, fun _ => ⟨rfl, rfl, rfl⟩, hc15.ext (he2.trans he8) (by omega)⟩ rfl
end Go.Proofs.Ytjbhjbmobhhabaa

/-
  Walks: the program's consistency of a presentation (consistentFrom, IsConsistent).
  Conditions: stated at each theorem.
-/
namespace Go.Proofs.Ytjbhjbmobhhabaa
open Go Go.Pc
theorem fault_guard : (Try.prog.eqGuardType Try.prog.depth 120) = false := by kernel_rfl
theorem fault_held : (Try.prog.stoodInHeld 120) = false := by kernel_rfl
theorem fault_fields : Try.prog.underlying 120 = some (.struct (Try.prog.fieldsOf 120)) := by simp [Program.fieldsOf, Try.underlying120]
theorem rd_eqFault {ρ : Env} {w : World} {ty : TypeId} {x y : Operand} {k l f s : Int} (h : ev ρ x = faultV k l f s) (h' : ev ρ y = faultV 0 0 0 0) :
    Rd Try.prog (.binOp .eql 120 x y 120) ty ρ w (.bool (decide (k = 0 ∧ l = 0 ∧ f = 0 ∧ s = 0))) := by
  constructor; intro _ _ _ _
  have h2 := fun d a b w => run_equalIn_int (P := Try.prog) w d 2 .i64 .i64 a b Try.underlying2
  simp [execOp, h, h', run_eqGuard_agg _ _ _ _ _ _ _ fault_guard, run_eql_struct, run_equalIn_agg _ _ _ _ _ fault_fields fault_held, Program.fieldsOf, Try.underlying120, Op.eqFields, h2, go_sem]
  by_cases hk : k = 0 <;> by_cases hl : l = 0 <;> by_cases hf : f = 0 <;> by_cases hs : s = 0 <;> simp [hk, hl, hf, hs]
set_option maxHeartbeats 1000000 in
theorem consistentFrom_ok {p : Pr} (hv : Valid p) {w : World} {vp : Value} {lo hi' : Nat} [hp : PresP lo hi' w vp p] :
    Calls Try.prog 129 #[vp] w (Ret fun v w' => ∃ i : Nat, v = .int .i64 i ∧ i ≤ p.n ∧ Levs p i ∧ (i ≠ 0 → ¬ Lev p (i - 1)) ∧ Ext w w') := by
  have hn6 := hv.n6
  have hol : p.ord.length = p.n := rfl
  obtain ⟨b, vo, vpw, vc, ps, cs, css, rfl, hb1, hb2, hc0, hc1, hc2, h1, h2, h3⟩ := hp.ex
  refine enter (args := [.pointer (some ⟨b, 0, none⟩)]) (l := [.tmp 2]) Try.func129 rfl rfl Try.ntmps129 (by simp) ?_
  refine go ?_
  refine r_for p.n (fun k ρ w' => Has ρ [(0, .pointer (some ⟨b, 0, none⟩)), (3, .int .i64 (p.n - k : Nat))] ∧ Ext w w' ∧ Levs p (p.n - k)) ?_ ?_
  · refine ⟨?_, Ext.refl _, fun j h h' => by omega⟩
    exact hasP
  rintro k ρ w3 hk ⟨hH, he3, hL⟩
  refine rwp_has hH fun ρ0 => ?_
  refine go ?_
  refine spd (fun h4 => ?_) (fun h4 => ?_)
  · obtain ⟨i, hie⟩ : ∃ i : Nat, p.n - k = i + 1 := ⟨p.n - k - 1, by omega⟩
    have hi : i < p.n := by omega
    rw [hie] at hL h4 ⊢
    have hc : Con p (i + 1) := Levs.con hv hL
    refine go ?_
    refine rc (levelFault_ok (p := p) (i := i) hi ?_) (next := fun v5 w5 h5 => ?_)
    · omega
    obtain ⟨k5, l5, f5, s5, rfl, hz, hl5, h05, he5⟩ := h5
    refine go ?_
    refine ra (v := faultV 0 0 0 0) (h := rd_build (by rfl) (fun _ => by kernel_rfl)) (next := ?_)
    refine go ?_
    refine ra (h := rd_eqFault (k := k5) (l := l5) (f := f5) (s := s5) (by ((try simp only [ev_tmp, ev_const, ev_func, get_put, get_args, get_putL, get_putL_nil, Nat.reduceEqDiff, reduceIte, List.getD_cons_zero, List.getD_cons_succ, List.getD_nil]); first | done | with_reducible rfl)) (by ((try simp only [ev_tmp, ev_const, ev_func, get_put, get_args, get_putL, get_putL_nil, Nat.reduceEqDiff, reduceIte, List.getD_cons_zero, List.getD_cons_succ, List.getD_nil]); first | done | with_reducible rfl))) (next := ?_)
    refine go ?_
    refine c_if (fun h8 => ?_) (fun h8 => ?_)
    · refine go ?_
      refine forQ_normal (by omega) ⟨?_, he3.trans he5, fun j hj hjn => ?_⟩
      · exact hasP
      · by_cases e : j = i
        · subst e; exact ⟨hc, hi, hz.1 h8.1⟩
        · exact hL j (by omega) hjn
    · refine go ?_
      refine ret1 ⟨i + 1, rfl, by omega, hL, fun _ => ?_, he3.trans he5⟩
      rintro ⟨_, _, h9⟩
      have h0 := hz.2 h9
      exact h8 ⟨h0, h05 h0⟩
  · refine go ?_
    have hkn : p.n - k = 0 := by omega
    rw [hkn] at hL ⊢
    exact ret1 ⟨0, rfl, by omega, hL, fun h => absurd rfl h, he3⟩
set_option maxHeartbeats 1000000 in
theorem impl_IsConsistent_ok {w : World} {vp : Value} {p : Pr} {lo hi' : Nat} [hp : Pres lo hi' w vp p] (hl : p.ord.length ≤ 2000000) :
    Calls Try.prog 91 #[vp] w (Ret fun v w' => ∃ b, v = .bool b ∧ (b = true ↔ IsGrp p) ∧ Ext w w') := by
  obtain ⟨vo, vpw, vc, ps, cs, css, rfl, h1, h2, h3⟩ := hp.ex
  refine enter (args := [.agg #[vo, vpw, vc]]) (l := [.tmp 2]) Try.func91 rfl rfl Try.ntmps91 (by simp) ?_
  refine go ?_
  refine st_box3 (by ((try simp only [ev_tmp, ev_const, ev_func, get_put, get_args, get_putL, get_putL_nil, Nat.reduceEqDiff, reduceIte, List.getD_cons_zero, List.getD_cons_succ, List.getD_nil]); first | done | with_reducible rfl)) (by first | exact True.intro | exact ⟨_, rfl, by ((try simp only [ev_tmp, ev_const, ev_func, get_put, get_args, get_putL, get_putL_nil, Nat.reduceEqDiff, reduceIte, List.getD_cons_zero, List.getD_cons_succ, List.getD_nil, Bool.not_true, Bool.not_false]); first | done | with_reducible rfl)⟩) fun w1 b he1 hb1 hs1 hc0 hc1 hc2 => ?_
  have hpp := hp.boxed he1 hc0 hc1 hc2
  refine go ?_
  refine rc (impl_IsPresentation_ok hl) (next := fun v5 w5 h5 => ?_)
  obtain ⟨b5, rfl, hb5, he5⟩ := h5
  refine go ?_
  refine sp (fun e5 => ?_) (fun e5 => ?_)
  · have hv := hb5.1 e5
    refine go ?_
    refine rc (consistentFrom_ok hv) (next := fun v6 w6 h6 => ?_)
    obtain ⟨i, rfl, hi, hL, hno, he6⟩ := h6
    refine go ?_
    refine ret1 ⟨_, rfl, ?_, (he1.trans he5).trans he6⟩
    rw [decide_eq_true_eq]
    constructor
    · intro h
      have : i = 0 := by omega
      subst this
      exact ⟨hv, hL⟩
    · intro h
      by_cases e : i = 0
      · omega
      · exact absurd (h.levs (i - 1) (by omega) (by omega)) (hno e)
  · refine go ?_
    refine ret1 ⟨_, rfl, ?_, he1.trans he5⟩
    simp only [Bool.false_eq_true, false_iff]
    intro h
    have := hb5.2 h.valid
    rw [e5] at this; cases this
end Go.Proofs.Ytjbhjbmobhhabaa

/-
  Walks: the program's test of subgroups (areSubgroups, IsSubgroup).
  Conditions: stated at each theorem.
-/
namespace Go.Proofs.Ytjbhjbmobhhabaa
open Go Go.Pc
theorem PresP.val {lo hi b : Nat} {w : World} {p : Pr} {vo vp vc : Value} {ps cs : List Value} {css : List (List Value)} (h1 : Ints lo hi w vo p.ord) (h2 : Pc.Rows lo hi w vp ps p.pow) (h3 : Rowss lo hi w vc cs css p.cnj) : Pres lo hi w (.agg #[vo, vp, vc]) p := ⟨⟨vo, vp, vc, ps, cs, css, rfl, h1, h2, h3⟩⟩
set_option maxHeartbeats 2000000 in
theorem areSubgroups_ok {p : Pr} {w : World} {vp vl : Value} {us : List Value} {uss : List (List Value)} {xsss : List (List (List Int))} {lo hi lo1 hi1 : Nat} [hp : PresP lo hi w vp p] [hl : Rowss lo1 hi1 w vl us uss xsss] (hol : p.ord.length ≤ 2000000) (hxl : xsss.length ≤ 2000000) :
    Calls Try.prog 57 #[vp, vl] w (Ret fun v w' => ∃ b, v = .bool b ∧ (b = true ↔ ∃ h : IsGrp p, ∀ i, i < xsss.length → @IsSeq p ⟨h.con⟩ (xsss.getD i [])) ∧ Ext w w') := by
  have hoe : p.ord.length = p.n := rfl
  obtain ⟨g, vo, vpw, vc, ps, cs, css, rfl, hg1, hg2, hc0, hc1, hc2, h1, h2, h3⟩ := hp.ex
  have hpv := PresP.val (b := g) h1 h2 h3
  refine enter (args := [.pointer (some ⟨g, 0, none⟩), vl]) (l := [.tmp 4]) Try.func57 rfl rfl Try.ntmps57 (by simp) ?_
  refine go ?_
  refine rc (impl_IsConsistent_ok (p := p) hol) (next := fun v1 w1 h4 => ?_)
  obtain ⟨b1, rfl, hb1, he1⟩ := h4
  refine go ?_
  refine c_b (fun e1 => ?_) (fun e1 => ?_)
  · refine go ?_
    refine ret1 ⟨_, rfl, ?_, he1⟩
    simp only [Bool.false_eq_true, false_iff]
    rintro ⟨h, _⟩
    have := hb1.2 h
    rw [this] at e1; cases e1
  have hG := hb1.1 (by simpa using e1)
  haveI hcon : ConAll p := ⟨hG.con⟩
  have hv := hG.valid
  have hn6 := hv.n6
  have hno : ∀ {b : Bool} {w' : World} (i : Nat), i < xsss.length → ¬ IsSeq p (xsss.getD i []) → Ext w w' → ∃ b, Value.bool false = .bool b ∧ (b = true ↔ ∃ h : IsGrp p, ∀ i, i < xsss.length → @IsSeq p ⟨h.con⟩ (xsss.getD i [])) ∧ Ext w w' := by
    intro b w' i hi hn he
    refine ⟨_, rfl, ?_, he⟩
    simp only [Bool.false_eq_true, false_iff]
    rintro ⟨h, h5⟩
    exact hn (h5 i hi)
  refine go ?_
  refine r_for xsss.length (fun k ρ w' => Has ρ [(0, .pointer (some ⟨g, 0, none⟩)), (14, vl), (15, .int .i64 xsss.length), (16, .int .i64 k)] ∧ Ext w w' ∧ ∀ i, i < k → IsSeq p (xsss.getD i [])) ?_ ?_
  · refine ⟨?_, he1, fun i hi => by omega⟩
    exact hasP
  clear he1
  rintro k ρ w2 hk ⟨hH, he2, hI⟩
  refine rwp_has hH fun ρ0 => ?_
  refine go ?_
  refine c_if (fun h4 => ?_) (fun h4 => ?_)
  · have hkn : k < xsss.length := by omega
    refine go ?_
    refine c_if (fun h5 => ?_) (fun h5 => ?_)
    · refine go ?_
      refine ret1 (hno (b := false) k hkn (fun h => ?_) he2)
      have := h.len; omega
    refine go ?_
    refine r_for (xsss.getD k []).length (fun q ρ w' => Has ρ [(0, .pointer (some ⟨g, 0, none⟩)), (6, Pc.rowAt vl us k), (14, vl), (15, .int .i64 xsss.length), (16, .int .i64 k), (28, Pc.rowAt vl us k), (29, .int .i64 (xsss.getD k []).length), (30, .int .i64 q)] ∧ Ext w w' ∧ ∀ i, i < q → InR p ((xsss.getD k []).getD i [])) ?_ ?_
    · refine ⟨?_, he2, fun i hi => by omega⟩
      exact hasP
    clear he2
    rintro q ρ w3 hq ⟨hH3, he3, hQ⟩
    refine rwp_has hH3 fun ρ1 => ?_
    refine go ?_
    refine c_if (fun h6 => ?_) (fun h6 => ?_)
    · refine go ?_
      refine rc (isExponents_ok (p := p) (xs := (xsss.getD k []).getD q []) (fun i hi => hv.opos hi) (by omega)) (next := fun v4 w4 h7 => ?_)
      obtain ⟨b4, rfl, hb4, he4⟩ := h7
      refine go ?_
      refine c_b (fun h8 => ?_) (fun h8 => ?_)
      · refine go ?_
        refine ret1 (hno (b := false) k hkn (fun h => ?_) (he3.trans he4))
        obtain ⟨ys, hys, _⟩ := h
        have : InR p ((xsss.getD k []).getD q []) := by rw [hys]; exact vecs_in (by rw [← hys]; omega)
        rw [hb4.2 this] at h8; cases h8
      · have h9 := hb4.1 (by simpa using h8)
        refine go ?_
        refine forQ_normal (by omega) ⟨?_, he3.trans he4, fun i hi => ?_⟩
        · exact hasP
        · by_cases e : i = q
          · subst e; exact h9
          · exact hQ i (by omega)
    · obtain ⟨ys, hys⟩ := els_of (xss := xsss.getD k []) (fun i hi => hQ i (by omega))
      have hyl : (xsss.getD k []).length = ys.length := by rw [hys]; simp
      refine go ?_
      refine rc (generated_ok (p := p) (ys := ys) hys ?_) (next := fun v4 w4 h7 => ?_)
      · omega
      obtain ⟨he4, us4, hL4⟩ := h7
      have hr4 := hL4.toRows
      have hcl := canTo_len (Gen (fun a : El p => a ∈ ys)) p.n
      rw [canTo_end] at hcl
      refine go ?_
      refine rc (sameRows_ok (xss := canon (Gen (fun a : El p => a ∈ ys))) (yss := xsss.getD k []) ?_ ?_) (next := fun v5 w5 h8 => ?_)
      · intro i
        have := canon_row (Gen (fun a : El p => a ∈ ys)) i
        omega
      · omega
      obtain ⟨b5, rfl, hb5, he5⟩ := h8
      refine go ?_
      refine c_b (fun h9 => ?_) (fun h9 => ?_)
      · refine go ?_
        refine ret1 (hno (b := false) k hkn (fun h => ?_) ((he3.trans he4).trans he5))
        obtain ⟨zs, hzs, h10⟩ := h
        obtain rfl : ys = zs := vecs_inj (hys.symm.trans hzs)
        rw [hb5.2 h10] at h9; cases h9
      · have h10 := hb5.1 (by simpa using h9)
        refine go ?_
        refine forQ_normal (by omega) ⟨?_, (he3.trans he4).trans he5, fun i hi => ?_⟩
        · exact hasP
        · by_cases e : i = k
          · subst e; exact ⟨ys, hys, h10⟩
          · exact hI i (by omega)
  · refine go ?_
    refine ret1 ⟨_, rfl, ?_, he2⟩
    simp only [true_iff]
    exact ⟨hG, fun i hi => hI i (by omega)⟩
end Go.Proofs.Ytjbhjbmobhhabaa

/-
  Walks: the program's IsMember and IsSubset.
  Conditions: what the arguments read as.
-/
namespace Go.Proofs.Ytjbhjbmobhhabaa
open Go Go.Pc
theorem rows_none (w : World) (hi : Nat) : Pc.Rows 0 hi w nilv [] [] :=
  ⟨⟨⟨none, 0, rfl, Nat.le_refl _, by omega, fun k u hu => by simp at hu⟩⟩, rfl, fun j => by simpa using (Ints.nil_ w).mono (Nat.le_refl 0) (Nat.zero_le _)⟩
theorem rowss_one {w : World} {v u : Value} {us : List Value} {xss : List (List Int)} {lo hi lo1 hi1 : Nat} (hs : Sl lo hi w v [u]) (hu : Pc.Rows lo1 hi1 w u us xss) : Rowss 0 w.heap.size w v [u] [us] [xss] := by
  refine ⟨hs.wide, rfl, rfl, fun i => ?_⟩
  cases i with
  | zero => exact hu.wide
  | succ i => exact rows_none w _
theorem rowss_two {w : World} {v u t : Value} {us ts : List Value} {xss yss : List (List Int)} {lo hi lo1 hi1 lo2 hi2 : Nat} (hs : Sl lo hi w v [u, t]) (hu : Pc.Rows lo1 hi1 w u us xss) (ht : Pc.Rows lo2 hi2 w t ts yss) : Rowss 0 w.heap.size w v [u, t] [us, ts] [xss, yss] := by
  refine ⟨hs.wide, rfl, rfl, fun i => ?_⟩
  match i with
  | 0 => exact hu.wide
  | 1 => exact ht.wide
  | i + 2 => exact rows_none w _
theorem areSub1 {p : Pr} {xss : List (List Int)} : (∃ h : IsGrp p, ∀ i, i < [xss].length → @IsSeq p ⟨h.con⟩ ([xss].getD i [])) ↔ IsSubP p xss :=
  ⟨fun ⟨h, h5⟩ => ⟨h, h5 0 (by simp)⟩, fun ⟨h, h5⟩ => ⟨h, fun i hi => by
    have : i = 0 := by simpa using hi
    subst this
    exact h5⟩⟩
theorem areSub2 {p : Pr} {xss yss : List (List Int)} : (∃ h : IsGrp p, ∀ i, i < [xss, yss].length → @IsSeq p ⟨h.con⟩ ([xss, yss].getD i [])) ↔ IsSubP p xss ∧ IsSubP p yss :=
  ⟨fun ⟨h, h5⟩ => ⟨⟨h, h5 0 (by simp)⟩, ⟨h, h5 1 (by simp)⟩⟩, fun ⟨⟨h, h5⟩, ⟨_, h6⟩⟩ => ⟨h, fun i hi => by
    match i, hi with
    | 0, _ => exact h5
    | 1, _ => exact h6⟩⟩
theorem isMember_ok {p : Pr} [hc : ConAll p] {ys : List (El p)} (hs : SeqEl ys) {w : World} {vp vu vx : Value} {us : List Value} {xss : List (List Int)} {x : El p} {xs : List Int} {lo hi lo1 hi1 lo2 hi2 : Nat} [hp : PresP lo hi w vp p] [hu : Pc.Rows lo1 hi1 w vu us xss] [hx : Ints lo2 hi2 w vx xs] (hus : xss = vecs ys) (hxe : xs = x.v) :
    Calls Try.prog 63 #[vp, vu, vx] w (Ret fun v w' => ∃ b, v = .bool b ∧ (b = true ↔ Gen (fun a : El p => a ∈ ys) x) ∧ Ext w w') := by
  have hn6 := hc.valid.n6
  have hyl := hs.len
  refine enter (args := [vp, vu, vx]) (l := [.tmp 6]) Try.func63 rfl rfl Try.ntmps63 (by simp) ?_
  refine go ?_
  refine rc (representative_ok (p := p) (x := x) hs.ok hus hxe (by omega)) (next := fun v2 w2 h4 => ?_)
  obtain ⟨he2, r, hf2, hr⟩ := h4
  have hrl := r.inr.len
  refine go ?_
  refine rc (isZero_ok (xs := r.v) ?_) (next := fun v3 w3 h5 => ?_)
  · omega
  obtain ⟨b3, rfl, hb3, he3⟩ := h5
  refine go ?_
  refine ret1 ⟨b3, rfl, ?_, he2.trans he3⟩
  rw [hb3, ← el_one_iff, hr.one_iff hs]
set_option maxHeartbeats 1000000 in
theorem isSubset_ok {p : Pr} [hc : ConAll p] {ys zs : List (El p)} (hs : SeqEl zs) (hyl : ys.length ≤ 2000000) {w : World} {vp vu vv : Value} {us vs : List Value} {xss yss : List (List Int)} {lo hi lo1 hi1 lo2 hi2 : Nat} [hp : PresP lo hi w vp p] [hu : Pc.Rows lo1 hi1 w vu us xss] [hx : Pc.Rows lo2 hi2 w vv vs yss] (hus : xss = vecs ys) (hvs : yss = vecs zs) :
    Calls Try.prog 66 #[vp, vu, vv] w (Ret fun v w' => ∃ b, v = .bool b ∧ (b = true ↔ ∀ y, y ∈ ys → Gen (fun a : El p => a ∈ zs) y) ∧ Ext w w') := by
  subst hus
  have hvl : (vecs ys).length = ys.length := by simp
  refine enter (args := [vp, vu, vv]) (l := [.tmp 6]) Try.func66 rfl rfl Try.ntmps66 (by simp) ?_
  refine go ?_
  refine r_for ys.length (fun k ρ w' => Has ρ [(0, vp), (2, vv), (9, vu), (10, .int .i64 (vecs ys).length), (11, .int .i64 k)] ∧ Ext w w' ∧ ∀ y, y ∈ ys.take k → Gen (fun a : El p => a ∈ zs) y) ?_ ?_
  · refine ⟨?_, Ext.refl _, fun y hy => by simp at hy⟩
    exact hasP
  rintro k ρ w2 hk ⟨hH, he2, hI⟩
  refine rwp_has hH fun ρ0 => ?_
  refine go ?_
  refine c_if (fun h4 => ?_) (fun h4 => ?_)
  · have hkn : k < ys.length := by omega
    have hg := vecs_getD ys hkn
    refine go ?_
    refine rc (isMember_ok (p := p) (x := ys[k]) hs hvs hg) (next := fun v4 w4 h5 => ?_)
    obtain ⟨b4, rfl, hb4, he4⟩ := h5
    have hE := he2.trans he4
    refine go ?_
    refine c_b (fun h6 => ?_) (fun h6 => ?_)
    · refine go ?_
      refine ret1 ⟨_, rfl, ?_, hE⟩
      simp only [Bool.false_eq_true, false_iff]
      intro h
      rw [hb4.2 (h _ (List.getElem_mem hkn))] at h6; cases h6
    · refine go ?_
      refine forQ_normal (by omega) ⟨?_, hE, fun y hy => ?_⟩
      · exact hasP
      · rw [List.take_succ_eq_append_getElem hkn] at hy
        rcases List.mem_append.1 hy with hy | hy
        · exact hI y hy
        · rw [List.mem_singleton.1 hy]; exact hb4.1 (by simpa using h6)
  · refine go ?_
    refine ret1 ⟨_, rfl, ?_, he2⟩
    rw [show k = ys.length by omega, List.take_length] at hI
    simp only [true_iff]
    exact hI
set_option maxHeartbeats 1000000 in
theorem impl_IsMember_ok {p : Pr} {w : World} {vp vu vx : Value} {us : List Value} {xss : List (List Int)} {xs : List Int} {lo hi lo1 hi1 lo2 hi2 : Nat} [hp : Pres lo hi w vp p] [hu : Pc.Rows lo1 hi1 w vu us xss] [hx : Ints lo2 hi2 w vx xs] (hl : p.ord.length ≤ 2000000) :
    Calls Try.prog 25 #[vp, vu, vx] w (Ret fun v w' => ∃ (k : Bool) (e : Int), v = .tuple #[.bool k, .int .i64 e] ∧ Ans (IsSubP p xss ∧ InR p xs) (MemV p xss xs) false k e ∧ Ext w w') := by
  obtain ⟨vo, vpw, vc, ps, cs, css, rfl, h1, h2, h3⟩ := hp.ex
  refine enter (args := [.agg #[vo, vpw, vc], vu, vx]) (l := [.tmp 6, .tmp 7]) Try.func25 rfl rfl Try.ntmps25 (by simp) ?_
  refine go ?_
  refine st_box3 (by ((try simp only [ev_tmp, ev_const, ev_func, get_put, get_args, get_putL, get_putL_nil, Nat.reduceEqDiff, reduceIte, List.getD_cons_zero, List.getD_cons_succ, List.getD_nil]); first | done | with_reducible rfl)) (by first | exact True.intro | exact ⟨_, rfl, by ((try simp only [ev_tmp, ev_const, ev_func, get_put, get_args, get_putL, get_putL_nil, Nat.reduceEqDiff, reduceIte, List.getD_cons_zero, List.getD_cons_succ, List.getD_nil, Bool.not_true, Bool.not_false]); first | done | with_reducible rfl)⟩) fun w1 b he1 hb1 hs1 hc0 hc1 hc2 => ?_
  have hpp := hp.boxed he1 hc0 hc1 hc2
  refine go ?_
  refine st_slice1 (u := vu) (by ((try simp only [ev_tmp, ev_const, ev_func, get_put, get_args, get_putL, get_putL_nil, Nat.reduceEqDiff, reduceIte, List.getD_cons_zero, List.getD_cons_succ, List.getD_nil]); first | done | with_reducible rfl)) ?_ ?_ (by first | exact True.intro | exact ⟨_, rfl, by ((try simp only [ev_tmp, ev_const, ev_func, get_put, get_args, get_putL, get_putL_nil, Nat.reduceEqDiff, reduceIte, List.getD_cons_zero, List.getD_cons_succ, List.getD_nil, Bool.not_true, Bool.not_false]); first | done | with_reducible rfl)⟩) fun w2 v2 he2 hs2 ho2 => ?_
  · exact hu.sl.cells
  · rfl
  have hE2 := he1.trans he2
  have hR := rowss_one (xss := xss) ho2 inferInstance
  refine go ?_
  refine rc (areSubgroups_ok (p := p) (xsss := [xss]) hl (by simp)) (next := fun v5 w5 h5 => ?_)
  obtain ⟨b5, rfl, hb5, he5⟩ := h5
  rw [areSub1] at hb5
  have hE5 := hE2.trans he5
  refine go ?_
  refine sp (fun e5 => ?_) (fun e5 => ?_)
  · refine go ?_
    refine ret2 ⟨false, 1, rfl, .inr ⟨fun h => ?_, rfl, rfl⟩, hE5⟩
    rw [hb5.2 h.1] at e5; cases e5
  have hS := hb5.1 (by simpa using e5)
  obtain ⟨hG, hq⟩ := hS
  haveI : ConAll p := ⟨hG.con⟩
  have hv := hG.valid
  have hn6 := hv.n6
  obtain ⟨ys, hys, hse⟩ := isSeq_iff.1 hq
  have hyl := hse.len
  refine go ?_
  refine rc (isExponents_ok (p := p) (xs := xs) (fun i hi => hv.opos hi) hl) (next := fun v6 w6 h6 => ?_)
  obtain ⟨b6, rfl, hb6, he6⟩ := h6
  have hE6 := hE5.trans he6
  refine go ?_
  refine c_b (fun e6 => ?_) (fun e6 => ?_)
  · refine go ?_
    refine ret2 ⟨false, 1, rfl, .inr ⟨fun h => ?_, rfl, rfl⟩, hE6⟩
    rw [hb6.2 h.2] at e6; cases e6
  have hI := hb6.1 (by simpa using e6)
  obtain ⟨x, hx6⟩ : ∃ x : El p, xs = x.v := ⟨⟨xs, hI, fun i hi => absurd hi (Nat.not_lt_zero i)⟩, rfl⟩
  refine go ?_
  refine rc (isMember_ok (p := p) (x := x) hse hys hx6) (next := fun v7 w7 h7 => ?_)
  obtain ⟨b7, rfl, hb7, he7⟩ := h7
  refine go ?_
  refine ret2 ⟨b7, 0, rfl, .inl ⟨⟨⟨hG, hq⟩, hI⟩, ?_, rfl⟩, hE6.trans he7⟩
  rw [hb7, hys, hx6, memP_iff]
set_option maxHeartbeats 1000000 in
theorem impl_IsSubset_ok {p : Pr} {w : World} {vp vu vx : Value} {us vs : List Value} {xss yss : List (List Int)} {lo hi lo1 hi1 lo2 hi2 : Nat} [hp : Pres lo hi w vp p] [hu : Pc.Rows lo1 hi1 w vu us xss] [hx : Pc.Rows lo2 hi2 w vx vs yss] (hl : p.ord.length ≤ 2000000) :
    Calls Try.prog 28 #[vp, vu, vx] w (Ret fun v w' => ∃ (k : Bool) (e : Int), v = .tuple #[.bool k, .int .i64 e] ∧ Ans (IsSubP p xss ∧ IsSubP p yss) (SubV p xss yss) false k e ∧ Ext w w') := by
  obtain ⟨vo, vpw, vc, ps, cs, css, rfl, h1, h2, h3⟩ := hp.ex
  refine enter (args := [.agg #[vo, vpw, vc], vu, vx]) (l := [.tmp 6, .tmp 7]) Try.func28 rfl rfl Try.ntmps28 (by simp) ?_
  refine go ?_
  refine st_box3 (by ((try simp only [ev_tmp, ev_const, ev_func, get_put, get_args, get_putL, get_putL_nil, Nat.reduceEqDiff, reduceIte, List.getD_cons_zero, List.getD_cons_succ, List.getD_nil]); first | done | with_reducible rfl)) (by first | exact True.intro | exact ⟨_, rfl, by ((try simp only [ev_tmp, ev_const, ev_func, get_put, get_args, get_putL, get_putL_nil, Nat.reduceEqDiff, reduceIte, List.getD_cons_zero, List.getD_cons_succ, List.getD_nil, Bool.not_true, Bool.not_false]); first | done | with_reducible rfl)⟩) fun w1 b he1 hb1 hs1 hc0 hc1 hc2 => ?_
  have hpp := hp.boxed he1 hc0 hc1 hc2
  refine go ?_
  refine st_slice2 (u := vu) (v := vx) (by ((try simp only [ev_tmp, ev_const, ev_func, get_put, get_args, get_putL, get_putL_nil, Nat.reduceEqDiff, reduceIte, List.getD_cons_zero, List.getD_cons_succ, List.getD_nil]); first | done | with_reducible rfl)) (by ((try simp only [ev_tmp, ev_const, ev_func, get_put, get_args, get_putL, get_putL_nil, Nat.reduceEqDiff, reduceIte, List.getD_cons_zero, List.getD_cons_succ, List.getD_nil]); first | done | with_reducible rfl)) ?_ ?_ ?_ (by first | exact True.intro | exact ⟨_, rfl, by ((try simp only [ev_tmp, ev_const, ev_func, get_put, get_args, get_putL, get_putL_nil, Nat.reduceEqDiff, reduceIte, List.getD_cons_zero, List.getD_cons_succ, List.getD_nil, Bool.not_true, Bool.not_false]); first | done | with_reducible rfl)⟩) fun w2 v2 he2 hs2 ho2 => ?_
  · exact hu.sl.cells
  · exact hx.sl.cells
  · rfl
  have hE2 := he1.trans he2
  have hR := rowss_two (xss := xss) (yss := yss) ho2 inferInstance inferInstance
  refine go ?_
  refine rc (areSubgroups_ok (p := p) (xsss := [xss, yss]) hl (by simp)) (next := fun v5 w5 h5 => ?_)
  obtain ⟨b5, rfl, hb5, he5⟩ := h5
  rw [areSub2] at hb5
  have hE5 := hE2.trans he5
  refine go ?_
  refine c_b (fun e5 => ?_) (fun e5 => ?_)
  · refine go ?_
    refine ret2 ⟨false, 1, rfl, .inr ⟨fun h => ?_, rfl, rfl⟩, hE5⟩
    rw [hb5.2 h] at e5; cases e5
  have hS := hb5.1 (by simpa using e5)
  obtain ⟨⟨hG, hq⟩, ⟨_, hI⟩⟩ := hS
  haveI : ConAll p := ⟨hG.con⟩
  have hv := hG.valid
  have hn6 := hv.n6
  obtain ⟨ys, hys, hse⟩ := isSeq_iff.1 hq
  obtain ⟨zs, hzs, hsz⟩ := isSeq_iff.1 hI
  have hyl := hse.len
  have hzl := hsz.len
  have hE6 := hE5
  refine go ?_
  refine rc (isSubset_ok (p := p) (ys := ys) hsz (by omega) hys hzs) (next := fun v7 w7 h7 => ?_)
  obtain ⟨b7, rfl, hb7, he7⟩ := h7
  refine go ?_
  refine ret2 ⟨b7, 0, rfl, .inl ⟨⟨⟨hG, hq⟩, ⟨hG, hI⟩⟩, ?_, rfl⟩, hE6.trans he7⟩
  rw [hb7, hys, hzs, subV_iff]
end Go.Proofs.Ytjbhjbmobhhabaa

/-
  Walks: the statement's own helpers on lists: sizes, copies, comparisons (szInt64S, .., toInt64S, .., eqInt64SSS).
  Conditions: stated at each theorem.
-/
namespace Go.Proofs.Ytjbhjbmobhhabaa
open Go Go.Pc
theorem szInt64S_ok {w : World} {v : Value} {xs : List Int} {k : Int} {lo hi : Nat} [hx : Ints lo hi w v xs] (hk : 0 ≤ k ∧ k ≤ 2000000) :
    Calls Try.prog 52 #[v, .int .i64 k] w (Ret fun v w' => ∃ j : Int, v = .int .i64 j ∧ (j < 0 ∨ 0 ≤ j ∧ j ≤ k ∧ (xs.length : Int) ≤ k) ∧ Ext w w') := by
  have hl : xs.length ≤ 9223372036854775807 := by
    obtain ⟨A, c, _, hc, hm, _⟩ := hx.sl.ex
    simp at hc; omega
  refine enter (args := [v, .int .i64 k]) (l := [.tmp 4]) Try.func52 rfl rfl Try.ntmps52 (by simp) ?_
  refine go ?_
  refine c_if (fun h4 => ?_) (fun h4 => ?_)
  · refine go ?_
    exact ret1 ⟨-1, rfl, .inl (by omega), Ext.refl _⟩
  · refine go ?_
    exact ret1 ⟨k - xs.length, rfl, .inr ⟨by omega, by omega, by omega⟩, Ext.refl _⟩
theorem sl_len {lo hi : Nat} {w : World} {v : Value} {us : List Value} (h : Sl lo hi w v us) : us.length ≤ 9223372036854775807 := by
  obtain ⟨A, c, _, hc, hm, _⟩ := h.ex
  omega
set_option maxHeartbeats 1000000 in
theorem szInt64SS_ok {w : World} {v : Value} {us : List Value} {xss : List (List Int)} {k : Int} {lo hi : Nat} [hx : Pc.Rows lo hi w v us xss] (hk : 0 ≤ k ∧ k ≤ 2000000) :
    Calls Try.prog 16 #[v, .int .i64 k] w (Ret fun v w' => ∃ j : Int, v = .int .i64 j ∧ (j < 0 ∨ 0 ≤ j ∧ j ≤ k ∧ (xss.length : Int) ≤ k ∧ ∀ i, ((xss.getD i []).length : Int) ≤ k) ∧ Ext w w') := by
  have hl := sl_len hx.sl
  have hul := hx.vals.len
  refine enter (args := [v, .int .i64 k]) (l := [.tmp 4]) Try.func16 rfl rfl Try.ntmps16 (by simp) ?_
  refine go ?_
  refine c_if (fun h4 => ?_) (fun h4 => ?_)
  · refine go ?_
    exact ret1 ⟨-1, rfl, .inl (by omega), Ext.refl _⟩
  refine go ?_
  refine r_for xss.length (fun q ρ w' => ∃ j : Int, Has ρ [(0, v), (1, .int .i64 j), (5, .int .i64 q)] ∧ Ext w w' ∧ 0 ≤ j ∧ j ≤ k ∧ ∀ i, i < q → ((xss.getD i []).length : Int) ≤ k) ?_ ?_
  · refine ⟨k - xss.length, ?_, Ext.refl _, by omega, by omega, fun i hi => by omega⟩
    exact hasP
  rintro q ρ w2 hq ⟨j, hH, he2, hj0, hjk, hI⟩
  refine rwp_has hH fun ρ0 => ?_
  refine go ?_
  refine c_if (fun h5 => ?_) (fun h5 => ?_)
  · refine go ?_
    refine rc (szInt64S_ok (xs := xss.getD q []) (k := j) ?_) (next := fun v3 w3 h3 => ?_)
    · omega
    obtain ⟨j3, rfl, hj3, he3⟩ := h3
    refine go ?_
    refine c_if (fun h6 => ?_) (fun h6 => ?_)
    · refine go ?_
      exact ret1 ⟨-1, rfl, .inl (by omega), he2.trans he3⟩
    · have h7 : 0 ≤ j3 ∧ j3 ≤ j ∧ ((xss.getD q []).length : Int) ≤ j := by
        rcases hj3 with h | h
        · omega
        · exact h
      refine go ?_
      refine forQ_normal (by omega) ⟨j3, ?_, he2.trans he3, by omega, by omega, fun i hi => ?_⟩
      · exact hasP
      · by_cases e : i = q
        · subst e; omega
        · exact hI i (by omega)
  · refine go ?_
    refine ret1 ⟨j, rfl, .inr ⟨hj0, hjk, by omega, fun i => ?_⟩, he2⟩
    by_cases hi : i < xss.length
    · exact hI i (by omega)
    · rw [List.getD_eq_getElem?_getD, List.getElem?_eq_none (by omega)]; simp; omega
set_option maxHeartbeats 1000000 in
theorem szInt64SSS_ok {w : World} {v : Value} {us : List Value} {uss : List (List Value)} {xsss : List (List (List Int))} {k : Int} {lo hi : Nat} [hx : Rowss lo hi w v us uss xsss] (hk : 0 ≤ k ∧ k ≤ 2000000) :
    Calls Try.prog 53 #[v, .int .i64 k] w (Ret fun v w' => ∃ j : Int, v = .int .i64 j ∧ (j < 0 ∨ 0 ≤ j ∧ j ≤ k ∧ (xsss.length : Int) ≤ k ∧ ∀ i, ((xsss.getD i []).length : Int) ≤ k ∧ ∀ h, (((xsss.getD i []).getD h []).length : Int) ≤ k) ∧ Ext w w') := by
  have hl := sl_len hx.sl
  have hul := hx.vals.len
  refine enter (args := [v, .int .i64 k]) (l := [.tmp 4]) Try.func53 rfl rfl Try.ntmps53 (by simp) ?_
  refine go ?_
  refine c_if (fun h4 => ?_) (fun h4 => ?_)
  · refine go ?_
    exact ret1 ⟨-1, rfl, .inl (by omega), Ext.refl _⟩
  refine go ?_
  refine r_for xsss.length (fun q ρ w' => ∃ j : Int, Has ρ [(0, v), (1, .int .i64 j), (5, .int .i64 q)] ∧ Ext w w' ∧ 0 ≤ j ∧ j ≤ k ∧ ∀ i, i < q → ((xsss.getD i []).length : Int) ≤ k ∧ ∀ h, (((xsss.getD i []).getD h []).length : Int) ≤ k) ?_ ?_
  · refine ⟨k - xsss.length, ?_, Ext.refl _, by omega, by omega, fun i hi => by omega⟩
    exact hasP
  rintro q ρ w2 hq ⟨j, hH, he2, hj0, hjk, hI⟩
  refine rwp_has hH fun ρ0 => ?_
  refine go ?_
  refine c_if (fun h5 => ?_) (fun h5 => ?_)
  · refine go ?_
    refine rc (szInt64SS_ok (xss := xsss.getD q []) (k := j) ?_) (next := fun v3 w3 h3 => ?_)
    · omega
    obtain ⟨j3, rfl, hj3, he3⟩ := h3
    refine go ?_
    refine c_if (fun h6 => ?_) (fun h6 => ?_)
    · refine go ?_
      exact ret1 ⟨-1, rfl, .inl (by omega), he2.trans he3⟩
    · have h7 : 0 ≤ j3 ∧ j3 ≤ j ∧ ((xsss.getD q []).length : Int) ≤ j ∧ ∀ i, (((xsss.getD q []).getD i []).length : Int) ≤ j := by
        rcases hj3 with h | h
        · omega
        · exact h
      refine go ?_
      refine forQ_normal (by omega) ⟨j3, ?_, he2.trans he3, by omega, by omega, fun i hi => ?_⟩
      · exact hasP
      · by_cases e : i = q
        · subst e; exact ⟨by omega, fun h => by have := h7.2.2.2 h; omega⟩
        · exact hI i (by omega)
  · refine go ?_
    refine ret1 ⟨j, rfl, .inr ⟨hj0, hjk, by omega, fun i => ?_⟩, he2⟩
    by_cases hi : i < xsss.length
    · exact hI i (by omega)
    · rw [List.getD_eq_getElem?_getD, List.getElem?_eq_none (by omega)]; simp; omega
set_option maxHeartbeats 1000000 in
theorem toInt64S_ok {w : World} {v : Value} {xs : List Int} {lo hi : Nat} [hx : Ints lo hi w v xs] (hl : xs.length ≤ 2000000) :
    Calls Try.prog 24 #[v] w (Ret fun v' w' => Ext w w' ∧ Fr w.heap.size w' v' xs) := by
  refine enter (args := [v]) (l := [.tmp 2]) Try.func24 rfl rfl Try.ntmps24 (by simp) ?_
  refine go ?_
  refine st_make_int (by ((try simp only [ev_tmp, ev_const, ev_func, get_put, get_args, get_putL, get_putL_nil, Nat.reduceEqDiff, reduceIte, List.getD_cons_zero, List.getD_cons_succ, List.getD_nil]); first | done | with_reducible rfl)) (by ((try simp only [ev_tmp, ev_const, ev_func, get_put, get_args, get_putL, get_putL_nil, Nat.reduceEqDiff, reduceIte, List.getD_cons_zero, List.getD_cons_succ, List.getD_nil]); first | done | with_reducible rfl)) (by omega) (by omega) (by first | exact True.intro | exact ⟨_, rfl, by ((try simp only [ev_tmp, ev_const, ev_func, get_put, get_args, get_putL, get_putL_nil, Nat.reduceEqDiff, reduceIte, List.getD_cons_zero, List.getD_cons_succ, List.getD_nil, Bool.not_true, Bool.not_false]); first | done | with_reducible rfl)⟩) fun w1 v1 he1 hs1 ho1 => ?_
  replace hx := hx.wide
  have ap : Apart 0 w.heap.size w.heap.size := ⟨.inr (Nat.le_refl _)⟩
  refine go ?_
  refine r_for xs.length (fun k ρ w' => ∃ ys, Has ρ [(0, v), (3, v1), (4, .int .i64 k)] ∧ Chg w.heap.size w1 w' ∧ OwnI 2 w.heap.size w' v1 ys ∧ ys.length = xs.length ∧ ∀ i, i < k → ys.getD i 0 = xs.getD i 0) ?_ ?_
  · refine ⟨_, ?_, Chg.refl _ _, ho1, by simp, fun i hi => by omega⟩
    exact hasP
  clear ho1
  rintro k ρ w2 hk ⟨ys, hH, hc2, ho2, hl2, hI⟩
  refine rwp_has hH fun ρ0 => ?_
  refine go ?_
  refine c_if (fun h4 => ?_) (fun h4 => ?_)
  · refine go ?_
    refine st_store_int (by ((try simp only [ev_tmp, ev_const, ev_func, get_put, get_args, get_putL, get_putL_nil, Nat.reduceEqDiff, reduceIte, List.getD_cons_zero, List.getD_cons_succ, List.getD_nil]); first | done | with_reducible rfl)) (by ((try simp only [ev_tmp, ev_const, ev_func, get_put, get_args, get_putL, get_putL_nil, Nat.reduceEqDiff, reduceIte, List.getD_cons_zero, List.getD_cons_succ, List.getD_nil]); first | done | with_reducible rfl)) ?_ (by first | exact True.intro | exact ⟨_, rfl, by ((try simp only [ev_tmp, ev_const, ev_func, get_put, get_args, get_putL, get_putL_nil, Nat.reduceEqDiff, reduceIte, List.getD_cons_zero, List.getD_cons_succ, List.getD_nil, Bool.not_true, Bool.not_false]); first | done | with_reducible rfl)⟩) fun w3 hc3 hs3 ho3 => ?_
    · omega
    refine go ?_
    refine forQ_normal (by omega) ⟨_, ?_, hc2.trans hc3, ho3, by simp [hl2], fun i hi => ?_⟩
    · exact hasP
    · by_cases e : k = i
      · subst e; rw [Pc.getD_set_eq _ _ _ (by omega)]
      · rw [Pc.getD_set_ne _ _ _ _ e]; exact hI i (by omega)
  · refine go ?_
    have hy : ys = xs := list_ext0 hl2 fun i hi => hI i (by omega)
    subst hy
    exact ret1 ⟨hc2.ext he1 (Nat.le_refl _), ho2.toFr (Nat.le_refl _)⟩
theorem rows_ext {xss yss : List (List Int)} (hl : xss.length = yss.length) (h : ∀ i, i < xss.length → xss.getD i [] = yss.getD i []) : xss = yss := by
  apply List.ext_getElem hl
  intro i h1 h2
  have := h i h1
  simpa [h1, h2] using this
theorem set_nils {α : Type} (l : List α) (z u : α) (m : Nat) : (l ++ List.replicate (m + 1) z).set l.length u = (l ++ [u]) ++ List.replicate m z := by
  simp [List.replicate_succ]
set_option maxHeartbeats 1000000 in
theorem toInt64SSO_ok {w : World} {v : Value} {us : List Value} {xss : List (List Int)} {lo hi : Nat} [hx : Pc.Rows lo hi w v us xss] (hl : xss.length ≤ 2000000) (hr : ∀ i, (xss.getD i []).length ≤ 2000000) :
    Calls Try.prog 19 #[v] w (Ret fun v' w' => Ext w w' ∧ ∃ rs, Lst 22 w.heap.size (· < w.heap.size) w' v' (rs.map (·.1)) xss ∧ xss = rs.map (·.2) ∧ RowsO w.heap.size w' rs) := by
  refine enter (args := [v]) (l := [.tmp 2]) Try.func19 rfl rfl Try.ntmps19 (by simp) ?_
  refine go ?_
  refine st_make_nil (by ((try simp only [ev_tmp, ev_const, ev_func, get_put, get_args, get_putL, get_putL_nil, Nat.reduceEqDiff, reduceIte, List.getD_cons_zero, List.getD_cons_succ, List.getD_nil]); first | done | with_reducible rfl)) (by ((try simp only [ev_tmp, ev_const, ev_func, get_put, get_args, get_putL, get_putL_nil, Nat.reduceEqDiff, reduceIte, List.getD_cons_zero, List.getD_cons_succ, List.getD_nil]); first | done | with_reducible rfl)) (by omega) (by omega) (by first | exact True.intro | exact ⟨_, rfl, by ((try simp only [ev_tmp, ev_const, ev_func, get_put, get_args, get_putL, get_putL_nil, Nat.reduceEqDiff, reduceIte, List.getD_cons_zero, List.getD_cons_succ, List.getD_nil, Bool.not_true, Bool.not_false]); first | done | with_reducible rfl)⟩) fun w1 v1 he1 hs1 ho1 => ?_
  have hvb := ho1.toN_block
  have hL1 : Lst 22 w.heap.size (· < w.heap.size) w1 v1 _ _ := Lst.ofNils ho1 (Nat.le_refl _) (by omega) (fun g hg => by omega)
  refine go ?_
  refine r_for xss.length (fun k ρ w' => ∃ rs : List (Value × List Int), Has ρ [(0, v), (3, v1), (4, .int .i64 k)] ∧ Ext w w' ∧ Lst 22 w.heap.size (· < w.heap.size) w' v1 (rs.map (·.1) ++ List.replicate (xss.length - k) nilv) (rs.map (·.2) ++ List.replicate (xss.length - k) []) ∧ rs.length = k ∧ rs.map (·.2) = xss.take k ∧ RowsO (w.heap.size + 1) w' rs ∧ w.heap.size + 1 ≤ w'.heap.size) ?_ ?_
  · refine ⟨[], ?_, he1, by simpa using hL1, rfl, by simp, RowsO.nil _ _, by omega⟩
    exact hasP
  clear hL1 ho1
  rintro k ρ w2 hk ⟨rs, hH, he2, hL2, hl2, hI, hO2, hsz2⟩
  refine rwp_has hH fun ρ0 => ?_
  have hLr := hL2.toRows
  refine go ?_
  refine c_if (fun h4 => ?_) (fun h4 => ?_)
  · refine go ?_
    refine rc (toInt64S_ok (xs := xss.getD k []) (hr k)) (next := fun v3 w3 h3 => ?_)
    obtain ⟨he3, hf3⟩ := h3
    have hL3 := hL2.ext he3
    have hO3 := hL3.toOwn hvb
    have hz2 := he2.size
    have hul : (rs.map (·.1) ++ List.replicate (xss.length - k) nilv).length = xss.length := by simp; omega
    have hul2 : (rs.map (·.2) ++ List.replicate (xss.length - k) ([] : List Int)).length = xss.length := by simp; omega
    refine go ?_
    refine st_store_val (h := hO3) (by ((try simp only [ev_tmp, ev_const, ev_func, get_put, get_args, get_putL, get_putL_nil, Nat.reduceEqDiff, reduceIte, List.getD_cons_zero, List.getD_cons_succ, List.getD_nil]); first | done | with_reducible rfl)) (by ((try simp only [ev_tmp, ev_const, ev_func, get_put, get_args, get_putL, get_putL_nil, Nat.reduceEqDiff, reduceIte, List.getD_cons_zero, List.getD_cons_succ, List.getD_nil]); first | done | with_reducible rfl)) ?_ ?_ (by first | exact True.intro | exact ⟨_, rfl, by ((try simp only [ev_tmp, ev_const, ev_func, get_put, get_args, get_putL, get_putL_nil, Nat.reduceEqDiff, reduceIte, List.getD_cons_zero, List.getD_cons_succ, List.getD_nil, Bool.not_true, Bool.not_false]); first | done | with_reducible rfl)⟩) fun w4 hc4 hs4 ho4 => ?_
    · exact hf3.ints.sl.one
    · omega
    have hL4 := hL3.set hvb (IntsAp.ofFr hf3 (fun g hg => by
      rcases hg with hg | hg
      · omega
      · exact (hL2.lt hg).2)) hc4 ho4 (by omega)
    have hkn : k < xss.length := by omega
    have e0 : xss.length - k = (xss.length - (k + 1)) + 1 := by omega
    have e1 := set_nils (rs.map (·.1)) nilv v3 (xss.length - (k + 1))
    have e2 := set_nils (rs.map (·.2)) [] (xss.getD k []) (xss.length - (k + 1))
    rw [List.length_map, hl2, ← e0] at e1 e2
    rw [e1, e2] at hL4
    have hO4 := hO2.push he3 hsz2 hf3
    have hO5 := hO4.wr (.one (B := fun b => b = w.heap.size) rfl hc4) fun b hb e => by have := (hO4.blk hb).1; omega
    have hz3 := he3.size
    refine go ?_
    refine forQ_normal (by omega) ⟨rs ++ [(v3, xss.getD k [])], ?_, hc4.ext (he2.trans he3) (Nat.le_refl _), by simpa using hL4, by simp [hl2], ?_, hO5, by omega⟩
    · exact hasP
    · rw [List.take_succ_eq_append_getElem hkn, List.map_append, hI]; simp [hkn]
  · refine go ?_
    obtain rfl : k = xss.length := by omega
    rw [List.take_length] at hI
    refine ret1 ⟨he2, rs, ?_, hI.symm, hO2.mono (by omega)⟩
    simpa [hI] using hL2
theorem toInt64SS_ok {w : World} {v : Value} {us : List Value} {xss : List (List Int)} {lo hi : Nat} [hx : Pc.Rows lo hi w v us xss] (hl : xss.length ≤ 2000000) (hr : ∀ i, (xss.getD i []).length ≤ 2000000) :
    Calls Try.prog 19 #[v] w (Ret fun v' w' => Ext w w' ∧ ∃ us', Lst 22 w.heap.size (· < w.heap.size) w' v' us' xss) :=
  Pc.Calls.ret_mono (toInt64SSO_ok hl hr) fun _ _ ⟨h1, _, h2, _⟩ => ⟨h1, _, h2⟩
end Go.Proofs.Ytjbhjbmobhhabaa

/-
  Walks: the statement's own helpers on presentations: sizes, copies, comparisons (toInt64SSS, szPresentation, toPresentation, eqInt64SSS, eqPresentation).
  Conditions: stated at each theorem.
-/
namespace Go.Proofs.Ytjbhjbmobhhabaa
open Go Go.Pc
set_option maxHeartbeats 1000000 in
theorem toInt64SSS_ok {w : World} {v : Value} {us : List Value} {uss : List (List Value)} {xsss : List (List (List Int))} {lo hi : Nat} [hx : Rowss lo hi w v us uss xsss] (hl : xsss.length ≤ 2000000) (hr : ∀ i, (xsss.getD i []).length ≤ 2000000 ∧ ∀ j, ((xsss.getD i []).getD j []).length ≤ 2000000) :
    Calls Try.prog 56 #[v] w (Ret fun v' w' => Ext w w' ∧ ∃ us' uss', Rowss w.heap.size w'.heap.size w' v' us' uss' xsss) := by
  refine enter (args := [v]) (l := [.tmp 2]) Try.func56 rfl rfl Try.ntmps56 (by simp) ?_
  refine go ?_
  refine st_make_nil (by ((try simp only [ev_tmp, ev_const, ev_func, get_put, get_args, get_putL, get_putL_nil, Nat.reduceEqDiff, reduceIte, List.getD_cons_zero, List.getD_cons_succ, List.getD_nil]); first | done | with_reducible rfl)) (by ((try simp only [ev_tmp, ev_const, ev_func, get_put, get_args, get_putL, get_putL_nil, Nat.reduceEqDiff, reduceIte, List.getD_cons_zero, List.getD_cons_succ, List.getD_nil]); first | done | with_reducible rfl)) (by omega) (by omega) (by first | exact True.intro | exact ⟨_, rfl, by ((try simp only [ev_tmp, ev_const, ev_func, get_put, get_args, get_putL, get_putL_nil, Nat.reduceEqDiff, reduceIte, List.getD_cons_zero, List.getD_cons_succ, List.getD_nil, Bool.not_true, Bool.not_false]); first | done | with_reducible rfl)⟩) fun w1 v1 he1 hs1 ho1 => ?_
  refine go ?_
  refine r_for xsss.length (fun k ρ w' => ∃ (us' : List Value) (uss' : List (List Value)) (ysss : List (List (List Int))), Has ρ [(0, v), (3, v1), (4, .int .i64 k)] ∧ Ext w w' ∧ Own 23 w.heap.size w' v1 us' ∧ us'.length = xsss.length ∧ uss'.length = xsss.length ∧ ysss.length = xsss.length ∧
    (∀ i, Pc.Rows (w.heap.size + 1) w'.heap.size w' (us'.getD i nilv) (uss'.getD i []) (ysss.getD i [])) ∧ ∀ i, i < k → ysss.getD i [] = xsss.getD i []) ?_ ?_
  · refine ⟨_, List.replicate xsss.length [], List.replicate xsss.length [], ?_, he1, ho1, by simp, by simp, by simp, fun i => ?_, fun i hi => by omega⟩
    · exact hasP
    · have e1 : (List.replicate xsss.length nilv).getD i nilv = nilv := by
        rw [List.getD_eq_getElem?_getD, List.getElem?_replicate]; split <;> rfl
      have e2 : (List.replicate xsss.length ([] : List Value)).getD i [] = [] := by
        rw [List.getD_eq_getElem?_getD, List.getElem?_replicate]; split <;> rfl
      have e3 : (List.replicate xsss.length ([] : List (List Int))).getD i [] = [] := by
        rw [List.getD_eq_getElem?_getD, List.getElem?_replicate]; split <;> rfl
      rw [e1, e2, e3]
      refine ⟨⟨⟨none, 0, rfl, Nat.le_refl _, by omega, fun k u hu => by simp at hu⟩⟩, rfl, fun i => ?_⟩
      exact ⟨⟨none, 0, by simp, by simp, by omega, fun k u hu => by simp at hu⟩⟩
  clear ho1
  rintro k ρ w2 hk ⟨us', uss', ysss, hH, he2, ho2, hl1, hl2, hl3, hR, hI⟩
  refine rwp_has hH fun ρ0 => ?_
  have hsl := ho2.toSl
  refine go ?_
  refine c_if (fun h4 => ?_) (fun h4 => ?_)
  · refine go ?_
    refine rc (toInt64SS_ok (xss := xsss.getD k []) (hr k).1 (hr k).2) (next := fun v3 w3 h3 => ?_)
    obtain ⟨he3, us3, hL3⟩ := h3
    have hN3 := hL3.newRows
    have ho3 : Own 23 w.heap.size w3 v1 us' := Own.ext (h := ho2)
    have hsl3 := ho3.toSl
    have hlen3 := hsl3.toLen
    have hz2 := he2.size
    have hz3 := he3.size
    have hol := ho2.lt
    refine go ?_
    refine st_store_val (h := ho3) (by ((try simp only [ev_tmp, ev_const, ev_func, get_put, get_args, get_putL, get_putL_nil, Nat.reduceEqDiff, reduceIte, List.getD_cons_zero, List.getD_cons_succ, List.getD_nil]); first | done | with_reducible rfl)) (by ((try simp only [ev_tmp, ev_const, ev_func, get_put, get_args, get_putL, get_putL_nil, Nat.reduceEqDiff, reduceIte, List.getD_cons_zero, List.getD_cons_succ, List.getD_nil]); first | done | with_reducible rfl)) ?_ ?_ (by first | exact True.intro | exact ⟨_, rfl, by ((try simp only [ev_tmp, ev_const, ev_func, get_put, get_args, get_putL, get_putL_nil, Nat.reduceEqDiff, reduceIte, List.getD_cons_zero, List.getD_cons_succ, List.getD_nil, Bool.not_true, Bool.not_false]); first | done | with_reducible rfl)⟩) fun w4 hc4 hs4 ho4 => ?_
    · exact hN3.sl.one
    · omega
    refine go ?_
    refine forQ_normal (by omega) ⟨us'.set k v3, uss'.set k us3, ysss.set k (xsss.getD k []), ?_, hc4.ext (he2.trans he3) (Nat.le_refl _), ho4, by simp [hl1], by simp [hl2], by simp [hl3], fun i => ?_, fun i hi => ?_⟩
    · exact hasP
    · by_cases e : k = i
      · subst e
        have e1 : (us'.set k v3).getD k nilv = v3 := by simp [show k < us'.length by omega]
        have e2 : (uss'.set k us3).getD k [] = us3 := by simp [show k < uss'.length by omega]
        have e3 : (ysss.set k (xsss.getD k [])).getD k [] = xsss.getD k [] := by simp [show k < ysss.length by omega]
        rw [e1, e2, e3]
        exact (hN3.same (hc4.same (.inl (by omega)))).mono (by omega) (by omega)
      · have e1 : (us'.set k v3).getD i nilv = us'.getD i nilv := by simp [List.getElem?_set_ne e]
        have e2 : (uss'.set k us3).getD i [] = uss'.getD i [] := by simp [List.getElem?_set_ne e]
        have e3 : (ysss.set k (xsss.getD k [])).getD i [] = ysss.getD i [] := by simp [List.getElem?_set_ne e]
        rw [e1, e2, e3]
        exact (((hR i).same (he3.same _ _)).same (hc4.same (.inl (by omega)))).mono (Nat.le_refl _) (by omega)
    · by_cases e : k = i
      · subst e; simp [show k < ysss.length by omega]
      · have : (ysss.set k (xsss.getD k [])).getD i [] = ysss.getD i [] := by simp [List.getElem?_set_ne e]
        rw [this]; exact hI i (by omega)
  · refine go ?_
    refine ret1 ⟨he2, us', uss', ?_⟩
    have hy : ysss = xsss := by
      apply List.ext_getElem hl3
      intro i h1 h2
      have := hI i (by omega)
      simpa [h1, h2] using this
    subst hy
    exact ⟨hsl.mono (Nat.le_refl _) (by have := ho2.lt; omega), hl1, hl2, fun i => (hR i).mono (by omega) (Nat.le_refl _)⟩
theorem rowss_mono {lo hi lo' hi' : Nat} {w : World} {v : Value} {us : List Value} {uss : List (List Value)} {xsss : List (List (List Int))} (h : Rowss lo hi w v us uss xsss) (h1 : lo' ≤ lo) (h2 : hi ≤ hi') : Rowss lo' hi' w v us uss xsss :=
  ⟨h.sl.mono h1 h2, h.vals.len, h.vals.len', fun i => (h.vals.at_ i).mono h1 h2⟩
/-- The sizes of a presentation, none above k. -/
structure SizeP (p : Pr) (k : Int) : Prop where
  ord : (p.ord.length : Int) ≤ k
  pow : (p.pow.length : Int) ≤ k
  powi : ∀ i, ((p.pow.getD i []).length : Int) ≤ k
  cnj : (p.cnj.length : Int) ≤ k
  cnji : ∀ i, ((p.cnj.getD i []).length : Int) ≤ k
  cnjij : ∀ i j, (((p.cnj.getD i []).getD j []).length : Int) ≤ k
set_option maxHeartbeats 1000000 in
theorem szPresentation_ok {w : World} {v : Value} {p : Pr} {k : Int} {lo hi : Nat} [hp : Pres lo hi w v p] (hk : 0 ≤ k ∧ k ≤ 2000000) :
    Calls Try.prog 15 #[v, .int .i64 k] w (Ret fun v w' => ∃ j : Int, v = .int .i64 j ∧ (j < 0 ∨ 0 ≤ j ∧ j ≤ k ∧ SizeP p k) ∧ Ext w w') := by
  obtain ⟨vo, vpw, vc, ps, cs, css, rfl, h1, h2, h3⟩ := hp.ex
  refine enter (args := [.agg #[vo, vpw, vc], .int .i64 k]) (l := [.tmp 4]) Try.func15 rfl rfl Try.ntmps15 (by simp) ?_
  refine go ?_
  refine st_box3 (by ((try simp only [ev_tmp, ev_const, ev_func, get_put, get_args, get_putL, get_putL_nil, Nat.reduceEqDiff, reduceIte, List.getD_cons_zero, List.getD_cons_succ, List.getD_nil]); first | done | with_reducible rfl)) (by first | exact True.intro | exact ⟨_, rfl, by ((try simp only [ev_tmp, ev_const, ev_func, get_put, get_args, get_putL, get_putL_nil, Nat.reduceEqDiff, reduceIte, List.getD_cons_zero, List.getD_cons_succ, List.getD_nil, Bool.not_true, Bool.not_false]); first | done | with_reducible rfl)⟩) fun w1 b he1 hb1 hs1 hc0 hc1 hc2 => ?_
  refine go ?_
  refine rc (szInt64S_ok (xs := p.ord) hk) (next := fun v2 w2 h4 => ?_)
  obtain ⟨j2, rfl, hj2, he2⟩ := h4
  refine go ?_
  refine c_if (fun h5 => ?_) (fun h5 => ?_)
  · refine go ?_
    exact ret1 ⟨-1, rfl, .inl (by omega), he1.trans he2⟩
  have h6 : 0 ≤ j2 ∧ j2 ≤ k ∧ (p.ord.length : Int) ≤ k := by
    rcases hj2 with h | h
    · omega
    · exact h
  refine go ?_
  refine rc (szInt64SS_ok (xss := p.pow) (k := j2) ?_) (next := fun v3 w3 h7 => ?_)
  · omega
  obtain ⟨j3, rfl, hj3, he3⟩ := h7
  refine go ?_
  refine c_if (fun h8 => ?_) (fun h8 => ?_)
  · refine go ?_
    exact ret1 ⟨-1, rfl, .inl (by omega), (he1.trans he2).trans he3⟩
  have h9 : 0 ≤ j3 ∧ j3 ≤ j2 ∧ (p.pow.length : Int) ≤ j2 ∧ ∀ i, ((p.pow.getD i []).length : Int) ≤ j2 := by
    rcases hj3 with h | h
    · omega
    · exact h
  refine go ?_
  refine rc (szInt64SSS_ok (xsss := p.cnj) (k := j3) ?_) (next := fun v4 w4 h10 => ?_)
  · omega
  obtain ⟨j4, rfl, hj4, he4⟩ := h10
  refine go ?_
  refine c_if (fun h11 => ?_) (fun h11 => ?_)
  · refine go ?_
    exact ret1 ⟨-1, rfl, .inl (by omega), ((he1.trans he2).trans he3).trans he4⟩
  have h12 : 0 ≤ j4 ∧ j4 ≤ j3 ∧ (p.cnj.length : Int) ≤ j3 ∧ ∀ i, ((p.cnj.getD i []).length : Int) ≤ j3 ∧ ∀ h, (((p.cnj.getD i []).getD h []).length : Int) ≤ j3 := by
    rcases hj4 with h | h
    · omega
    · exact h
  refine go ?_
  refine ret1 ⟨j4, rfl, .inr ⟨h12.1, by omega, ⟨h6.2.2, by omega, fun i => by have := h9.2.2.2 i; omega, by omega, fun i => by have := (h12.2.2.2 i).1; omega, fun i j => by have := (h12.2.2.2 i).2 j; omega⟩⟩, ((he1.trans he2).trans he3).trans he4⟩
set_option maxHeartbeats 1000000 in
theorem toPresentation_ok {w : World} {v : Value} {p : Pr} {lo hi : Nat} [hp : Pres lo hi w v p] (hs : SizeP p 2000000) :
    Calls Try.prog 18 #[v] w (Ret fun v w' => Ext w w' ∧ Pres w.heap.size w'.heap.size w' v p) := by
  have hs1 := hs.ord
  have hs2 := hs.pow
  have hs3 := hs.cnj
  obtain ⟨vo, vpw, vc, ps, cs, css, rfl, h1, h2, h3⟩ := hp.ex
  refine enter (args := [.agg #[vo, vpw, vc]]) (l := [.cell 2 31]) Try.func18 rfl rfl Try.ntmps18 (by simp) ?_
  refine go ?_
  refine st_box3 (by ((try simp only [ev_tmp, ev_const, ev_func, get_put, get_args, get_putL, get_putL_nil, Nat.reduceEqDiff, reduceIte, List.getD_cons_zero, List.getD_cons_succ, List.getD_nil]); first | done | with_reducible rfl)) (by first | exact True.intro | exact ⟨_, rfl, by ((try simp only [ev_tmp, ev_const, ev_func, get_put, get_args, get_putL, get_putL_nil, Nat.reduceEqDiff, reduceIte, List.getD_cons_zero, List.getD_cons_succ, List.getD_nil, Bool.not_true, Bool.not_false]); first | done | with_reducible rfl)⟩) fun w1 b he1 hb1 hsz1 hc0 hc1 hc2 => ?_
  refine go ?_
  refine st_alloc (by first | exact True.intro | exact ⟨_, rfl, by ((try simp only [ev_tmp, ev_const, ev_func, get_put, get_args, get_putL, get_putL_nil, Nat.reduceEqDiff, reduceIte, List.getD_cons_zero, List.getD_cons_succ, List.getD_nil, Bool.not_true, Bool.not_false]); first | done | with_reducible rfl)⟩) fun w2 br he2 hbr hsz2 hbk2 => ?_
  refine go ?_
  refine st_alloc (by first | exact True.intro | exact ⟨_, rfl, by ((try simp only [ev_tmp, ev_const, ev_func, get_put, get_args, get_putL, get_putL_nil, Nat.reduceEqDiff, reduceIte, List.getD_cons_zero, List.getD_cons_succ, List.getD_nil, Bool.not_true, Bool.not_false]); first | done | with_reducible rfl)⟩) fun w3 bo he3 hbo hsz3 hbk3 => ?_
  have hE3 := (he1.trans he2).trans he3
  refine go ?_
  refine rc (toInt64S_ok (xs := p.ord) (by omega)) (next := fun v4 w4 h4 => ?_)
  obtain ⟨he4, hf4⟩ := h4
  have hb4 : Blk w4 bo _ := Blk.ext (h := hbk3)
  have hz4 := he4.size
  refine go ?_
  refine st_store_fld (h := hb4) (by ((try simp only [ev_tmp, ev_const, ev_func, get_put, get_args, get_putL, get_putL_nil, Nat.reduceEqDiff, reduceIte, List.getD_cons_zero, List.getD_cons_succ, List.getD_nil]); first | done | with_reducible rfl)) (by ((try simp only [ev_tmp, ev_const, ev_func, get_put, get_args, get_putL, get_putL_nil, Nat.reduceEqDiff, reduceIte, List.getD_cons_zero, List.getD_cons_succ, List.getD_nil]); first | done | with_reducible rfl)) ?_ ?_ (by first | exact True.intro | exact ⟨_, rfl, by ((try simp only [ev_tmp, ev_const, ev_func, get_put, get_args, get_putL, get_putL_nil, Nat.reduceEqDiff, reduceIte, List.getD_cons_zero, List.getD_cons_succ, List.getD_nil, Bool.not_true, Bool.not_false]); first | done | with_reducible rfl)⟩) fun w5 hc5 hs5 hb5 => ?_
  · exact hf4.ints.sl.one
  · simp
  have hE15 : Ext w1 w5 := hc5.ext ((he2.trans he3).trans he4) (by have := he2.size; omega)
  have hz15 := hE15.size
  have hz2 := he2.size
  have hi5 : Ints w3.heap.size w4.heap.size w5 v4 p.ord := hf4.ints.same (hc5.same (.inl (by omega)))
  have hr5 : Blk w5 br _ := (Blk.ext (x := he3.trans he4) (h := hbk2)).chg' hc5 (by omega)
  refine go ?_
  refine rc (toInt64SS_ok (xss := p.pow) (by omega) (fun i => by have := hs.powi i; omega)) (next := fun v6 w6 h6 => ?_)
  obtain ⟨he6, us6, hL6⟩ := h6
  have hN6 := hL6.newRows
  have hb6 : Blk w6 bo _ := Blk.ext (h := hb5)
  have hz6 := he6.size
  refine go ?_
  refine st_store_fld (h := hb6) (by ((try simp only [ev_tmp, ev_const, ev_func, get_put, get_args, get_putL, get_putL_nil, Nat.reduceEqDiff, reduceIte, List.getD_cons_zero, List.getD_cons_succ, List.getD_nil]); first | done | with_reducible rfl)) (by ((try simp only [ev_tmp, ev_const, ev_func, get_put, get_args, get_putL, get_putL_nil, Nat.reduceEqDiff, reduceIte, List.getD_cons_zero, List.getD_cons_succ, List.getD_nil]); first | done | with_reducible rfl)) ?_ ?_ (by first | exact True.intro | exact ⟨_, rfl, by ((try simp only [ev_tmp, ev_const, ev_func, get_put, get_args, get_putL, get_putL_nil, Nat.reduceEqDiff, reduceIte, List.getD_cons_zero, List.getD_cons_succ, List.getD_nil, Bool.not_true, Bool.not_false]); first | done | with_reducible rfl)⟩) fun w7 hc7 hs7 hb7 => ?_
  · exact hN6.sl.one
  · simp
  have hE17 : Ext w1 w7 := hc7.ext (hE15.trans he6) (by omega)
  have hi7 : Ints w3.heap.size w4.heap.size w7 v4 p.ord := (hi5.same (he6.same _ _)).same (hc7.same (.inl (by omega)))
  have hp7 : Pc.Rows w5.heap.size w6.heap.size w7 v6 us6 p.pow := hN6.same (hc7.same (.inl (by omega)))
  have hr7 : Blk w7 br _ := (Blk.ext (x := he6) (h := hr5)).chg' hc7 (by omega)
  refine go ?_
  refine rc (toInt64SSS_ok (xsss := p.cnj) (by omega) (fun i => ⟨by have := hs.cnji i; omega, fun j => by have := hs.cnjij i j; omega⟩)) (next := fun v8 w8 h8 => ?_)
  obtain ⟨he8, us8, uss8, hR8⟩ := h8
  have hb8 : Blk w8 bo _ := Blk.ext (h := hb7)
  have hz8 := he8.size
  refine go ?_
  refine st_store_fld (h := hb8) (by ((try simp only [ev_tmp, ev_const, ev_func, get_put, get_args, get_putL, get_putL_nil, Nat.reduceEqDiff, reduceIte, List.getD_cons_zero, List.getD_cons_succ, List.getD_nil]); first | done | with_reducible rfl)) (by ((try simp only [ev_tmp, ev_const, ev_func, get_put, get_args, get_putL, get_putL_nil, Nat.reduceEqDiff, reduceIte, List.getD_cons_zero, List.getD_cons_succ, List.getD_nil]); first | done | with_reducible rfl)) ?_ ?_ (by first | exact True.intro | exact ⟨_, rfl, by ((try simp only [ev_tmp, ev_const, ev_func, get_put, get_args, get_putL, get_putL_nil, Nat.reduceEqDiff, reduceIte, List.getD_cons_zero, List.getD_cons_succ, List.getD_nil, Bool.not_true, Bool.not_false]); first | done | with_reducible rfl)⟩) fun w9 hc9 hs9 hb9 => ?_
  · exact hR8.sl.one
  · simp
  have hE19 : Ext w1 w9 := hc9.ext (hE17.trans he8) (by omega)
  have hi9 : Ints w3.heap.size w4.heap.size w9 v4 p.ord := (hi7.same (he8.same _ _)).same (hc9.same (.inl (by omega)))
  have hp9 : Pc.Rows w5.heap.size w6.heap.size w9 v6 us6 p.pow := (hp7.same (he8.same _ _)).same (hc9.same (.inl (by omega)))
  have hq9 : Rowss w7.heap.size w8.heap.size w9 v8 us8 uss8 p.cnj := hR8.same (hc9.same (.inl (by omega)))
  have hr9 : Blk w9 br _ := (Blk.ext (x := he8) (h := hr7)).chg' hc9 (by omega)
  refine go ?_
  have hb9' : Blk w9 bo [v4, v6, v8] := hb9
  refine ra (v := .agg #[v4, v6, v8]) (h := rd_load_blk (hb := hb9') (by ((try simp only [ev_tmp, ev_const, ev_func, get_put, get_args, get_putL, get_putL_nil, Nat.reduceEqDiff, reduceIte, List.getD_cons_zero, List.getD_cons_succ, List.getD_nil]); first | done | with_reducible rfl)) rfl) (next := ?_)
  refine st_store_agg (vs := [v4, v6, v8]) (cs := _) (hb := hr9) (by ((try simp only [ev_tmp, ev_const, ev_func, get_put, get_args, get_putL, get_putL_nil, Nat.reduceEqDiff, reduceIte, List.getD_cons_zero, List.getD_cons_succ, List.getD_nil]); first | done | with_reducible rfl)) (by ((try simp only [ev_tmp, ev_const, ev_func, get_put, get_args, get_putL, get_putL_nil, Nat.reduceEqDiff, reduceIte, List.getD_cons_zero, List.getD_cons_succ, List.getD_nil]); first | done | with_reducible rfl)) rfl ?_ ?_ (by first | exact True.intro | exact ⟨_, rfl, by ((try simp only [ev_tmp, ev_const, ev_func, get_put, get_args, get_putL, get_putL_nil, Nat.reduceEqDiff, reduceIte, List.getD_cons_zero, List.getD_cons_succ, List.getD_nil, Bool.not_true, Bool.not_false]); first | done | with_reducible rfl)⟩) fun w10 hc10 hs10 hb10 => ?_
  · rfl
  · have e1 := hi9.sl.one
    have e2 := hp9.sl.one
    have e3 := hq9.sl.one
    simp [e1, e2, e3]
  refine go ?_
  refine retc (b := br) (hb := hb10) ⟨hc10.ext (he1.trans hE19) (by omega), ?_⟩ rfl
  have hi10 := (hi9.same (hc10.same (.inl (by omega)))).mono (lo' := w.heap.size) (hi' := w10.heap.size) (by omega) (by omega)
  have hp10 := (hp9.same (hc10.same (.inl (by omega)))).mono (lo' := w.heap.size) (hi' := w10.heap.size) (by omega) (by omega)
  have hq10 := rowss_mono (lo' := w.heap.size) (hi' := w10.heap.size) (hq9.same (hc10.same (.inl (by omega)))) (by omega) (by omega)
  exact ⟨⟨v4, v6, v8, us6, us8, uss8, rfl, hi10, hp10, hq10⟩⟩
set_option maxHeartbeats 1000000 in
theorem eqInt64SSS_ok {w : World} {va vb : Value} {us vs : List Value} {uss vss : List (List Value)} {xsss ysss : List (List (List Int))} {lo hi lo1 hi1 : Nat} [hx : Rowss lo hi w va us uss xsss] [hy : Rowss lo1 hi1 w vb vs vss ysss] (hm : ∀ i, (xsss.getD i []).length ≤ 2000000 ∧ ∀ j, ((xsss.getD i []).getD j []).length ≤ 2000000) (hl : xsss.length ≤ 10000000) :
    Calls Try.prog 59 #[va, vb] w (Ret fun v w' => ∃ b, v = .bool b ∧ (b = true ↔ xsss = ysss) ∧ Ext w w') := by
  have hul := hx.vals.len
  have hvl := hy.vals.len
  refine enter (args := [va, vb]) (l := [.tmp 4]) Try.func59 rfl rfl Try.ntmps59 (by simp) ?_
  refine go ?_
  refine c_if (fun h1 => ?_) (fun h1 => ?_)
  · refine go ?_
    refine ret1 ⟨_, rfl, ?_, Ext.refl _⟩
    simp only [Bool.false_eq_true, false_iff]
    rintro rfl
    omega
  · have hxy : xsss.length = ysss.length := by omega
    refine go ?_
    refine r_for xsss.length (fun k ρ w' => Has ρ [(0, va), (1, vb), (5, .int .i64 k)] ∧ Ext w w' ∧ ∀ i, i < k → xsss.getD i [] = ysss.getD i []) ?_ ?_
    · refine ⟨?_, Ext.refl _, fun i hi => by omega⟩
      exact hasP
    rintro k ρ w1 hk ⟨hH, he1, hI⟩
    refine rwp_has hH fun ρ0 => ?_
    refine go ?_
    refine c_if (fun h4 => ?_) (fun h4 => ?_)
    · refine go ?_
      refine d_region fun w2 he2 _ => ?_
      refine dgo ?_
      refine dce (eqInt64SS_ok (xss := xsss.getD k []) (yss := ysss.getD k []) (hm k).2 (by have := (hm k).1; omega)) (next := fun v3 w3 h3 => ?_)
      obtain ⟨b3, rfl, hb3, he3⟩ := h3
      refine dgo ?_
      refine d_end (h := ?_)
      refine go ?_
      refine c_b (fun h5 => ?_) (fun h5 => ?_)
      · refine go ?_
        refine ret1 ⟨_, rfl, ?_, (he1.trans he2).trans he3⟩
        simp only [Bool.false_eq_true, false_iff]
        rintro rfl
        have := hb3.2 rfl
        rw [this] at h5; cases h5
      · have h6 := hb3.1 (by simpa using h5)
        refine go ?_
        refine forQ_normal (by omega) ⟨?_, (he1.trans he2).trans he3, fun i hi => ?_⟩
        · exact hasP
        · by_cases e : i = k
          · subst e; exact h6
          · exact hI i (by omega)
    · refine go ?_
      refine ret1 ⟨_, rfl, ?_, he1⟩
      simp only [true_iff]
      apply List.ext_getElem hxy
      intro i h1 h2
      have := hI i (by omega)
      simpa [h1, h2] using this
theorem pr_ext {p q : Pr} (h1 : p.ord = q.ord) (h2 : p.pow = q.pow) (h3 : p.cnj = q.cnj) : p = q := by cases p; cases q; simp_all
set_option maxHeartbeats 1000000 in
theorem eqPresentation_ok {w : World} {va vb : Value} {p q : Pr} {lo hi lo1 hi1 : Nat} [hp : Pres lo hi w va p] [hq : Pres lo1 hi1 w vb q] (hs : SizeP p 2000000) :
    Calls Try.prog 21 #[va, vb] w (Ret fun v w' => ∃ b, v = .bool b ∧ (b = true ↔ p = q) ∧ Ext w w') := by
  have hs1 := hs.ord
  have hs2 := hs.pow
  have hs3 := hs.cnj
  obtain ⟨vo, vpw, vc, ps, cs, css, rfl, h1, h2, h3⟩ := hp.ex
  obtain ⟨vo', vpw', vc', ps', cs', css', rfl, h1', h2', h3'⟩ := hq.ex
  refine enter (args := [.agg #[vo, vpw, vc], .agg #[vo', vpw', vc']]) (l := [.tmp 4]) Try.func21 rfl rfl Try.ntmps21 (by simp) ?_
  refine go ?_
  refine st_box3 (by ((try simp only [ev_tmp, ev_const, ev_func, get_put, get_args, get_putL, get_putL_nil, Nat.reduceEqDiff, reduceIte, List.getD_cons_zero, List.getD_cons_succ, List.getD_nil]); first | done | with_reducible rfl)) (by first | exact True.intro | exact ⟨_, rfl, by ((try simp only [ev_tmp, ev_const, ev_func, get_put, get_args, get_putL, get_putL_nil, Nat.reduceEqDiff, reduceIte, List.getD_cons_zero, List.getD_cons_succ, List.getD_nil, Bool.not_true, Bool.not_false]); first | done | with_reducible rfl)⟩) fun w1 b he1 hb1 hsz1 hc0 hc1 hc2 => ?_
  refine go ?_
  refine st_box3 (by ((try simp only [ev_tmp, ev_const, ev_func, get_put, get_args, get_putL, get_putL_nil, Nat.reduceEqDiff, reduceIte, List.getD_cons_zero, List.getD_cons_succ, List.getD_nil]); first | done | with_reducible rfl)) (by first | exact True.intro | exact ⟨_, rfl, by ((try simp only [ev_tmp, ev_const, ev_func, get_put, get_args, get_putL, get_putL_nil, Nat.reduceEqDiff, reduceIte, List.getD_cons_zero, List.getD_cons_succ, List.getD_nil, Bool.not_true, Bool.not_false]); first | done | with_reducible rfl)⟩) fun w2 b' he2 hb2 hsz2 hc0' hc1' hc2' => ?_
  have hE2 := he1.trans he2
  have no : ∀ {w' : World}, p ≠ q → Ext w w' → ∃ b, Value.bool false = .bool b ∧ (b = true ↔ p = q) ∧ Ext w w' := fun h he => ⟨_, rfl, by simp [h], he⟩
  refine go ?_
  refine rc (eqInt64S_ok (xs := p.ord) (ys := q.ord) (by omega)) (next := fun v3 w3 h4 => ?_)
  obtain ⟨b3, rfl, hb3, he3⟩ := h4
  refine go ?_
  refine c_b (fun h5 => ?_) (fun h5 => ?_)
  · refine go ?_
    refine ret1 (no (fun e => ?_) (hE2.trans he3))
    rw [hb3.2 (by rw [e])] at h5; cases h5
  have e1 := hb3.1 (by simpa using h5)
  refine go ?_
  refine rc (eqInt64SS_ok (xss := p.pow) (yss := q.pow) (fun i => by have := hs.powi i; omega) (by omega)) (next := fun v4 w4 h6 => ?_)
  obtain ⟨b4, rfl, hb4, he4⟩ := h6
  refine go ?_
  refine c_b (fun h7 => ?_) (fun h7 => ?_)
  · refine go ?_
    refine ret1 (no (fun e => ?_) ((hE2.trans he3).trans he4))
    rw [hb4.2 (by rw [e])] at h7; cases h7
  have e2 := hb4.1 (by simpa using h7)
  refine go ?_
  refine rc (eqInt64SSS_ok (xsss := p.cnj) (ysss := q.cnj) (fun i => ⟨by have := hs.cnji i; omega, fun j => by have := hs.cnjij i j; omega⟩) (by omega)) (next := fun v5 w5 h8 => ?_)
  obtain ⟨b5, rfl, hb5, he5⟩ := h8
  refine go ?_
  refine c_b (fun h9 => ?_) (fun h9 => ?_)
  · refine go ?_
    refine ret1 (no (fun e => ?_) (((hE2.trans he3).trans he4).trans he5))
    rw [hb5.2 (by rw [e])] at h9; cases h9
  have e3 := hb5.1 (by simpa using h9)
  refine go ?_
  exact ret1 ⟨_, rfl, ⟨fun _ => pr_ext e1 e2 e3, fun _ => rfl⟩, ((hE2.trans he3).trans he4).trans he5⟩
end Go.Proofs.Ytjbhjbmobhhabaa

/-
  Walks: the statement's own helpers that mark memory and read the marks (markInt64S, markInt64SS, heldInt64S, heldInt64SS).
  Conditions: stated at each theorem.
-/
namespace Go.Proofs.Ytjbhjbmobhhabaa
open Go Go.Pc
set_option maxHeartbeats 1000000 in
theorem markInt64S_ok {s : Nat} {w : World} {v : Value} {xs : List Int} {k : Int} (hf : Fr s w v xs) (hk : 0 ≤ k) (hb : k + xs.length ≤ 9000000000000000000) :
    Calls Try.prog 39 #[v, .int .i64 k] w (Ret fun v' w' => v' = .int .i64 (k + xs.length) ∧ Fr s w' v (marks k xs.length) ∧ Wrt (fun b => xs ≠ [] ∧ v.ownBlock = some b) w w') := by
  by_cases hn : xs = []
  · subst hn
    have hx := hf.ints
    refine enter (args := [v, .int .i64 k]) (l := [.tmp 4]) Try.func39 rfl rfl Try.ntmps39 (by simp) ?_
    refine go ?_
    refine r_for 0 (fun i ρ w' => Has ρ [(0, v), (1, .int .i64 k), (5, .int .i64 i)] ∧ w' = w) ?_ ?_
    · refine ⟨?_, rfl⟩
      exact hasP
    rintro i ρ w2 hi ⟨hH, rfl⟩
    refine rwp_has hH fun ρ0 => ?_
    refine go ?_
    refine c_if (fun h4 => ?_) (fun h4 => ?_)
    · simp at h4; omega
    · refine go ?_
      exact ret1 (v := .int .i64 k) ⟨by simp, hf, .refl _⟩
  obtain ⟨e, b, hsb, ho⟩ := hf.own hn
  have hl := sl_len ho.own.toSl
  simp only [List.length_map] at hl
  refine enter (args := [v, .int .i64 k]) (l := [.tmp 4]) Try.func39 rfl rfl Try.ntmps39 (by simp) ?_
  refine go ?_
  refine r_for xs.length (fun i ρ w' => ∃ ys, Has ρ [(0, v), (1, .int .i64 (k + i)), (5, .int .i64 i)] ∧ Chg b w w' ∧ OwnI e b w' v ys ∧ ys.length = xs.length ∧ ∀ j : Nat, j < i → ys.getD j 0 = k + j) ?_ ?_
  · refine ⟨xs, ?_, Chg.refl _ _, ho, rfl, fun j hj => by omega⟩
    exact hasP
  have hblk := ho.block
  clear ho hf
  rintro i ρ w2 hi ⟨ys, hH, hc2, ho2, hl2, hI⟩
  refine rwp_has hH fun ρ0 => ?_
  refine go ?_
  refine c_if (fun h4 => ?_) (fun h4 => ?_)
  · refine go ?_
    refine st_store_int (by ((try simp only [ev_tmp, ev_const, ev_func, get_put, get_args, get_putL, get_putL_nil, Nat.reduceEqDiff, reduceIte, List.getD_cons_zero, List.getD_cons_succ, List.getD_nil]); first | done | with_reducible rfl)) (by ((try simp only [ev_tmp, ev_const, ev_func, get_put, get_args, get_putL, get_putL_nil, Nat.reduceEqDiff, reduceIte, List.getD_cons_zero, List.getD_cons_succ, List.getD_nil]); first | done | with_reducible rfl)) ?_ (by first | exact True.intro | exact ⟨_, rfl, by ((try simp only [ev_tmp, ev_const, ev_func, get_put, get_args, get_putL, get_putL_nil, Nat.reduceEqDiff, reduceIte, List.getD_cons_zero, List.getD_cons_succ, List.getD_nil, Bool.not_true, Bool.not_false]); first | done | with_reducible rfl)⟩) fun w3 hc3 hs3 ho3 => ?_
    · omega
    refine go ?_
    refine forQ_normal (by omega) ⟨_, ?_, hc2.trans hc3, ho3, by simp [hl2], fun j hj => ?_⟩
    · exact hasP
    · by_cases ee : i = j
      · subst ee; rw [Pc.getD_set_eq _ _ _ (by omega)]
      · rw [Pc.getD_set_ne _ _ _ _ ee]; exact hI j (by omega)
  · refine go ?_
    obtain rfl : i = xs.length := by omega
    have hy : ys = marks k xs.length := list_ext0 (by rw [marks_len]; exact hl2) fun j hj => by rw [hI j (by omega), marks_getD _ (by omega)]
    refine ret1 ⟨rfl, ?_, .one ⟨hn, hblk⟩ hc2⟩
    rw [← hy]
    exact ho2.toFr hsb
set_option maxHeartbeats 1000000 in
theorem heldInt64S_ok {w : World} {v : Value} {k : Int} {n lo hi : Nat} {xs : List Int} [hx : Ints lo hi w v xs] (hxs : xs = marks k n) (hk : 0 ≤ k) (hb : k + n ≤ 9000000000000000000) :
    Calls Try.prog 40 #[v, .int .i64 k] w (Ret fun v' w' => v' = .int .i64 (k + n) ∧ Ext w w') := by
  have hl : xs.length = n := by rw [hxs, marks_len]
  have hg : ∀ i, i < n → xs.getD i 0 = k + i := fun i hi => by rw [hxs, marks_getD _ hi]
  have hm : n ≤ 9223372036854775807 := by have := sl_len hx.sl; simp at this; omega
  refine enter (args := [v, .int .i64 k]) (l := [.tmp 4]) Try.func40 rfl rfl Try.ntmps40 (by simp) ?_
  refine go ?_
  refine r_for n (fun i ρ w' => Has ρ [(0, v), (1, .int .i64 (k + i)), (5, .int .i64 i)] ∧ Ext w w') ?_ ?_
  · refine ⟨?_, Ext.refl _⟩
    exact hasP
  rintro i ρ w2 hi ⟨hH, he2⟩
  refine rwp_has hH fun ρ0 => ?_
  refine go ?_
  refine c_if (fun h4 => ?_) (fun h4 => ?_)
  · have hgi := hg i (by omega)
    refine go ?_
    refine c_if (fun h5 => ?_) (fun h5 => ?_)
    · exact absurd hgi h5
    · refine go ?_
      refine forQ_normal (by omega) ⟨?_, he2⟩
      exact hasP
  · refine go ?_
    obtain rfl : i = n := by omega
    exact ret1 ⟨rfl, he2⟩
set_option maxHeartbeats 1000000 in
theorem heldInt64SS_ok {w : World} {v : Value} {k : Int} {lo hi : Nat} {us : List Value} {xss yss : List (List Int)} [hx : Pc.Rows lo hi w v us xss] (hxs : xss = markL k yss) (hk : 0 ≤ k) (hb : k + tot yss ≤ 9000000000000000000) :
    Calls Try.prog 49 #[v, .int .i64 k] w (Ret fun v' w' => v' = .int .i64 (k + tot yss) ∧ Ext w w') := by
  have hl : xss.length = yss.length := by rw [hxs, markL_len]
  have hul := hx.vals.len
  have hm := sl_len hx.sl
  have hg : ∀ i, i < yss.length → xss.getD i [] = marks (k + tot (yss.take i)) (yss.getD i []).length := fun i hi => by rw [hxs, markL_getD _ _ _ hi]
  refine enter (args := [v, .int .i64 k]) (l := [.tmp 4]) Try.func49 rfl rfl Try.ntmps49 (by simp) ?_
  refine go ?_
  refine r_for yss.length (fun i ρ w' => Has ρ [(0, v), (1, .int .i64 (k + tot (yss.take i))), (5, .int .i64 i)] ∧ Ext w w') ?_ ?_
  · refine ⟨?_, Ext.refl _⟩
    simp only [List.take_zero, tot]
    exact hasP
  rintro i ρ w2 hi ⟨hH, he2⟩
  refine rwp_has hH fun ρ0 => ?_
  have ht := tot_take_le yss i
  refine go ?_
  refine c_if (fun h4 => ?_) (fun h4 => ?_)
  · have hin : i < yss.length := by omega
    have hts := tot_take_succ yss hin
    have ht2 := tot_take_le yss (i + 1)
    refine go ?_
    refine rc (heldInt64S_ok (xs := xss.getD i []) (hg i hin) ?_ ?_) (next := fun v3 w3 h3 => ?_)
    · omega
    · omega
    obtain ⟨rfl, he3⟩ := h3
    refine go ?_
    refine c_if (fun h5 => ?_) (fun h5 => ?_)
    · omega
    · refine go ?_
      refine forQ_normal (by omega) ⟨?_, he2.trans he3⟩
      exact hasP
  · refine go ?_
    obtain rfl : i = yss.length := by omega
    refine ret1 ⟨?_, he2⟩
    rw [List.take_length]
theorem split_at {α : Type} (l : List α) {i : Nat} (h : i < l.length) : l = l.take i ++ l[i] :: l.drop (i + 1) := by
  rw [List.getElem_cons_drop]; exact (List.take_append_drop i l).symm
set_option maxHeartbeats 2000000 in
theorem markInt64SS_ok {A : Nat → Prop} {s : Nat} {w : World} {v : Value} {k : Int} {pre rs post : List (Value × List Int)} (hO : RowsO s w (pre ++ rs ++ post)) (hS : SpA A w v (rs.map (·.1))) (hA : ∀ b, BlkOf rs b → A b) (hk : 0 ≤ k) (hb : k + tot (rs.map (·.2)) ≤ 9000000000000000000) :
    Calls Try.prog 38 #[v, .int .i64 k] w (Ret fun v' w' => v' = .int .i64 (k + tot (rs.map (·.2))) ∧ RowsO s w' (pre ++ mkR k rs ++ post) ∧ Wrt (BlkOf rs) w w') := by
  have hm := sl_len hS.sl
  simp only [List.length_map] at hm
  have hsl := hS.sl
  have hlen := hsl.toLen
  refine enter (args := [v, .int .i64 k]) (l := [.tmp 4]) Try.func38 rfl rfl Try.ntmps38 (by simp) ?_
  refine go ?_
  refine r_for rs.length (fun i ρ w' => Has ρ [(0, v), (1, .int .i64 (k + tot ((rs.take i).map (·.2)))), (5, .int .i64 i)] ∧ RowsO s w' (pre ++ (mkR k (rs.take i) ++ rs.drop i) ++ post) ∧ Wrt (BlkOf rs) w w') ?_ ?_
  · refine ⟨?_, by simpa [mkR] using hO, .refl _⟩
    simp only [List.take_zero, List.map_nil, tot]
    exact hasP
  clear hO hsl hlen
  rintro i ρ w2 hi ⟨hH, hO2, hW2⟩
  refine rwp_has hH fun ρ0 => ?_
  have hS2 := hS.wr hW2 hA
  have hsl2 := hS2.sl
  have hlen2 := hsl2.toLen
  have hll : (rs.map (·.1)).length = rs.length := by simp
  have ht : tot ((rs.take i).map (·.2)) ≤ tot (rs.map (·.2)) := by rw [List.map_take]; exact tot_take_le _ _
  refine go ?_
  refine c_if (fun h4 => ?_) (fun h4 => ?_)
  · have hin : i < rs.length := by simp at h4; omega
    have e1 : Pc.rowAt v (rs.map (·.1)) i = rs[i].1 := by simp [Pc.rowAt, hin]
    have e2 : rs.drop i = rs[i] :: rs.drop (i + 1) := (List.getElem_cons_drop (h := hin)).symm
    have e3 : rs.take (i + 1) = rs.take i ++ [rs[i]] := List.take_succ_eq_append_getElem hin
    have hts : tot ((rs.take (i + 1)).map (·.2)) = tot ((rs.take i).map (·.2)) + (rs[i]).2.length := by rw [e3, List.map_append, tot_append]; simp [tot]
    have ht2 : tot ((rs.take (i + 1)).map (·.2)) ≤ tot (rs.map (·.2)) := by rw [List.map_take]; exact tot_take_le _ _
    have hO3 : RowsO s w2 ((pre ++ mkR k (rs.take i)) ++ rs[i] :: (rs.drop (i + 1) ++ post)) := by
      rw [e2] at hO2
      simpa only [List.append_assoc, List.cons_append] using hO2
    have hfr := hO3.fr rs[i] (by simp)
    refine go ?_
    refine ra (v := Pc.rowAt v (rs.map fun x : Value × List Int => x.1) i) (h := rd_load_sl (us := rs.map fun x : Value × List Int => x.1) (by ((try simp only [ev_tmp, ev_const, ev_func, get_put, get_args, get_putL, get_putL_nil, Nat.reduceEqDiff, reduceIte, List.getD_cons_zero, List.getD_cons_succ, List.getD_nil]); first | done | with_reducible rfl)) (by omega)) (next := ?_)
    rw [e1]
    refine go ?_
    refine rc (markInt64S_ok hfr ?_ ?_) (next := fun v3 w3 h3 => ?_)
    · omega
    · omega
    obtain ⟨rfl, hf3, hW3⟩ := h3
    have hO4 := hO3.upd hW3 hf3 marks_ne.1
    refine go ?_
    refine forQ_normal (by omega) ⟨?_, ?_, hW2.trans (hW3.mono fun b ⟨hn, e⟩ => ⟨_, List.getElem_mem hin, hn, e⟩)⟩
    · exact hasP
    · rw [e3, mkR_append]
      simpa only [mkR, List.append_assoc, List.cons_append, List.nil_append] using hO4
  · refine go ?_
    obtain rfl : i = rs.length := by simp at h4; omega
    rw [List.take_length] at hO2 ⊢
    exact ret1 ⟨rfl, by simpa using hO2, hW2⟩
end Go.Proofs.Ytjbhjbmobhhabaa

/-
  Walks: copies that are the call's own (toInt64SSS, toPresentation), marks of presentations (markInt64SSS, markPresentation).
  Conditions: stated at each theorem.
-/
namespace Go.Proofs.Ytjbhjbmobhhabaa
open Go Go.Pc
theorem toInt64SSM_ok {w : World} {v : Value} {us : List Value} {xss : List (List Int)} {lo hi : Nat} [hx : Pc.Rows lo hi w v us xss] (hl : xss.length ≤ 2000000) (hr : ∀ i, (xss.getD i []).length ≤ 2000000) :
    Calls Try.prog 19 #[v] w (Ret fun v' w' => Ext w w' ∧ ∃ rs, xss = rs.map (·.2) ∧ MatO w.heap.size w'.heap.size w' v' rs) :=
  Pc.Calls.ret_mono (toInt64SSO_ok hl hr) fun _ _ ⟨h1, rs, h2, h3, h4⟩ => by subst h3; exact ⟨h1, rs, rfl, MatO.ofLst h2 h4 h2.newRows⟩
theorem getD_nils {α : Type} (l : List α) (z : α) (m i : Nat) : (l ++ List.replicate m z).getD i z = l.getD i z := by
  by_cases h : i < l.length
  · simp [List.getElem?_append_left h, h]
  · rw [List.getD_eq_getElem?_getD, List.getElem?_append_right (by omega), List.getElem?_replicate]
    rw [List.getD_eq_getElem?_getD, List.getElem?_eq_none (by omega)]
    split <;> rfl
theorem rowss_of_cub {A : Nat → Prop} {s : Nat} {w : World} {v : Value} {gs : List (Value × List (Value × List Int))} {lo hi : Nat} (hs : Sl lo hi w v (gs.map (·.1))) (hlo : lo ≤ hi) (h : ∀ q, q ∈ gs → Pc.Rows lo hi w q.1 (q.2.map (·.1)) (q.2.map (·.2))) :
    Rowss lo hi w v (gs.map (·.1)) (gs.map fun q => q.2.map (·.1)) (gs.map fun q => q.2.map (·.2)) := by
  refine ⟨hs, by simp, by simp, fun i => ?_⟩
  by_cases hi' : i < gs.length
  · have := h gs[i] (List.getElem_mem hi')
    simpa [hi'] using this
  · have e1 : (gs.map (·.1)).getD i nilv = nilv := by rw [List.getD_eq_getElem?_getD, List.getElem?_eq_none (by simp; omega)]; rfl
    have e2 : (gs.map fun q => q.2.map (·.1)).getD i [] = [] := by rw [List.getD_eq_getElem?_getD, List.getElem?_eq_none (by simp; omega)]; rfl
    have e3 : (gs.map fun q => q.2.map (·.2)).getD i [] = [] := by rw [List.getD_eq_getElem?_getD, List.getElem?_eq_none (by simp; omega)]; rfl
    rw [e1, e2, e3]
    exact ⟨⟨⟨none, 0, rfl, Nat.le_refl _, by omega, fun k u hu => by simp at hu⟩⟩, rfl, fun i => ⟨⟨none, 0, by simp, by simp, by omega, fun k u hu => by simp at hu⟩⟩⟩
set_option maxHeartbeats 2000000 in
theorem toInt64SSSO_ok {w : World} {v : Value} {us : List Value} {uss : List (List Value)} {xsss : List (List (List Int))} {lo hi : Nat} [hx : Rowss lo hi w v us uss xsss] (hl : xsss.length ≤ 2000000) (hr : ∀ i, (xsss.getD i []).length ≤ 2000000 ∧ ∀ j, ((xsss.getD i []).getD j []).length ≤ 2000000) :
    Calls Try.prog 56 #[v] w (Ret fun v' w' => Ext w w' ∧ ∃ gs, xsss = gs.map (fun q => q.2.map (·.2)) ∧ RowsO w.heap.size w' (flat gs) ∧ CubO (fun b => BlkOf (flat gs) b ∨ b < w.heap.size) w' v' gs ∧ Rowss w.heap.size w'.heap.size w' v' (gs.map (·.1)) (gs.map fun q => q.2.map (·.1)) xsss) := by
  refine enter (args := [v]) (l := [.tmp 2]) Try.func56 rfl rfl Try.ntmps56 (by simp) ?_
  refine go ?_
  refine st_make_nil (by ((try simp only [ev_tmp, ev_const, ev_func, get_put, get_args, get_putL, get_putL_nil, Nat.reduceEqDiff, reduceIte, List.getD_cons_zero, List.getD_cons_succ, List.getD_nil]); first | done | with_reducible rfl)) (by ((try simp only [ev_tmp, ev_const, ev_func, get_put, get_args, get_putL, get_putL_nil, Nat.reduceEqDiff, reduceIte, List.getD_cons_zero, List.getD_cons_succ, List.getD_nil]); first | done | with_reducible rfl)) (by omega) (by omega) (by first | exact True.intro | exact ⟨_, rfl, by ((try simp only [ev_tmp, ev_const, ev_func, get_put, get_args, get_putL, get_putL_nil, Nat.reduceEqDiff, reduceIte, List.getD_cons_zero, List.getD_cons_succ, List.getD_nil, Bool.not_true, Bool.not_false]); first | done | with_reducible rfl)⟩) fun w1 v1 he1 hs1 ho1 => ?_
  refine go ?_
  refine r_for xsss.length (fun k ρ w' => ∃ gs : List (Value × List (Value × List Int)), Has ρ [(0, v), (3, v1), (4, .int .i64 k)] ∧ Ext w w' ∧ w.heap.size + 1 ≤ w'.heap.size ∧ Own 23 w.heap.size w' v1 (gs.map (·.1) ++ List.replicate (xsss.length - k) nilv) ∧ gs.length = k ∧ gs.map (fun q => q.2.map (·.2)) = xsss.take k ∧
    RowsO (w.heap.size + 1) w' (flat gs) ∧ (∀ q, q ∈ gs → SpA (fun b => BlkOf (flat gs) b ∨ b < w.heap.size + 1) w' q.1 (q.2.map (·.1))) ∧ ∀ q, q ∈ gs → Pc.Rows (w.heap.size + 1) w'.heap.size w' q.1 (q.2.map (·.1)) (q.2.map (·.2))) ?_ ?_
  · refine ⟨[], ?_, he1, by omega, by simpa using ho1, rfl, by simp, RowsO.nil _ _, fun q hq => (by cases hq), fun q hq => (by cases hq)⟩
    exact hasP
  clear ho1
  rintro k ρ w2 hk ⟨gs, hH, he2, hz2, ho2, hgl, hI, hO2, hS2, hR2⟩
  refine rwp_has hH fun ρ0 => ?_
  have hsl := ho2.toSl
  have hul : (gs.map (·.1) ++ List.replicate (xsss.length - k) nilv).length = xsss.length := by simp; omega
  refine go ?_
  refine c_if (fun h4 => ?_) (fun h4 => ?_)
  · have hkn : k < xsss.length := by omega
    refine go ?_
    refine rc (toInt64SSM_ok (xss := xsss.getD k []) (hr k).1 (hr k).2) (next := fun v3 w3 h3 => ?_)
    obtain ⟨he3, rs, hrs, hM3⟩ := h3
    have ho3 : Own 23 w.heap.size w3 v1 _ := Own.ext (h := ho2)
    have hsl3 := ho3.toSl
    have hlen3 := hsl3.toLen
    have hz3 := he3.size
    have hol := ho2.lt
    refine go ?_
    refine st_store_val (h := ho3) (by ((try simp only [ev_tmp, ev_const, ev_func, get_put, get_args, get_putL, get_putL_nil, Nat.reduceEqDiff, reduceIte, List.getD_cons_zero, List.getD_cons_succ, List.getD_nil]); first | done | with_reducible rfl)) (by ((try simp only [ev_tmp, ev_const, ev_func, get_put, get_args, get_putL, get_putL_nil, Nat.reduceEqDiff, reduceIte, List.getD_cons_zero, List.getD_cons_succ, List.getD_nil]); first | done | with_reducible rfl)) ?_ ?_ (by first | exact True.intro | exact ⟨_, rfl, by ((try simp only [ev_tmp, ev_const, ev_func, get_put, get_args, get_putL, get_putL_nil, Nat.reduceEqDiff, reduceIte, List.getD_cons_zero, List.getD_cons_succ, List.getD_nil, Bool.not_true, Bool.not_false]); first | done | with_reducible rfl)⟩) fun w4 hc4 hs4 ho4 => ?_
    · exact hM3.rows.sl.one
    · omega
    refine go ?_
    have e0 : xsss.length - k = (xsss.length - (k + 1)) + 1 := by omega
    have e1 := set_nils (gs.map (·.1)) nilv v3 (xsss.length - (k + 1))
    rw [List.length_map, hgl, ← e0] at e1
    rw [e1] at ho4
    have hW4 : Wrt (fun b => b = w.heap.size) w3 w4 := .one rfl hc4
    have hM4 := hM3.wr hW4 (fun b hb => .inl (by omega))
    have hf : flat (gs ++ [(v3, rs)]) = flat gs ++ rs := by rw [flat_append, flat_one]
    have hO3 := hO2.append he3 (by omega) hM3.own
    have hO4 := hO3.wr hW4 (fun b hb e => by have := (hO3.blk hb).1; omega)
    refine forQ_normal (by omega) ⟨gs ++ [(v3, rs)], ?_, hc4.ext (he2.trans he3) (Nat.le_refl _), by omega, by simpa using ho4, by simp [hgl], ?_, ?_, fun q hq => ?_, fun q hq => ?_⟩
    · exact hasP
    · rw [List.take_succ_eq_append_getElem hkn, List.map_append, hI]
      simp only [List.map_cons, List.map_nil, ← hrs]
      simp [hkn]
    · rw [hf]; exact hO4
    · rw [hf]
      rcases List.mem_append.1 hq with hq | hq
      · have h5 := (hS2 q hq).grow he3 (A' := fun b => BlkOf (flat gs ++ rs) b ∨ b < w.heap.size + 1) (fun b hb => by
          rcases hb with hb | hb
          · rcases blkOf_append'.1 hb with hb | hb
            · exact .inl (.inl hb)
            · exact .inr (hM3.own.blk hb).1
          · exact .inl (.inr hb))
        exact h5.wr hW4 (fun b hb => .inr (by omega))
      · obtain rfl := List.mem_singleton.1 hq
        refine SpA.weak hM4.sp fun b hb => ?_
        rcases hb with hb | hb
        · rcases blkOf_append'.1 hb with hb | hb
          · exact .inr (hO2.blk hb).2
          · exact .inl hb
        · exact .inr (by omega)
    · rcases List.mem_append.1 hq with hq | hq
      · exact (((hR2 q hq).same (he3.same _ _)).same (hc4.same (.inl (by omega)))).mono (Nat.le_refl _) (by omega)
      · obtain rfl := List.mem_singleton.1 hq
        exact hM4.rows.mono (by omega) (by omega)
  · refine go ?_
    obtain rfl : k = xsss.length := by omega
    rw [List.take_length] at hI
    rw [Nat.sub_self, List.replicate_zero, List.append_nil] at ho2
    have hol := ho2.lt
    refine ret1 ⟨he2, gs, hI.symm, hO2.mono (by omega), ⟨⟨_, _, ho2.toSl, fun b hb => ?_⟩, fun q hq => (hS2 q hq).weak fun b hb => hb.imp id (by omega)⟩, ?_⟩
    · rcases hb with hb | hb
      · have := (hO2.blk hb).1; omega
      · omega
    · rw [← hI]
      exact rowss_of_cub (A := fun _ => True) (s := 0) (ho2.toSl.mono (Nat.le_refl _) (by omega)) (by omega) fun q hq => (hR2 q hq).mono (by omega) (Nat.le_refl _)
theorem flat_blk {gs : List (Value × List (Value × List Int))} {q : Value × List (Value × List Int)} (hq : q ∈ gs) {b : Nat} (h : BlkOf q.2 b) : BlkOf (flat gs) b := by
  obtain ⟨r, hr, h1, h2⟩ := h
  refine ⟨r, ?_, h1, h2⟩
  unfold flat
  rw [List.mem_flatten]
  exact ⟨q.2, List.mem_map.2 ⟨q, hq, rfl⟩, hr⟩
theorem flat_tot (gs : List (Value × List (Value × List Int))) : (flat gs).map (·.2) = (gs.map fun q => q.2.map (·.2)).flatten := by
  unfold flat
  rw [List.map_flatten, List.map_map]; rfl
set_option maxHeartbeats 2000000 in
theorem markInt64SSS_ok {A : Nat → Prop} {s : Nat} {w : World} {v : Value} {k : Int} {gs : List (Value × List (Value × List Int))} {pre post : List (Value × List Int)} (hO : RowsO s w (pre ++ flat gs ++ post)) (hS : CubO A w v gs) (hA : ∀ b, BlkOf (flat gs) b → A b) (hk : 0 ≤ k) (hb : k + tot ((flat gs).map (·.2)) ≤ 9000000000000000000) :
    Calls Try.prog 74 #[v, .int .i64 k] w (Ret fun v' w' => v' = .int .i64 (k + tot ((flat gs).map (·.2))) ∧ RowsO s w' (pre ++ mkR k (flat gs) ++ post) ∧ Wrt (BlkOf (flat gs)) w w') := by
  have hm := sl_len hS.sp0.sl
  simp only [List.length_map] at hm
  have hsl := hS.sp0.sl
  have hlen := hsl.toLen
  refine enter (args := [v, .int .i64 k]) (l := [.tmp 4]) Try.func74 rfl rfl Try.ntmps74 (by simp) ?_
  refine go ?_
  refine r_for gs.length (fun i ρ w' => Has ρ [(0, v), (1, .int .i64 (k + tot ((flat (gs.take i)).map (·.2)))), (5, .int .i64 i)] ∧ RowsO s w' (pre ++ (mkR k (flat (gs.take i)) ++ flat (gs.drop i)) ++ post) ∧ Wrt (BlkOf (flat gs)) w w') ?_ ?_
  · refine ⟨?_, by simpa [mkR, flat] using hO, .refl _⟩
    have e : ((flat (gs.take 0)).map (·.2)) = [] := rfl
    rw [e]
    simp only [tot]
    exact hasP
  clear hO hsl hlen
  rintro i ρ w2 hi ⟨hH, hO2, hW2⟩
  refine rwp_has hH fun ρ0 => ?_
  have hS2 := hS.wr hW2 hA
  have hsl2 := hS2.sp0.sl
  have hlen2 := hsl2.toLen
  have hll : (gs.map (·.1)).length = gs.length := by simp
  have ht0 : ∀ j, tot ((flat (gs.take j)).map (·.2)) ≤ tot ((flat gs).map (·.2)) := fun j => by
    have e : flat gs = flat (gs.take j) ++ flat (gs.drop j) := by rw [← flat_append, List.take_append_drop]
    rw [e, List.map_append, tot_append]; omega
  have ht := ht0 i
  refine go ?_
  refine c_if (fun h4 => ?_) (fun h4 => ?_)
  · have hin : i < gs.length := by simp at h4; omega
    have e1 : Pc.rowAt v (gs.map (·.1)) i = gs[i].1 := by simp [Pc.rowAt, hin]
    have e2 : flat (gs.drop i) = gs[i].2 ++ flat (gs.drop (i + 1)) := by
      have e : gs.drop i = [gs[i]] ++ gs.drop (i + 1) := (List.getElem_cons_drop (h := hin)).symm
      rw [e, flat_append, flat_one]
    have e3 : flat (gs.take (i + 1)) = flat (gs.take i) ++ gs[i].2 := by rw [List.take_succ_eq_append_getElem hin, flat_append, flat_one]
    have hts : tot ((flat (gs.take (i + 1))).map (·.2)) = tot ((flat (gs.take i)).map (·.2)) + tot ((gs[i]).2.map (·.2)) := by rw [e3, List.map_append, tot_append]
    have ht2 := ht0 (i + 1)
    have hmem := List.getElem_mem hin
    have hO3 : RowsO s w2 ((pre ++ mkR k (flat (gs.take i))) ++ gs[i].2 ++ (flat (gs.drop (i + 1)) ++ post)) := by
      rw [e2] at hO2
      simpa only [List.append_assoc] using hO2
    refine go ?_
    refine ra (v := Pc.rowAt v (gs.map fun x : Value × List (Value × List Int) => x.1) i) (h := rd_load_sl (us := gs.map fun x : Value × List (Value × List Int) => x.1) (by ((try simp only [ev_tmp, ev_const, ev_func, get_put, get_args, get_putL, get_putL_nil, Nat.reduceEqDiff, reduceIte, List.getD_cons_zero, List.getD_cons_succ, List.getD_nil]); first | done | with_reducible rfl)) (by omega)) (next := ?_)
    rw [e1]
    refine go ?_
    refine rc (markInt64SS_ok hO3 (hS2.sp _ hmem) (fun b hb => hA b (flat_blk hmem hb)) ?_ ?_) (next := fun v3 w3 h3 => ?_)
    · omega
    · omega
    obtain ⟨rfl, hO4, hW3⟩ := h3
    refine go ?_
    refine forQ_normal (by omega) ⟨?_, ?_, hW2.trans (hW3.mono fun b hb => flat_blk hmem hb)⟩
    · exact hasP
    · rw [e3, mkR_append]
      simpa only [List.append_assoc] using hO4
  · refine go ?_
    obtain rfl : i = gs.length := by simp at h4; omega
    rw [List.take_length] at hO2 ⊢
    exact ret1 ⟨rfl, by simpa [flat] using hO2, hW2⟩
set_option maxHeartbeats 1000000 in
/-- Marks on a presentation that is the call's own. -/
theorem markPresentation_ok {s t : Nat} {w : World} {v : Value} {p : Pr} {k : Int} (hP : PresO s t w v p) (hk : 0 ≤ k) (hb : k + totP p ≤ 9000000000000000000) :
    Calls Try.prog 37 #[v, .int .i64 k] w (Ret fun v' w' => v' = .int .i64 (k + totP p) ∧ Wrt (fun b => s ≤ b ∧ b < t) w w') := by
  obtain ⟨vo, vp, vc, rp, gs, rfl, hO, hlt, hsp, hcub, hpow, hcnj, _, _, _⟩ := hP.ex
  have hA : ∀ b, BlkOf ((vo, p.ord) :: (rp ++ flat gs)) b → s ≤ b ∧ b < t := fun b hb => ⟨(hO.blk hb).1, hlt b hb⟩
  have e1 : totP p = p.ord.length + (tot (rp.map (·.2)) + tot ((flat gs).map (·.2))) := by rw [flat_tot, ← hpow, ← hcnj]; rfl
  refine enter (args := [.agg #[vo, vp, vc], .int .i64 k]) (l := [.tmp 4]) Try.func37 rfl rfl Try.ntmps37 (by simp) ?_
  refine go ?_
  refine st_box3 (by ((try simp only [ev_tmp, ev_const, ev_func, get_put, get_args, get_putL, get_putL_nil, Nat.reduceEqDiff, reduceIte, List.getD_cons_zero, List.getD_cons_succ, List.getD_nil]); first | done | with_reducible rfl)) (by first | exact True.intro | exact ⟨_, rfl, by ((try simp only [ev_tmp, ev_const, ev_func, get_put, get_args, get_putL, get_putL_nil, Nat.reduceEqDiff, reduceIte, List.getD_cons_zero, List.getD_cons_succ, List.getD_nil, Bool.not_true, Bool.not_false]); first | done | with_reducible rfl)⟩) fun w1 b he1 hb1 hs1 hc0 hc1 hc2 => ?_
  have hO1 := hO.ext he1
  have hB1 : ∀ g, BlkOf ((vo, p.ord) :: (rp ++ flat gs)) g → g ≠ b := fun g hg e => by have := (hO.blk hg).2; omega
  have hcell : ∀ {w2 : World} {j : Nat} {u : Value}, Cell w1 b j u → Wrt (BlkOf ((vo, p.ord) :: (rp ++ flat gs))) w1 w2 → Cell w2 b j u := fun h k => h.same (k.same fun g hg => by have := hB1 g hg; omega) k.size
  have hfr : Fr s w1 vo p.ord := hO1.fr _ List.mem_cons_self
  refine go ?_
  refine rc (markInt64S_ok hfr hk ?_) (next := fun v2 w2 h2 => ?_)
  · omega
  obtain ⟨rfl, hf2, hW2⟩ := h2
  have hW2' : Wrt (BlkOf ((vo, p.ord) :: (rp ++ flat gs))) w1 w2 := hW2.mono fun g ⟨hn, e⟩ => ⟨_, List.mem_cons_self, hn, e⟩
  have hO2 : RowsO s w2 ([] ++ (vo, marks k p.ord.length) :: (rp ++ flat gs)) := RowsO.upd (pre := []) (by simpa using hO1) hW2 hf2 marks_ne.1
  have hc0' := hcell hc0 hW2'
  have hc1' := hcell hc1 hW2'
  have hc2' := hcell hc2 hW2'
  have hO2' : RowsO s w2 (([(vo, marks k p.ord.length)]) ++ rp ++ flat gs) := by simpa using hO2
  have hsp2 := (SpA.grow hsp he1 (fun g hg => .inl hg)).wr hW2' (fun g hg => hg)
  refine go ?_
  refine rc (markInt64SS_ok hO2' hsp2 (fun g hg => ?_) ?_ ?_) (next := fun v3 w3 h3 => ?_)
  · obtain ⟨r, h1, h2⟩ := hg
    exact ⟨r, List.mem_cons_of_mem _ (List.mem_append_left _ h1), h2⟩
  · omega
  · omega
  obtain ⟨rfl, hO3, hW3⟩ := h3
  have hW3' : Wrt (BlkOf ((vo, p.ord) :: (rp ++ flat gs))) w2 w3 := hW3.mono fun g ⟨r, h1, h2⟩ => ⟨r, List.mem_cons_of_mem _ (List.mem_append_left _ h1), h2⟩
  have hc2'' := hcell hc2 (hW2'.trans hW3')
  have hO3' : RowsO s w3 (([(vo, marks k p.ord.length)] ++ mkR (k + p.ord.length) rp) ++ flat gs ++ []) := by simpa using hO3
  have hcub3 : CubO (BlkOf ((vo, p.ord) :: (rp ++ flat gs))) w3 vc gs := CubO.wr ⟨(SpA.grow hcub.sp0 he1 (fun g hg => .inl hg)).wr hW2' (fun g hg => hg), fun q hq => (SpA.grow (hcub.sp q hq) he1 (fun g hg => .inl hg)).wr hW2' (fun g hg => hg)⟩ hW3' (fun g hg => hg)
  clear hc0' hc1' hc2'
  refine go ?_
  refine rc (markInt64SSS_ok hO3' hcub3 (fun g hg => ?_) ?_ ?_) (next := fun v4 w4 h4 => ?_)
  · obtain ⟨r, h1, h2⟩ := hg
    exact ⟨r, List.mem_cons_of_mem _ (List.mem_append_right _ h1), h2⟩
  · omega
  · omega
  obtain ⟨rfl, hO4, hW4⟩ := h4
  refine go ?_
  refine ret1 ⟨?_, ?_⟩
  · rw [e1]
    exact int_congr (by omega)
  · refine (Wrt.ofExt he1).trans ((hW2'.mono hA).trans ((hW3'.mono hA).trans (hW4.mono fun g hg => hA g ?_)))
    obtain ⟨r, h1, h2⟩ := hg
    exact ⟨r, List.mem_cons_of_mem _ (List.mem_append_right _ h1), h2⟩
end Go.Proofs.Ytjbhjbmobhhabaa

/-
  Walk: a copy of a presentation that is the call's own (toPresentation).
  Conditions: stated at the theorem.
-/
namespace Go.Proofs.Ytjbhjbmobhhabaa
open Go Go.Pc
theorem rd_neqb {ρ : Env} {w : World} {ty tt : TypeId} {x y : Operand} {a b : Bool} (h : ev ρ x = .bool a) (k : ev ρ y = .bool b) : Rd Try.prog (.binOp .neq 4 x y tt) ty ρ w (.bool (!(a == b))) := by
  constructor; intro _ _ _ _
  simp [execOp, h, k, eqGuard, binOp, run_equal_bool w 4 a b Try.underlying4]
theorem rd_neqb_same {ρ : Env} {w : World} {ty tt : TypeId} {x y : Operand} {a : Bool} (h : ev ρ x = .bool a) (k : ev ρ y = .bool a) : Rd Try.prog (.binOp .neq 4 x y tt) ty ρ w (.bool false) := by
  have := rd_neqb (w := w) (ty := ty) (tt := tt) h k
  simpa using this
set_option maxHeartbeats 2000000 in
theorem toPresentationO_ok {w : World} {v : Value} {p : Pr} {lo hi : Nat} [hp : Pres lo hi w v p] (hs : SizeP p 2000000) :
    Calls Try.prog 18 #[v] w (Ret fun v w' => Ext w w' ∧ PresO w.heap.size w'.heap.size w' v p) := by
  have hs1 := hs.ord
  have hs2 := hs.pow
  have hs3 := hs.cnj
  obtain ⟨vo, vpw, vc, ps, cs, css, rfl, h1, h2, h3⟩ := hp.ex
  refine enter (args := [.agg #[vo, vpw, vc]]) (l := [.cell 2 31]) Try.func18 rfl rfl Try.ntmps18 (by simp) ?_
  refine go ?_
  refine st_box3 (by ((try simp only [ev_tmp, ev_const, ev_func, get_put, get_args, get_putL, get_putL_nil, Nat.reduceEqDiff, reduceIte, List.getD_cons_zero, List.getD_cons_succ, List.getD_nil]); first | done | with_reducible rfl)) (by first | exact True.intro | exact ⟨_, rfl, by ((try simp only [ev_tmp, ev_const, ev_func, get_put, get_args, get_putL, get_putL_nil, Nat.reduceEqDiff, reduceIte, List.getD_cons_zero, List.getD_cons_succ, List.getD_nil, Bool.not_true, Bool.not_false]); first | done | with_reducible rfl)⟩) fun w1 b he1 hb1 hsz1 hc0 hc1 hc2 => ?_
  refine go ?_
  refine st_alloc (by first | exact True.intro | exact ⟨_, rfl, by ((try simp only [ev_tmp, ev_const, ev_func, get_put, get_args, get_putL, get_putL_nil, Nat.reduceEqDiff, reduceIte, List.getD_cons_zero, List.getD_cons_succ, List.getD_nil, Bool.not_true, Bool.not_false]); first | done | with_reducible rfl)⟩) fun w2 br he2 hbr hsz2 hbk2 => ?_
  refine go ?_
  refine st_alloc (by first | exact True.intro | exact ⟨_, rfl, by ((try simp only [ev_tmp, ev_const, ev_func, get_put, get_args, get_putL, get_putL_nil, Nat.reduceEqDiff, reduceIte, List.getD_cons_zero, List.getD_cons_succ, List.getD_nil, Bool.not_true, Bool.not_false]); first | done | with_reducible rfl)⟩) fun w3 bo he3 hbo hsz3 hbk3 => ?_
  have hE3 := (he1.trans he2).trans he3
  refine go ?_
  refine rc (toInt64S_ok (xs := p.ord) (by omega)) (next := fun v4 w4 h4 => ?_)
  obtain ⟨he4, hf4⟩ := h4
  have hb4 : Blk w4 bo _ := Blk.ext (h := hbk3)
  have hz4 := he4.size
  refine go ?_
  refine st_store_fld (h := hb4) (by ((try simp only [ev_tmp, ev_const, ev_func, get_put, get_args, get_putL, get_putL_nil, Nat.reduceEqDiff, reduceIte, List.getD_cons_zero, List.getD_cons_succ, List.getD_nil]); first | done | with_reducible rfl)) (by ((try simp only [ev_tmp, ev_const, ev_func, get_put, get_args, get_putL, get_putL_nil, Nat.reduceEqDiff, reduceIte, List.getD_cons_zero, List.getD_cons_succ, List.getD_nil]); first | done | with_reducible rfl)) ?_ ?_ (by first | exact True.intro | exact ⟨_, rfl, by ((try simp only [ev_tmp, ev_const, ev_func, get_put, get_args, get_putL, get_putL_nil, Nat.reduceEqDiff, reduceIte, List.getD_cons_zero, List.getD_cons_succ, List.getD_nil, Bool.not_true, Bool.not_false]); first | done | with_reducible rfl)⟩) fun w5 hc5 hs5 hb5 => ?_
  · exact hf4.ints.sl.one
  · simp
  have hE15 : Ext w1 w5 := hc5.ext ((he2.trans he3).trans he4) (by have := he2.size; omega)
  have hz15 := hE15.size
  have hz2 := he2.size
  have hi5 : Ints w3.heap.size w4.heap.size w5 v4 p.ord := hf4.ints.same (hc5.same (.inl (by omega)))
  have hr5 : Blk w5 br _ := (Blk.ext (x := he3.trans he4) (h := hbk2)).chg' hc5 (by omega)
  have hO4 : RowsO w3.heap.size w4 [(v4, p.ord)] := (RowsO.nil w3.heap.size w3).push he4 (Nat.le_refl _) hf4
  have hO5 : RowsO w3.heap.size w5 [(v4, p.ord)] := hO4.wr (.one (B := fun g => g = bo) rfl hc5) (fun g hg e => by have := (hO4.blk hg).1; omega)
  refine go ?_
  refine rc (toInt64SSM_ok (xss := p.pow) (by omega) (fun i => by have := hs.powi i; omega)) (next := fun v6 w6 h6 => ?_)
  obtain ⟨he6, rp, hrp, hM6⟩ := h6
  have hN6 := hM6.rows
  have hb6 : Blk w6 bo _ := Blk.ext (h := hb5)
  have hz6 := he6.size
  refine go ?_
  refine st_store_fld (h := hb6) (by ((try simp only [ev_tmp, ev_const, ev_func, get_put, get_args, get_putL, get_putL_nil, Nat.reduceEqDiff, reduceIte, List.getD_cons_zero, List.getD_cons_succ, List.getD_nil]); first | done | with_reducible rfl)) (by ((try simp only [ev_tmp, ev_const, ev_func, get_put, get_args, get_putL, get_putL_nil, Nat.reduceEqDiff, reduceIte, List.getD_cons_zero, List.getD_cons_succ, List.getD_nil]); first | done | with_reducible rfl)) ?_ ?_ (by first | exact True.intro | exact ⟨_, rfl, by ((try simp only [ev_tmp, ev_const, ev_func, get_put, get_args, get_putL, get_putL_nil, Nat.reduceEqDiff, reduceIte, List.getD_cons_zero, List.getD_cons_succ, List.getD_nil, Bool.not_true, Bool.not_false]); first | done | with_reducible rfl)⟩) fun w7 hc7 hs7 hb7 => ?_
  · exact hN6.sl.one
  · simp
  have hE17 : Ext w1 w7 := hc7.ext (hE15.trans he6) (by omega)
  have hi7 : Ints w3.heap.size w4.heap.size w7 v4 p.ord := (hi5.same (he6.same _ _)).same (hc7.same (.inl (by omega)))
  have hM7 := hM6.wr (.one (B := fun g => g = bo) rfl hc7) (fun g hg => .inl (by omega))
  have hp7 := hM7.rows
  have hr7 : Blk w7 br _ := (Blk.ext (x := he6) (h := hr5)).chg' hc7 (by omega)
  have hO6 := hO5.append he6 (by omega) hM6.own
  have hO7 := hO6.wr (.one (B := fun g => g = bo) rfl hc7) (fun g hg e => by have := (hO6.blk hg).1; omega)
  refine go ?_
  refine rc (toInt64SSSO_ok (xsss := p.cnj) (by omega) (fun i => ⟨by have := hs.cnji i; omega, fun j => by have := hs.cnjij i j; omega⟩)) (next := fun v8 w8 h8 => ?_)
  obtain ⟨he8, gs, hgs, hOg, hCu, hR8⟩ := h8
  have hb8 : Blk w8 bo _ := Blk.ext (h := hb7)
  have hz8 := he8.size
  have hO8 := hO7.append he8 (by omega) hOg
  have hAll : ∀ g, BlkOf ([(v4, p.ord)] ++ rp ++ flat gs) g → (w3.heap.size ≤ g ∧ g < w5.heap.size) ∨ BlkOf rp g ∨ w7.heap.size ≤ g := fun g hg => by
    rcases blkOf_append'.1 hg with hg | hg
    · rcases blkOf_append'.1 hg with hg | hg
      · exact .inl (hO5.blk hg)
      · exact .inr (.inl hg)
    · exact .inr (.inr (hOg.blk hg).1)
  have hsp8 : SpA (fun g => BlkOf ([(v4, p.ord)] ++ rp ++ flat gs) g ∨ g < w3.heap.size) w8 v6 (rp.map (·.1)) := hM7.sp.grow he8 fun g hg => by
    rcases hg with hg | hg
    · rcases hAll g hg with h | h | h
      · exact .inl (.inr h.2)
      · exact .inl (.inl h)
      · exact .inr h
    · exact .inl (.inr (by omega))
  have hcu8 : CubO (fun g => BlkOf ([(v4, p.ord)] ++ rp ++ flat gs) g ∨ g < w3.heap.size) w8 v8 gs := by
    have hA : ∀ g, (BlkOf ([(v4, p.ord)] ++ rp ++ flat gs) g ∨ g < w3.heap.size) → BlkOf (flat gs) g ∨ g < w7.heap.size := fun g hg => by
      rcases hg with hg | hg
      · rcases blkOf_append'.1 hg with hg | hg
        · have := (hO7.blk hg).2; exact .inr this
        · exact .inl hg
      · exact .inr (by omega)
    exact ⟨hCu.sp0.weak hA, fun q hq => (hCu.sp q hq).weak hA⟩
  refine go ?_
  refine st_store_fld (h := hb8) (by ((try simp only [ev_tmp, ev_const, ev_func, get_put, get_args, get_putL, get_putL_nil, Nat.reduceEqDiff, reduceIte, List.getD_cons_zero, List.getD_cons_succ, List.getD_nil]); first | done | with_reducible rfl)) (by ((try simp only [ev_tmp, ev_const, ev_func, get_put, get_args, get_putL, get_putL_nil, Nat.reduceEqDiff, reduceIte, List.getD_cons_zero, List.getD_cons_succ, List.getD_nil]); first | done | with_reducible rfl)) ?_ ?_ (by first | exact True.intro | exact ⟨_, rfl, by ((try simp only [ev_tmp, ev_const, ev_func, get_put, get_args, get_putL, get_putL_nil, Nat.reduceEqDiff, reduceIte, List.getD_cons_zero, List.getD_cons_succ, List.getD_nil, Bool.not_true, Bool.not_false]); first | done | with_reducible rfl)⟩) fun w9 hc9 hs9 hb9 => ?_
  · exact hR8.sl.one
  · simp
  have hE19 : Ext w1 w9 := hc9.ext (hE17.trans he8) (by omega)
  have hi9 : Ints w3.heap.size w4.heap.size w9 v4 p.ord := (hi7.same (he8.same _ _)).same (hc9.same (.inl (by omega)))
  have hp9 := (hp7.same (he8.same _ _)).same (hc9.same (.inl (by omega)))
  have hq9 := hR8.same (hc9.same (.inl (by omega)))
  have hr9 : Blk w9 br _ := (Blk.ext (x := he8) (h := hr7)).chg' hc9 (by omega)
  refine go ?_
  have hb9' : Blk w9 bo [v4, v6, v8] := hb9
  refine ra (v := .agg #[v4, v6, v8]) (h := rd_load_blk (hb := hb9') (by ((try simp only [ev_tmp, ev_const, ev_func, get_put, get_args, get_putL, get_putL_nil, Nat.reduceEqDiff, reduceIte, List.getD_cons_zero, List.getD_cons_succ, List.getD_nil]); first | done | with_reducible rfl)) rfl) (next := ?_)
  refine st_store_agg (vs := [v4, v6, v8]) (cs := _) (hb := hr9) (by ((try simp only [ev_tmp, ev_const, ev_func, get_put, get_args, get_putL, get_putL_nil, Nat.reduceEqDiff, reduceIte, List.getD_cons_zero, List.getD_cons_succ, List.getD_nil]); first | done | with_reducible rfl)) (by ((try simp only [ev_tmp, ev_const, ev_func, get_put, get_args, get_putL, get_putL_nil, Nat.reduceEqDiff, reduceIte, List.getD_cons_zero, List.getD_cons_succ, List.getD_nil]); first | done | with_reducible rfl)) rfl ?_ ?_ (by first | exact True.intro | exact ⟨_, rfl, by ((try simp only [ev_tmp, ev_const, ev_func, get_put, get_args, get_putL, get_putL_nil, Nat.reduceEqDiff, reduceIte, List.getD_cons_zero, List.getD_cons_succ, List.getD_nil, Bool.not_true, Bool.not_false]); first | done | with_reducible rfl)⟩) fun w10 hc10 hs10 hb10 => ?_
  · rfl
  · have e1 := hi9.sl.one
    have e2 := hp9.sl.one
    have e3 := hq9.sl.one
    simp [e1, e2, e3]
  have hW10 : Wrt (fun g => g = bo ∨ g = br) w8 w10 := (Wrt.one (.inl rfl) hc9).trans (.one (.inr rfl) hc10)
  have hO10 := hO8.wr hW10 (fun g hg e => by have := (hO8.blk hg).1; omega)
  have hlow : ∀ g, (g = bo ∨ g = br) → BlkOf ([(v4, p.ord)] ++ rp ++ flat gs) g ∨ g < w3.heap.size := fun g hg => .inr (by omega)
  refine go ?_
  refine retc (b := br) (hb := hb10) ⟨hc10.ext (he1.trans hE19) (by omega), ?_⟩ rfl
  have hi10 := (hi9.same (hc10.same (.inl (by omega)))).mono (lo' := w.heap.size) (hi' := w10.heap.size) (by omega) (by omega)
  have hp10 := (hp9.same (hc10.same (.inl (by omega)))).mono (lo' := w.heap.size) (hi' := w10.heap.size) (by omega) (by omega)
  have hq10 := rowss_mono (lo' := w.heap.size) (hi' := w10.heap.size) (hq9.same (hc10.same (.inl (by omega)))) (by omega) (by omega)
  have e : (v4, p.ord) :: (rp ++ flat gs) = [(v4, p.ord)] ++ rp ++ flat gs := by simp
  rw [hgs] at hq10
  refine ⟨v4, v6, v8, rp, gs, rfl, ?_, ?_, ?_, ?_, hrp, hgs, hi10, hp10, hq10⟩ <;> rw [e]
  · exact hO10.mono (by omega)
  · exact fun g hg => (hO10.blk hg).2
  · exact (hsp8.wr hW10 hlow).weak fun g hg => .inl hg
  · exact ⟨(hcu8.sp0.wr hW10 hlow).weak fun g hg => .inl hg, fun q hq => ((hcu8.sp q hq).wr hW10 hlow).weak fun g hg => .inl hg⟩
/-- The number of integers of a presentation of bounded sizes. -/
theorem totP_le {p : Pr} (hs : SizeP p 1048576) : totP p ≤ 1048576 + (1048576 * 1048576 + 1048576 * (1048576 * 1048576)) := by
  have h1 := hs.ord
  have h2 := hs.pow
  have h3 := hs.cnj
  have e2 : tot p.pow ≤ p.pow.length * 1048576 := tot_le _ fun x hx => by
    obtain ⟨i, hi, rfl⟩ := List.getElem_of_mem hx
    have := hs.powi i
    simp only [List.getD_eq_getElem?_getD, List.getElem?_eq_getElem hi, Option.getD_some] at this
    omega
  have e3 : tot p.cnj.flatten ≤ p.cnj.length * (1048576 * 1048576) := tot_flatten _ fun x hx => by
    obtain ⟨i, hi, rfl⟩ := List.getElem_of_mem hx
    have h4 := hs.cnji i
    simp only [List.getD_eq_getElem?_getD, List.getElem?_eq_getElem hi, Option.getD_some] at h4
    refine ⟨by omega, fun y hy => ?_⟩
    obtain ⟨j, hj, rfl⟩ := List.getElem_of_mem hy
    have h5 := hs.cnjij i j
    simp only [List.getD_eq_getElem?_getD, List.getElem?_eq_getElem hi, Option.getD_some, List.getElem?_eq_getElem hj] at h5
    omega
  unfold totP
  omega
theorem SizeP.mono {p : Pr} {k j : Int} (h : SizeP p k) (hkj : k ≤ j) : SizeP p j :=
  ⟨by have := h.ord; omega, by have := h.pow; omega, fun i => by have := h.powi i; omega, by have := h.cnj; omega, fun i => by have := h.cnji i; omega, fun i j => by have := h.cnjij i j; omega⟩
theorem tot_rows_le {xss : List (List Int)} {n : Nat} (hl : xss.length ≤ n) (hr : ∀ i, (xss.getD i []).length ≤ n) : tot xss ≤ n * n :=
  Nat.le_trans (tot_le xss fun x hx => by
    obtain ⟨i, hi, rfl⟩ := List.getElem_of_mem hx
    have := hr i
    simpa [hi] using this) (Nat.mul_le_mul_right _ hl)
end Go.Proofs.Ytjbhjbmobhhabaa

/-
  Arguments that read as slices of integers, slices of slices, slices of slices of slices: what the calculus knows of them.
  Conditions: none; nothing of the program stands here.
-/
namespace Go.Pc
open Go Go.RowKit Go.Deep Go.ChangeShapes Go.WideShapes
section
variable {H : Type} {enc : TypeId × Value → H} {P : Program} {w : World} {base : Nat} {held : Bool} {fuel : Nat} {v : Value} {x : DataW H × List MemPlace}
theorem ints_of_trod {t e : TypeId} (ht : P.underlying t = some (.slice e)) (he : P.underlying e = some (.int .i64)) (hc : P.cellsOf e = 1) (h : DataW.trod enc P w base (fun _ => true) held fuel t [v] = some x) : ∃ xs, Ints 0 w.heap.size w v xs := by
  rcases open_ints ht he hc h with ⟨hcs, _⟩ | ⟨a, len, cap, zs, hcs, _, hl, hm, hz, _, hcell, _⟩
  · have : v = nilv := by simpa using hcs
    subst this
    exact ⟨[], (Ints.nil_ w).mono (Nat.le_refl 0) (Nat.zero_le _)⟩
  · have : v = .slice (some a) len cap := by simpa using hcs
    subst this
    simp only [if_true] at hz
    have hlen : (zs.take len).length = len := by rw [List.length_take]; omega
    refine ⟨zs.take len, ⟨⟨some a, cap, by rw [List.length_map, hlen], by rw [List.length_map, hlen]; omega, by simp only [maxLen] at hm; omega, fun k u hu => ?_⟩⟩⟩
    rw [List.getElem?_map, List.getElem?_take] at hu
    split at hu
    · have hk : k < zs.length := by omega
      have hck := hcell k hk
      rw [List.getElem?_eq_getElem hk] at hu
      simp only [Option.map_some, Option.some.injEq] at hu
      have e : zs.getD k 0 = zs[k] := by simp [hk]
      rw [e, hu] at hck
      exact ⟨a, rfl, Nat.zero_le _, by have := block_lt hck; rwa [add_block] at this, hck⟩
    · cases hu
theorem sl_of {a : Addr} {len cap m : Nat} {V : Nat → Value} (hl : len ≤ cap) (hm : cap ≤ maxLen) (hlm : len ≤ m) (hx : ∀ i, i < m → w.cell? (a.add i) = some (V i)) : Sl 0 w.heap.size w (.slice (some a) len cap) ((List.range len).map V) := by
  refine ⟨⟨some a, cap, by simp, by simpa using hl, by simp only [maxLen] at hm; omega, fun k u hu => ?_⟩⟩
  rw [List.getElem?_map] at hu
  by_cases hk : k < len
  · rw [List.getElem?_range hk] at hu
    simp only [Option.map_some, Option.some.injEq] at hu
    have hck := hx k (by omega)
    rw [hu] at hck
    exact ⟨a, rfl, Nat.zero_le _, by have := block_lt hck; rwa [add_block] at this, hck⟩
  · rw [List.getElem?_eq_none (by simp; omega)] at hu; cases hu
theorem getD_map_range {α : Type} {n i : Nat} {f : Nat → α} {d : α} (h : i < n) : ((List.range n).map f).getD i d = f i := by simp [h]
theorem getD_map_range' {α : Type} {n i : Nat} {f : Nat → α} {d : α} (h : ¬ i < n) : ((List.range n).map f).getD i d = d := by
  rw [List.getD_eq_getElem?_getD, List.getElem?_eq_none (by simp; omega)]; rfl
theorem Rows.nil_ (w : World) : Rows 0 w.heap.size w nilv [] [] :=
  ⟨⟨⟨none, 0, rfl, Nat.le_refl _, by omega, fun k u hu => by simp at hu⟩⟩, rfl, fun i => by simpa using (Ints.nil_ w).mono (Nat.le_refl 0) (Nat.zero_le _)⟩
theorem rows_of_trod {t e q : TypeId} (ht : P.underlying t = some (.slice e)) (he : P.underlying e = some (.slice q)) (hq : P.underlying q = some (.int .i64)) (ce : P.cellsOf e = 1) (cq : P.cellsOf q = 1)
    (h : DataW.trod enc P w base (fun _ => true) held fuel t [v] = some x) : ∃ us xss, Rows 0 w.heap.size w v us xss := by
  rcases open_slice1 ht ce h with ⟨hcs, _⟩ | ⟨a, len, cap, m, n, V, D, Pl, hcs, _, hl, hm, hmm, _, hx⟩
  · have : v = nilv := by simpa using hcs
    subst this
    exact ⟨[], [], Rows.nil_ w⟩
  · have : v = .slice (some a) len cap := by simpa using hcs
    subst this
    simp only [if_true] at hmm
    have hlm : len ≤ m := by omega
    obtain ⟨X, hX⟩ := choose_lt (α := List Int) (n := len) (p := fun i xs => Ints 0 w.heap.size w (V i) xs) fun i hi => ints_of_trod he hq cq (hx i (by omega)).2
    refine ⟨(List.range len).map V, (List.range len).map X, sl_of hl hm hlm fun i hi => (hx i hi).1, by simp, fun i => ?_⟩
    by_cases hi : i < len
    · rw [getD_map_range hi, getD_map_range hi]; exact hX i hi
    · rw [getD_map_range' hi, getD_map_range' hi]; exact (Ints.nil_ w).mono (Nat.le_refl 0) (Nat.zero_le _)
theorem rowss_of_trod {t e q r : TypeId} (ht : P.underlying t = some (.slice e)) (he : P.underlying e = some (.slice q)) (hq : P.underlying q = some (.slice r)) (hr : P.underlying r = some (.int .i64)) (ce : P.cellsOf e = 1) (cq : P.cellsOf q = 1) (cr : P.cellsOf r = 1)
    (h : DataW.trod enc P w base (fun _ => true) held fuel t [v] = some x) : ∃ us uss xsss, Rowss 0 w.heap.size w v us uss xsss := by
  rcases open_slice1 ht ce h with ⟨hcs, _⟩ | ⟨a, len, cap, m, n, V, D, Pl, hcs, _, hl, hm, hmm, _, hx⟩
  · have : v = nilv := by simpa using hcs
    subst this
    exact ⟨[], [], [], ⟨⟨none, 0, rfl, Nat.le_refl _, by omega, fun k u hu => by simp at hu⟩⟩, rfl, rfl, fun i => by simpa using Rows.nil_ w⟩
  · have : v = .slice (some a) len cap := by simpa using hcs
    subst this
    simp only [if_true] at hmm
    have hlm : len ≤ m := by omega
    obtain ⟨X, hX⟩ := choose_lt (α := List Value × List (List Int)) (n := len) (p := fun i y => Rows 0 w.heap.size w (V i) y.1 y.2) fun i hi => by
      obtain ⟨us, xss, hR⟩ := rows_of_trod he hq hr cq cr (hx i (by omega)).2
      exact ⟨(us, xss), hR⟩
    refine ⟨(List.range len).map V, (List.range len).map fun i => (X i).1, (List.range len).map fun i => (X i).2, sl_of hl hm hlm fun i hi => (hx i hi).1, by simp, by simp, fun i => ?_⟩
    by_cases hi : i < len
    · rw [getD_map_range hi, getD_map_range hi, getD_map_range hi]; exact hX i hi
    · rw [getD_map_range' hi, getD_map_range' hi, getD_map_range' hi]; exact Rows.nil_ w
end
end Go.Pc

/-
  Answers that are lists: representatives, subgroups.
  Conditions: none.
-/
namespace Go.Proofs.Ytjbhjbmobhhabaa
open Go Go.Pc
def RepV (p : Pr) (xss : List (List Int)) (xs r : List Int) (e : Int) : Prop := (∃ (_ : ConAll p) (ys : List (El p)) (x y : El p), xss = vecs ys ∧ xs = x.v ∧ r = y.v ∧ RepOf ys x y) ∧ e = 0
theorem RepV.uniq {p : Pr} {xss : List (List Int)} {xs : List Int} (hS : IsSubP p xss) (a b : List Int) (c d : Int) (h : RepV p xss xs a c) (k : RepV p xss xs b d) : a = b ∧ c = d := by
  obtain ⟨⟨hc, ys, x, y, h1, h2, h3, h4⟩, h5⟩ := h
  obtain ⟨⟨hc', ys', x', y', k1, k2, k3, k4⟩, k5⟩ := k
  obtain ⟨hG, hq⟩ := hS
  haveI : ConAll p := ⟨hG.con⟩
  obtain ⟨zs, hzs, hse⟩ := isSeq_iff.1 hq
  obtain rfl : ys = zs := vecs_inj (h1.symm.trans hzs)
  obtain rfl : ys' = ys := vecs_inj (k1.symm.trans hzs)
  obtain rfl : x = x' := T.ext (h2.symm.trans k2)
  exact ⟨by rw [h3, k3, RepOf.unique hse h4 k4], by rw [h5, k5]⟩
theorem el_len {p : Pr} (y : El p) : y.v.length = p.ord.length := y.inr.len
theorem CosetRepresentative_sz0 {p : Pr} {xss : List (List Int)} {xs r : List Int} {e : Int} (hl : p.ord.length ≤ 2000000) (h : Ans (IsSubP p xss ∧ InR p xs) (RepV p xss xs) [] r e) : r.length ≤ 2000000 := by
  rcases h with ⟨_, ⟨_, _, _, y, _, _, rfl, _⟩, _⟩ | ⟨_, rfl, _⟩
  · have := el_len y; omega
  · simp
end Go.Proofs.Ytjbhjbmobhhabaa

/-
  Canonical sequences of subgroups: they generate the subgroup, their lengths tell the subgroups apart; closures under conjugation.
  Conditions: the tails at all levels are groups.
-/
namespace Go.Proofs.Ytjbhjbmobhhabaa
open Go Go.Pc Grp
section
variable {p : Pr} [hc : ConAll p] {H K : El p → Prop} {d : Nat}
theorem sub_le_of_dep (hH : Pc.Sub H) (hK : Pc.Sub K) (hle : ∀ a, H a → K a) (hd : ∀ d, Dep K d → Dep H d) : ∀ a, K a → H a := by
  have key : ∀ m d, d ≤ p.n → p.n - d = m → ∀ x, K x → Tl d x → H x := by
    intro m
    induction m with
    | zero =>
      intro d h1 h2 x hx ht
      obtain rfl : d = p.n := by omega
      rw [ht.end_]; exact hH.one
    | succ m ih =>
      intro d h1 h2 x hx ht
      by_cases h0 : co x d = 0
      · exact ih (d + 1) (by omega) (by omega) x hx (ht.succ h0)
      · have hdn : d < p.n := by omega
        obtain ⟨z, hz, hzt, hz1⟩ := dep_one hH (hd d ⟨x, hx, ht, h0⟩)
        have h3 := ih (d + 1) (by omega) (by omega) (x * Grp.pwz z (-(co x d))) (hK.mul _ _ hx (hK.pwz (hle z hz) _)) (strip_step hdn ht hzt hz1)
        exact (hH.right (hH.pwz hz _)).1 h3
  exact fun a ha => key p.n 0 (Nat.zero_le _) (by omega) a ha (Tl.zero a)
theorem canEls_mem {x : El p} : x ∈ canEls H ↔ ∃ d, d < p.n ∧ canT H d = some x := by
  rw [← canElsF_zero, canElsF_mem]
  exact ⟨fun ⟨e, _, h2, h3⟩ => ⟨e, h2, h3⟩, fun ⟨e, h2, h3⟩ => ⟨e, Nat.zero_le _, h2, h3⟩⟩
theorem gen_can (hH : Pc.Sub H) (a : El p) : Gen (fun a : El p => a ∈ canEls H) a ↔ H a := by
  have h1 : ∀ a, Gen (fun a : El p => a ∈ canEls H) a → H a := Gen.le hH fun a ha => by
    obtain ⟨d, _, h⟩ := canEls_mem.1 ha
    exact (canT_some h).mem
  refine ⟨h1 a, sub_le_of_dep (Gen.sub _) hH h1 (fun d hd => ?_) a⟩
  obtain ⟨x, hx⟩ := canT_ex hH hd
  have hca := canT_some hx
  exact ⟨x, .of _ (canEls_mem.2 ⟨d, hd.lt, hx⟩), hca.tl, by rw [hca.lead]; omega⟩
theorem gen_can_eq (hH : Pc.Sub H) : Gen (fun a : El p => a ∈ canEls H) = H := by
  funext a; exact propext (gen_can hH a)
theorem seqEl_can (hH : Pc.Sub H) : SeqEl (canEls H) := ⟨by rw [gen_can_eq hH, canon_vecs]⟩
theorem SeqEl.els {ys : List (El p)} (h : SeqEl ys) : canEls (Gen (fun a : El p => a ∈ ys)) = ys := by
  have := h.eq
  rw [canElsF_zero] at this
  exact this.symm
theorem canT_isSome (hH : Pc.Sub H) : (canT H d).isSome = true ↔ Dep H d := by
  constructor
  · intro h
    cases e : canT H d with
    | none => rw [e] at h; cases h
    | some x => exact (canT_some e).dep
  · intro h
    obtain ⟨x, hx⟩ := canT_ex hH h
    rw [hx]; rfl
theorem canEls_len : (canEls H).length = (List.range p.n).countP fun d => (canT H d).isSome := by
  unfold canEls
  rw [List.length_filterMap_eq_countP]
theorem countP_le_of {α : Type} {f g : α → Bool} : ∀ l : List α, (∀ x, x ∈ l → f x = true → g x = true) → l.countP f ≤ l.countP g
  | [], _ => Nat.le_refl _
  | x :: l, h => by
    have ih := countP_le_of l fun y hy => h y (List.mem_cons_of_mem _ hy)
    have h0 := h x List.mem_cons_self
    simp only [List.countP_cons]
    by_cases hf : f x = true
    · rw [if_pos hf, if_pos (h0 hf)]; omega
    · rw [if_neg hf]; omega
theorem countP_lt_of {α : Type} {f g : α → Bool} : ∀ l : List α, (∀ x, x ∈ l → f x = true → g x = true) → (∃ x, x ∈ l ∧ g x = true ∧ f x = false) → l.countP f < l.countP g
  | [], _, ⟨x, hx, _⟩ => by cases hx
  | x :: l, h, ⟨y, hy, hg, hf⟩ => by
    have hr : ∀ y, y ∈ l → f y = true → g y = true := fun y hy => h y (List.mem_cons_of_mem _ hy)
    have h0 := h x List.mem_cons_self
    simp only [List.countP_cons]
    rcases List.mem_cons.1 hy with rfl | hy
    · have := countP_le_of l hr
      rw [hg, hf]; simp; omega
    · have ih := countP_lt_of l hr ⟨y, hy, hg, hf⟩
      by_cases hfx : f x = true
      · rw [if_pos hfx, if_pos (h0 hfx)]; omega
      · rw [if_neg hfx]; omega
theorem can_len_le (hH : Pc.Sub H) (hK : Pc.Sub K) (hle : ∀ a, H a → K a) : (canEls H).length ≤ (canEls K).length := by
  rw [canEls_len, canEls_len]
  refine countP_le_of _ fun d _ h => ?_
  obtain ⟨x, h1, h2, h3⟩ := (canT_isSome hH).1 h
  exact (canT_isSome hK).2 ⟨x, hle x h1, h2, h3⟩
theorem same_of_len (hH : Pc.Sub H) (hK : Pc.Sub K) (hle : ∀ a, H a → K a) (hl : (canEls K).length ≤ (canEls H).length) : ∀ a, K a → H a := by
  refine sub_le_of_dep hH hK hle fun d hd => ?_
  by_cases hn : Dep H d
  · exact hn
  exfalso
  rw [canEls_len, canEls_len] at hl
  have := countP_lt_of (f := fun d => (canT H d).isSome) (g := fun d => (canT K d).isSome) (List.range p.n) (fun e _ h => by
    obtain ⟨x, h1, h2, h3⟩ := (canT_isSome hH).1 h
    exact (canT_isSome hK).2 ⟨x, hle x h1, h2, h3⟩) ⟨d, List.mem_range.2 hd.lt, (canT_isSome hK).2 hd, by
      cases e : (canT H d).isSome with
      | false => rfl
      | true => exact absurd ((canT_isSome hH).1 e) hn⟩
  omega
/-- The smallest subgroup that contains S and is closed under conjugation by the elements of B. -/
inductive Clo {G : Type} [Grp G] (S B : G → Prop) : G → Prop
  | of (a : G) : S a → Clo S B a
  | one : Clo S B 1
  | mul (a b : G) : Clo S B a → Clo S B b → Clo S B (a * b)
  | inv (a : G) : Clo S B a → Clo S B a⁻¹
  | cj (a b : G) : Clo S B a → B b → Clo S B (Grp.cj a b)
theorem Clo.sub {G : Type} [Grp G] (S B : G → Prop) : Pc.Sub (Clo S B) := ⟨.one, fun _ _ => .mul _ _, fun _ => .inv _⟩
theorem Clo.le {G : Type} [Grp G] {S B K : G → Prop} (hK : Pc.Sub K) (h : ∀ a, S a → K a) (hcj : ∀ a b, K a → B b → K (Grp.cj a b)) : ∀ a, Clo S B a → K a := by
  intro a ha
  induction ha with
  | of a ha => exact h a ha
  | one => exact hK.one
  | mul a b _ _ i1 i2 => exact hK.mul _ _ i1 i2
  | inv a _ i1 => exact hK.inv _ i1
  | cj a b _ hb i1 => exact hcj _ _ i1 hb
/-- What conjugation does to the elements of a set it does to the subgroup. -/
theorem Gen.cj_closed {G : Type} [Grp G] {S K : G → Prop} {b : G} (hK : Pc.Sub K) (h : ∀ a, S a → K (Grp.cj a b)) : ∀ a, Gen S a → K (Grp.cj a b) := by
  intro a ha
  induction ha with
  | of a ha => exact h a ha
  | one => rw [Grp.cj_one]; exact hK.one
  | mul a b _ _ i1 i2 => rw [Grp.cj_mul]; exact hK.mul _ _ i1 i2
  | inv a _ i1 => rw [Grp.cj_inv]; exact hK.inv _ i1
theorem gen_eq_clo {S B : El p → Prop} (h : ∀ a b, S a → B b → Gen S (Grp.cj a b)) : Clo S B = Gen S := by
  funext a
  refine propext ⟨Clo.le (Gen.sub S) (fun a ha => .of a ha) (fun a b ha hb => Gen.cj_closed (Gen.sub S) (fun a ha => h a b ha hb) a ha) a, Gen.le (Clo.sub S B) (fun a ha => .of a ha) a⟩
end
end Go.Proofs.Ytjbhjbmobhhabaa

/-
  Lists that grow by one row, or by one number, at a time: 'out = append(out, x)'.
  Conditions: none; nothing of the program stands here.
-/
namespace Go.Pc
open Go Go.RowKit
/-- What one append has done. -/
structure GStep (w w' : World) (v v' : Value) : Prop where
  ex : ∃ w2, Ext w w2 ∧ w2.grownBy w' v.ownBlock ∧ (v'.ownBlock = v.ownBlock ∨ v'.ownBlock = some w2.heap.size)
theorem IntsAp.gstep {w w' : World} {v v' u : Value} {xs : List Int} (h : IntsAp (fun g => v.ownBlock = some g) w u xs) (k : GStep w w' v v') : IntsAp (fun g => v'.ownBlock = some g) w' u xs := by
  obtain ⟨w2, x, hg, hv⟩ := k.ex
  exact (h.ext x).beside hg (fun g e => e) fun g hg' => by
    rcases hv with e | e
    · rw [e] at hg'; exact .inl hg'
    · rw [e] at hg'; injection hg' with hg'; exact .inr hg'.symm
structure GrowL (e s : Nat) (w : World) (v : Value) (rs : List (Value × List Int)) : Prop where
  lst : Lst e s (· < s) w v (rs.map (·.1)) (rs.map (·.2))
  own : RowsO s w rs
class GrowI (e s : outParam Nat) (w : World) (v : Value) (xs : outParam (List Int)) : Prop where
  own : OwnN e s w v (xs.map (Value.int .i64))
section
variable {av : Nat → Prop} {e s : Nat} {w w' w0 w1 w2 w3 : World} {v v' u : Value} {xs : List Int} {rs : List (Value × List Int)}
theorem Lst.off (h : Lst e s av w v (rs.map (·.1)) (rs.map (·.2))) (hO : RowsO s w rs) {b : Nat} (hb : BlkOf rs b) : v.ownBlock ≠ some b := by
  intro hv
  obtain ⟨r, hr1, hn, eb⟩ := hb
  obtain ⟨i, hi, rfl⟩ := List.getElem_of_mem hr1
  obtain ⟨te, g, _, ho⟩ := (hO.fr _ hr1).own hn
  have hg := ho.block
  rw [eb] at hg; injection hg with hg; subst hg
  obtain ⟨lo, hi', h1, h2, h3⟩ := h.rows.at_ i
  have e1 : (rs.map (·.1)).getD i nilv = rs[i].1 := by simp [hi]
  have e2 : (rs.map (·.2)).getD i [] = rs[i].2 := by simp [hi]
  rw [e1, e2] at h1
  have h4 := ho.sl_in hn h1
  have h5 := h3 b (.inr hv)
  omega
theorem Wrt.grown {ob : Option Nat} (h : w.grownBy w' ob) : Wrt (fun b => ob = some b) w w' := by
  cases ob with
  | none =>
    exact .ofExt ⟨(Below.refl _ _).grown h (Nat.le_refl _) (fun k hk => by cases hk)⟩
  | some b => exact .one rfl ⟨h⟩
theorem GrowL.nil (e s : Nat) (w : World) (hs : s ≤ w.heap.size) : GrowL e s w nilv [] := ⟨Lst.nil _ _ _ (fun g hg => by omega), RowsO.nil _ _⟩
theorem GrowL.start {b : Nat} (h : Own e b w v []) (hb : s ≤ b) : GrowL e s w v [] := ⟨Lst.start h hb (by omega) (fun g hg => by have := h.lt; omega), RowsO.nil _ _⟩
theorem GrowL.ext (h : GrowL e s w v rs) (x : Ext w w') : GrowL e s w' v rs := ⟨h.lst.ext x, h.own.ext x⟩
theorem GrowL.rows (h : GrowL e s w v rs) : Rows s w.heap.size w v (rs.map (·.1)) (rs.map (·.2)) := h.lst.newRows
theorem GrowL.mat (h : GrowL e s w v rs) : MatO s w.heap.size w v rs := MatO.ofLst h.lst h.own h.lst.newRows
theorem GrowL.push (h : GrowL e s w0 v rs) (x01 : Ext w0 w1) (hu : Fr w0.heap.size w1 u xs) (hs : s ≤ w0.heap.size) (x12 : Ext w1 w2)
    (ho : OwnN e s w3 v' (rs.map (·.1) ++ [u])) (hg : w2.grownBy w3 v.ownBlock) (hv : v'.ownBlock = v.ownBlock ∨ v'.ownBlock = some w2.heap.size) : GrowL e s w3 v' (rs ++ [(u, xs)]) := by
  have h1 := (h.lst.ext (x01.trans x12)).push (IntsAp.ofFr (hu.ext' x12) (fun g hg => by
    rcases hg with hg | hg
    · omega
    · exact (h.lst.lt hg).2)) ho hg hv
  have h2 := (h.own.push x01 hs hu).ext x12
  refine ⟨by simpa using h1, h2.wr (Wrt.grown hg) fun b hb hB => ?_⟩
  rcases blkOf_append'.1 hb with hb | ⟨r, hr, hn, eb⟩
  · exact h.lst.off h.own hb hB
  · obtain rfl := List.mem_singleton.1 hr
    obtain ⟨g, e1, e2, _⟩ := hu.block hn
    rw [eb] at e1; injection e1 with e1
    have := (h.lst.lt hB).2
    omega
theorem GrowI.nil (e s : Nat) (w : World) : GrowI e s w nilv [] := ⟨OwnN.nil _ _ _⟩
theorem GrowI.start {b : Nat} (h : Own e b w v []) (hb : s ≤ b) : GrowI e s w v [] := ⟨h.toN.mono hb⟩
instance (priority := low) GrowI.ext [x : Ext w w'] [h : GrowI e s w v xs] : GrowI e s w' v xs := ⟨@OwnN.ext _ _ _ _ _ _ x h.own⟩
theorem GrowI.fr (h : GrowI e s w v xs) : Fr s w v xs := h.own.toFr
end
section
variable {P : Program} {N : Nat} {ops : Array Oper} {π : List Nat} {K : Env → World → Prop} {ρ : Env} {w w0 w1 w00 : World} {l : List Oper}
variable {i : Nat} {ty ty2 : TypeId} {pos pos2 : String} {after after2 : Array Edge} {g g2 : Option (Nat × Bool)} {d d2 : Nat}
theorem st_grow {s x : Operand} {t e bytes sb : Nat} {z v u : Value} {xs : List Int} {rs : List (Value × List Int)} [ht : SlT P t e] [he : ElT P e 1 bytes z] (hG : GrowL e sb w0 v rs) (x01 : Ext w0 w1) (hu : Fr w0.heap.size w1 u xs) (hs0 : sb ≤ w0.heap.size)
    (hn : rs.length ≤ 1000000) (next : ∀ v1 v' w', GrowL e sb w' v' (rs ++ [(u, xs)]) → (∀ wb, Ext wb w1 → wb.heap.size ≤ sb → Ext wb w') → w1.heap.size ≤ w'.heap.size → GStep w1 w' v v' → rops P N ops K l (put (put ρ d v1) d2 v') w')
    (hx : ev ρ x = u := by ((try simp only [ev_tmp, ev_const, ev_func, get_put, get_args, get_putL, get_putL_nil, Nat.reduceEqDiff, reduceIte, List.getD_cons_zero, List.getD_cons_succ, List.getD_nil]); first | done | with_reducible rfl)) (hs : ∀ v1, ev (put ρ d v1) s = v := by intro v1; ((try simp only [ev_tmp, ev_const, ev_func, get_put, get_args, get_putL, get_putL_nil, Nat.reduceEqDiff, reduceIte, List.getD_cons_zero, List.getD_cons_succ, List.getD_nil]); first | done | with_reducible rfl)) (hd : ∀ v1, ev (put ρ d v1) (.tmp d) = v1 := by intro v1; ((try simp only [ev_tmp, ev_const, ev_func, get_put, get_args, get_putL, get_putL_nil, Nat.reduceEqDiff, reduceIte, List.getD_cons_zero, List.getD_cons_succ, List.getD_nil]); first | done | with_reducible rfl)) (hz : z.cells = #[z] := by rfl) (hby : bytes ≤ 100 := by decide) (hg1 : Wants ops ρ g := by first | exact True.intro | exact ⟨_, rfl, by ((try simp only [ev_tmp, ev_const, ev_func, get_put, get_args, get_putL, get_putL_nil, Nat.reduceEqDiff, reduceIte, List.getD_cons_zero, List.getD_cons_succ, List.getD_nil, Bool.not_true, Bool.not_false]); first | done | with_reducible rfl)⟩) (hg2 : ∀ v1, Wants ops (put ρ d v1) g2 := by intro v1; first | exact True.intro | exact ⟨_, rfl, by ((try simp only [ev_tmp, ev_const, ev_func, get_put, get_args, get_putL, get_putL_nil, Nat.reduceEqDiff, reduceIte, List.getD_cons_zero, List.getD_cons_succ, List.getD_nil, Bool.not_true, Bool.not_false]); first | done | with_reducible rfl)⟩) :
    rops P N ops K (⟨some d, .buildSlice t 1 #[(0, x)], ty, pos, after, g⟩ :: ⟨some d2, .call { callee := .builtin .append, args := #[s, .tmp d], argTypes := #[t, t] }, ty2, pos2, after2, g2⟩ :: l) ρ w1 := by
  refine st_slice1 (u := u) hx hu.ints.sl.cells hz hg1 fun w2 v2 he2 hs2 ho2 => ?_
  have hO := (hG.lst.ext (x01.trans he2)).own
  have hz1 := x01.size
  have hz2 := he2.size
  have hb : (rs.length + 1) * bytes ≤ 1000001 * 100 := Nat.mul_le_mul (by omega) hby
  refine st_append (hv := hO) (hy := ho2) (hs v2) (hd v2) (by rw [hz]; rfl) ?_ ?_ ?_ ?_ (hg2 v2) fun v3 w3 ho3 hg3 ha3 => ?_
  · intro a ha
    rw [List.mem_singleton.1 ha]; exact hu.ints.sl.one
  · simp only [List.length_map, List.length_singleton]; omega
  · simp only [List.length_map, List.length_singleton, maxLen]; omega
  · omega
  · exact next v2 v3 w3 (hG.push x01 hu hs0 he2 ho3 hg3 ha3) (fun wb hb1 hb2 => (hb1.trans he2).app hg3 (fun k hk => by have := (hG.lst.lt hk).1; omega)) (Nat.le_trans hz2 hg3.size) ⟨w2, he2, hg3, ha3⟩
theorem z_grow {s x : Operand} {b t e bytes sb : Nat} {z v u : Value} {xs : List Int} {rs : List (Value × List Int)} [ht : SlT P t e] [he : ElT P e 1 bytes z] (hG : GrowL e sb w0 v rs) (x01 : Ext w0 w1) (hu : Fr w0.heap.size w1 u xs) (hs0 : sb ≤ w0.heap.size)
    (hn : rs.length ≤ 1000000) (hvb : ∀ g, v.ownBlock = some g → g = b) (hi1 : opAt ops π i = some ⟨some d, .buildSlice t 1 #[(0, x)], ty, pos, after, g⟩ := by exact rfl) (hi2 : opAt ops π (i + 1) = some ⟨some d2, .call { callee := .builtin .append, args := #[s, .tmp d], argTypes := #[t, t] }, ty2, pos2, after2, g2⟩ := by exact rfl)
    (next : ∀ v1 v' w', GrowL e sb w' v' (rs ++ [(u, xs)]) → (∀ wb, Ext wb w1 → wb.heap.size ≤ sb → Ext wb w') → w1.heap.size ≤ w'.heap.size → GStep w1 w' v v' → dops P N ops π (Chg b w00) K (i + 1 + 1) (put (put ρ d v1) d2 v') w')
    (hx : ev ρ x = u := by ((try simp only [ev_tmp, ev_const, ev_func, get_put, get_args, get_putL, get_putL_nil, Nat.reduceEqDiff, reduceIte, List.getD_cons_zero, List.getD_cons_succ, List.getD_nil]); first | done | with_reducible rfl)) (hs : ∀ v1, ev (put ρ d v1) s = v := by intro v1; ((try simp only [ev_tmp, ev_const, ev_func, get_put, get_args, get_putL, get_putL_nil, Nat.reduceEqDiff, reduceIte, List.getD_cons_zero, List.getD_cons_succ, List.getD_nil]); first | done | with_reducible rfl)) (hd : ∀ v1, ev (put ρ d v1) (.tmp d) = v1 := by intro v1; ((try simp only [ev_tmp, ev_const, ev_func, get_put, get_args, get_putL, get_putL_nil, Nat.reduceEqDiff, reduceIte, List.getD_cons_zero, List.getD_cons_succ, List.getD_nil]); first | done | with_reducible rfl)) (hz : z.cells = #[z] := by rfl) (hby : bytes ≤ 100 := by decide) (hg1 : Wants ops ρ g := by first | exact True.intro | exact ⟨_, rfl, by ((try simp only [ev_tmp, ev_const, ev_func, get_put, get_args, get_putL, get_putL_nil, Nat.reduceEqDiff, reduceIte, List.getD_cons_zero, List.getD_cons_succ, List.getD_nil, Bool.not_true, Bool.not_false]); first | done | with_reducible rfl)⟩) (hg2 : ∀ v1, Wants ops (put ρ d v1) g2 := by intro v1; first | exact True.intro | exact ⟨_, rfl, by ((try simp only [ev_tmp, ev_const, ev_func, get_put, get_args, get_putL, get_putL_nil, Nat.reduceEqDiff, reduceIte, List.getD_cons_zero, List.getD_cons_succ, List.getD_nil, Bool.not_true, Bool.not_false]); first | done | with_reducible rfl)⟩)
    (hn1 : nextOk ops π i = true := by decide +kernel) (hn2 : nextOk ops π (i + 1) = true := by decide +kernel) (hd1 : d < N := by decide) (hd2 : d2 < N := by decide) :
    dops P N ops π (Chg b w00) K i ρ w1 := by
  refine z_slice1 (u := u) hi1 hx hu.ints.sl.cells hz (fun w2 v2 he2 hs2 ho2 => ?_) hn1 hd1 hg1
  have hO := (hG.lst.ext (x01.trans he2)).own
  have hz1 := x01.size
  have hz2 := he2.size
  have hb : (rs.length + 1) * bytes ≤ 1000001 * 100 := Nat.mul_le_mul (by omega) hby
  refine z_append (hv := hO) (hy := ho2) hi2 (hs v2) (hd v2) (by rw [hz]; rfl) ?_ ?_ ?_ ?_ hvb (fun v3 w3 ho3 hg3 ha3 => ?_) hn2 hd2 (hg2 v2)
  · intro a ha
    rw [List.mem_singleton.1 ha]; exact hu.ints.sl.one
  · simp only [List.length_map, List.length_singleton]; omega
  · simp only [List.length_map, List.length_singleton, maxLen]; omega
  · omega
  · exact next v2 v3 w3 (hG.push x01 hu hs0 he2 ho3 hg3 ha3) (fun wb hb1 hb2 => (hb1.trans he2).app hg3 (fun k hk => by have := (hG.lst.lt hk).1; omega)) (Nat.le_trans hz2 hg3.size) ⟨w2, he2, hg3, ha3⟩
theorem st_growi {s x : Operand} {t e bytes sb : Nat} {z v : Value} {k : Int} {xs : List Int} [ht : SlT P t e] [he : ElT P e 1 bytes z] (hG : GrowI e sb w1 v xs) (hs0 : sb ≤ w1.heap.size)
    (hn : xs.length ≤ 1000000) (next : ∀ v1 v' w', GrowI e sb w' v' (xs ++ [k]) → (∀ wb, Ext wb w1 → wb.heap.size ≤ sb → Ext wb w') → w1.heap.size ≤ w'.heap.size → GStep w1 w' v v' → rops P N ops K l (put (put ρ d v1) d2 v') w')
    (hx : ev ρ x = .int .i64 k := by ((try simp only [ev_tmp, ev_const, ev_func, get_put, get_args, get_putL, get_putL_nil, Nat.reduceEqDiff, reduceIte, List.getD_cons_zero, List.getD_cons_succ, List.getD_nil]); first | done | with_reducible rfl)) (hs : ∀ v1, ev (put ρ d v1) s = v := by intro v1; ((try simp only [ev_tmp, ev_const, ev_func, get_put, get_args, get_putL, get_putL_nil, Nat.reduceEqDiff, reduceIte, List.getD_cons_zero, List.getD_cons_succ, List.getD_nil]); first | done | with_reducible rfl)) (hd : ∀ v1, ev (put ρ d v1) (.tmp d) = v1 := by intro v1; ((try simp only [ev_tmp, ev_const, ev_func, get_put, get_args, get_putL, get_putL_nil, Nat.reduceEqDiff, reduceIte, List.getD_cons_zero, List.getD_cons_succ, List.getD_nil]); first | done | with_reducible rfl)) (hz : z.cells = #[z] := by rfl) (hby : bytes ≤ 100 := by decide) (hg1 : Wants ops ρ g := by first | exact True.intro | exact ⟨_, rfl, by ((try simp only [ev_tmp, ev_const, ev_func, get_put, get_args, get_putL, get_putL_nil, Nat.reduceEqDiff, reduceIte, List.getD_cons_zero, List.getD_cons_succ, List.getD_nil, Bool.not_true, Bool.not_false]); first | done | with_reducible rfl)⟩) (hg2 : ∀ v1, Wants ops (put ρ d v1) g2 := by intro v1; first | exact True.intro | exact ⟨_, rfl, by ((try simp only [ev_tmp, ev_const, ev_func, get_put, get_args, get_putL, get_putL_nil, Nat.reduceEqDiff, reduceIte, List.getD_cons_zero, List.getD_cons_succ, List.getD_nil, Bool.not_true, Bool.not_false]); first | done | with_reducible rfl)⟩) :
    rops P N ops K (⟨some d, .buildSlice t 1 #[(0, x)], ty, pos, after, g⟩ :: ⟨some d2, .call { callee := .builtin .append, args := #[s, .tmp d], argTypes := #[t, t] }, ty2, pos2, after2, g2⟩ :: l) ρ w1 := by
  refine st_slice1 (u := .int .i64 k) hx rfl hz hg1 fun w2 v2 he2 hs2 ho2 => ?_
  have hO : OwnN e sb w2 v (xs.map (Value.int .i64)) := @OwnN.ext _ _ _ _ _ _ he2 hG.own
  have hz2 := he2.size
  have hb : (xs.length + 1) * bytes ≤ 1000001 * 100 := Nat.mul_le_mul (by omega) hby
  refine st_append (hv := hO) (hy := ho2) (hs v2) (hd v2) (by rw [hz]; rfl) ?_ ?_ ?_ ?_ (hg2 v2) fun v3 w3 ho3 hg3 ha3 => ?_
  · intro a ha
    rw [List.mem_singleton.1 ha]; rfl
  · simp only [List.length_map, List.length_singleton]; omega
  · simp only [List.length_map, List.length_singleton, maxLen]; omega
  · omega
  · exact next v2 v3 w3 ⟨by simpa using ho3⟩ (fun wb hb1 hb2 => (hb1.trans he2).app hg3 (fun k hk => by have := (hO.lt k hk).1; omega)) (Nat.le_trans hz2 hg3.size) ⟨w2, he2, hg3, ha3⟩
theorem z_growi {s x : Operand} {b t e bytes sb : Nat} {z v : Value} {k : Int} {xs : List Int} [ht : SlT P t e] [he : ElT P e 1 bytes z] (hG : GrowI e sb w1 v xs) (hs0 : sb ≤ w1.heap.size)
    (hn : xs.length ≤ 1000000) (hvb : ∀ g, v.ownBlock = some g → g = b) (hi1 : opAt ops π i = some ⟨some d, .buildSlice t 1 #[(0, x)], ty, pos, after, g⟩ := by exact rfl) (hi2 : opAt ops π (i + 1) = some ⟨some d2, .call { callee := .builtin .append, args := #[s, .tmp d], argTypes := #[t, t] }, ty2, pos2, after2, g2⟩ := by exact rfl)
    (next : ∀ v1 v' w', GrowI e sb w' v' (xs ++ [k]) → (∀ wb, Ext wb w1 → wb.heap.size ≤ sb → Ext wb w') → w1.heap.size ≤ w'.heap.size → GStep w1 w' v v' → dops P N ops π (Chg b w00) K (i + 1 + 1) (put (put ρ d v1) d2 v') w')
    (hx : ev ρ x = .int .i64 k := by ((try simp only [ev_tmp, ev_const, ev_func, get_put, get_args, get_putL, get_putL_nil, Nat.reduceEqDiff, reduceIte, List.getD_cons_zero, List.getD_cons_succ, List.getD_nil]); first | done | with_reducible rfl)) (hs : ∀ v1, ev (put ρ d v1) s = v := by intro v1; ((try simp only [ev_tmp, ev_const, ev_func, get_put, get_args, get_putL, get_putL_nil, Nat.reduceEqDiff, reduceIte, List.getD_cons_zero, List.getD_cons_succ, List.getD_nil]); first | done | with_reducible rfl)) (hd : ∀ v1, ev (put ρ d v1) (.tmp d) = v1 := by intro v1; ((try simp only [ev_tmp, ev_const, ev_func, get_put, get_args, get_putL, get_putL_nil, Nat.reduceEqDiff, reduceIte, List.getD_cons_zero, List.getD_cons_succ, List.getD_nil]); first | done | with_reducible rfl)) (hz : z.cells = #[z] := by rfl) (hby : bytes ≤ 100 := by decide) (hg1 : Wants ops ρ g := by first | exact True.intro | exact ⟨_, rfl, by ((try simp only [ev_tmp, ev_const, ev_func, get_put, get_args, get_putL, get_putL_nil, Nat.reduceEqDiff, reduceIte, List.getD_cons_zero, List.getD_cons_succ, List.getD_nil, Bool.not_true, Bool.not_false]); first | done | with_reducible rfl)⟩) (hg2 : ∀ v1, Wants ops (put ρ d v1) g2 := by intro v1; first | exact True.intro | exact ⟨_, rfl, by ((try simp only [ev_tmp, ev_const, ev_func, get_put, get_args, get_putL, get_putL_nil, Nat.reduceEqDiff, reduceIte, List.getD_cons_zero, List.getD_cons_succ, List.getD_nil, Bool.not_true, Bool.not_false]); first | done | with_reducible rfl)⟩)
    (hn1 : nextOk ops π i = true := by decide +kernel) (hn2 : nextOk ops π (i + 1) = true := by decide +kernel) (hd1 : d < N := by decide) (hd2 : d2 < N := by decide) :
    dops P N ops π (Chg b w00) K i ρ w1 := by
  refine z_slice1 (u := .int .i64 k) hi1 hx rfl hz (fun w2 v2 he2 hs2 ho2 => ?_) hn1 hd1 hg1
  have hO : OwnN e sb w2 v (xs.map (Value.int .i64)) := @OwnN.ext _ _ _ _ _ _ he2 hG.own
  have hz2 := he2.size
  have hb : (xs.length + 1) * bytes ≤ 1000001 * 100 := Nat.mul_le_mul (by omega) hby
  refine z_append (hv := hO) (hy := ho2) hi2 (hs v2) (hd v2) (by rw [hz]; rfl) ?_ ?_ ?_ ?_ hvb (fun v3 w3 ho3 hg3 ha3 => ?_) hn2 hd2 (hg2 v2)
  · intro a ha
    rw [List.mem_singleton.1 ha]; rfl
  · simp only [List.length_map, List.length_singleton]; omega
  · simp only [List.length_map, List.length_singleton, maxLen]; omega
  · omega
  · exact next v2 v3 w3 ⟨by simpa using ho3⟩ (fun wb hb1 hb2 => (hb1.trans he2).app hg3 (fun k hk => by have := (hO.lt k hk).1; omega)) (Nat.le_trans hz2 hg3.size) ⟨w2, he2, hg3, ha3⟩
end
theorem own_some' (v : Value) (s k : Nat) (hk : s ≤ k) (h : ∀ g, v.ownBlock = some g → s ≤ g) : ∃ b, s ≤ b ∧ ∀ g, v.ownBlock = some g → g = b := by
  cases e : v.ownBlock with
  | none => exact ⟨k, hk, fun g h => by cases h⟩
  | some b => exact ⟨b, h b e, fun g h => (Option.some.inj h).symm⟩
end Go.Pc

/-
  Walk: the reference's copy of a list of lists, as the call's own (l01Own2).
  Conditions: stated at the theorem.
-/
namespace Go.Proofs.Ytjbhjbmobhhabaa
open Go Go.Pc
set_option maxHeartbeats 1000000 in
theorem l01Own2G_ok {w : World} {va : Value} {us : List Value} {xss : List (List Int)} {lo hi : Nat} [hx : Pc.Rows lo hi w va us xss] (hm : ∀ i, (xss.getD i []).length ≤ 2000000) (hl : xss.length ≤ 1000000) :
    Calls Try.prog 118 #[va] w (Ret fun v w' => Ext w w' ∧ ∃ rs, GrowL 22 w.heap.size w' v rs ∧ rs.map (·.2) = xss) := by
  have hul := hx.vals.len
  refine enter (args := [va]) (l := [.tmp 2]) Try.func118 rfl rfl Try.ntmps118 (by simp) ?_
  refine go ?_
  refine st_slice0 (by first | exact True.intro | exact ⟨_, rfl, by ((try simp only [ev_tmp, ev_const, ev_func, get_put, get_args, get_putL, get_putL_nil, Nat.reduceEqDiff, reduceIte, List.getD_cons_zero, List.getD_cons_succ, List.getD_nil, Bool.not_true, Bool.not_false]); first | done | with_reducible rfl)⟩) fun w1 v1 he1 hs1 ho1 => ?_
  refine go ?_
  refine r_for xss.length (fun k ρ w' => ∃ v' rs, Has ρ [(0, va), (3, v'), (4, .int .i64 k)] ∧ Ext w w' ∧ GrowL 22 w.heap.size w' v' rs ∧ rs.map (·.2) = xss.take k) ?_ ?_
  · refine ⟨v1, [], ?_, he1, GrowL.start ho1 (Nat.le_refl _), by simp⟩
    exact hasP
  rintro k ρ w2 hk ⟨v2, rs, hH, he2, hG, hrs⟩
  refine rwp_has hH fun ρ0 => ?_
  have hrl : rs.length = k := by have := congrArg List.length hrs; simp at this; omega
  refine go ?_
  refine c_if (fun h4 => ?_) (fun h4 => ?_)
  · refine go ?_
    refine rc (l01Own_ok (xs := xss.getD k []) (hm k)) (next := fun v3 w3 h3 => ?_)
    obtain ⟨he3, hf3⟩ := h3
    refine go ?_
    refine st_grow hG he3 hf3 he2.size (by omega) (next := fun v4 v5 w5 hG5 hx5 hz5 hgs5 => ?_)
    refine go ?_
    refine forQ_normal (by omega) ⟨v5, _, ?_, hx5 w (he2.trans he3) (Nat.le_refl _), hG5, ?_⟩
    · exact hasP
    · rw [List.take_succ_eq_append_getElem (by omega), List.map_append, hrs]
      simp [show k < xss.length by omega]
  · refine go ?_
    rw [show k = xss.length by omega, List.take_length] at hrs
    exact ret1 ⟨he2, rs, hG, hrs⟩
end Go.Proofs.Ytjbhjbmobhhabaa

/-
  Walks: the reference's conjugates, conjugate subgroups, closures under conjugation, normality (l10Conj, l13Conj, l12Whole, l13Stable, l13Normal).
  Conditions: the tails at all levels are groups; the lists are those told.
-/
namespace Go.Proofs.Ytjbhjbmobhhabaa
open Go Go.Pc
set_option maxHeartbeats 1000000 in
theorem l10Conj_ok {p : Pr} [hc : ConAll p] {w : World} {vp vx vy : Value} {x y : El p} {xs ys : List Int} {lo hi lo1 hi1 lo2 hi2 : Nat} [hp : Pres lo hi w vp p] [hx : Ints lo1 hi1 w vx xs] [hy : Ints lo2 hi2 w vy ys] (hxe : xs = x.v) (hye : ys = y.v) :
    Calls Try.prog 126 #[vp, vx, vy] w (Ret fun v w' => Ext w w' ∧ Fr w.heap.size w' v (Grp.cj x y).v) := by
  obtain ⟨vo, vpw, vc, ps, cs, css, rfl, h1, h2, h3⟩ := hp.ex
  refine enter (args := [.agg #[vo, vpw, vc], vx, vy]) (l := [.tmp 6]) Try.func126 rfl rfl Try.ntmps126 (by simp) ?_
  refine go ?_
  refine st_box3 (by ((try simp only [ev_tmp, ev_const, ev_func, get_put, get_args, get_putL, get_putL_nil, Nat.reduceEqDiff, reduceIte, List.getD_cons_zero, List.getD_cons_succ, List.getD_nil]); first | done | with_reducible rfl)) (by first | exact True.intro | exact ⟨_, rfl, by ((try simp only [ev_tmp, ev_const, ev_func, get_put, get_args, get_putL, get_putL_nil, Nat.reduceEqDiff, reduceIte, List.getD_cons_zero, List.getD_cons_succ, List.getD_nil, Bool.not_true, Bool.not_false]); first | done | with_reducible rfl)⟩) fun w1 b he1 hb1 hs1 hc0 hc1 hc2 => ?_
  refine go ?_
  refine d_order [0, 1, 2, 4, 5, 6, 3, 7, 8, 9] (h := fun w2 he2 _ => ?_)
  refine dgo ?_
  refine dce (l10Inv_ok (p := p) hye) (next := fun v4 w4 h4 => ?_)
  obtain ⟨he4, hf4⟩ := h4
  refine dce (l08Mul_ok (p := p) hxe hye) (next := fun v5 w5 h5 => ?_)
  obtain ⟨he5, hf5⟩ := h5
  refine dce (l08Mul_ok (p := p) (x := y⁻¹) (y := x * y) (xs := (y⁻¹).v) (ys := (x * y).v) rfl rfl) (next := fun v6 w6 h6 => ?_)
  obtain ⟨he6, hf6⟩ := h6
  refine dgo ?_
  refine d_end (h := ?_)
  refine go ?_
  have hE := ((he1.trans he2).trans he4).trans he5
  exact ret1 ⟨hE.trans he6, hf6.mono hE.size⟩
set_option maxHeartbeats 1000000 in
theorem l13Conj_ok {p : Pr} [hc : ConAll p] {ys : List (El p)} (hyl : ys.length ≤ 10000) {w : World} {vp vu vx : Value} {us : List Value} {xss : List (List Int)} {x : El p} {xs : List Int} {lo hi lo1 hi1 lo2 hi2 : Nat} [hp : Pres lo hi w vp p] [hu : Pc.Rows lo1 hi1 w vu us xss] [hx : Ints lo2 hi2 w vx xs] (hus : xss = vecs ys) (hxe : xs = x.v) :
    Calls Try.prog 89 #[vp, vu, vx] w (Ret fun v w' => Ext w w' ∧ ∃ us', Pc.Rows w.heap.size w'.heap.size w' v us' (canon (Gen (fun a : El p => a ∈ ys.map (Grp.cj · x))))) := by
  subst hus
  have hvl : (vecs ys).length = ys.length := by simp
  replace hp := hp.wide
  replace hu := hu.wide
  replace hx := hx.wide
  obtain ⟨vo, vpw, vc, ps, cs, css, rfl, h1, h2, h3⟩ := hp.ex
  refine enter (args := [.agg #[vo, vpw, vc], vu, vx]) (l := [.tmp 6]) Try.func89 rfl rfl Try.ntmps89 (by simp) ?_
  refine go ?_
  refine st_box3 (by ((try simp only [ev_tmp, ev_const, ev_func, get_put, get_args, get_putL, get_putL_nil, Nat.reduceEqDiff, reduceIte, List.getD_cons_zero, List.getD_cons_succ, List.getD_nil]); first | done | with_reducible rfl)) (by first | exact True.intro | exact ⟨_, rfl, by ((try simp only [ev_tmp, ev_const, ev_func, get_put, get_args, get_putL, get_putL_nil, Nat.reduceEqDiff, reduceIte, List.getD_cons_zero, List.getD_cons_succ, List.getD_nil, Bool.not_true, Bool.not_false]); first | done | with_reducible rfl)⟩) fun w1 b he1 hb1 hs1 hc0 hc1 hc2 => ?_
  refine go ?_
  refine st_slice0 (by first | exact True.intro | exact ⟨_, rfl, by ((try simp only [ev_tmp, ev_const, ev_func, get_put, get_args, get_putL, get_putL_nil, Nat.reduceEqDiff, reduceIte, List.getD_cons_zero, List.getD_cons_succ, List.getD_nil, Bool.not_true, Bool.not_false]); first | done | with_reducible rfl)⟩) fun w2 v2 he2 hs2 ho2 => ?_
  have hz1 := he1.size
  have hz2 := he2.size
  refine go ?_
  refine r_for ys.length (fun k ρ w' => ∃ vl rs, Has ρ [(1, vu), (2, vx), (3, .pointer (some ⟨b, 0, none⟩)), (7, vl), (8, .int .i64 k)] ∧ Ext w1 w' ∧ GrowL 22 w1.heap.size w' vl rs ∧ rs.map (·.2) = vecs ((ys.take k).map (Grp.cj · x))) ?_ ?_
  · refine ⟨v2, [], ?_, he2, GrowL.start ho2 (Nat.le_refl _), by simp⟩
    exact hasP
  clear ho2
  rintro k ρ w3 hk ⟨vl, rs, hH, he3, hG, hrs⟩
  refine rwp_has hH fun ρ0 => ?_
  have hE3 := he1.trans he3
  have hz3 := he3.size
  have hrl : rs.length = k := by have := congrArg List.length hrs; simp at this; omega
  refine go ?_
  refine c_if (fun h4 => ?_) (fun h4 => ?_)
  · have hkn : k < ys.length := by omega
    have hg := vecs_getD ys hkn
    obtain ⟨b', hb', hvb'⟩ := own_some' vl w1.heap.size w3.heap.size (by omega) (fun g h => (hG.lst.lt h).1)
    have ap1 : Apart 0 w.heap.size b' := ⟨.inr (by omega)⟩
    have ap2 : Apart b (b + 1) b' := ⟨.inr (by omega)⟩
    refine go ?_
    refine z_order b' (List.range 11) (h := fun w4 he4 _ => ?_)
    refine zgo ?_
    refine zc (l10Conj_ok (p := p) (x := ys[k]) (y := x) hg hxe) (next := fun v5 w5 h5 => ?_)
    obtain ⟨he5, hf5⟩ := h5
    refine z_grow (hG.ext he4) he5 hf5 (by have := he4.size; omega) (by omega) hvb' (next := fun v6 v7 w7 hG7 hx7 hz7 hgs7 => ?_)
    refine zgo ?_
    refine z_end ?_
    refine go ?_
    refine forQ_normal (by omega) ⟨v7, _, ?_, hx7 w1 ((he3.trans he4).trans he5) (Nat.le_refl _), hG7, ?_⟩
    · exact hasP
    · rw [List.take_succ_eq_append_getElem hkn]
      simp only [List.map_append, List.map_cons, List.map_nil, hrs, vecs]
  · obtain rfl : k = ys.length := by omega
    rw [List.take_length] at hrs
    have hR := hG.rows
    refine go ?_
    refine rc (l12Close_ok (p := p) (ys := ys.map (Grp.cj · x)) hrs ?_) (next := fun v4 w4 h5 => ?_)
    · simp; omega
    obtain ⟨he4, us4, hL4⟩ := h5
    refine go ?_
    exact ret1 ⟨hE3.trans he4, us4, hL4.newRows.mono hE3.size (Nat.le_refl _)⟩
/-- The generators. -/
noncomputable def gensL (p : Pr) [ConAll p] : List (El p) := (List.range p.n).map (gOf p 0)
theorem gOf_val {p : Pr} [hc : ConAll p] {i : Nat} (hi : i < p.n) : (gOf p 0 i : El p).v = unitv p i 1 := by
  rw [gOf_eq (h := hc.con 0) ⟨Nat.zero_le _, hi⟩]; rfl
theorem gensL_len (p : Pr) [ConAll p] : (gensL p).length = p.n := by simp [gensL]
set_option maxHeartbeats 1000000 in
theorem l02Unit_ok {n : Nat} {w : World} {kn : Int} (hkn : kn = n) (hn : n ≤ 1000) :
    Calls Try.prog 133 #[.int .i64 kn] w (Ret fun v w' => Ext w w' ∧ ∃ us', Pc.Rows w.heap.size w'.heap.size w' v us' ((List.range n).map fun i => (zeros n).set i 1)) := by
  subst hkn
  refine enter (args := [.int .i64 n]) (l := [.tmp 2]) Try.func133 rfl rfl Try.ntmps133 (by simp) ?_
  refine go ?_
  refine st_slice0 (by first | exact True.intro | exact ⟨_, rfl, by ((try simp only [ev_tmp, ev_const, ev_func, get_put, get_args, get_putL, get_putL_nil, Nat.reduceEqDiff, reduceIte, List.getD_cons_zero, List.getD_cons_succ, List.getD_nil, Bool.not_true, Bool.not_false]); first | done | with_reducible rfl)⟩) fun w2 v2 he2 hs2 ho2 => ?_
  refine go ?_
  refine r_for n (fun k ρ w' => ∃ vl rs, Has ρ [(0, .int .i64 n), (3, vl), (4, .int .i64 k)] ∧ Ext w w' ∧ GrowL 22 w.heap.size w' vl rs ∧ rs.map (·.2) = (List.range k).map fun i => (zeros n).set i 1) ?_ ?_
  · refine ⟨v2, [], ?_, he2, GrowL.start ho2 (Nat.le_refl _), by simp⟩
    exact hasP
  clear ho2
  rintro k ρ w3 hk ⟨vl, rs, hH, he3, hG, hrs⟩
  refine rwp_has hH fun ρ0 => ?_
  have hz3 := he3.size
  have hrl : rs.length = k := by have := congrArg List.length hrs; simp at this; omega
  refine go ?_
  refine c_if (fun h4 => ?_) (fun h4 => ?_)
  · refine go ?_
    refine st_make_int (by ((try simp only [ev_tmp, ev_const, ev_func, get_put, get_args, get_putL, get_putL_nil, Nat.reduceEqDiff, reduceIte, List.getD_cons_zero, List.getD_cons_succ, List.getD_nil]); first | done | with_reducible rfl)) (by ((try simp only [ev_tmp, ev_const, ev_func, get_put, get_args, get_putL, get_putL_nil, Nat.reduceEqDiff, reduceIte, List.getD_cons_zero, List.getD_cons_succ, List.getD_nil]); first | done | with_reducible rfl)) (by omega) (by omega) (by first | exact True.intro | exact ⟨_, rfl, by ((try simp only [ev_tmp, ev_const, ev_func, get_put, get_args, get_putL, get_putL_nil, Nat.reduceEqDiff, reduceIte, List.getD_cons_zero, List.getD_cons_succ, List.getD_nil, Bool.not_true, Bool.not_false]); first | done | with_reducible rfl)⟩) fun w4 v4 he4 hs4 ho4 => ?_
    have hzl : (List.replicate n (0 : Int)).length = n := by simp
    refine go ?_
    refine st_store_int (h := ho4) (by ((try simp only [ev_tmp, ev_const, ev_func, get_put, get_args, get_putL, get_putL_nil, Nat.reduceEqDiff, reduceIte, List.getD_cons_zero, List.getD_cons_succ, List.getD_nil]); first | done | with_reducible rfl)) (by ((try simp only [ev_tmp, ev_const, ev_func, get_put, get_args, get_putL, get_putL_nil, Nat.reduceEqDiff, reduceIte, List.getD_cons_zero, List.getD_cons_succ, List.getD_nil]); first | done | with_reducible rfl)) ?_ (by first | exact True.intro | exact ⟨_, rfl, by ((try simp only [ev_tmp, ev_const, ev_func, get_put, get_args, get_putL, get_putL_nil, Nat.reduceEqDiff, reduceIte, List.getD_cons_zero, List.getD_cons_succ, List.getD_nil, Bool.not_true, Bool.not_false]); first | done | with_reducible rfl)⟩) fun w5 hc5 hs5 ho5 => ?_
    · omega
    have he35 : Ext w3 w5 := hc5.ext he4 (Nat.le_refl _)
    have hf5 : Fr w3.heap.size w5 v4 ((zeros n).set k 1) := ho5.toFr (Nat.le_refl _)
    clear ho4 ho5 hc5
    refine go ?_
    refine st_grow hG he35 hf5 hz3 (by omega) (next := fun v6 v7 w7 hG7 hx7 hz7 hgs7 => ?_)
    refine go ?_
    refine forQ_normal (by omega) ⟨v7, _, ?_, hx7 w (he3.trans he35) (Nat.le_refl _), hG7, ?_⟩
    · exact hasP
    · rw [List.range_succ, List.map_append, List.map_append, hrs]; simp
  · obtain rfl : k = n := by omega
    refine go ?_
    refine ret1 ⟨he3, rs.map (·.1), ?_⟩
    rw [← hrs]
    exact hG.rows
theorem l12Whole_ok {p : Pr} [hc : ConAll p] {w : World} {vp : Value} {lo hi : Nat} [hp : Pres lo hi w vp p] :
    Calls Try.prog 97 #[vp] w (Ret fun v w' => Ext w w' ∧ ∃ us', Pc.Rows w.heap.size w'.heap.size w' v us' (vecs (gensL p))) := by
  have hn6 := hc.valid.n6
  have hol : p.ord.length = p.n := rfl
  obtain ⟨vo, vpw, vc, ps, cs, css, rfl, h1, h2, h3⟩ := hp.ex
  refine enter (args := [.agg #[vo, vpw, vc]]) (l := [.tmp 2]) Try.func97 rfl rfl Try.ntmps97 (by simp) ?_
  refine go ?_
  refine st_box3 (by ((try simp only [ev_tmp, ev_const, ev_func, get_put, get_args, get_putL, get_putL_nil, Nat.reduceEqDiff, reduceIte, List.getD_cons_zero, List.getD_cons_succ, List.getD_nil]); first | done | with_reducible rfl)) (by first | exact True.intro | exact ⟨_, rfl, by ((try simp only [ev_tmp, ev_const, ev_func, get_put, get_args, get_putL, get_putL_nil, Nat.reduceEqDiff, reduceIte, List.getD_cons_zero, List.getD_cons_succ, List.getD_nil, Bool.not_true, Bool.not_false]); first | done | with_reducible rfl)⟩) fun w1 b he1 hb1 hs1 hc0 hc1 hc2 => ?_
  refine go ?_
  refine rc (l02Unit_ok (n := p.n) ?_ (by omega)) (next := fun v2 w2 h4 => ?_)
  · omega
  obtain ⟨he2, us2, hR2⟩ := h4
  refine go ?_
  refine ret1 ⟨he1.trans he2, us2, ?_⟩
  have e : vecs (gensL p) = (List.range p.n).map fun i => (zeros p.n).set i 1 := by
    unfold vecs gensL
    rw [List.map_map]
    exact List.map_congr_left fun i hi => gOf_val (List.mem_range.1 hi)
  rw [e]
  exact hR2.mono he1.size (Nat.le_refl _)
end Go.Proofs.Ytjbhjbmobhhabaa
