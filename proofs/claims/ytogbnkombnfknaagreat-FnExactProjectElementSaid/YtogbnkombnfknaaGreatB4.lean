/-
  Texts of one proof, put together by program: Seq2, W12d, Ans, Ans2, Clo, W13, Mem6, Grow, W01d, W13b, W13c, W16, Ans3, Ans4, Dig, Enum, Rel, Iso, W14, W15, Grow3, W16b, W17, W18, W20, Grow4, W30, W31, W32, I03.
  Conditions: those told at each part.
-/
import Derived.Test.YtogbnkombnfknaaGreatB3
set_option linter.unusedVariables false
set_option linter.unusedSimpArgs false
set_option linter.unusedSectionVars false
set_option linter.constructorNameAsVariable false
set_option linter.unnecessarySimpa false
set_option linter.deprecated false
/-
  Canonical sequences: every depth of a subgroup has its element; representatives are unique; the order.
  Conditions: the tails at all levels are groups; nothing of the program stands here.
-/
namespace Go.Proofs.YtogbnkombnfknaaGreat
open Go Go.Pc
section
variable {p : Pr} [hc : ConAll p] {H : El p → Prop} {d : Nat}
theorem dep_one (hH : Pc.Sub H) (h : Dep H d) : ∃ z, H z ∧ Tl d z ∧ co z d = 1 := by
  have hd := h.lt
  obtain ⟨x, h1, h2, h3⟩ := h
  have hr := co_rng x hd
  obtain ⟨k, _, _, hk⟩ := inv_ex (hc.valid.prime d hd) ⟨by omega, hr.2⟩
  exact ⟨Grp.pwz x k, hH.pwz h1 k, h2.pwz (by omega) k, by rw [co_pwz hd h2, Int.mul_comm]; exact hk⟩
theorem can_ex (hH : Pc.Sub H) (h : Dep H d) : ∃ x, CanAt H d x := by
  have key : ∀ m e, e ≤ p.n → p.n - e = m → d < e → (∃ x, CanTo H d e x) → ∃ x, CanTo H d p.n x := by
    intro m
    induction m with
    | zero =>
      intro e h1 h2 _ h4
      obtain rfl : e = p.n := by omega
      exact h4
    | succ m ih =>
      intro e h1 h2 h3 ⟨x, h4⟩
      refine ih (e + 1) (by omega) (by omega) (by omega) ?_
      by_cases hD : Dep H e
      · obtain ⟨z, hz, hzt, hz1⟩ := dep_one hH hD
        exact ⟨_, h4.step hH h3 hD.lt hz hzt hz1⟩
      · exact ⟨x, h4.skip (.inr hD)⟩
  have hd := h.lt
  obtain ⟨z, hz, hzt, hz1⟩ := dep_one hH h
  obtain ⟨x, hx⟩ := key (p.n - (d + 1)) (d + 1) (by omega) rfl (by omega) ⟨z, hz, hzt, hz1, fun k h1 h2 _ => by omega⟩
  exact ⟨x, hx.can⟩
theorem canT_ex (hH : Pc.Sub H) (h : Dep H d) : ∃ x, canT H d = some x := by
  obtain ⟨x, hx⟩ := can_ex hH h
  exact ⟨x, canT_eq hH hx⟩
/-- The elements of a canonical sequence. -/
structure SeqEl (ys : List (El p)) : Prop where
  can : canon (Gen (fun a : El p => a ∈ ys)) = vecs ys
theorem SeqEl.eq {ys : List (El p)} (h : SeqEl ys) : ys = canElsF (Gen (fun a : El p => a ∈ ys)) 0 := by
  have := vecs_inj (h.can.symm.trans (canon_vecs _))
  rw [canElsF_zero]; exact this
theorem SeqEl.ok {ys : List (El p)} (h : SeqEl ys) : SeqOk ys := by
  have := canElsF_ok (Gen (fun a : El p => a ∈ ys)) 0
  rwa [← h.eq] at this
theorem SeqEl.len {ys : List (El p)} (h : SeqEl ys) : ys.length ≤ p.n := by
  have := canElsF_len (Gen (fun a : El p => a ∈ ys)) 0
  rwa [← h.eq] at this
theorem SeqEl.dep {ys : List (El p)} (h : SeqEl ys) {d : Nat} (hd : Dep (Gen (fun a : El p => a ∈ ys)) d) : ∃ y, y ∈ ys ∧ lead y.v = d := by
  obtain ⟨x, hx⟩ := canT_ex (Gen.sub _) hd
  have hm := canElsF_mem.2 ⟨d, Nat.zero_le _, hd.lt, hx⟩
  rw [← h.eq] at hm
  have hca := canT_some hx
  exact ⟨x, hm, lead_of hca.tl (by rw [hca.lead]; omega)⟩
theorem isSeq_iff {xss : List (List Int)} : IsSeq p xss ↔ ∃ ys : List (El p), xss = vecs ys ∧ SeqEl ys :=
  ⟨fun ⟨ys, h1, h2⟩ => ⟨ys, h1, ⟨h2.trans h1⟩⟩, fun ⟨ys, h1, h2⟩ => ⟨ys, h1, h2.can.trans h1.symm⟩⟩
variable {ys : List (El p)} {x r s : El p}
theorem RepOf.gen (h : RepOf ys x r) : Gen (fun a : El p => a ∈ ys) (x⁻¹ * r) := h.mem _ (Gen.sub _) fun y hy => .of y hy
theorem RepOf.unique (hs : SeqEl ys) (h : RepOf ys x r) (k : RepOf ys x s) : r = s := by
  refine rep_unique (Gen.sub (fun a : El p => a ∈ ys)) ?_ fun d hd => ?_
  · have h1 := (Gen.sub (fun a : El p => a ∈ ys)).mul _ _ ((Gen.sub _).inv _ h.gen) k.gen
    rwa [Grp.mul_inv_rev, Grp.inv_inv, Grp.mul_assoc, Grp.mul_inv_cancel_left] at h1
  · obtain ⟨y, hy, rfl⟩ := hs.dep hd
    rw [h.zero y hy, k.zero y hy]
theorem RepOf.one_iff (hs : SeqEl ys) (h : RepOf ys x r) : r = 1 ↔ Gen (fun a : El p => a ∈ ys) x := by
  have hS := Gen.sub (fun a : El p => a ∈ ys)
  constructor
  · rintro rfl
    have h1 := hS.inv _ h.gen
    rwa [Grp.mul_one, Grp.inv_inv] at h1
  · intro hx
    have h1 := hS.mul _ _ hx h.gen
    rw [Grp.mul_inv_cancel_left] at h1
    refine rep_unique hS (hS.mul _ _ (hS.inv _ h1) hS.one) fun d hd => ?_
    obtain ⟨y, hy, rfl⟩ := hs.dep hd
    rw [h.zero y hy, co_one]
/-- The order that a sequence tells. -/
def ordOf (p : Pr) (ys : List (El p)) : Int := ys.foldl (fun a y => a * p.o (lead y.v)) 1
theorem ordOf_take (ys : List (El p)) {k : Nat} (hk : k < ys.length) : ordOf p (ys.take (k + 1)) = ordOf p (ys.take k) * p.o (lead (ys[k]).v) := by
  unfold ordOf
  rw [List.take_succ_eq_append_getElem hk, List.foldl_append]; rfl
theorem ordOf_bd : ∀ k : Nat, k ≤ ys.length → (∀ y, y ∈ ys → lead y.v < p.n) → 1 ≤ ordOf p (ys.take k) ∧ ordOf p (ys.take k) ≤ (7 ^ k : Nat)
  | 0, _, _ => by simp [ordOf]
  | k + 1, hk, h => by
    have ih := ordOf_bd k (by omega) h
    have ho := hc.valid.opos (h _ (List.getElem_mem (show k < ys.length by omega)))
    rw [ordOf_take ys (by omega)]
    refine ⟨?_, ?_⟩
    · have := Int.mul_le_mul ih.1 (show (1 : Int) ≤ p.o (lead (ys[k]).v) by omega) (by omega) (by omega)
      simpa using this
    · have := Int.mul_le_mul ih.2 ho.2 (by omega) (by omega)
      rw [Nat.pow_succ]
      push_cast
      push_cast at this
      exact this
theorem ordOf_rng {k : Nat} (h6 : ys.length ≤ 6) (hk : k ≤ ys.length) (h : ∀ y, y ∈ ys → lead y.v < p.n) : 1 ≤ ordOf p (ys.take k) ∧ ordOf p (ys.take k) ≤ 117649 := by
  have h1 := ordOf_bd k hk h
  have h2 : 7 ^ k ≤ 7 ^ 6 := Nat.pow_le_pow_right (by omega) (by omega)
  refine ⟨h1.1, ?_⟩
  have h3 : ((7 ^ k : Nat) : Int) ≤ (117649 : Nat) := Int.ofNat_le.2 h2
  omega
/-- The table of a sequence. -/
def tabOf (ys : List (El p)) : Tab p := ys.foldl (fun t y => Tab.set t (lead y.v) y) (fun _ => none)
theorem tabOf_take (ys : List (El p)) {k : Nat} (hk : k < ys.length) : tabOf (ys.take (k + 1)) = Tab.set (tabOf (ys.take k)) (lead (ys[k]).v) (ys[k]) := by
  unfold tabOf
  rw [List.take_succ_eq_append_getElem hk, List.foldl_append]; rfl
theorem tabOf_some_take (ys : List (El p)) : ∀ k, k ≤ ys.length → ∀ d y, tabOf (ys.take k) d = some y → y ∈ ys ∧ lead y.v = d
  | 0, _, d, y, h => by cases h
  | k + 1, hk, d, y, h => by
    rw [tabOf_take ys (by omega)] at h
    unfold Tab.set at h
    split at h
    · rename_i e
      injection h with h
      subst h
      exact ⟨List.getElem_mem _, e.symm⟩
    · exact tabOf_some_take ys k (by omega) d y h
theorem tabOf_some {d : Nat} {y : El p} (h : tabOf ys d = some y) : y ∈ ys ∧ lead y.v = d := by
  have := tabOf_some_take ys ys.length (Nat.le_refl _) d y
  rw [List.take_length] at this
  exact this h
theorem tabOf_ok (hs : SeqOk ys) : TabOk (tabOf ys) := by
  refine ⟨fun d y h => ?_, fun d y h => ?_, fun d y h => ?_⟩ <;> obtain ⟨h1, rfl⟩ := tabOf_some h
  · exact (hs.lead1 y h1).1
  · exact lead_tl y
  · exact (hs.lead1 y h1).2
theorem tabOf_mem (hs : SeqOk ys) {y : El p} (hy : y ∈ ys) : tabOf ys (lead y.v) ≠ none := by
  have key : ∀ k, k ≤ ys.length → ∀ i (h : i < ys.length), i < k → tabOf (ys.take k) (lead (ys[i]).v) ≠ none := by
    intro k
    induction k with
    | zero => intro _ i h h1; omega
    | succ k ih =>
      intro hk i h h1
      rw [tabOf_take ys (by omega)]
      unfold Tab.set
      split
      · simp
      · rename_i e
        refine ih (by omega) i h ?_
        by_cases e2 : i = k
        · subst e2; exact absurd rfl e
        · omega
  obtain ⟨i, hi, rfl⟩ := List.getElem_of_mem hy
  have := key ys.length (Nat.le_refl _) i hi hi
  rwa [List.take_length] at this
end
end Go.Proofs.YtogbnkombnfknaaGreat

/-
  Walks: the reference's test of subgroups (l12Is, IsSubgroup).
  Conditions: stated at each theorem.
-/
namespace Go.Proofs.YtogbnkombnfknaaGreat
open Go Go.Pc
/-- The presentation is a group, and the list is the canonical sequence of a subgroup of it. -/
def IsSubP (p : Pr) (xss : List (List Int)) : Prop := ∃ h : IsGrp p, @IsSeq p ⟨h.con⟩ xss
set_option maxHeartbeats 1000000 in
theorem l12Is_ok {p : Pr} [hc : ConAll p] {w : World} {vp vu : Value} {us : List Value} {xss : List (List Int)} {lo hi lo1 hi1 : Nat} [hp : Pres lo hi w vp p] [hu : Pc.Rows lo1 hi1 w vu us xss] :
    Calls Tryz.prog 106 #[vp, vu] w (Ret fun v w' => ∃ b, v = .bool b ∧ (b = true ↔ IsSeq p xss) ∧ Ext w w') := by
  have hv := hc.valid
  have hn6 := hv.n6
  have hol : p.ord.length = p.n := rfl
  obtain ⟨vo, vpw, vc, ps, cs, css, rfl, h1, h2, h3⟩ := hp.ex
  refine enter (args := [.agg #[vo, vpw, vc], vu]) (l := [.tmp 4]) Tryz.func106 rfl rfl Tryz.ntmps106 (by simp) ?_
  refine go ?_
  refine st_box3 (by ((try simp only [ev_tmp, ev_const, ev_func, get_put, get_args, get_putL, get_putL_nil, Nat.reduceEqDiff, reduceIte, List.getD_cons_zero, List.getD_cons_succ, List.getD_nil]); first | done | with_reducible rfl)) (by first | exact True.intro | exact ⟨_, rfl, by ((try simp only [ev_tmp, ev_const, ev_func, get_put, get_args, get_putL, get_putL_nil, Nat.reduceEqDiff, reduceIte, List.getD_cons_zero, List.getD_cons_succ, List.getD_nil, Bool.not_true, Bool.not_false]); first | done | with_reducible rfl)⟩) fun w1 b he1 hb1 hs1 hc0 hc1 hc2 => ?_
  refine go ?_
  refine spd (fun h4 => ?_) (fun h4 => ?_)
  · refine go ?_
    refine rc (l10Elements_ok hv (xss := xss) ?_) (next := fun v5 w5 h5 => ?_)
    · omega
    obtain ⟨b5, rfl, hb5, he5⟩ := h5
    refine go ?_
    refine sp (fun e5 => ?_) (fun e5 => ?_)
    · obtain ⟨ys, hys⟩ := els_of (hb5.1 e5)
      have hyl : xss.length = ys.length := by rw [hys]; simp
      refine go ?_
      refine rc (l12Close_ok (ys := ys) hys ?_) (next := fun v6 w6 h6 => ?_)
      · omega
      obtain ⟨he6, us6, hL6⟩ := h6
      have hr6 := hL6.toRows
      have hcl := canTo_len (Gen (fun a : El p => a ∈ ys)) p.n
      rw [canTo_end] at hcl
      refine go ?_
      refine rc (l01Same2_ok (xss := canon (Gen (fun a : El p => a ∈ ys))) (yss := xss) ?_ ?_) (next := fun v7 w7 h7 => ?_)
      · intro i
        have := canon_row (Gen (fun a : El p => a ∈ ys)) i
        omega
      · omega
      obtain ⟨b7, rfl, hb7, he7⟩ := h7
      refine go ?_
      refine ret1 ⟨_, rfl, hb7.trans ⟨fun h => ⟨ys, hys, h⟩, ?_⟩, ((he1.trans he5).trans he6).trans he7⟩
      rintro ⟨zs, hzs, h⟩
      obtain rfl : ys = zs := vecs_inj (hys.symm.trans hzs)
      exact h
    · refine go ?_
      refine ret1 ⟨_, rfl, ?_, he1.trans he5⟩
      simp only [Bool.false_eq_true, false_iff]
      rintro ⟨ys, hys, _⟩
      have := hb5.2 (by rw [hys]; exact fun i hi => vecs_in hi)
      rw [e5] at this; cases this
  · refine go ?_
    refine ret1 ⟨_, rfl, ?_, he1⟩
    simp only [Bool.false_eq_true, false_iff]
    intro h
    have := h.len
    omega
set_option maxHeartbeats 1000000 in
theorem spec_IsSubgroup_ok {p : Pr} {w : World} {vp vu : Value} {us : List Value} {xss : List (List Int)} {lo hi lo1 hi1 : Nat} [hp : Pres lo hi w vp p] [hu : Pc.Rows lo1 hi1 w vu us xss] (hl : p.ord.length ≤ 2000000) :
    Calls Tryz.prog 74 #[vp, vu] w (Ret fun v w' => ∃ b, v = .bool b ∧ (b = true ↔ IsSubP p xss) ∧ Ext w w') := by
  obtain ⟨vo, vpw, vc, ps, cs, css, rfl, h1, h2, h3⟩ := hp.ex
  refine enter (args := [.agg #[vo, vpw, vc], vu]) (l := [.tmp 4]) Tryz.func74 rfl rfl Tryz.ntmps74 (by simp) ?_
  refine go ?_
  refine st_box3 (by ((try simp only [ev_tmp, ev_const, ev_func, get_put, get_args, get_putL, get_putL_nil, Nat.reduceEqDiff, reduceIte, List.getD_cons_zero, List.getD_cons_succ, List.getD_nil]); first | done | with_reducible rfl)) (by first | exact True.intro | exact ⟨_, rfl, by ((try simp only [ev_tmp, ev_const, ev_func, get_put, get_args, get_putL, get_putL_nil, Nat.reduceEqDiff, reduceIte, List.getD_cons_zero, List.getD_cons_succ, List.getD_nil, Bool.not_true, Bool.not_false]); first | done | with_reducible rfl)⟩) fun w1 b he1 hb1 hs1 hc0 hc1 hc2 => ?_
  refine go ?_
  refine rc (l08Group_ok hl) (next := fun v5 w5 h5 => ?_)
  obtain ⟨b5, rfl, hb5, he5⟩ := h5
  refine go ?_
  refine sp (fun e5 => ?_) (fun e5 => ?_)
  · have hG := hb5.1 e5
    haveI : ConAll p := ⟨hG.con⟩
    refine go ?_
    refine rc (l12Is_ok (xss := xss)) (next := fun v6 w6 h6 => ?_)
    obtain ⟨b6, rfl, hb6, he6⟩ := h6
    refine go ?_
    exact ret1 ⟨_, rfl, hb6.trans ⟨fun h => ⟨hG, h⟩, fun ⟨_, h⟩ => h⟩, (he1.trans he5).trans he6⟩
  · refine go ?_
    refine ret1 ⟨_, rfl, ?_, he1.trans he5⟩
    simp only [Bool.false_eq_true, false_iff]
    rintro ⟨h, _⟩
    have := hb5.2 h
    rw [e5] at this; cases this
end Go.Proofs.YtogbnkombnfknaaGreat

/-
  Answers that the program and the reference give: what they have to be, and that they are the same.
  Conditions: none.
-/
namespace Go.Proofs.YtogbnkombnfknaaGreat
open Go Go.Pc
/-- An answer with a code: under A the pair meets V, else it is z with the code 1. -/
def Ans {α : Type} (A : Prop) (V : α → Int → Prop) (z k : α) (e : Int) : Prop := (A ∧ V k e) ∨ (¬ A ∧ k = z ∧ e = 1)
theorem Ans.same {α : Type} {A : Prop} {V : α → Int → Prop} {z k k' : α} {e e' : Int} (h : Ans A V z k e) (h' : Ans A V z k' e') (hu : A → ∀ a b c d, V a c → V b d → a = b ∧ c = d) : k = k' ∧ e = e' := by
  rcases h with ⟨h1, h2⟩ | ⟨h1, h2, h3⟩ <;> rcases h' with ⟨k1, k2⟩ | ⟨k1, k2, k3⟩
  · exact hu h1 _ _ _ _ h2 k2
  · exact absurd h1 k1
  · exact absurd k1 h1
  · exact ⟨by rw [h2, k2], by rw [h3, k3]⟩
theorem bool_eq {b c : Bool} {P : Prop} (h : b = true ↔ P) (k : c = true ↔ P) : b = c := by
  have e : b = true ↔ c = true := h.trans k.symm
  cases b <;> cases c <;> simp_all
theorem el_one_iff {p : Pr} [hc : ConAll p] (r : El p) : r = 1 ↔ ∀ i, i < r.v.length → r.v.getD i 0 = 0 := by
  have hl := r.inr.len
  constructor
  · rintro rfl i _; exact co_one i
  · intro h; exact el_ext fun d hd => by rw [co_one]; exact h d (by omega)
/-- The list is an element of the subgroup that the sequence tells. -/
def MemP (p : Pr) (xss : List (List Int)) (xs : List Int) : Prop := ∃ (_ : ConAll p) (ys : List (El p)) (x : El p), xss = vecs ys ∧ xs = x.v ∧ Gen (fun a : El p => a ∈ ys) x
theorem memP_iff {p : Pr} [hc : ConAll p] {ys : List (El p)} {x : El p} : MemP p (vecs ys) x.v ↔ Gen (fun a : El p => a ∈ ys) x := by
  constructor
  · rintro ⟨hc', ys', x', h1, h2, h3⟩
    obtain rfl := vecs_inj h1
    obtain rfl : x = x' := T.ext h2
    exact h3
  · exact fun h => ⟨hc, ys, x, rfl, rfl, h⟩
def MemV (p : Pr) (xss : List (List Int)) (xs : List Int) (b : Bool) (e : Int) : Prop := (b = true ↔ MemP p xss xs) ∧ e = 0
theorem MemV.uniq {p : Pr} {xss : List (List Int)} {xs : List Int} (a b : Bool) (c d : Int) (h : MemV p xss xs a c) (k : MemV p xss xs b d) : a = b ∧ c = d := ⟨bool_eq h.1 k.1, by rw [h.2, k.2]⟩
def SubV (p : Pr) (xss yss : List (List Int)) (b : Bool) (e : Int) : Prop := (b = true ↔ ∀ x, x ∈ xss → MemP p yss x) ∧ e = 0
theorem SubV.uniq {p : Pr} {xss yss : List (List Int)} (a b : Bool) (c d : Int) (h : SubV p xss yss a c) (k : SubV p xss yss b d) : a = b ∧ c = d := ⟨bool_eq h.1 k.1, by rw [h.2, k.2]⟩
theorem subV_iff {p : Pr} [hc : ConAll p] {ys zs : List (El p)} : (∀ x, x ∈ vecs ys → MemP p (vecs zs) x) ↔ ∀ y, y ∈ ys → Gen (fun a : El p => a ∈ zs) y := by
  constructor
  · exact fun h y hy => memP_iff.1 (h y.v (List.mem_map.2 ⟨y, hy, rfl⟩))
  · intro h x hx
    obtain ⟨y, hy, rfl⟩ := List.mem_map.1 hx
    exact memP_iff.2 (h y hy)
/-- Two lists are both sequences of subgroups. -/
def TwoP (p : Pr) (xss yss : List (List Int)) : Prop := IsSubP p xss ∧ IsSubP p yss
end Go.Proofs.YtogbnkombnfknaaGreat

/-
  Answers that are lists: representatives, subgroups.
  Conditions: none.
-/
namespace Go.Proofs.YtogbnkombnfknaaGreat
open Go Go.Pc
def RepV (p : Pr) (xss : List (List Int)) (xs r : List Int) (e : Int) : Prop := (∃ (_ : ConAll p) (ys : List (El p)) (x y : El p), xss = vecs ys ∧ xs = x.v ∧ r = y.v ∧ RepOf ys x y) ∧ e = 0
theorem RepV.uniq {p : Pr} {xss : List (List Int)} {xs : List Int} (hS : IsSubP p xss) (a b : List Int) (c d : Int) (h : RepV p xss xs a c) (k : RepV p xss xs b d) : a = b ∧ c = d := by
  obtain ⟨⟨hc, ys, x, y, h1, h2, h3, h4⟩, h5⟩ := h
  obtain ⟨⟨hc', ys', x', y', k1, k2, k3, k4⟩, k5⟩ := k
  obtain ⟨hG, hq⟩ := hS
  haveI : ConAll p := ⟨hG.con⟩
  obtain ⟨zs, hzs, hse⟩ := isSeq_iff.1 hq
  obtain rfl : ys = zs := vecs_inj (h1.symm.trans hzs)
  obtain rfl : ys' = ys := vecs_inj (k1.symm.trans hzs)
  obtain rfl : x = x' := T.ext (h2.symm.trans k2)
  exact ⟨by rw [h3, k3, RepOf.unique hse h4 k4], by rw [h5, k5]⟩
theorem el_len {p : Pr} (y : El p) : y.v.length = p.ord.length := y.inr.len
theorem CosetRepresentative_sz0 {p : Pr} {xss : List (List Int)} {xs r : List Int} {e : Int} (hl : p.ord.length ≤ 2000000) (h : Ans (IsSubP p xss ∧ InR p xs) (RepV p xss xs) [] r e) : r.length ≤ 2000000 := by
  rcases h with ⟨_, ⟨_, _, _, y, _, _, rfl, _⟩, _⟩ | ⟨_, rfl, _⟩
  · have := el_len y; omega
  · simp
end Go.Proofs.YtogbnkombnfknaaGreat

/-
  Canonical sequences of subgroups: they generate the subgroup, their lengths tell the subgroups apart; closures under conjugation.
  Conditions: the tails at all levels are groups.
-/
namespace Go.Proofs.YtogbnkombnfknaaGreat
open Go Go.Pc Grp
section
variable {p : Pr} [hc : ConAll p] {H K : El p → Prop} {d : Nat}
theorem sub_le_of_dep (hH : Pc.Sub H) (hK : Pc.Sub K) (hle : ∀ a, H a → K a) (hd : ∀ d, Dep K d → Dep H d) : ∀ a, K a → H a := by
  have key : ∀ m d, d ≤ p.n → p.n - d = m → ∀ x, K x → Tl d x → H x := by
    intro m
    induction m with
    | zero =>
      intro d h1 h2 x hx ht
      obtain rfl : d = p.n := by omega
      rw [ht.end_]; exact hH.one
    | succ m ih =>
      intro d h1 h2 x hx ht
      by_cases h0 : co x d = 0
      · exact ih (d + 1) (by omega) (by omega) x hx (ht.succ h0)
      · have hdn : d < p.n := by omega
        obtain ⟨z, hz, hzt, hz1⟩ := dep_one hH (hd d ⟨x, hx, ht, h0⟩)
        have h3 := ih (d + 1) (by omega) (by omega) (x * Grp.pwz z (-(co x d))) (hK.mul _ _ hx (hK.pwz (hle z hz) _)) (strip_step hdn ht hzt hz1)
        exact (hH.right (hH.pwz hz _)).1 h3
  exact fun a ha => key p.n 0 (Nat.zero_le _) (by omega) a ha (Tl.zero a)
theorem canEls_mem {x : El p} : x ∈ canEls H ↔ ∃ d, d < p.n ∧ canT H d = some x := by
  rw [← canElsF_zero, canElsF_mem]
  exact ⟨fun ⟨e, _, h2, h3⟩ => ⟨e, h2, h3⟩, fun ⟨e, h2, h3⟩ => ⟨e, Nat.zero_le _, h2, h3⟩⟩
theorem gen_can (hH : Pc.Sub H) (a : El p) : Gen (fun a : El p => a ∈ canEls H) a ↔ H a := by
  have h1 : ∀ a, Gen (fun a : El p => a ∈ canEls H) a → H a := Gen.le hH fun a ha => by
    obtain ⟨d, _, h⟩ := canEls_mem.1 ha
    exact (canT_some h).mem
  refine ⟨h1 a, sub_le_of_dep (Gen.sub _) hH h1 (fun d hd => ?_) a⟩
  obtain ⟨x, hx⟩ := canT_ex hH hd
  have hca := canT_some hx
  exact ⟨x, .of _ (canEls_mem.2 ⟨d, hd.lt, hx⟩), hca.tl, by rw [hca.lead]; omega⟩
theorem gen_can_eq (hH : Pc.Sub H) : Gen (fun a : El p => a ∈ canEls H) = H := by
  funext a; exact propext (gen_can hH a)
theorem seqEl_can (hH : Pc.Sub H) : SeqEl (canEls H) := ⟨by rw [gen_can_eq hH, canon_vecs]⟩
theorem SeqEl.els {ys : List (El p)} (h : SeqEl ys) : canEls (Gen (fun a : El p => a ∈ ys)) = ys := by
  have := h.eq
  rw [canElsF_zero] at this
  exact this.symm
theorem canT_isSome (hH : Pc.Sub H) : (canT H d).isSome = true ↔ Dep H d := by
  constructor
  · intro h
    cases e : canT H d with
    | none => rw [e] at h; cases h
    | some x => exact (canT_some e).dep
  · intro h
    obtain ⟨x, hx⟩ := canT_ex hH h
    rw [hx]; rfl
theorem canEls_len : (canEls H).length = (List.range p.n).countP fun d => (canT H d).isSome := by
  unfold canEls
  rw [List.length_filterMap_eq_countP]
theorem countP_le_of {α : Type} {f g : α → Bool} : ∀ l : List α, (∀ x, x ∈ l → f x = true → g x = true) → l.countP f ≤ l.countP g
  | [], _ => Nat.le_refl _
  | x :: l, h => by
    have ih := countP_le_of l fun y hy => h y (List.mem_cons_of_mem _ hy)
    have h0 := h x List.mem_cons_self
    simp only [List.countP_cons]
    by_cases hf : f x = true
    · rw [if_pos hf, if_pos (h0 hf)]; omega
    · rw [if_neg hf]; omega
theorem countP_lt_of {α : Type} {f g : α → Bool} : ∀ l : List α, (∀ x, x ∈ l → f x = true → g x = true) → (∃ x, x ∈ l ∧ g x = true ∧ f x = false) → l.countP f < l.countP g
  | [], _, ⟨x, hx, _⟩ => by cases hx
  | x :: l, h, ⟨y, hy, hg, hf⟩ => by
    have hr : ∀ y, y ∈ l → f y = true → g y = true := fun y hy => h y (List.mem_cons_of_mem _ hy)
    have h0 := h x List.mem_cons_self
    simp only [List.countP_cons]
    rcases List.mem_cons.1 hy with rfl | hy
    · have := countP_le_of l hr
      rw [hg, hf]; simp; omega
    · have ih := countP_lt_of l hr ⟨y, hy, hg, hf⟩
      by_cases hfx : f x = true
      · rw [if_pos hfx, if_pos (h0 hfx)]; omega
      · rw [if_neg hfx]; omega
theorem can_len_le (hH : Pc.Sub H) (hK : Pc.Sub K) (hle : ∀ a, H a → K a) : (canEls H).length ≤ (canEls K).length := by
  rw [canEls_len, canEls_len]
  refine countP_le_of _ fun d _ h => ?_
  obtain ⟨x, h1, h2, h3⟩ := (canT_isSome hH).1 h
  exact (canT_isSome hK).2 ⟨x, hle x h1, h2, h3⟩
theorem same_of_len (hH : Pc.Sub H) (hK : Pc.Sub K) (hle : ∀ a, H a → K a) (hl : (canEls K).length ≤ (canEls H).length) : ∀ a, K a → H a := by
  refine sub_le_of_dep hH hK hle fun d hd => ?_
  by_cases hn : Dep H d
  · exact hn
  exfalso
  rw [canEls_len, canEls_len] at hl
  have := countP_lt_of (f := fun d => (canT H d).isSome) (g := fun d => (canT K d).isSome) (List.range p.n) (fun e _ h => by
    obtain ⟨x, h1, h2, h3⟩ := (canT_isSome hH).1 h
    exact (canT_isSome hK).2 ⟨x, hle x h1, h2, h3⟩) ⟨d, List.mem_range.2 hd.lt, (canT_isSome hK).2 hd, by
      cases e : (canT H d).isSome with
      | false => rfl
      | true => exact absurd ((canT_isSome hH).1 e) hn⟩
  omega
/-- The smallest subgroup that contains S and is closed under conjugation by the elements of B. -/
inductive Clo {G : Type} [Grp G] (S B : G → Prop) : G → Prop
  | of (a : G) : S a → Clo S B a
  | one : Clo S B 1
  | mul (a b : G) : Clo S B a → Clo S B b → Clo S B (a * b)
  | inv (a : G) : Clo S B a → Clo S B a⁻¹
  | cj (a b : G) : Clo S B a → B b → Clo S B (Grp.cj a b)
theorem Clo.sub {G : Type} [Grp G] (S B : G → Prop) : Pc.Sub (Clo S B) := ⟨.one, fun _ _ => .mul _ _, fun _ => .inv _⟩
theorem Clo.le {G : Type} [Grp G] {S B K : G → Prop} (hK : Pc.Sub K) (h : ∀ a, S a → K a) (hcj : ∀ a b, K a → B b → K (Grp.cj a b)) : ∀ a, Clo S B a → K a := by
  intro a ha
  induction ha with
  | of a ha => exact h a ha
  | one => exact hK.one
  | mul a b _ _ i1 i2 => exact hK.mul _ _ i1 i2
  | inv a _ i1 => exact hK.inv _ i1
  | cj a b _ hb i1 => exact hcj _ _ i1 hb
/-- What conjugation does to the elements of a set it does to the subgroup. -/
theorem Gen.cj_closed {G : Type} [Grp G] {S K : G → Prop} {b : G} (hK : Pc.Sub K) (h : ∀ a, S a → K (Grp.cj a b)) : ∀ a, Gen S a → K (Grp.cj a b) := by
  intro a ha
  induction ha with
  | of a ha => exact h a ha
  | one => rw [Grp.cj_one]; exact hK.one
  | mul a b _ _ i1 i2 => rw [Grp.cj_mul]; exact hK.mul _ _ i1 i2
  | inv a _ i1 => rw [Grp.cj_inv]; exact hK.inv _ i1
theorem gen_eq_clo {S B : El p → Prop} (h : ∀ a b, S a → B b → Gen S (Grp.cj a b)) : Clo S B = Gen S := by
  funext a
  refine propext ⟨Clo.le (Gen.sub S) (fun a ha => .of a ha) (fun a b ha hb => Gen.cj_closed (Gen.sub S) (fun a ha => h a b ha hb) a ha) a, Gen.le (Clo.sub S B) (fun a ha => .of a ha) a⟩
/-- The closure is the same for whatever generates the same subgroup. -/
theorem clo_congr {S S' B : El p → Prop} (h : ∀ a, S a → Gen S' a) (h' : ∀ a, S' a → Gen S a) : Clo S B = Clo S' B := by
  have key : ∀ {S S' : El p → Prop}, (∀ a, S a → Gen S' a) → ∀ a, Clo S B a → Clo S' B a := fun {S S'} h =>
    Clo.le (Clo.sub S' B) (fun a ha => Gen.le (Clo.sub S' B) (fun b hb => .of b hb) a (h a ha)) fun a b ha hb => .cj a b ha hb
  funext a
  exact propext ⟨key h a, key h' a⟩
theorem clo_can {S B : El p → Prop} : Clo (fun a : El p => a ∈ canEls (Gen S)) B = Clo S B := by
  refine clo_congr (fun a ha => ?_) (fun a ha => ?_)
  · obtain ⟨d, _, hd⟩ := canEls_mem.1 ha
    exact (canT_some hd).mem
  · rw [gen_can_eq (Gen.sub S)]; exact .of a ha
/-- The commutators of two lists. -/
noncomputable def commsL2 (ys zs : List (El p)) : List (El p) := ys.flatMap fun y => zs.map (Grp.cm y)
noncomputable def CommC (ys zs : List (El p)) : El p → Prop := Clo (fun a : El p => a ∈ commsL2 ys zs) (fun a : El p => a ∈ ys ++ zs)
theorem commsL2_succ {ys zs : List (El p)} {i : Nat} (hi : i < ys.length) : commsL2 (ys.take (i + 1)) zs = commsL2 (ys.take i) zs ++ zs.map (Grp.cm ys[i]) := by
  unfold commsL2
  rw [List.take_succ_eq_append_getElem hi, List.flatMap_append]
  simp
end
end Go.Proofs.YtogbnkombnfknaaGreat

/-
  Walks: the reference's depth, order, table, reduction, representative and membership (l02Lead, l12Depth, l12Order).
  Conditions: stated at each theorem.
-/
namespace Go.Proofs.YtogbnkombnfknaaGreat
open Go Go.Pc
set_option maxHeartbeats 400000 in
theorem l02Lead_ok {w : World} {v : Value} {xs : List Int} {lo hi : Nat} [hx : Ints lo hi w v xs] (hl : xs.length ≤ 2000000) :
    Calls Tryz.prog 152 #[v] w (Ret fun v w' => v = .int .i64 (lead xs) ∧ Ext w w') := by
  refine enter (args := [v]) (l := [.tmp 2]) Tryz.func152 rfl rfl Tryz.ntmps152 (by simp) ?_
  refine go ?_
  refine r_for xs.length (fun k ρ w' => Has ρ [(0, v), (3, .int .i64 k)] ∧ Ext w w' ∧ ∀ i, i < k → xs.getD i 0 = 0) ?_ ?_
  · refine ⟨?_, Ext.refl _, fun i hi => by omega⟩
    exact hasP
  rintro k ρ w2 hk ⟨hH, he2, hI⟩
  refine rwp_has hH fun ρ0 => ?_
  refine go ?_
  refine c_if (fun h4 => ?_) (fun h4 => ?_)
  · refine go ?_
    refine c_if (fun h5 => ?_) (fun h5 => ?_)
    · refine go ?_
      exact ret1 ⟨by rw [lead_eq hI h5], he2⟩
    · refine go ?_
      refine forQ_normal (by omega) ⟨?_, he2, fun i hi => ?_⟩
      · exact hasP
      · by_cases e : i = k
        · subst e; exact Decidable.not_not.1 h5
        · exact hI i (by omega)
  · refine go ?_
    exact ret1 ⟨by rw [lead_len fun i hi => hI i (by omega)], he2⟩
theorem l12Depth_ok {w : World} {v : Value} {xs : List Int} {lo hi : Nat} [hx : Ints lo hi w v xs] (hl : xs.length ≤ 2000000) :
    Calls Tryz.prog 134 #[v] w (Ret fun v w' => v = .int .i64 (lead xs) ∧ Ext w w') := by
  refine enter (args := [v]) (l := [.tmp 2]) Tryz.func134 rfl rfl Tryz.ntmps134 (by simp) ?_
  refine go ?_
  refine rc (l02Lead_ok (xs := xs) hl) (next := fun v1 w1 h1 => ?_)
  obtain ⟨rfl, he1⟩ := h1
  refine go ?_
  exact ret1 ⟨rfl, he1⟩
/-- The order of a list that is a sequence. -/
def ordOfL (p : Pr) (xss : List (List Int)) : Int := xss.foldl (fun a x => a * p.o (lead x)) 1
theorem ordOfL_vecs {p : Pr} (ys : List (El p)) : ordOfL p (vecs ys) = ordOf p ys := by
  unfold ordOfL ordOf vecs
  rw [List.foldl_map]
/-- The answer of SubgroupOrder. -/
def OrdAns (p : Pr) (xss : List (List Int)) (k e : Int) : Prop := (IsSubP p xss ∧ k = ordOfL p xss ∧ e = 0) ∨ (¬ IsSubP p xss ∧ k = 0 ∧ e = 1)
theorem OrdAns.same {p : Pr} {xss : List (List Int)} {k e k' e' : Int} (h : OrdAns p xss k e) (h' : OrdAns p xss k' e') : k' = k ∧ e' = e := by
  rcases h with ⟨h1, h2, h3⟩ | ⟨h1, h2, h3⟩ <;> rcases h' with ⟨k1, k2, k3⟩ | ⟨k1, k2, k3⟩
  · exact ⟨by rw [h2, k2], by rw [h3, k3]⟩
  · exact absurd h1 k1
  · exact absurd k1 h1
  · exact ⟨by rw [h2, k2], by rw [h3, k3]⟩
end Go.Proofs.YtogbnkombnfknaaGreat

/-
  More rules: a slice value stored in a drawn region; a slice of two values.
  Conditions: none; nothing of the program stands here.
-/
namespace Go.Pc
open Go Go.RowKit
theorem Sl.le_max {lo hi : Nat} {w : World} {v : Value} {us : List Value} (h : Sl lo hi w v us) : us.length ≤ 9223372036854775807 := by
  obtain ⟨A, c, _, hc, hm, _⟩ := h.ex
  omega
theorem Ints.nilR (lo hi : Nat) (w : World) : Ints lo hi w nilv [] := ⟨⟨none, 0, rfl, Nat.le_refl _, by omega, fun k u hu => by simp at hu⟩⟩
theorem Fr.nilR (s : Nat) (w : World) : Fr s w nilv [] := ⟨Ints.nilR _ _ _, fun h => absurd rfl h⟩
theorem Rows.nilR (lo hi : Nat) (w : World) : Rows lo hi w nilv [] [] := ⟨⟨none, 0, rfl, Nat.le_refl _, by omega, fun k u hu => by simp at hu⟩, rfl, fun j => by simpa using Ints.nilR lo hi w⟩
theorem MatO.nilR (s t : Nat) (w : World) : MatO s t w nilv [] := ⟨Rows.nilR _ _ _, RowsO.nil _ _, fun b hb => absurd hb (blkOf_nil b), ⟨0, 0, ⟨none, 0, rfl, Nat.le_refl _, by omega, fun k u hu => by simp at hu⟩, fun b _ => .inr (Nat.zero_le _)⟩⟩
section
variable {P : Program} {N : Nat} {ops : Array Oper} {π : List Nat} {K : Env → World → Prop} {ρ : Env} {w w0 : World} {l : List Oper}
variable {i : Nat} {ty : TypeId} {pos : String} {after : Array Edge} {g : Option (Nat × Bool)} {d : Nat}
theorem z_store_val {e b t m bytes : Nat} {x y : Operand} {v u z : Value} {us : List Value} [he : ElT P t 1 bytes z] [h : Own e b w v us] (hi : opAt ops π i = some ⟨none, .store t x y, ty, pos, after, g⟩ := by exact rfl) (hx : ev ρ x = eptr v m) (hy : ev ρ y = u) (hu : u.oneCell' = true) (hm : m < us.length)
    (next : ∀ w', Chg b w w' → w'.heap.size = w.heap.size → Own e b w' v (us.set m u) → dops P N ops π (Chg b w0) K (i + 1) ρ w')
    (hn : nextOk ops π i = true := by decide +kernel) (hg : Wants ops ρ g := by first | exact True.intro | exact ⟨_, rfl, by ((try simp only [ev_tmp, ev_const, ev_func, get_put, get_args, get_putL, get_putL_nil, Nat.reduceEqDiff, reduceIte, List.getD_cons_zero, List.getD_cons_succ, List.getD_nil, Bool.not_true, Bool.not_false]); first | done | with_reducible rfl)⟩) : dops P N ops π (Chg b w0) K i ρ w := by
  have hs := setCell_own h (m := m) u
  exact z_wr hi hn hg (wr_store (P := P) (ρ := ρ) (ty := ty) (t := t) (h := h) hx hy hu hm) (fun h => h.trans hs.2.1) (next _ hs.2.1 hs.2.2 hs.1)
theorem st_slice2 {t e bytes : Nat} {x y : Operand} {u v z : Value} [ht : SlT P t e] [he : ElT P e 1 bytes z] (h : ev ρ x = u) (k : ev ρ y = v) (hu : u.cells = #[u]) (hv : v.cells = #[v]) (hz : z.cells = #[z]) (hg : Wants ops ρ g)
    (next : ∀ w' s, Ext w w' → w'.heap.size = w.heap.size + 2 - 1 → Sl w.heap.size (w.heap.size + 1) w' s [u, v] → rops P N ops K l (put ρ d s) w') : rops P N ops K (⟨some d, .buildSlice t 2 #[(0, x), (1, y)], ty, pos, after, g⟩ :: l) ρ w := by
  obtain ⟨i, hi, hs, hby, hz'⟩ := he.ex
  refine st_ex (v := .slice (some ⟨w.heap.size, 0, none⟩) 2 2) (w' := w.alloc (.cells #[u, v] e)) hg ⟨fun _ _ _ _ => ?_⟩ (next _ _ (Ext.alloc _ _) (by simp) ?_)
  · simp [execOp, h, k, Instr.buildSlice, run_underlying ht.eq, sizeOf, typeInfo, hi, hs, zeroValue, hz', hz, Instr.fill, hu, hv, newRow]
    refine congrArg (fun a => w.alloc (Obj.cells a e)) (Array.ext (by simp) fun j h1 h2 => ?_)
    have : j = 0 ∨ j = 1 := by simp at h2; omega
    rcases this with rfl | rfl <;> simp
  · have := own_alloc w [u, v] e (by simp [maxLen])
    simpa using this.toSl
end
end Go.Pc

/-
  Lists that grow by one row, or by one number, at a time: 'out = append(out, x)'.
  Conditions: none; nothing of the program stands here.
-/
namespace Go.Pc
open Go Go.RowKit
/-- What one append has done. -/
structure GStep (w w' : World) (v v' : Value) : Prop where
  ex : ∃ w2, Ext w w2 ∧ w2.grownBy w' v.ownBlock ∧ (v'.ownBlock = v.ownBlock ∨ v'.ownBlock = some w2.heap.size)
theorem IntsAp.gstep {w w' : World} {v v' u : Value} {xs : List Int} (h : IntsAp (fun g => v.ownBlock = some g) w u xs) (k : GStep w w' v v') : IntsAp (fun g => v'.ownBlock = some g) w' u xs := by
  obtain ⟨w2, x, hg, hv⟩ := k.ex
  exact (h.ext x).beside hg (fun g e => e) fun g hg' => by
    rcases hv with e | e
    · rw [e] at hg'; exact .inl hg'
    · rw [e] at hg'; injection hg' with hg'; exact .inr hg'.symm
structure GrowL (e s : Nat) (w : World) (v : Value) (rs : List (Value × List Int)) : Prop where
  lst : Lst e s (· < s) w v (rs.map (·.1)) (rs.map (·.2))
  own : RowsO s w rs
class GrowI (e s : outParam Nat) (w : World) (v : Value) (xs : outParam (List Int)) : Prop where
  own : OwnN e s w v (xs.map (Value.int .i64))
section
variable {av : Nat → Prop} {e s : Nat} {w w' w0 w1 w2 w3 : World} {v v' u : Value} {xs : List Int} {rs : List (Value × List Int)}
theorem Lst.off (h : Lst e s av w v (rs.map (·.1)) (rs.map (·.2))) (hO : RowsO s w rs) {b : Nat} (hb : BlkOf rs b) : v.ownBlock ≠ some b := by
  intro hv
  obtain ⟨r, hr1, hn, eb⟩ := hb
  obtain ⟨i, hi, rfl⟩ := List.getElem_of_mem hr1
  obtain ⟨te, g, _, ho⟩ := (hO.fr _ hr1).own hn
  have hg := ho.block
  rw [eb] at hg; injection hg with hg; subst hg
  obtain ⟨lo, hi', h1, h2, h3⟩ := h.rows.at_ i
  have e1 : (rs.map (·.1)).getD i nilv = rs[i].1 := by simp [hi]
  have e2 : (rs.map (·.2)).getD i [] = rs[i].2 := by simp [hi]
  rw [e1, e2] at h1
  have h4 := ho.sl_in hn h1
  have h5 := h3 b (.inr hv)
  omega
theorem Wrt.grown {ob : Option Nat} (h : w.grownBy w' ob) : Wrt (fun b => ob = some b) w w' := by
  cases ob with
  | none =>
    exact .ofExt ⟨(Below.refl _ _).grown h (Nat.le_refl _) (fun k hk => by cases hk)⟩
  | some b => exact .one rfl ⟨h⟩
theorem GrowL.nil (e s : Nat) (w : World) (hs : s ≤ w.heap.size) : GrowL e s w nilv [] := ⟨Lst.nil _ _ _ (fun g hg => by omega), RowsO.nil _ _⟩
theorem GrowL.start {b : Nat} (h : Own e b w v []) (hb : s ≤ b) : GrowL e s w v [] := ⟨Lst.start h hb (by omega) (fun g hg => by have := h.lt; omega), RowsO.nil _ _⟩
theorem GrowL.ext (h : GrowL e s w v rs) (x : Ext w w') : GrowL e s w' v rs := ⟨h.lst.ext x, h.own.ext x⟩
theorem GrowL.rows (h : GrowL e s w v rs) : Rows s w.heap.size w v (rs.map (·.1)) (rs.map (·.2)) := h.lst.newRows
theorem GrowL.mat (h : GrowL e s w v rs) : MatO s w.heap.size w v rs := MatO.ofLst h.lst h.own h.lst.newRows
theorem GrowL.push (h : GrowL e s w0 v rs) (x01 : Ext w0 w1) (hu : Fr w0.heap.size w1 u xs) (hs : s ≤ w0.heap.size) (x12 : Ext w1 w2)
    (ho : OwnN e s w3 v' (rs.map (·.1) ++ [u])) (hg : w2.grownBy w3 v.ownBlock) (hv : v'.ownBlock = v.ownBlock ∨ v'.ownBlock = some w2.heap.size) : GrowL e s w3 v' (rs ++ [(u, xs)]) := by
  have h1 := (h.lst.ext (x01.trans x12)).push (IntsAp.ofFr (hu.ext' x12) (fun g hg => by
    rcases hg with hg | hg
    · omega
    · exact (h.lst.lt hg).2)) ho hg hv
  have h2 := (h.own.push x01 hs hu).ext x12
  refine ⟨by simpa using h1, h2.wr (Wrt.grown hg) fun b hb hB => ?_⟩
  rcases blkOf_append'.1 hb with hb | ⟨r, hr, hn, eb⟩
  · exact h.lst.off h.own hb hB
  · obtain rfl := List.mem_singleton.1 hr
    obtain ⟨g, e1, e2, _⟩ := hu.block hn
    rw [eb] at e1; injection e1 with e1
    have := (h.lst.lt hB).2
    omega
theorem GrowI.nil (e s : Nat) (w : World) : GrowI e s w nilv [] := ⟨OwnN.nil _ _ _⟩
theorem GrowI.start {b : Nat} (h : Own e b w v []) (hb : s ≤ b) : GrowI e s w v [] := ⟨h.toN.mono hb⟩
instance (priority := low) GrowI.ext [x : Ext w w'] [h : GrowI e s w v xs] : GrowI e s w' v xs := ⟨@OwnN.ext _ _ _ _ _ _ x h.own⟩
theorem GrowI.fr (h : GrowI e s w v xs) : Fr s w v xs := h.own.toFr
end
section
variable {P : Program} {N : Nat} {ops : Array Oper} {π : List Nat} {K : Env → World → Prop} {ρ : Env} {w w0 w1 w00 : World} {l : List Oper}
variable {i : Nat} {ty ty2 : TypeId} {pos pos2 : String} {after after2 : Array Edge} {g g2 : Option (Nat × Bool)} {d d2 : Nat}
theorem st_grow {s x : Operand} {t e bytes sb : Nat} {z v u : Value} {xs : List Int} {rs : List (Value × List Int)} [ht : SlT P t e] [he : ElT P e 1 bytes z] (hG : GrowL e sb w0 v rs) (x01 : Ext w0 w1) (hu : Fr w0.heap.size w1 u xs) (hs0 : sb ≤ w0.heap.size)
    (hn : rs.length ≤ 1000000) (next : ∀ v1 v' w', GrowL e sb w' v' (rs ++ [(u, xs)]) → (∀ wb, Ext wb w1 → wb.heap.size ≤ sb → Ext wb w') → w1.heap.size ≤ w'.heap.size → GStep w1 w' v v' → rops P N ops K l (put (put ρ d v1) d2 v') w')
    (hx : ev ρ x = u := by ((try simp only [ev_tmp, ev_const, ev_func, get_put, get_args, get_putL, get_putL_nil, Nat.reduceEqDiff, reduceIte, List.getD_cons_zero, List.getD_cons_succ, List.getD_nil]); first | done | with_reducible rfl)) (hs : ∀ v1, ev (put ρ d v1) s = v := by intro v1; ((try simp only [ev_tmp, ev_const, ev_func, get_put, get_args, get_putL, get_putL_nil, Nat.reduceEqDiff, reduceIte, List.getD_cons_zero, List.getD_cons_succ, List.getD_nil]); first | done | with_reducible rfl)) (hd : ∀ v1, ev (put ρ d v1) (.tmp d) = v1 := by intro v1; ((try simp only [ev_tmp, ev_const, ev_func, get_put, get_args, get_putL, get_putL_nil, Nat.reduceEqDiff, reduceIte, List.getD_cons_zero, List.getD_cons_succ, List.getD_nil]); first | done | with_reducible rfl)) (hz : z.cells = #[z] := by rfl) (hby : bytes ≤ 100 := by decide) (hg1 : Wants ops ρ g := by first | exact True.intro | exact ⟨_, rfl, by ((try simp only [ev_tmp, ev_const, ev_func, get_put, get_args, get_putL, get_putL_nil, Nat.reduceEqDiff, reduceIte, List.getD_cons_zero, List.getD_cons_succ, List.getD_nil, Bool.not_true, Bool.not_false]); first | done | with_reducible rfl)⟩) (hg2 : ∀ v1, Wants ops (put ρ d v1) g2 := by intro v1; first | exact True.intro | exact ⟨_, rfl, by ((try simp only [ev_tmp, ev_const, ev_func, get_put, get_args, get_putL, get_putL_nil, Nat.reduceEqDiff, reduceIte, List.getD_cons_zero, List.getD_cons_succ, List.getD_nil, Bool.not_true, Bool.not_false]); first | done | with_reducible rfl)⟩) :
    rops P N ops K (⟨some d, .buildSlice t 1 #[(0, x)], ty, pos, after, g⟩ :: ⟨some d2, .call { callee := .builtin .append, args := #[s, .tmp d], argTypes := #[t, t] }, ty2, pos2, after2, g2⟩ :: l) ρ w1 := by
  refine st_slice1 (u := u) hx hu.ints.sl.cells hz hg1 fun w2 v2 he2 hs2 ho2 => ?_
  have hO := (hG.lst.ext (x01.trans he2)).own
  have hz1 := x01.size
  have hz2 := he2.size
  have hb : (rs.length + 1) * bytes ≤ 1000001 * 100 := Nat.mul_le_mul (by omega) hby
  refine st_append (hv := hO) (hy := ho2) (hs v2) (hd v2) (by rw [hz]; rfl) ?_ ?_ ?_ ?_ (hg2 v2) fun v3 w3 ho3 hg3 ha3 => ?_
  · intro a ha
    rw [List.mem_singleton.1 ha]; exact hu.ints.sl.one
  · simp only [List.length_map, List.length_singleton]; omega
  · simp only [List.length_map, List.length_singleton, maxLen]; omega
  · omega
  · exact next v2 v3 w3 (hG.push x01 hu hs0 he2 ho3 hg3 ha3) (fun wb hb1 hb2 => (hb1.trans he2).app hg3 (fun k hk => by have := (hG.lst.lt hk).1; omega)) (Nat.le_trans hz2 hg3.size) ⟨w2, he2, hg3, ha3⟩
theorem z_grow {s x : Operand} {b t e bytes sb : Nat} {z v u : Value} {xs : List Int} {rs : List (Value × List Int)} [ht : SlT P t e] [he : ElT P e 1 bytes z] (hG : GrowL e sb w0 v rs) (x01 : Ext w0 w1) (hu : Fr w0.heap.size w1 u xs) (hs0 : sb ≤ w0.heap.size)
    (hn : rs.length ≤ 1000000) (hvb : ∀ g, v.ownBlock = some g → g = b) (hi1 : opAt ops π i = some ⟨some d, .buildSlice t 1 #[(0, x)], ty, pos, after, g⟩ := by exact rfl) (hi2 : opAt ops π (i + 1) = some ⟨some d2, .call { callee := .builtin .append, args := #[s, .tmp d], argTypes := #[t, t] }, ty2, pos2, after2, g2⟩ := by exact rfl)
    (next : ∀ v1 v' w', GrowL e sb w' v' (rs ++ [(u, xs)]) → (∀ wb, Ext wb w1 → wb.heap.size ≤ sb → Ext wb w') → w1.heap.size ≤ w'.heap.size → GStep w1 w' v v' → dops P N ops π (Chg b w00) K (i + 1 + 1) (put (put ρ d v1) d2 v') w')
    (hx : ev ρ x = u := by ((try simp only [ev_tmp, ev_const, ev_func, get_put, get_args, get_putL, get_putL_nil, Nat.reduceEqDiff, reduceIte, List.getD_cons_zero, List.getD_cons_succ, List.getD_nil]); first | done | with_reducible rfl)) (hs : ∀ v1, ev (put ρ d v1) s = v := by intro v1; ((try simp only [ev_tmp, ev_const, ev_func, get_put, get_args, get_putL, get_putL_nil, Nat.reduceEqDiff, reduceIte, List.getD_cons_zero, List.getD_cons_succ, List.getD_nil]); first | done | with_reducible rfl)) (hd : ∀ v1, ev (put ρ d v1) (.tmp d) = v1 := by intro v1; ((try simp only [ev_tmp, ev_const, ev_func, get_put, get_args, get_putL, get_putL_nil, Nat.reduceEqDiff, reduceIte, List.getD_cons_zero, List.getD_cons_succ, List.getD_nil]); first | done | with_reducible rfl)) (hz : z.cells = #[z] := by rfl) (hby : bytes ≤ 100 := by decide) (hg1 : Wants ops ρ g := by first | exact True.intro | exact ⟨_, rfl, by ((try simp only [ev_tmp, ev_const, ev_func, get_put, get_args, get_putL, get_putL_nil, Nat.reduceEqDiff, reduceIte, List.getD_cons_zero, List.getD_cons_succ, List.getD_nil, Bool.not_true, Bool.not_false]); first | done | with_reducible rfl)⟩) (hg2 : ∀ v1, Wants ops (put ρ d v1) g2 := by intro v1; first | exact True.intro | exact ⟨_, rfl, by ((try simp only [ev_tmp, ev_const, ev_func, get_put, get_args, get_putL, get_putL_nil, Nat.reduceEqDiff, reduceIte, List.getD_cons_zero, List.getD_cons_succ, List.getD_nil, Bool.not_true, Bool.not_false]); first | done | with_reducible rfl)⟩)
    (hn1 : nextOk ops π i = true := by decide +kernel) (hn2 : nextOk ops π (i + 1) = true := by decide +kernel) (hd1 : d < N := by decide) (hd2 : d2 < N := by decide) :
    dops P N ops π (Chg b w00) K i ρ w1 := by
  refine z_slice1 (u := u) hi1 hx hu.ints.sl.cells hz (fun w2 v2 he2 hs2 ho2 => ?_) hn1 hd1 hg1
  have hO := (hG.lst.ext (x01.trans he2)).own
  have hz1 := x01.size
  have hz2 := he2.size
  have hb : (rs.length + 1) * bytes ≤ 1000001 * 100 := Nat.mul_le_mul (by omega) hby
  refine z_append (hv := hO) (hy := ho2) hi2 (hs v2) (hd v2) (by rw [hz]; rfl) ?_ ?_ ?_ ?_ hvb (fun v3 w3 ho3 hg3 ha3 => ?_) hn2 hd2 (hg2 v2)
  · intro a ha
    rw [List.mem_singleton.1 ha]; exact hu.ints.sl.one
  · simp only [List.length_map, List.length_singleton]; omega
  · simp only [List.length_map, List.length_singleton, maxLen]; omega
  · omega
  · exact next v2 v3 w3 (hG.push x01 hu hs0 he2 ho3 hg3 ha3) (fun wb hb1 hb2 => (hb1.trans he2).app hg3 (fun k hk => by have := (hG.lst.lt hk).1; omega)) (Nat.le_trans hz2 hg3.size) ⟨w2, he2, hg3, ha3⟩
theorem st_growi {s x : Operand} {t e bytes sb : Nat} {z v : Value} {k : Int} {xs : List Int} [ht : SlT P t e] [he : ElT P e 1 bytes z] (hG : GrowI e sb w1 v xs) (hs0 : sb ≤ w1.heap.size)
    (hn : xs.length ≤ 1000000) (next : ∀ v1 v' w', GrowI e sb w' v' (xs ++ [k]) → (∀ wb, Ext wb w1 → wb.heap.size ≤ sb → Ext wb w') → w1.heap.size ≤ w'.heap.size → GStep w1 w' v v' → rops P N ops K l (put (put ρ d v1) d2 v') w')
    (hx : ev ρ x = .int .i64 k := by ((try simp only [ev_tmp, ev_const, ev_func, get_put, get_args, get_putL, get_putL_nil, Nat.reduceEqDiff, reduceIte, List.getD_cons_zero, List.getD_cons_succ, List.getD_nil]); first | done | with_reducible rfl)) (hs : ∀ v1, ev (put ρ d v1) s = v := by intro v1; ((try simp only [ev_tmp, ev_const, ev_func, get_put, get_args, get_putL, get_putL_nil, Nat.reduceEqDiff, reduceIte, List.getD_cons_zero, List.getD_cons_succ, List.getD_nil]); first | done | with_reducible rfl)) (hd : ∀ v1, ev (put ρ d v1) (.tmp d) = v1 := by intro v1; ((try simp only [ev_tmp, ev_const, ev_func, get_put, get_args, get_putL, get_putL_nil, Nat.reduceEqDiff, reduceIte, List.getD_cons_zero, List.getD_cons_succ, List.getD_nil]); first | done | with_reducible rfl)) (hz : z.cells = #[z] := by rfl) (hby : bytes ≤ 100 := by decide) (hg1 : Wants ops ρ g := by first | exact True.intro | exact ⟨_, rfl, by ((try simp only [ev_tmp, ev_const, ev_func, get_put, get_args, get_putL, get_putL_nil, Nat.reduceEqDiff, reduceIte, List.getD_cons_zero, List.getD_cons_succ, List.getD_nil, Bool.not_true, Bool.not_false]); first | done | with_reducible rfl)⟩) (hg2 : ∀ v1, Wants ops (put ρ d v1) g2 := by intro v1; first | exact True.intro | exact ⟨_, rfl, by ((try simp only [ev_tmp, ev_const, ev_func, get_put, get_args, get_putL, get_putL_nil, Nat.reduceEqDiff, reduceIte, List.getD_cons_zero, List.getD_cons_succ, List.getD_nil, Bool.not_true, Bool.not_false]); first | done | with_reducible rfl)⟩) :
    rops P N ops K (⟨some d, .buildSlice t 1 #[(0, x)], ty, pos, after, g⟩ :: ⟨some d2, .call { callee := .builtin .append, args := #[s, .tmp d], argTypes := #[t, t] }, ty2, pos2, after2, g2⟩ :: l) ρ w1 := by
  refine st_slice1 (u := .int .i64 k) hx rfl hz hg1 fun w2 v2 he2 hs2 ho2 => ?_
  have hO : OwnN e sb w2 v (xs.map (Value.int .i64)) := @OwnN.ext _ _ _ _ _ _ he2 hG.own
  have hz2 := he2.size
  have hb : (xs.length + 1) * bytes ≤ 1000001 * 100 := Nat.mul_le_mul (by omega) hby
  refine st_append (hv := hO) (hy := ho2) (hs v2) (hd v2) (by rw [hz]; rfl) ?_ ?_ ?_ ?_ (hg2 v2) fun v3 w3 ho3 hg3 ha3 => ?_
  · intro a ha
    rw [List.mem_singleton.1 ha]; rfl
  · simp only [List.length_map, List.length_singleton]; omega
  · simp only [List.length_map, List.length_singleton, maxLen]; omega
  · omega
  · exact next v2 v3 w3 ⟨by simpa using ho3⟩ (fun wb hb1 hb2 => (hb1.trans he2).app hg3 (fun k hk => by have := (hO.lt k hk).1; omega)) (Nat.le_trans hz2 hg3.size) ⟨w2, he2, hg3, ha3⟩
theorem z_growi {s x : Operand} {b t e bytes sb : Nat} {z v : Value} {k : Int} {xs : List Int} [ht : SlT P t e] [he : ElT P e 1 bytes z] (hG : GrowI e sb w1 v xs) (hs0 : sb ≤ w1.heap.size)
    (hn : xs.length ≤ 1000000) (hvb : ∀ g, v.ownBlock = some g → g = b) (hi1 : opAt ops π i = some ⟨some d, .buildSlice t 1 #[(0, x)], ty, pos, after, g⟩ := by exact rfl) (hi2 : opAt ops π (i + 1) = some ⟨some d2, .call { callee := .builtin .append, args := #[s, .tmp d], argTypes := #[t, t] }, ty2, pos2, after2, g2⟩ := by exact rfl)
    (next : ∀ v1 v' w', GrowI e sb w' v' (xs ++ [k]) → (∀ wb, Ext wb w1 → wb.heap.size ≤ sb → Ext wb w') → w1.heap.size ≤ w'.heap.size → GStep w1 w' v v' → dops P N ops π (Chg b w00) K (i + 1 + 1) (put (put ρ d v1) d2 v') w')
    (hx : ev ρ x = .int .i64 k := by ((try simp only [ev_tmp, ev_const, ev_func, get_put, get_args, get_putL, get_putL_nil, Nat.reduceEqDiff, reduceIte, List.getD_cons_zero, List.getD_cons_succ, List.getD_nil]); first | done | with_reducible rfl)) (hs : ∀ v1, ev (put ρ d v1) s = v := by intro v1; ((try simp only [ev_tmp, ev_const, ev_func, get_put, get_args, get_putL, get_putL_nil, Nat.reduceEqDiff, reduceIte, List.getD_cons_zero, List.getD_cons_succ, List.getD_nil]); first | done | with_reducible rfl)) (hd : ∀ v1, ev (put ρ d v1) (.tmp d) = v1 := by intro v1; ((try simp only [ev_tmp, ev_const, ev_func, get_put, get_args, get_putL, get_putL_nil, Nat.reduceEqDiff, reduceIte, List.getD_cons_zero, List.getD_cons_succ, List.getD_nil]); first | done | with_reducible rfl)) (hz : z.cells = #[z] := by rfl) (hby : bytes ≤ 100 := by decide) (hg1 : Wants ops ρ g := by first | exact True.intro | exact ⟨_, rfl, by ((try simp only [ev_tmp, ev_const, ev_func, get_put, get_args, get_putL, get_putL_nil, Nat.reduceEqDiff, reduceIte, List.getD_cons_zero, List.getD_cons_succ, List.getD_nil, Bool.not_true, Bool.not_false]); first | done | with_reducible rfl)⟩) (hg2 : ∀ v1, Wants ops (put ρ d v1) g2 := by intro v1; first | exact True.intro | exact ⟨_, rfl, by ((try simp only [ev_tmp, ev_const, ev_func, get_put, get_args, get_putL, get_putL_nil, Nat.reduceEqDiff, reduceIte, List.getD_cons_zero, List.getD_cons_succ, List.getD_nil, Bool.not_true, Bool.not_false]); first | done | with_reducible rfl)⟩)
    (hn1 : nextOk ops π i = true := by decide +kernel) (hn2 : nextOk ops π (i + 1) = true := by decide +kernel) (hd1 : d < N := by decide) (hd2 : d2 < N := by decide) :
    dops P N ops π (Chg b w00) K i ρ w1 := by
  refine z_slice1 (u := .int .i64 k) hi1 hx rfl hz (fun w2 v2 he2 hs2 ho2 => ?_) hn1 hd1 hg1
  have hO : OwnN e sb w2 v (xs.map (Value.int .i64)) := @OwnN.ext _ _ _ _ _ _ he2 hG.own
  have hz2 := he2.size
  have hb : (xs.length + 1) * bytes ≤ 1000001 * 100 := Nat.mul_le_mul (by omega) hby
  refine z_append (hv := hO) (hy := ho2) hi2 (hs v2) (hd v2) (by rw [hz]; rfl) ?_ ?_ ?_ ?_ hvb (fun v3 w3 ho3 hg3 ha3 => ?_) hn2 hd2 (hg2 v2)
  · intro a ha
    rw [List.mem_singleton.1 ha]; rfl
  · simp only [List.length_map, List.length_singleton]; omega
  · simp only [List.length_map, List.length_singleton, maxLen]; omega
  · omega
  · exact next v2 v3 w3 ⟨by simpa using ho3⟩ (fun wb hb1 hb2 => (hb1.trans he2).app hg3 (fun k hk => by have := (hO.lt k hk).1; omega)) (Nat.le_trans hz2 hg3.size) ⟨w2, he2, hg3, ha3⟩
end
theorem own_some' (v : Value) (s k : Nat) (hk : s ≤ k) (h : ∀ g, v.ownBlock = some g → s ≤ g) : ∃ b, s ≤ b ∧ ∀ g, v.ownBlock = some g → g = b := by
  cases e : v.ownBlock with
  | none => exact ⟨k, hk, fun g h => by cases h⟩
  | some b => exact ⟨b, h b e, fun g h => (Option.some.inj h).symm⟩
end Go.Pc

/-
  Walk: the reference's copy of a list of lists, as the call's own (l01Own2).
  Conditions: stated at the theorem.
-/
namespace Go.Proofs.YtogbnkombnfknaaGreat
open Go Go.Pc
set_option maxHeartbeats 1000000 in
theorem l01Own2G_ok {w : World} {va : Value} {us : List Value} {xss : List (List Int)} {lo hi : Nat} [hx : Pc.Rows lo hi w va us xss] (hm : ∀ i, (xss.getD i []).length ≤ 2000000) (hl : xss.length ≤ 1000000) :
    Calls Tryz.prog 100 #[va] w (Ret fun v w' => Ext w w' ∧ ∃ rs, GrowL 22 w.heap.size w' v rs ∧ rs.map (·.2) = xss) := by
  have hul := hx.vals.len
  refine enter (args := [va]) (l := [.tmp 2]) Tryz.func100 rfl rfl Tryz.ntmps100 (by simp) ?_
  refine go ?_
  refine st_slice0 (by first | exact True.intro | exact ⟨_, rfl, by ((try simp only [ev_tmp, ev_const, ev_func, get_put, get_args, get_putL, get_putL_nil, Nat.reduceEqDiff, reduceIte, List.getD_cons_zero, List.getD_cons_succ, List.getD_nil, Bool.not_true, Bool.not_false]); first | done | with_reducible rfl)⟩) fun w1 v1 he1 hs1 ho1 => ?_
  refine go ?_
  refine r_for xss.length (fun k ρ w' => ∃ v' rs, Has ρ [(0, va), (3, v'), (4, .int .i64 k)] ∧ Ext w w' ∧ GrowL 22 w.heap.size w' v' rs ∧ rs.map (·.2) = xss.take k) ?_ ?_
  · refine ⟨v1, [], ?_, he1, GrowL.start ho1 (Nat.le_refl _), by simp⟩
    exact hasP
  rintro k ρ w2 hk ⟨v2, rs, hH, he2, hG, hrs⟩
  refine rwp_has hH fun ρ0 => ?_
  have hrl : rs.length = k := by have := congrArg List.length hrs; simp at this; omega
  refine go ?_
  refine c_if (fun h4 => ?_) (fun h4 => ?_)
  · refine go ?_
    refine rc (l01Own_ok (xs := xss.getD k []) (hm k)) (next := fun v3 w3 h3 => ?_)
    obtain ⟨he3, hf3⟩ := h3
    refine go ?_
    refine st_grow hG he3 hf3 he2.size (by omega) (next := fun v4 v5 w5 hG5 hx5 hz5 hgs5 => ?_)
    refine go ?_
    refine forQ_normal (by omega) ⟨v5, _, ?_, hx5 w (he2.trans he3) (Nat.le_refl _), hG5, ?_⟩
    · exact hasP
    · rw [List.take_succ_eq_append_getElem (by omega), List.map_append, hrs]
      simp [show k < xss.length by omega]
  · refine go ?_
    rw [show k = xss.length by omega, List.take_length] at hrs
    exact ret1 ⟨he2, rs, hG, hrs⟩
end Go.Proofs.YtogbnkombnfknaaGreat

/-
  Walks: the reference's table, reduction, representative and membership (l12Table, l12Reduce, l12Sift, l12Has).
  Conditions: the tails at all levels are groups; the list is a sequence.
-/
namespace Go.Proofs.YtogbnkombnfknaaGreat
open Go Go.Pc
set_option maxHeartbeats 1000000 in
/-- A reduction keeps the coset, and clears the places of the table's entries. -/
theorem l12Reduce_ok {p : Pr} [hc : ConAll p] {t : Tab p} (hT : TabOk t) {w : World} {vp vt vx : Value} {us : List Value} {x : El p} {xs : List Int} {lo hi lo1 hi1 lo2 hi2 : Nat} [hp : Pres lo hi w vp p] [ht : Pc.Rows lo1 hi1 w vt us (tabL t)] [hx : Ints lo2 hi2 w vx xs] (hxe : xs = x.v) :
    Calls Tryz.prog 108 #[vp, vt, vx] w (Ret fun v w' => Ext w w' ∧ ∃ r : El p, Fr w.heap.size w' v r.v ∧ (∀ H : El p → Prop, Pc.Sub H → (∀ d y, t d = some y → H y) → H (x⁻¹ * r)) ∧ (∀ d, t d ≠ none → co r d = 0) ∧ ∀ e, (∀ d, t d ≠ none → e < d) → co r e = co x e) := by
  subst hxe
  have hv := hc.valid
  have hn6 := hv.n6
  have htl := tabL_len t
  have hxl := x.inr.len
  obtain ⟨vo, vpw, vc, ps, cs, css, rfl, h1, h2, h3⟩ := hp.ex
  refine enter (args := [.agg #[vo, vpw, vc], vt, vx]) (l := [.tmp 6]) Tryz.func108 rfl rfl Tryz.ntmps108 (by simp) ?_
  refine go ?_
  refine st_box3 (by ((try simp only [ev_tmp, ev_const, ev_func, get_put, get_args, get_putL, get_putL_nil, Nat.reduceEqDiff, reduceIte, List.getD_cons_zero, List.getD_cons_succ, List.getD_nil]); first | done | with_reducible rfl)) (by first | exact True.intro | exact ⟨_, rfl, by ((try simp only [ev_tmp, ev_const, ev_func, get_put, get_args, get_putL, get_putL_nil, Nat.reduceEqDiff, reduceIte, List.getD_cons_zero, List.getD_cons_succ, List.getD_nil, Bool.not_true, Bool.not_false]); first | done | with_reducible rfl)⟩) fun w1 b he1 hb1 hs1 hc0 hc1 hc2 => ?_
  refine go ?_
  refine rc (l01Own_ok (xs := x.v) ?_) (next := fun v2 w2 h2 => ?_)
  · omega
  obtain ⟨he2, hf2⟩ := h2
  refine go ?_
  refine r_for p.n (fun k ρ w' => ∃ vr r, Has ρ [(1, vt), (3, .pointer (some ⟨b, 0, none⟩)), (7, vr), (8, .int .i64 k)] ∧ Ext w1 w' ∧ Fr w.heap.size w' vr (T.v (p := p) (i := 0) r) ∧
    (∀ H : El p → Prop, Pc.Sub H → (∀ d y, t d = some y → H y) → H (x⁻¹ * r)) ∧ (∀ d, d < k → t d ≠ none → co r d = 0) ∧ ∀ e, (∀ d, t d ≠ none → e < d) → co r e = co x e) ?_ ?_
  · refine ⟨v2, x, ?_, he2, hf2.mono he1.size, fun H hH _ => by rw [Grp.inv_mul]; exact hH.one, fun d hd => by omega, fun e _ => rfl⟩
    exact hasP
  rintro k ρ w3 hk ⟨vr, r, hH, he3, hf3, hm, hz, hlow⟩
  refine rwp_has hH fun ρ0 => ?_
  have hrl := r.inr.len
  refine go ?_
  refine c_if (fun h4 => ?_) (fun h4 => ?_)
  · have hkn : k < p.n := by omega
    have hrk := r.inr.rng k hkn
    have hok := hv.opos hkn
    have hrow : ((tabL t).getD k []).length = 0 ↔ t k = none := by rw [tabL_at t hkn]; exact rowOf_len hkn
    refine go ?_
    refine spd (fun h5 => ?_) (fun h5 => ?_)
    · refine go ?_
      refine c_if (fun h6 => ?_) (fun h6 => ?_)
      · obtain ⟨y, hy⟩ : ∃ y, t k = some y := by
          cases e : t k with
          | none => exact absurd (hrow.2 e) (by omega)
          | some y => exact ⟨y, rfl⟩
        have hye : (tabL t).getD k [] = y.v := by rw [tabL_at t hkn, rowOf_some hy]
        refine go ?_
        refine d_region fun w4 he4 _ => ?_
        refine dgo ?_
        refine dc (l10Pow_ok (p := p) (x := y) hye ?_) (next := fun v5 w5 h7 => ?_)
        · omega
        obtain ⟨he5, hf5⟩ := h7
        refine ⟨fun h => h.trans he5, ?_⟩
        refine dc (l08Mul_ok (p := p) (x := r) (y := Grp.pwz y (-(r.v.getD k 0))) rfl rfl) (next := fun v6 w6 h8 => ?_)
        obtain ⟨he6, hf6⟩ := h8
        refine ⟨fun h => h.trans he6, ?_⟩
        refine dgo ?_
        refine d_end (h := ?_)
        refine go ?_
        have hyt := hT.tl k y hy
        have hyl := hT.lead k y hy
        have hzt := hyt.pwz (by omega) (-(co r k))
        have hE := (he3.trans he4).trans he5
        have hsz := he1.size
        have hsz2 := hE.size
        refine forQ_normal (by omega) ⟨v6, r * Grp.pwz y (-(co r k)), ?_, hE.trans he6, hf6.mono (by omega), fun H hH hy' => ?_, fun d hd hne => ?_, fun e he => ?_⟩
        · exact hasP
        · rw [← Grp.mul_assoc]
          exact hH.mul _ _ (hm H hH hy') (hH.pwz (hy' k y hy) _)
        · by_cases e : d = k
          · subst e
            rw [co_at _ hkn hzt, co_pwz hkn hyt, hyl, Int.mul_one, Int.add_emod_emod, Int.add_right_neg, Int.zero_emod]
          · rw [co_low _ hkn hzt (by omega)]; exact hz d (by omega) hne
        · rw [co_low _ hkn hzt (he k (by rw [hy]; simp))]; exact hlow e he
      · refine go ?_
        refine forQ_normal (by omega) ⟨vr, r, ?_, he3, hf3, hm, fun d hd hne => ?_, hlow⟩
        · exact hasP
        · by_cases e : d = k
          · subst e; exact Decidable.not_not.1 h6
          · exact hz d (by omega) hne
    · refine go ?_
      refine forQ_normal (by omega) ⟨vr, r, ?_, he3, hf3, hm, fun d hd hne => ?_, hlow⟩
      · exact hasP
      · by_cases e : d = k
        · subst e; exact absurd (hrow.1 (by omega)) hne
        · exact hz d (by omega) hne
  · refine go ?_
    refine ret1 ⟨he1.trans he3, r, hf3, hm, fun d hne => hz d ?_ hne, hlow⟩
    cases e : t d with
    | none => exact absurd e hne
    | some y => have := hT.lt d y e; omega
end Go.Proofs.YtogbnkombnfknaaGreat

/-
  Walks: the reference's table, representative and membership (l12Table, l12Sift, l12Has, l12Within).
  Conditions: the tails at all levels are groups; the list is a sequence.
-/
namespace Go.Proofs.YtogbnkombnfknaaGreat
open Go Go.Pc
set_option maxHeartbeats 400000 in
theorem l01Zero_ok {w : World} {v : Value} {xs : List Int} {lo hi : Nat} [hx : Ints lo hi w v xs] (hl : xs.length ≤ 2000000) :
    Calls Tryz.prog 98 #[v] w (Ret fun v w' => ∃ b, v = .bool b ∧ (b = true ↔ ∀ i, i < xs.length → xs.getD i 0 = 0) ∧ Ext w w') := by
  refine enter (args := [v]) (l := [.tmp 2]) Tryz.func98 rfl rfl Tryz.ntmps98 (by simp) ?_
  refine go ?_
  refine r_for xs.length (fun k ρ w' => Has ρ [(0, v), (3, .int .i64 k)] ∧ Ext w w' ∧ ∀ i, i < k → xs.getD i 0 = 0) ?_ ?_
  · refine ⟨?_, Ext.refl _, fun i hi => by omega⟩
    exact hasP
  rintro k ρ w2 hk ⟨hH, he2, hI⟩
  refine rwp_has hH fun ρ0 => ?_
  refine go ?_
  refine c_if (fun h4 => ?_) (fun h4 => ?_)
  · refine go ?_
    refine c_if (fun h5 => ?_) (fun h5 => ?_)
    · refine go ?_
      refine ret1 ⟨_, rfl, ?_, he2⟩
      simp only [Bool.false_eq_true, false_iff]
      exact fun h => h5 (h k (by omega))
    · refine go ?_
      refine forQ_normal (by omega) ⟨?_, he2, fun i hi => ?_⟩
      · exact hasP
      · by_cases e : i = k
        · subst e; exact Decidable.not_not.1 h5
        · exact hI i (by omega)
  · refine go ?_
    refine ret1 ⟨_, rfl, ?_, he2⟩
    simp only [true_iff]
    exact fun i hi => hI i (by omega)
set_option maxHeartbeats 1000000 in
/-- The table of a sequence. -/
theorem l12Table_ok {p : Pr} [hc : ConAll p] (hv : Valid p) {ys : List (El p)} (hs : SeqOk ys) {w : World} {vp vu : Value} {us : List Value} {xss : List (List Int)} {lo hi lo1 hi1 : Nat} [hp : Pres lo hi w vp p] [hu : Pc.Rows lo1 hi1 w vu us xss] (hus : xss = vecs ys) :
    Calls Tryz.prog 109 #[vp, vu] w (Ret fun v w' => Ext w w' ∧ ∃ us', Pc.Rows 0 w'.heap.size w' v us' (tabL (tabOf ys))) := by
  subst hus
  have hn6 := hv.n6
  have hol : p.ord.length = p.n := rfl
  have hvl : (vecs ys).length = ys.length := by simp
  have hul := hu.vals.len
  have hul2 := hu.sl.le_max
  replace hu := hu.wide
  obtain ⟨vo, vpw, vc, ps, cs, css, rfl, h1, h2, h3⟩ := hp.ex
  refine enter (args := [.agg #[vo, vpw, vc], vu]) (l := [.tmp 4]) Tryz.func109 rfl rfl Tryz.ntmps109 (by simp) ?_
  refine go ?_
  refine st_box3 (by ((try simp only [ev_tmp, ev_const, ev_func, get_put, get_args, get_putL, get_putL_nil, Nat.reduceEqDiff, reduceIte, List.getD_cons_zero, List.getD_cons_succ, List.getD_nil]); first | done | with_reducible rfl)) (by first | exact True.intro | exact ⟨_, rfl, by ((try simp only [ev_tmp, ev_const, ev_func, get_put, get_args, get_putL, get_putL_nil, Nat.reduceEqDiff, reduceIte, List.getD_cons_zero, List.getD_cons_succ, List.getD_nil, Bool.not_true, Bool.not_false]); first | done | with_reducible rfl)⟩) fun w1 b he1 hb1 hs1 hc0 hc1 hc2 => ?_
  refine go ?_
  refine st_make_nil (by ((try simp only [ev_tmp, ev_const, ev_func, get_put, get_args, get_putL, get_putL_nil, Nat.reduceEqDiff, reduceIte, List.getD_cons_zero, List.getD_cons_succ, List.getD_nil]); first | done | with_reducible rfl)) (by ((try simp only [ev_tmp, ev_const, ev_func, get_put, get_args, get_putL, get_putL_nil, Nat.reduceEqDiff, reduceIte, List.getD_cons_zero, List.getD_cons_succ, List.getD_nil]); first | done | with_reducible rfl)) (by omega) (by omega) (by first | exact True.intro | exact ⟨_, rfl, by ((try simp only [ev_tmp, ev_const, ev_func, get_put, get_args, get_putL, get_putL_nil, Nat.reduceEqDiff, reduceIte, List.getD_cons_zero, List.getD_cons_succ, List.getD_nil, Bool.not_true, Bool.not_false]); first | done | with_reducible rfl)⟩) fun w2 v2 he2 hs2 ho2 => ?_
  have hE2 := he1.trans he2
  have hz1 := he1.size
  have hvb := ho2.toN_block
  have hL2 : Lst 22 w.heap.size (fun _ => False) w2 v2 _ _ := Lst.ofNils ho2 hz1 (fun h => h) (fun g h => h.elim)
  rw [hol, ← tabL_none] at hL2
  clear ho2
  have ap1 : Apart 0 w.heap.size w1.heap.size := ⟨.inr hz1⟩
  have ap2 : Apart b (b + 1) w1.heap.size := ⟨.inr (by omega)⟩
  refine go ?_
  refine r_for ys.length (fun k ρ w' => ∃ us', Has ρ [(1, vu), (2, .pointer (some ⟨b, 0, none⟩)), (5, v2), (6, .int .i64 k)] ∧ Ext w w' ∧ Lst 22 w.heap.size (fun _ => False) w' v2 us' (tabL (tabOf (ys.take k)))) ?_ ?_
  · refine ⟨_, ?_, hE2, by simpa [tabOf] using hL2⟩
    exact hasP
  clear hL2
  rintro k ρ w3 hk ⟨us3, hH, he3, hL3⟩
  refine rwp_has hH fun ρ0 => ?_
  have hz3 := he3.size
  refine go ?_
  refine c_if (fun h4 => ?_) (fun h4 => ?_)
  · have hkn : k < ys.length := by omega
    have hg := vecs_getD ys hkn
    have hgl : ((vecs ys).getD k []).length = p.n := by rw [hg]; exact (ys[k]).inr.len
    obtain ⟨hdn, hy1⟩ := hs.lead1 _ (List.getElem_mem hkn)
    obtain ⟨d, hd⟩ : ∃ d, lead (ys[k]).v = d := ⟨_, rfl⟩
    rw [hd] at hdn
    have htl := tabL_len (tabOf (ys.take k))
    have hul3 := hL3.len
    refine go ?_
    refine z_order w1.heap.size [0, 1, 2, 3, 4, 6, 7, 8, 9, 5, 10, 11] (h := fun w4 he4 _ => ?_)
    have hSl4 := ((hL3.ext he4).toOwn hvb).toSl
    have hlen4 := hSl4.toLen
    clear hSl4
    refine zgo ?_
    refine zc (l12Depth_ok (xs := (vecs ys).getD k []) ?_) (next := fun v5 w5 h7 => ?_)
    · omega
    obtain ⟨rfl, he5⟩ := h7
    rw [hg, hd]
    have hL5 := hL3.ext (he4.trans he5)
    have hO5 := hL5.toOwn hvb
    refine zgo ?_
    refine z_store_val (h := hO5) (hx := (by ((try simp only [ev_tmp, ev_const, ev_func, get_put, get_args, get_putL, get_putL_nil, Nat.reduceEqDiff, reduceIte, List.getD_cons_zero, List.getD_cons_succ, List.getD_nil]); first | done | with_reducible rfl))) (hy := (by ((try simp only [ev_tmp, ev_const, ev_func, get_put, get_args, get_putL, get_putL_nil, Nat.reduceEqDiff, reduceIte, List.getD_cons_zero, List.getD_cons_succ, List.getD_nil]); first | done | with_reducible rfl))) (hu := ?_) (hm := ?_) (next := fun w6 hc6 hs6 ho6 => ?_)
    · exact (hu.vals.at_ k).sl.one
    · omega
    refine z_end ?_
    refine go ?_
    have hu5 : IntsAp (fun g => False ∨ v2.ownBlock = some g) w5 (Pc.rowAt vu us k) ((vecs ys).getD k []) :=
      ((hu.ap (av := fun g => False ∨ v2.ownBlock = some g) (Nat.le_refl _) (fun g hg => by
        rcases hg with hg | hg
        · exact hg.elim
        · rw [hvb] at hg; injection hg with hg; exact .inr (by omega))).at_ k).ext ((he3.trans he4).trans he5)
    have hL6 := hL5.set hvb hu5 hc6 ho6 (by omega)
    have ht := tabOf_take ys hkn
    rw [hd] at ht
    have e : tabL (tabOf (ys.take (k + 1))) = (tabL (tabOf (ys.take k))).set d ((vecs ys).getD k []) := by rw [ht, tabL_set, hg]
    refine forQ_normal (by omega) ⟨_, ?_, hc6.ext ((he3.trans he4).trans he5) hz1, by rw [e]; exact hL6⟩
    exact hasP
  · refine go ?_
    obtain rfl : k = ys.length := by omega
    rw [List.take_length] at hL3
    exact ret1 ⟨he3, us3, hL3.toRows⟩
theorem tabOf_none {p : Pr} [ConAll p] {ys : List (El p)} {d : Nat} : tabOf ys d ≠ none → ∃ y, y ∈ ys ∧ lead y.v = d := fun h => by
  cases e : tabOf ys d with
  | none => exact absurd e h
  | some y => exact ⟨y, tabOf_some e⟩
set_option maxHeartbeats 1000000 in
theorem l12Sift_ok {p : Pr} [hc : ConAll p] {ys : List (El p)} (hs : SeqOk ys) {w : World} {vp vu vx : Value} {us : List Value} {xss : List (List Int)} {x : El p} {xs : List Int} {lo hi lo1 hi1 lo2 hi2 : Nat} [hp : Pres lo hi w vp p] [hu : Pc.Rows lo1 hi1 w vu us xss] [hx : Ints lo2 hi2 w vx xs] (hus : xss = vecs ys) (hxe : xs = x.v) :
    Calls Tryz.prog 76 #[vp, vu, vx] w (Ret fun v w' => Ext w w' ∧ ∃ r : El p, Fr w.heap.size w' v r.v ∧ RepOf ys x r) := by
  have hv := hc.valid
  obtain ⟨vo, vpw, vc, ps, cs, css, rfl, h1, h2, h3⟩ := hp.ex
  refine enter (args := [.agg #[vo, vpw, vc], vu, vx]) (l := [.tmp 6]) Tryz.func76 rfl rfl Tryz.ntmps76 (by simp) ?_
  refine go ?_
  refine st_box3 (by ((try simp only [ev_tmp, ev_const, ev_func, get_put, get_args, get_putL, get_putL_nil, Nat.reduceEqDiff, reduceIte, List.getD_cons_zero, List.getD_cons_succ, List.getD_nil]); first | done | with_reducible rfl)) (by first | exact True.intro | exact ⟨_, rfl, by ((try simp only [ev_tmp, ev_const, ev_func, get_put, get_args, get_putL, get_putL_nil, Nat.reduceEqDiff, reduceIte, List.getD_cons_zero, List.getD_cons_succ, List.getD_nil, Bool.not_true, Bool.not_false]); first | done | with_reducible rfl)⟩) fun w1 b he1 hb1 hs1 hc0 hc1 hc2 => ?_
  refine go ?_
  refine d_order [0, 1, 2, 4, 3, 5, 6] (h := fun w2 he2 _ => ?_)
  refine dgo ?_
  refine dce (l12Table_ok (p := p) hv hs hus) (next := fun v3 w3 h4 => ?_)
  obtain ⟨he3, us3, hR3⟩ := h4
  refine dgo ?_
  refine dce (l12Reduce_ok (p := p) (x := x) (tabOf_ok hs) hxe) (next := fun v4 w4 h5 => ?_)
  obtain ⟨he4, r, hf4, hm, hz, hlow⟩ := h5
  refine dgo ?_
  refine d_end (h := ?_)
  refine go ?_
  have hE := (he1.trans he2).trans he3
  refine ret1 ⟨hE.trans he4, r, hf4.mono hE.size, fun H hH hy => hm H hH fun d y e => hy y (tabOf_some e).1, fun y hy => hz _ (tabOf_mem hs hy), fun t ht => hlow t fun d hd => ?_⟩
  obtain ⟨y, hy, rfl⟩ := tabOf_none hd
  exact ht y hy
end Go.Proofs.YtogbnkombnfknaaGreat

/-
  Walks: the reference's conjugates, conjugate subgroups, closures under conjugation, normality (l10Conj, l13Conj, l12Whole, l13Stable, l13Normal).
  Conditions: the tails at all levels are groups; the lists are those told.
-/
namespace Go.Proofs.YtogbnkombnfknaaGreat
open Go Go.Pc
set_option maxHeartbeats 1000000 in
theorem l10Conj_ok {p : Pr} [hc : ConAll p] {w : World} {vp vx vy : Value} {x y : El p} {xs ys : List Int} {lo hi lo1 hi1 lo2 hi2 : Nat} [hp : Pres lo hi w vp p] [hx : Ints lo1 hi1 w vx xs] [hy : Ints lo2 hi2 w vy ys] (hxe : xs = x.v) (hye : ys = y.v) :
    Calls Tryz.prog 133 #[vp, vx, vy] w (Ret fun v w' => Ext w w' ∧ Fr w.heap.size w' v (Grp.cj x y).v) := by
  obtain ⟨vo, vpw, vc, ps, cs, css, rfl, h1, h2, h3⟩ := hp.ex
  refine enter (args := [.agg #[vo, vpw, vc], vx, vy]) (l := [.tmp 6]) Tryz.func133 rfl rfl Tryz.ntmps133 (by simp) ?_
  refine go ?_
  refine st_box3 (by ((try simp only [ev_tmp, ev_const, ev_func, get_put, get_args, get_putL, get_putL_nil, Nat.reduceEqDiff, reduceIte, List.getD_cons_zero, List.getD_cons_succ, List.getD_nil]); first | done | with_reducible rfl)) (by first | exact True.intro | exact ⟨_, rfl, by ((try simp only [ev_tmp, ev_const, ev_func, get_put, get_args, get_putL, get_putL_nil, Nat.reduceEqDiff, reduceIte, List.getD_cons_zero, List.getD_cons_succ, List.getD_nil, Bool.not_true, Bool.not_false]); first | done | with_reducible rfl)⟩) fun w1 b he1 hb1 hs1 hc0 hc1 hc2 => ?_
  refine go ?_
  refine d_order [0, 1, 2, 4, 5, 6, 3, 7, 8, 9] (h := fun w2 he2 _ => ?_)
  refine dgo ?_
  refine dce (l10Inv_ok (p := p) hye) (next := fun v4 w4 h4 => ?_)
  obtain ⟨he4, hf4⟩ := h4
  refine dce (l08Mul_ok (p := p) hxe hye) (next := fun v5 w5 h5 => ?_)
  obtain ⟨he5, hf5⟩ := h5
  refine dce (l08Mul_ok (p := p) (x := y⁻¹) (y := x * y) (xs := (y⁻¹).v) (ys := (x * y).v) rfl rfl) (next := fun v6 w6 h6 => ?_)
  obtain ⟨he6, hf6⟩ := h6
  refine dgo ?_
  refine d_end (h := ?_)
  refine go ?_
  have hE := ((he1.trans he2).trans he4).trans he5
  exact ret1 ⟨hE.trans he6, hf6.mono hE.size⟩
/-- The generators. -/
noncomputable def gensL (p : Pr) [ConAll p] : List (El p) := (List.range p.n).map (gOf p 0)
theorem gOf_val {p : Pr} [hc : ConAll p] {i : Nat} (hi : i < p.n) : (gOf p 0 i : El p).v = unitv p i 1 := by
  rw [gOf_eq (h := hc.con 0) ⟨Nat.zero_le _, hi⟩]; rfl
theorem gensL_len (p : Pr) [ConAll p] : (gensL p).length = p.n := by simp [gensL]
set_option maxHeartbeats 1000000 in
theorem l02Unit_ok {n : Nat} {w : World} {kn : Int} (hkn : kn = n) (hn : n ≤ 1000) :
    Calls Tryz.prog 105 #[.int .i64 kn] w (Ret fun v w' => Ext w w' ∧ ∃ us', Pc.Rows w.heap.size w'.heap.size w' v us' ((List.range n).map fun i => (zeros n).set i 1)) := by
  subst hkn
  refine enter (args := [.int .i64 n]) (l := [.tmp 2]) Tryz.func105 rfl rfl Tryz.ntmps105 (by simp) ?_
  refine go ?_
  refine st_slice0 (by first | exact True.intro | exact ⟨_, rfl, by ((try simp only [ev_tmp, ev_const, ev_func, get_put, get_args, get_putL, get_putL_nil, Nat.reduceEqDiff, reduceIte, List.getD_cons_zero, List.getD_cons_succ, List.getD_nil, Bool.not_true, Bool.not_false]); first | done | with_reducible rfl)⟩) fun w2 v2 he2 hs2 ho2 => ?_
  refine go ?_
  refine r_for n (fun k ρ w' => ∃ vl rs, Has ρ [(0, .int .i64 n), (3, vl), (4, .int .i64 k)] ∧ Ext w w' ∧ GrowL 22 w.heap.size w' vl rs ∧ rs.map (·.2) = (List.range k).map fun i => (zeros n).set i 1) ?_ ?_
  · refine ⟨v2, [], ?_, he2, GrowL.start ho2 (Nat.le_refl _), by simp⟩
    exact hasP
  clear ho2
  rintro k ρ w3 hk ⟨vl, rs, hH, he3, hG, hrs⟩
  refine rwp_has hH fun ρ0 => ?_
  have hz3 := he3.size
  have hrl : rs.length = k := by have := congrArg List.length hrs; simp at this; omega
  refine go ?_
  refine c_if (fun h4 => ?_) (fun h4 => ?_)
  · refine go ?_
    refine st_make_int (by ((try simp only [ev_tmp, ev_const, ev_func, get_put, get_args, get_putL, get_putL_nil, Nat.reduceEqDiff, reduceIte, List.getD_cons_zero, List.getD_cons_succ, List.getD_nil]); first | done | with_reducible rfl)) (by ((try simp only [ev_tmp, ev_const, ev_func, get_put, get_args, get_putL, get_putL_nil, Nat.reduceEqDiff, reduceIte, List.getD_cons_zero, List.getD_cons_succ, List.getD_nil]); first | done | with_reducible rfl)) (by omega) (by omega) (by first | exact True.intro | exact ⟨_, rfl, by ((try simp only [ev_tmp, ev_const, ev_func, get_put, get_args, get_putL, get_putL_nil, Nat.reduceEqDiff, reduceIte, List.getD_cons_zero, List.getD_cons_succ, List.getD_nil, Bool.not_true, Bool.not_false]); first | done | with_reducible rfl)⟩) fun w4 v4 he4 hs4 ho4 => ?_
    have hzl : (List.replicate n (0 : Int)).length = n := by simp
    refine go ?_
    refine st_store_int (h := ho4) (by ((try simp only [ev_tmp, ev_const, ev_func, get_put, get_args, get_putL, get_putL_nil, Nat.reduceEqDiff, reduceIte, List.getD_cons_zero, List.getD_cons_succ, List.getD_nil]); first | done | with_reducible rfl)) (by ((try simp only [ev_tmp, ev_const, ev_func, get_put, get_args, get_putL, get_putL_nil, Nat.reduceEqDiff, reduceIte, List.getD_cons_zero, List.getD_cons_succ, List.getD_nil]); first | done | with_reducible rfl)) ?_ (by first | exact True.intro | exact ⟨_, rfl, by ((try simp only [ev_tmp, ev_const, ev_func, get_put, get_args, get_putL, get_putL_nil, Nat.reduceEqDiff, reduceIte, List.getD_cons_zero, List.getD_cons_succ, List.getD_nil, Bool.not_true, Bool.not_false]); first | done | with_reducible rfl)⟩) fun w5 hc5 hs5 ho5 => ?_
    · omega
    have he35 : Ext w3 w5 := hc5.ext he4 (Nat.le_refl _)
    have hf5 : Fr w3.heap.size w5 v4 ((zeros n).set k 1) := ho5.toFr (Nat.le_refl _)
    clear ho4 ho5 hc5
    refine go ?_
    refine st_grow hG he35 hf5 hz3 (by omega) (next := fun v6 v7 w7 hG7 hx7 hz7 hgs7 => ?_)
    refine go ?_
    refine forQ_normal (by omega) ⟨v7, _, ?_, hx7 w (he3.trans he35) (Nat.le_refl _), hG7, ?_⟩
    · exact hasP
    · rw [List.range_succ, List.map_append, List.map_append, hrs]; simp
  · obtain rfl : k = n := by omega
    refine go ?_
    refine ret1 ⟨he3, rs.map (·.1), ?_⟩
    rw [← hrs]
    exact hG.rows
theorem l12Whole_ok {p : Pr} [hc : ConAll p] {w : World} {vp : Value} {lo hi : Nat} [hp : Pres lo hi w vp p] :
    Calls Tryz.prog 68 #[vp] w (Ret fun v w' => Ext w w' ∧ ∃ us', Pc.Rows w.heap.size w'.heap.size w' v us' (vecs (gensL p))) := by
  have hn6 := hc.valid.n6
  have hol : p.ord.length = p.n := rfl
  obtain ⟨vo, vpw, vc, ps, cs, css, rfl, h1, h2, h3⟩ := hp.ex
  refine enter (args := [.agg #[vo, vpw, vc]]) (l := [.tmp 2]) Tryz.func68 rfl rfl Tryz.ntmps68 (by simp) ?_
  refine go ?_
  refine st_box3 (by ((try simp only [ev_tmp, ev_const, ev_func, get_put, get_args, get_putL, get_putL_nil, Nat.reduceEqDiff, reduceIte, List.getD_cons_zero, List.getD_cons_succ, List.getD_nil]); first | done | with_reducible rfl)) (by first | exact True.intro | exact ⟨_, rfl, by ((try simp only [ev_tmp, ev_const, ev_func, get_put, get_args, get_putL, get_putL_nil, Nat.reduceEqDiff, reduceIte, List.getD_cons_zero, List.getD_cons_succ, List.getD_nil, Bool.not_true, Bool.not_false]); first | done | with_reducible rfl)⟩) fun w1 b he1 hb1 hs1 hc0 hc1 hc2 => ?_
  refine go ?_
  refine rc (l02Unit_ok (n := p.n) ?_ (by omega)) (next := fun v2 w2 h4 => ?_)
  · omega
  obtain ⟨he2, us2, hR2⟩ := h4
  refine go ?_
  refine ret1 ⟨he1.trans he2, us2, ?_⟩
  have e : vecs (gensL p) = (List.range p.n).map fun i => (zeros p.n).set i 1 := by
    unfold vecs gensL
    rw [List.map_map]
    exact List.map_congr_left fun i hi => gOf_val (List.mem_range.1 hi)
  rw [e]
  exact hR2.mono he1.size (Nat.le_refl _)
end Go.Proofs.YtogbnkombnfknaaGreat

/-
  Answers: generated subgroups, conjugate subgroups, normality, indices, depths.
  Conditions: none.
-/
namespace Go.Proofs.YtogbnkombnfknaaGreat
open Go Go.Pc
/-- The list is the canonical sequence of a subgroup told by elements. -/
theorem canon_sz {p : Pr} [ConAll p] (H : El p → Prop) (h6 : p.n ≤ 6) : (canon H).length ≤ 2000000 ∧ ∀ i, ((canon H).getD i []).length ≤ 2000000 := by
  have hcl := canTo_len H p.n
  rw [canTo_end] at hcl
  exact ⟨by omega, fun i => by have := canon_row H i; omega⟩
def GrpL (p : Pr) (xss : List (List Int)) : Prop := IsGrp p ∧ ∀ i, i < xss.length → InR p (xss.getD i [])
def GenV (p : Pr) (xss r : List (List Int)) (e : Int) : Prop := (24 < xss.length ∧ r = [] ∧ e = 3) ∨ (xss.length ≤ 24 ∧ (∃ (_ : ConAll p) (ys : List (El p)), xss = vecs ys ∧ r = canon (Gen (fun a : El p => a ∈ ys))) ∧ e = 0)
theorem GenV.uniq {p : Pr} {xss : List (List Int)} (a b : List (List Int)) (c d : Int) (h : GenV p xss a c) (k : GenV p xss b d) : a = b ∧ c = d := by
  rcases h with ⟨h1, h2, h3⟩ | ⟨h1, ⟨hc, ys, h2, h3⟩, h4⟩ <;> rcases k with ⟨k1, k2, k3⟩ | ⟨k1, ⟨hc', ys', k2, k3⟩, k4⟩
  · exact ⟨by rw [h2, k2], by rw [h3, k3]⟩
  · omega
  · omega
  · obtain rfl := vecs_inj (h2.symm.trans k2)
    exact ⟨by rw [h3, k3], by rw [h4, k4]⟩
theorem GeneratedSubgroup_sz0 {p : Pr} {xss r : List (List Int)} {e : Int} (_ : p.ord.length ≤ 2000000) (_ : xss.length ≤ 2000000) (h : Ans (GrpL p xss) (GenV p xss) [] r e) : r.length ≤ 2000000 ∧ ∀ i, (r.getD i []).length ≤ 2000000 := by
  rcases h with ⟨⟨hG, _⟩, h⟩ | ⟨_, rfl, _⟩
  · rcases h with ⟨_, rfl, _⟩ | ⟨_, ⟨hc, ys, _, rfl⟩, _⟩
    · simp
    · exact canon_sz _ hG.valid.n6
  · simp
def ConjV (p : Pr) (xss : List (List Int)) (xs : List Int) (r : List (List Int)) (e : Int) : Prop := (∃ (_ : ConAll p) (ys : List (El p)) (x : El p), xss = vecs ys ∧ xs = x.v ∧ r = canon (Gen (fun a : El p => a ∈ ys.map (Grp.cj · x)))) ∧ e = 0
theorem ConjV.uniq {p : Pr} {xss : List (List Int)} {xs : List Int} (a b : List (List Int)) (c d : Int) (h : ConjV p xss xs a c) (k : ConjV p xss xs b d) : a = b ∧ c = d := by
  obtain ⟨⟨hc, ys, x, h2, h3, h4⟩, h5⟩ := h
  obtain ⟨⟨hc', ys', x', k2, k3, k4⟩, k5⟩ := k
  obtain rfl := vecs_inj (h2.symm.trans k2)
  obtain rfl : x = x' := T.ext (h3.symm.trans k3)
  exact ⟨by rw [h4, k4], by rw [h5, k5]⟩
theorem ConjugateSubgroup_sz0 {p : Pr} {xss : List (List Int)} {xs : List Int} {r : List (List Int)} {e : Int} (_ : p.ord.length ≤ 2000000) (h : Ans (IsSubP p xss ∧ InR p xs) (ConjV p xss xs) [] r e) : r.length ≤ 2000000 ∧ ∀ i, (r.getD i []).length ≤ 2000000 := by
  rcases h with ⟨⟨⟨hG, _⟩, _⟩, ⟨hc, ys, x, _, _, rfl⟩, _⟩ | ⟨_, rfl, _⟩
  · exact canon_sz _ hG.valid.n6
  · simp
/-- The subgroup is normal. -/
def NormP (p : Pr) (xss : List (List Int)) : Prop := ∃ (_ : ConAll p) (ys : List (El p)), xss = vecs ys ∧ ∀ y, y ∈ ys → ∀ g, g ∈ gensL p → Gen (fun a : El p => a ∈ ys) (Grp.cj y g)
theorem normP_iff {p : Pr} [hc : ConAll p] {ys : List (El p)} : NormP p (vecs ys) ↔ ∀ y, y ∈ ys → ∀ g, g ∈ gensL p → Gen (fun a : El p => a ∈ ys) (Grp.cj y g) := by
  constructor
  · rintro ⟨_, ys', h1, h2⟩
    obtain rfl := vecs_inj h1
    exact h2
  · exact fun h => ⟨hc, ys, rfl, h⟩
def NormV (p : Pr) (xss : List (List Int)) (b : Bool) (e : Int) : Prop := (b = true ↔ NormP p xss) ∧ e = 0
theorem NormV.uniq {p : Pr} {xss : List (List Int)} (a b : Bool) (c d : Int) (h : NormV p xss a c) (k : NormV p xss b d) : a = b ∧ c = d := ⟨bool_eq h.1 k.1, by rw [h.2, k.2]⟩
theorem normal_len {p : Pr} [hc : ConAll p] {ys : List (El p)} (hs : SeqEl ys) : (canon (Clo (fun a : El p => a ∈ ys) (fun a : El p => a ∈ gensL p))).length = ys.length ↔ ∀ y, y ∈ ys → ∀ g, g ∈ gensL p → Gen (fun a : El p => a ∈ ys) (Grp.cj y g) := by
  have hSY := Gen.sub (fun a : El p => a ∈ ys)
  have hSC := Clo.sub (fun a : El p => a ∈ ys) (fun a : El p => a ∈ gensL p)
  have e : (canon (Clo (fun a : El p => a ∈ ys) (fun a : El p => a ∈ gensL p))).length = (canEls (Clo (fun a : El p => a ∈ ys) (fun a : El p => a ∈ gensL p))).length := by rw [canon_vecs]; simp
  rw [e]
  constructor
  · intro h y hy g hg
    exact same_of_len hSY hSC (Gen.le hSC fun a ha => .of a ha) (by rw [hs.els]; omega) _ (.cj _ _ (.of _ hy) hg)
  · intro h
    rw [gen_eq_clo fun a b ha hb => h a ha b hb, hs.els]
/-- The index of a subgroup. -/
def IdxV (p : Pr) (xss yss : List (List Int)) (k e : Int) : Prop := ((∀ x, x ∈ yss → MemP p xss x) ∧ k = ordOfL p xss / ordOfL p yss ∧ e = 0) ∨ (¬ (∀ x, x ∈ yss → MemP p xss x) ∧ k = 0 ∧ e = 5)
theorem IdxV.uniq {p : Pr} {xss yss : List (List Int)} (a b c d : Int) (h : IdxV p xss yss a c) (k : IdxV p xss yss b d) : a = b ∧ c = d := by
  rcases h with ⟨h1, h2, h3⟩ | ⟨h1, h2, h3⟩ <;> rcases k with ⟨k1, k2, k3⟩ | ⟨k1, k2, k3⟩
  · exact ⟨by rw [h2, k2], by rw [h3, k3]⟩
  · exact absurd h1 k1
  · exact absurd k1 h1
  · exact ⟨by rw [h2, k2], by rw [h3, k3]⟩
def DepV (xss : List (List Int)) (r : List Int) (e : Int) : Prop := r = xss.map (fun x => (lead x : Int)) ∧ e = 0
theorem DepV.uniq {xss : List (List Int)} (a b : List Int) (c d : Int) (h : DepV xss a c) (k : DepV xss b d) : a = b ∧ c = d := ⟨by rw [h.1, k.1], by rw [h.2, k.2]⟩
theorem SubgroupDepths_sz0 {p : Pr} {xss : List (List Int)} {r : List Int} {e : Int} (hl : p.ord.length ≤ 2000000) (h : Ans (IsSubP p xss) (DepV xss) [] r e) : r.length ≤ 2000000 := by
  rcases h with ⟨⟨hG, hq⟩, rfl, _⟩ | ⟨_, rfl, _⟩
  · haveI : ConAll p := ⟨hG.con⟩
    have h1 := hq.len
    have h2 := hG.valid.n6
    simp; omega
  · simp
end Go.Proofs.YtogbnkombnfknaaGreat

/-
  Answers: coset numbers, elements and exponents of subgroups.
  Conditions: none.
-/
namespace Go.Proofs.YtogbnkombnfknaaGreat
open Go Go.Pc
section
variable {p : Pr}
/-- The places that are no depths of the elements. -/
def freeL (p : Pr) (ys : List (El p)) (k : Nat) : List Nat := (List.range k).filter fun d => ys.all fun y => decide (lead y.v ≠ d)
abbrev ints (l : List Nat) : List Int := l.map fun d : Nat => (d : Int)
theorem freeL_len (p : Pr) (ys : List (El p)) (k : Nat) : (freeL p ys k).length ≤ k := by unfold freeL; exact Nat.le_trans (List.length_filter_le _ _) (by simp)
theorem freeL_lt {ys : List (El p)} {k d : Nat} (h : d ∈ freeL p ys k) : d < k := List.mem_range.1 (List.mem_filter.1 h).1
theorem freeL_yes {ys : List (El p)} {k : Nat} (h : ∀ y, y ∈ ys → lead y.v ≠ k) : freeL p ys (k + 1) = freeL p ys k ++ [k] := by
  unfold freeL
  rw [List.range_succ, List.filter_append]
  congr 1
  rw [List.filter_cons_of_pos, List.filter_nil]
  simpa using h
theorem freeL_no {ys : List (El p)} {k : Nat} {y : El p} (hy : y ∈ ys) (h : lead y.v = k) : freeL p ys (k + 1) = freeL p ys k := by
  unfold freeL
  rw [List.range_succ, List.filter_append, List.filter_cons_of_neg, List.filter_nil, List.append_nil]
  simp only [List.all_eq_true, decide_eq_true_eq]
  exact fun h' => h' y hy h
/-- The number that the free places of an element tell. -/
def numF (p : Pr) (l : List Nat) (r : El p) : Int := l.foldl (fun a d => a * p.o d + co r d) 0
theorem numF_take (l : List Nat) (r : El p) {k : Nat} (hk : k < l.length) : numF p (l.take (k + 1)) r = numF p (l.take k) r * p.o l[k] + co r l[k] := by
  unfold numF
  rw [List.take_succ_eq_append_getElem hk, List.foldl_append]; rfl
theorem numF_bd (hv : Valid p) (l : List Nat) (r : El p) (hl : ∀ d, d ∈ l → d < p.n) : ∀ k, k ≤ l.length → 0 ≤ numF p (l.take k) r ∧ numF p (l.take k) r + 1 ≤ (7 ^ k : Nat)
  | 0, _ => by simp [numF]
  | k + 1, h => by
    have ih := numF_bd hv l r hl k (by omega)
    rw [numF_take l r (by omega)]
    have hd := hl _ (List.getElem_mem (show k < l.length by omega))
    have ho := hv.opos hd
    have hc := r.inr.rng _ hd
    have hc' : 0 ≤ co r l[k] ∧ co r l[k] < p.o l[k] := hc
    generalize numF p (l.take k) r = a at ih ⊢
    generalize co r l[k] = c at hc' ⊢
    generalize p.o l[k] = o at ho hc' ⊢
    have e : ((7 ^ (k + 1) : Nat) : Int) = (7 ^ k : Nat) * 7 := by rw [Nat.pow_succ]; simp
    rw [e]
    have h1 : 0 ≤ a * o := Int.mul_nonneg ih.1 (by omega)
    have h2 : a * o ≤ a * 7 := Int.mul_le_mul_of_nonneg_left ho.2 ih.1
    omega
theorem numF_rng (hv : Valid p) (l : List Nat) (r : El p) (hl : ∀ d, d ∈ l → d < p.n) (h6 : l.length ≤ 6) {k : Nat} (hk : k ≤ l.length) : 0 ≤ numF p (l.take k) r ∧ numF p (l.take k) r ≤ 117648 := by
  have h := numF_bd hv l r hl k hk
  have h2 : (7 ^ k : Nat) ≤ 7 ^ 6 := Nat.pow_le_pow_right (by omega) (by omega)
  have h3 : (7 : Nat) ^ 6 = 117649 := by decide
  omega
def NumV (p : Pr) (xss : List (List Int)) (xs : List Int) (k e : Int) : Prop := (∃ (_ : ConAll p) (ys : List (El p)) (x r : El p), xss = vecs ys ∧ xs = x.v ∧ RepOf ys x r ∧ k = numF p (freeL p ys p.n) r) ∧ e = 0
theorem NumV.uniq {xss : List (List Int)} {xs : List Int} (hS : IsSubP p xss) (a b c d : Int) (h : NumV p xss xs a c) (k : NumV p xss xs b d) : a = b ∧ c = d := by
  obtain ⟨⟨hc, ys, x, y, h1, h2, h3, h4⟩, h5⟩ := h
  obtain ⟨⟨hc', ys', x', y', k1, k2, k3, k4⟩, k5⟩ := k
  obtain ⟨hG, hq⟩ := hS
  haveI : ConAll p := ⟨hG.con⟩
  obtain ⟨zs, hzs, hse⟩ := isSeq_iff.1 hq
  obtain rfl : ys = zs := vecs_inj (h1.symm.trans hzs)
  obtain rfl : ys' = ys := vecs_inj (k1.symm.trans hzs)
  obtain rfl : x = x' := T.ext (h2.symm.trans k2)
  exact ⟨by rw [h4, k4, RepOf.unique hse h3 k3], by rw [h5, k5]⟩
end
section
variable {p : Pr} [hc : ConAll p]
/-- The product of powers of elements. -/
noncomputable def prodTo (ys : List (El p)) (as_ : List Int) : Nat → El p
  | 0 => 1
  | k + 1 => prodTo ys as_ k * Grp.pwz (ys.getD k 1) (as_.getD k 0)
/-- What is left of an element behind its first exponents. -/
noncomputable def stE (ys : List (El p)) (x : El p) : Nat → El p
  | 0 => x
  | k + 1 => Grp.pwz (ys.getD k 1) (-(co (stE ys x k) (lead (ys.getD k 1).v))) * stE ys x k
noncomputable def expsL (ys : List (El p)) (x : El p) (k : Nat) : List Int := (List.range k).map fun i => co (stE ys x i) (lead (ys.getD i 1).v)
theorem expsL_succ (ys : List (El p)) (x : El p) (k : Nat) : expsL ys x (k + 1) = expsL ys x k ++ [co (stE ys x k) (lead (ys.getD k 1).v)] := by
  unfold expsL; rw [List.range_succ, List.map_append]; rfl
theorem expsL_len (ys : List (El p)) (x : El p) (k : Nat) : (expsL ys x k).length = k := by simp [expsL]
theorem getD_one {ys : List (El p)} {k : Nat} (hk : k < ys.length) : ys.getD k 1 = ys[k] := by simp [hk]
theorem stE_gen (ys : List (El p)) (x : El p) : ∀ k, k ≤ ys.length → (Gen (fun a : El p => a ∈ ys) (stE ys x k) ↔ Gen (fun a : El p => a ∈ ys) x)
  | 0, _ => Iff.rfl
  | k + 1, h => by
    have hk : k < ys.length := by omega
    rw [← stE_gen ys x k (by omega)]
    show Gen _ (Grp.pwz (ys.getD k 1) _ * stE ys x k) ↔ _
    rw [getD_one hk]
    exact (Gen.sub _).left ((Gen.sub _).pwz (.of _ (List.getElem_mem hk)) _)
theorem tl_up {ys : List (El p)} (hs : SeqEl ys) {h : El p} (hh : Gen (fun a : El p => a ∈ ys) h) : ∀ m d d', d' - d = m → d ≤ d' → d' ≤ p.n → (∀ y, y ∈ ys → lead y.v < d ∨ d' ≤ lead y.v) → Tl d h → Tl d' h := by
  intro m
  induction m with
  | zero => intro d d' h1 h2 _ _ h5; rwa [show d' = d by omega]
  | succ m ih =>
    intro d d' h1 h2 h3 h4 h5
    refine ih (d + 1) d' (by omega) (by omega) h3 (fun y hy => ?_) (h5.succ ?_)
    · rcases h4 y hy with h | h
      · exact .inl (by omega)
      · exact .inr h
    · by_cases h0 : co h d = 0
      · exact h0
      · obtain ⟨y, hy, e⟩ := hs.dep ⟨h, hh, h5, h0⟩
        rcases h4 y hy with h | h <;> omega
theorem stE_one {ys : List (El p)} (hs : SeqEl ys) (x : El p) : stE ys x ys.length = 1 ↔ Gen (fun a : El p => a ∈ ys) x := by
  constructor
  · intro h
    rw [← stE_gen ys x ys.length (Nat.le_refl _), h]; exact .one
  · intro hx
    have hok := hs.ok
    have hasc : ∀ i j (hi : i < ys.length) (hj : j < ys.length), i < j → lead (ys[i]).v < lead (ys[j]).v := fun i j hi hj hij => List.pairwise_iff_getElem.1 hok.asc i j hi hj hij
    have key : ∀ k, k ≤ ys.length → ∀ d', (∀ i (h : i < ys.length), k ≤ i → d' ≤ lead (ys[i]).v) → d' ≤ p.n → Tl d' (stE ys x k) := by
      intro k
      induction k with
      | zero =>
        intro _ d' h1 h2
        refine tl_up hs hx _ 0 d' rfl (Nat.zero_le _) h2 (fun y hy => ?_) (Tl.zero x)
        obtain ⟨i, hi, rfl⟩ := List.getElem_of_mem hy
        exact .inr (h1 i hi (Nat.zero_le _))
      | succ k ih =>
        intro hk d' h1 h2
        have hkn : k < ys.length := by omega
        obtain ⟨hdn, hy1⟩ := hok.lead1 _ (List.getElem_mem hkn)
        have ht := ih (by omega) (lead (ys[k]).v) (fun i hi hki => by
          by_cases e : i = k
          · subst e; exact Nat.le_refl _
          · exact Nat.le_of_lt (hasc k i hkn hi (by omega))) (by omega)
        have hyt : Tl (lead (ys[k]).v) (ys[k]) := lead_tl _
        have hmem := (stE_gen ys x (k + 1) hk).2 hx
        have hstep : Tl (lead (ys[k]).v + 1) (stE ys x (k + 1)) := by
          show Tl _ (Grp.pwz (ys.getD k 1) (-(co (stE ys x k) (lead (ys.getD k 1).v))) * stE ys x k)
          rw [getD_one hkn]
          refine (Tl.mul (by omega) (hyt.pwz (by omega) _) ht).succ ?_
          rw [co_at _ hdn ht, co_pwz hdn hyt, hy1, Int.mul_one, Int.emod_add_emod, Int.add_left_neg, Int.zero_emod]
        by_cases hd : lead (ys[k]).v + 1 ≤ d'
        · refine tl_up hs hmem _ _ d' rfl hd h2 (fun y hy => ?_) hstep
          obtain ⟨i, hi, rfl⟩ := List.getElem_of_mem hy
          by_cases hik : k + 1 ≤ i
          · exact .inr (h1 i hi hik)
          · left
            by_cases e : i = k
            · subst e; omega
            · have := hasc i k hi hkn (by omega); omega
        · exact hstep.mono (by omega)
    exact (key ys.length (Nat.le_refl _) p.n (fun i hi h => by omega) (Nat.le_refl _)).end_
end
/-- The exponents lie in their ranges. -/
def RangeP (p : Pr) (xss : List (List Int)) (as_ : List Int) : Prop := as_.length = xss.length ∧ ∀ i, i < xss.length → 0 ≤ as_.getD i 0 ∧ as_.getD i 0 ≤ p.o (lead (xss.getD i [])) - 1
def MeV (p : Pr) (xss : List (List Int)) (as_ r : List Int) (e : Int) : Prop := (RangeP p xss as_ ∧ (∃ (_ : ConAll p) (ys : List (El p)), xss = vecs ys ∧ r = (prodTo ys as_ ys.length).v) ∧ e = 0) ∨ (¬ RangeP p xss as_ ∧ r = [] ∧ e = 2)
theorem MeV.uniq {p : Pr} {xss : List (List Int)} {as_ : List Int} (a b : List Int) (c d : Int) (h : MeV p xss as_ a c) (k : MeV p xss as_ b d) : a = b ∧ c = d := by
  rcases h with ⟨h1, ⟨_, ys, h2, h3⟩, h4⟩ | ⟨h1, h2, h3⟩ <;> rcases k with ⟨k1, ⟨_, ys', k2, k3⟩, k4⟩ | ⟨k1, k2, k3⟩
  · obtain rfl := vecs_inj (h2.symm.trans k2)
    exact ⟨by rw [h3, k3], by rw [h4, k4]⟩
  · exact absurd h1 k1
  · exact absurd k1 h1
  · exact ⟨by rw [h2, k2], by rw [h3, k3]⟩
theorem MemberElement_sz0 {p : Pr} {xss : List (List Int)} {as_ r : List Int} {e : Int} (hl : p.ord.length ≤ 2000000) (_ : as_.length ≤ 2000000) (h : Ans (IsSubP p xss) (MeV p xss as_) [] r e) : r.length ≤ 2000000 := by
  rcases h with ⟨_, ⟨_, ⟨_, ys, _, rfl⟩, _⟩ | ⟨_, rfl, _⟩⟩ | ⟨_, rfl, _⟩
  · have := el_len (prodTo ys as_ ys.length); omega
  · simp
  · simp
def MxV (p : Pr) (xss : List (List Int)) (xs r : List Int) (e : Int) : Prop := (MemP p xss xs ∧ (∃ (_ : ConAll p) (ys : List (El p)) (x : El p), xss = vecs ys ∧ xs = x.v ∧ r = expsL ys x ys.length) ∧ e = 0) ∨ (¬ MemP p xss xs ∧ r = [] ∧ e = 4)
theorem MxV.uniq {p : Pr} {xss : List (List Int)} {xs : List Int} (a b : List Int) (c d : Int) (h : MxV p xss xs a c) (k : MxV p xss xs b d) : a = b ∧ c = d := by
  rcases h with ⟨h1, ⟨_, ys, x, h2, hx, h3⟩, h4⟩ | ⟨h1, h2, h3⟩ <;> rcases k with ⟨k1, ⟨_, ys', x', k2, kx, k3⟩, k4⟩ | ⟨k1, k2, k3⟩
  · obtain rfl := vecs_inj (h2.symm.trans k2)
    obtain rfl : x = x' := T.ext (hx.symm.trans kx)
    exact ⟨by rw [h3, k3], by rw [h4, k4]⟩
  · exact absurd h1 k1
  · exact absurd k1 h1
  · exact ⟨by rw [h2, k2], by rw [h3, k3]⟩
theorem MemberExponents_sz0 {p : Pr} {xss : List (List Int)} {xs r : List Int} {e : Int} (hl : p.ord.length ≤ 2000000) (h : Ans (IsSubP p xss ∧ InR p xs) (MxV p xss xs) [] r e) : r.length ≤ 2000000 := by
  rcases h with ⟨⟨⟨hG, hq⟩, _⟩, ⟨_, ⟨_, ys, x, hys, _, rfl⟩, _⟩ | ⟨_, rfl, _⟩⟩ | ⟨_, rfl, _⟩
  · haveI : ConAll p := ⟨hG.con⟩
    have h1 := hq.len
    have h2 := hG.valid.n6
    have h3 : xss.length = ys.length := by rw [hys]; simp
    rw [expsL_len]; omega
  · simp
  · simp
end Go.Proofs.YtogbnkombnfknaaGreat

/-
  Digits: the element with a number along a list of places; the products of the orders; lists of all such elements.
  Conditions: none.
-/
namespace Go.Proofs.YtogbnkombnfknaaGreat
open Go Go.Pc
section
variable {p : Pr} {l : List Nat}
def elTo (p : Pr) (l : List Nat) : Nat → Int → List Int
  | 0, _ => zeros p.n
  | k + 1, t => (elTo p l k (t / p.o (l.getD k 0))).set (l.getD k 0) (t % p.o (l.getD k 0))
theorem elTo_len : ∀ (k : Nat) (t : Int), (elTo p l k t).length = p.n
  | 0, _ => zeros_len _
  | k + 1, t => by simp [elTo, elTo_len k]
theorem getD_mem {k : Nat} (hk : k < l.length) : l.getD k 0 ∈ l := by simp [hk]
theorem elTo_in (hv : Valid p) (hl : ∀ d, d ∈ l → d < p.n) : ∀ k, k ≤ l.length → ∀ t : Int, 0 ≤ t → InR p (elTo p l k t)
  | 0, _, _, _ => hv.zeros_in
  | k + 1, h, t, ht => by
    have hd := hl _ (getD_mem (show k < l.length by omega))
    have ho := hv.opos hd
    exact (elTo_in hv hl k (by omega) _ (Int.ediv_nonneg ht (by omega))).set (Int.emod_nonneg _ (by omega)) (fun _ => Int.emod_lt_of_pos _ (by omega))
def elAtT (hv : Valid p) (l : List Nat) (hl : ∀ d, d ∈ l → d < p.n) (t : Int) (ht : 0 ≤ t) : El p := ⟨elTo p l l.length t, elTo_in hv hl _ (Nat.le_refl _) t ht, fun i hi => absurd hi (Nat.not_lt_zero i)⟩
/-- The same, filled from the last place on. -/
def fillTo (p : Pr) (l : List Nat) : Nat → Int → List Int → List Int
  | 0, _, v => v
  | k + 1, t, v => fillTo p l k (t / p.o (l.getD k 0)) (v.set (l.getD k 0) (t % p.o (l.getD k 0)))
theorem fillTo_len : ∀ (k : Nat) (t : Int) (v : List Int), (fillTo p l k t v).length = v.length
  | 0, _, _ => rfl
  | k + 1, t, v => by simp [fillTo, fillTo_len k]
theorem take_mem_succ {k : Nat} (hk : k < l.length) {d : Nat} : d ∈ l.take (k + 1) ↔ d ∈ l.take k ∨ d = l.getD k 0 := by
  rw [List.take_succ_eq_append_getElem hk, List.mem_append, List.mem_singleton]; simp [hk]
theorem not_take (hn : l.Nodup) {k : Nat} (hk : k < l.length) : l.getD k 0 ∉ l.take k := by
  intro h
  have h1 : l.Nodup := hn
  rw [← List.take_append_drop k l] at h1
  have e := List.getElem_cons_drop (h := hk)
  have e2 : l.getD k 0 = l[k] := by simp [hk]
  have h2 := (List.nodup_append.1 h1).2.2 _ h (l.getD k 0) (by rw [← e, e2]; exact List.mem_cons_self)
  exact h2 rfl
theorem fillTo_getD (hn : l.Nodup) (hl : ∀ d, d ∈ l → d < p.n) : ∀ k, k ≤ l.length → ∀ (t : Int) (v : List Int), v.length = p.n → ∀ d, (fillTo p l k t v).getD d 0 = if d ∈ l.take k then (elTo p l k t).getD d 0 else v.getD d 0
  | 0, _, _, _, _, _ => by simp [fillTo]
  | k + 1, h, t, v, hv, d => by
    have hk : k < l.length := by omega
    have hdn := hl _ (getD_mem hk)
    have ih := fillTo_getD hn hl k (by omega) (t / p.o (l.getD k 0)) (v.set (l.getD k 0) (t % p.o (l.getD k 0))) (by simpa using hv) d
    show (fillTo p l k _ _).getD d 0 = _
    rw [ih]
    by_cases h1 : d ∈ l.take k
    · have hne : l.getD k 0 ≠ d := fun e => not_take hn hk (by rw [e]; exact h1)
      rw [if_pos h1, if_pos ((take_mem_succ hk).2 (.inl h1))]
      show _ = ((elTo p l k _).set _ _).getD d 0
      rw [Pc.getD_set_ne _ _ _ _ hne]
    · rw [if_neg h1]
      by_cases h2 : d = l.getD k 0
      · rw [if_pos ((take_mem_succ hk).2 (.inr h2))]
        subst h2
        show _ = ((elTo p l k _).set _ _).getD _ 0
        rw [Pc.getD_set_eq _ _ _ (by rw [hv]; exact hdn), Pc.getD_set_eq _ _ _ (by rw [elTo_len]; exact hdn)]
      · rw [if_neg (fun h3 => ((take_mem_succ hk).1 h3).elim h1 h2), Pc.getD_set_ne _ _ _ _ (Ne.symm h2)]
theorem elTo_out : ∀ (k : Nat), k ≤ l.length → ∀ (t : Int) (d : Nat), d ∉ l.take k → (elTo p l k t).getD d 0 = 0
  | 0, _, _, d, _ => zeros_getD _ _
  | k + 1, h, t, d, hd => by
    have hk : k < l.length := by omega
    have h1 : d ∉ l.take k := fun h => hd ((take_mem_succ hk).2 (.inl h))
    have h2 : l.getD k 0 ≠ d := fun e => hd ((take_mem_succ hk).2 (.inr e.symm))
    show ((elTo p l k _).set _ _).getD d 0 = 0
    rw [Pc.getD_set_ne _ _ _ _ h2]
    exact elTo_out k (by omega) _ d h1
theorem fill_eq (hn : l.Nodup) (hl : ∀ d, d ∈ l → d < p.n) (t : Int) : fillTo p l l.length t (zeros p.n) = elTo p l l.length t := by
  refine list_ext0 (by rw [fillTo_len, elTo_len, zeros_len]) fun d _ => ?_
  rw [fillTo_getD hn hl _ (Nat.le_refl _) _ _ (zeros_len _)]
  split
  · rfl
  · rename_i h
    rw [zeros_getD, elTo_out _ (Nat.le_refl _) _ _ h]
/-- The product of the orders at places. -/
def ordL (p : Pr) (l : List Nat) : Int := l.foldl (fun a d => a * p.o d) 1
theorem ordL_app (l : List Nat) (d : Nat) : ordL p (l ++ [d]) = ordL p l * p.o d := by unfold ordL; rw [List.foldl_append]; rfl
theorem ordL_take (l : List Nat) {k : Nat} (hk : k < l.length) : ordL p (l.take (k + 1)) = ordL p (l.take k) * p.o (l.getD k 0) := by
  rw [List.take_succ_eq_append_getElem hk, ordL_app]; simp [hk]
theorem ordL_bd (hv : Valid p) (hl : ∀ d, d ∈ l → d < p.n) : ∀ k, k ≤ l.length → 1 ≤ ordL p (l.take k) ∧ ordL p (l.take k) ≤ (7 ^ k : Nat)
  | 0, _ => by simp [ordL]
  | k + 1, h => by
    have ih := ordL_bd hv hl k (by omega)
    have hk : k < l.length := by omega
    rw [ordL_take l hk]
    have ho := hv.opos (hl _ (getD_mem hk))
    generalize ordL p (l.take k) = a at ih ⊢
    generalize p.o (l.getD k 0) = o at ho ⊢
    have e : ((7 ^ (k + 1) : Nat) : Int) = (7 ^ k : Nat) * 7 := by rw [Nat.pow_succ]; simp
    rw [e]
    have h1 : a * 1 ≤ a * o := Int.mul_le_mul_of_nonneg_left (by omega) (by omega)
    have h2 : a * o ≤ a * 7 := Int.mul_le_mul_of_nonneg_left ho.2 (by omega)
    omega
theorem ordL_rng (hv : Valid p) (hl : ∀ d, d ∈ l → d < p.n) (h6 : l.length ≤ 6) {k : Nat} (hk : k ≤ l.length) : 1 ≤ ordL p (l.take k) ∧ ordL p (l.take k) ≤ 117649 := by
  have h := ordL_bd hv hl k hk
  have h2 : (7 ^ k : Nat) ≤ 7 ^ 6 := Nat.pow_le_pow_right (by omega) (by omega)
  have h3 : (7 : Nat) ^ 6 = 117649 := by decide
  omega
/-- All elements with digits at the first places. -/
def trTo (p : Pr) (l : List Nat) : Nat → List (List Int)
  | 0 => [zeros p.n]
  | k + 1 => (trTo p l k).flatMap fun x => (List.range (p.o (l.getD k 0)).toNat).map fun e : Nat => x.set (l.getD k 0) (e : Int)
theorem range_mul {α : Type} (g : Nat → α) (o : Nat) : ∀ a : Nat, (List.range a).flatMap (fun s => (List.range o).map fun e => g (s * o + e)) = (List.range (a * o)).map g
  | 0 => by simp
  | a + 1 => by
    rw [List.range_succ, List.flatMap_append, range_mul g o a, Nat.add_mul, Nat.one_mul, List.range_add, List.map_append]
    simp [List.map_map, Function.comp_def]
theorem trTo_eq (hv : Valid p) (hl : ∀ d, d ∈ l → d < p.n) : ∀ k, k ≤ l.length → trTo p l k = (List.range (ordL p (l.take k)).toNat).map fun s : Nat => elTo p l k (s : Int)
  | 0, _ => by simp [trTo, ordL, elTo, List.range_succ]
  | k + 1, h => by
    have hk : k < l.length := by omega
    have ih := trTo_eq hv hl k (by omega)
    have ho := hv.opos (hl _ (getD_mem hk))
    have hb := (ordL_bd hv hl k (by omega)).1
    show (trTo p l k).flatMap _ = _
    rw [ih, List.flatMap_map, ordL_take l hk]
    obtain ⟨a, ha⟩ : ∃ a : Nat, ordL p (l.take k) = a := ⟨(ordL p (l.take k)).toNat, by omega⟩
    obtain ⟨o, hoo⟩ : ∃ o : Nat, p.o (l.getD k 0) = o := ⟨(p.o (l.getD k 0)).toNat, by omega⟩
    have e1 : (ordL p (l.take k) * p.o (l.getD k 0)).toNat = a * o := by rw [ha, hoo, ← Int.natCast_mul]; rfl
    rw [e1, ← range_mul, ha, Int.toNat_natCast]
    congr 1
    funext s
    rw [hoo, Int.toNat_natCast]
    refine List.map_congr_left fun e he => ?_
    have he' := List.mem_range.1 he
    show _ = (elTo p l k (((s * o + e : Nat) : Int) / p.o (l.getD k 0))).set (l.getD k 0) (((s * o + e : Nat) : Int) % p.o (l.getD k 0))
    rw [hoo]
    have d1 : ((s * o + e : Nat) : Int) / (o : Int) = (s : Int) := by
      rw [← Int.natCast_ediv]
      congr 1
      rw [Nat.mul_comm, Nat.mul_add_div (by omega), Nat.div_eq_of_lt he', Nat.add_zero]
    have d2 : ((s * o + e : Nat) : Int) % (o : Int) = (e : Int) := by
      rw [← Int.natCast_emod]
      congr 1
      rw [Nat.mul_comm, Nat.mul_add_mod, Nat.mod_eq_of_lt he']
    rw [d1, d2]
end
section
variable {p : Pr}
theorem freeL_nodup (ys : List (El p)) (k : Nat) : (freeL p ys k).Nodup := List.Nodup.sublist List.filter_sublist List.nodup_range
/-- The order of the group is the index times the order of the subgroup. -/
theorem ord_split [hc : ConAll p] {ys : List (El p)} (hs : SeqOk ys) : ordL p (List.range p.n) = ordL p (freeL p ys p.n) * ordOf p ys := by
  have hasc : ∀ i j (hi : i < ys.length) (hj : j < ys.length), i < j → lead (ys[i]).v < lead (ys[j]).v := fun i j hi hj hij => List.pairwise_iff_getElem.1 hs.asc i j hi hj hij
  have key : ∀ k, k ≤ p.n → ∃ j, j ≤ ys.length ∧ (∀ i (h : i < ys.length), i < j → lead (ys[i]).v < k) ∧ (∀ i (h : i < ys.length), j ≤ i → k ≤ lead (ys[i]).v) ∧ ordL p (List.range k) = ordL p (freeL p ys k) * ordOf p (ys.take j) := by
    intro k
    induction k with
    | zero => exact fun _ => ⟨0, Nat.zero_le _, fun i h hi => absurd hi (Nat.not_lt_zero _), fun i h _ => Nat.zero_le _, by simp [ordL, freeL, ordOf]⟩
    | succ k ih =>
      intro hk
      obtain ⟨j, h1, h2, h3, h4⟩ := ih (by omega)
      have e0 : ordL p (List.range (k + 1)) = ordL p (List.range k) * p.o k := by rw [List.range_succ, ordL_app]
      by_cases hj : ∃ h : j < ys.length, lead (ys[j]).v = k
      · obtain ⟨hjl, hjk⟩ := hj
        refine ⟨j + 1, hjl, fun i h hi => ?_, fun i h hi => ?_, ?_⟩
        · by_cases e : i = j
          · subst e; omega
          · have := h2 i h (by omega); omega
        · have := hasc j i hjl h (by omega); omega
        · rw [e0, h4, freeL_no (List.getElem_mem hjl) hjk, ordOf_take ys hjl, hjk, Int.mul_assoc]
      · have hno : ∀ y, y ∈ ys → lead y.v ≠ k := fun y hy e => by
          obtain ⟨i, hi, rfl⟩ := List.getElem_of_mem hy
          by_cases h5 : i < j
          · have := h2 i hi h5; omega
          · by_cases h6 : i = j
            · subst h6; exact hj ⟨hi, e⟩
            · have h7 := h3 j (by omega) (Nat.le_refl _)
              have := hasc j i (by omega) hi (by omega)
              omega
        refine ⟨j, h1, fun i h hi => by have := h2 i h hi; omega, fun i h hi => ?_, ?_⟩
        · have h5 := h3 i h hi
          have h6 := hno _ (List.getElem_mem h)
          omega
        · rw [e0, h4, freeL_yes hno, ordL_app, Int.mul_assoc, Int.mul_assoc, Int.mul_comm (ordOf p (ys.take j))]
  obtain ⟨j, h1, h2, h3, h4⟩ := key p.n (Nat.le_refl _)
  have hj : j = ys.length := by
    by_cases h : j < ys.length
    · have h5 := h3 j h (Nat.le_refl _)
      have h6 := (hs.lead1 _ (List.getElem_mem h)).1
      omega
    · omega
  rw [h4, hj, List.take_length]
/-- The index of a subgroup in the group. -/
def idxOf (p : Pr) (ys : List (El p)) : Int := ordL p (freeL p ys p.n)
theorem idx_eq [hc : ConAll p] {ys : List (El p)} (hs : SeqOk ys) (h1 : 1 ≤ ordOf p ys) : ordL p (List.range p.n) / ordOf p ys = idxOf p ys := by
  rw [ord_split hs, Int.mul_ediv_cancel _ (by omega)]; rfl
/-- The representatives of the cosets, in ascending order. -/
def transL (p : Pr) (ys : List (El p)) : List (List Int) := trTo p (freeL p ys p.n) (freeL p ys p.n).length
theorem transL_eq (hv : Valid p) (ys : List (El p)) : transL p ys = (List.range (idxOf p ys).toNat).map fun s : Nat => elTo p (freeL p ys p.n) (freeL p ys p.n).length (s : Int) := by
  unfold transL idxOf
  rw [trTo_eq hv (fun d hd => freeL_lt hd) _ (Nat.le_refl _), List.take_length]
end
def TrV (p : Pr) (xss r : List (List Int)) (e : Int) : Prop := ∃ (_ : ConAll p) (ys : List (El p)), xss = vecs ys ∧ ((128 < idxOf p ys ∧ r = [] ∧ e = 3) ∨ (idxOf p ys ≤ 128 ∧ r = transL p ys ∧ e = 0))
theorem TrV.uniq {p : Pr} {xss : List (List Int)} (a b : List (List Int)) (c d : Int) (h : TrV p xss a c) (k : TrV p xss b d) : a = b ∧ c = d := by
  obtain ⟨_, ys, h1, h2⟩ := h
  obtain ⟨_, ys', k1, k2⟩ := k
  obtain rfl := vecs_inj (h1.symm.trans k1)
  rcases h2 with ⟨h3, h4, h5⟩ | ⟨h3, h4, h5⟩ <;> rcases k2 with ⟨k3, k4, k5⟩ | ⟨k3, k4, k5⟩
  · exact ⟨by rw [h4, k4], by rw [h5, k5]⟩
  · omega
  · omega
  · exact ⟨by rw [h4, k4], by rw [h5, k5]⟩
theorem Transversal_sz0 {p : Pr} {xss r : List (List Int)} {e : Int} (_ : p.ord.length ≤ 2000000) (h : Ans (IsSubP p xss) (TrV p xss) [] r e) : r.length ≤ 2000000 ∧ ∀ i, (r.getD i []).length ≤ 2000000 := by
  rcases h with ⟨⟨hG, _⟩, _, ys, _, ⟨_, rfl, _⟩ | ⟨h3, rfl, _⟩⟩ | ⟨_, rfl, _⟩
  · simp
  · have hv := hG.valid
    have hn6 := hv.n6
    rw [transL_eq hv]
    refine ⟨by simp; omega, fun i => ?_⟩
    by_cases hi : i < (idxOf p ys).toNat
    · simp [hi, elTo_len]; omega
    · simp [hi]
  · simp
end Go.Proofs.YtogbnkombnfknaaGreat

/-
  All elements of a group, by their numbers; elements whose commutators with the generators lie in a subgroup.
  Conditions: the tails at all levels are groups.
-/
namespace Go.Proofs.YtogbnkombnfknaaGreat
open Go Go.Pc
section
variable {p : Pr}
theorem numF_lt (hv : Valid p) (l : List Nat) (hl : ∀ d, d ∈ l → d < p.n) (x : El p) : ∀ k, k ≤ l.length → 0 ≤ numF p (l.take k) x ∧ numF p (l.take k) x + 1 ≤ ordL p (l.take k)
  | 0, _ => by simp [numF, ordL]
  | k + 1, h => by
    have ih := numF_lt hv l hl x k (by omega)
    have hk : k < l.length := by omega
    have hd := hl _ (List.getElem_mem hk)
    have ho := hv.opos hd
    have hc : 0 ≤ co x l[k] ∧ co x l[k] < p.o l[k] := x.inr.rng _ hd
    rw [numF_take l x hk, ordL_take l hk, show l.getD k 0 = l[k] by simp [hk]]
    generalize numF p (l.take k) x = a at ih ⊢
    generalize ordL p (l.take k) = b at ih ⊢
    generalize co x l[k] = c at hc ⊢
    generalize p.o l[k] = o at ho hc ⊢
    have h1 : 0 ≤ a * o := Int.mul_nonneg ih.1 (by omega)
    have h2 : (a + 1) * o ≤ b * o := Int.mul_le_mul_of_nonneg_right ih.2 (by omega)
    rw [Int.add_mul, Int.one_mul] at h2
    omega
theorem elTo_num (hv : Valid p) (l : List Nat) (hn : l.Nodup) (hl : ∀ d, d ∈ l → d < p.n) (x : El p) : ∀ k, k ≤ l.length → ∀ d, d ∈ l.take k → (elTo p l k (numF p (l.take k) x)).getD d 0 = co x d
  | 0, _, d, hd => by simp at hd
  | k + 1, h, d, hd => by
    have hk : k < l.length := by omega
    have hdk := hl _ (List.getElem_mem hk)
    have ho := hv.opos hdk
    have hc : 0 ≤ co x l[k] ∧ co x l[k] < p.o l[k] := x.inr.rng _ hdk
    have hg : l.getD k 0 = l[k] := by simp [hk]
    show ((elTo p l k (numF p (l.take (k + 1)) x / p.o (l.getD k 0))).set (l.getD k 0) (numF p (l.take (k + 1)) x % p.o (l.getD k 0))).getD d 0 = co x d
    rw [numF_take l x hk, hg]
    have e1 : (numF p (l.take k) x * p.o l[k] + co x l[k]) / p.o l[k] = numF p (l.take k) x := by
      rw [Int.add_comm, Int.add_mul_ediv_right _ _ (by omega), Int.ediv_eq_zero_of_lt hc.1 hc.2, Int.zero_add]
    have e2 : (numF p (l.take k) x * p.o l[k] + co x l[k]) % p.o l[k] = co x l[k] := by
      rw [Int.add_comm, Int.add_mul_emod_self_right, Int.emod_eq_of_lt hc.1 hc.2]
    rw [e1, e2]
    by_cases h1 : l[k] = d
    · subst h1
      rw [Pc.getD_set_eq _ _ _ (by rw [elTo_len]; exact hdk)]
    · rw [Pc.getD_set_ne _ _ _ _ h1]
      have h2 : d ∈ l.take k := ((take_mem_succ hk).1 hd).resolve_right fun e => h1 (by rw [e, hg])
      exact elTo_num hv l hn hl x k (by omega) d h2
end
section
variable {p : Pr} [hc : ConAll p]
/-- The element with a number. -/
def allE (p : Pr) [hc : ConAll p] (i : Nat) : El p := elAtT hc.valid (List.range p.n) (fun _ hd => List.mem_range.1 hd) i (by omega)
theorem allE_val (i : Nat) : (allE p i).v = elTo p (List.range p.n) (List.range p.n).length (i : Int) := rfl
def ordN (p : Pr) : Nat := (ordL p (List.range p.n)).toNat
theorem allE_surj (x : El p) : ∃ i, i < ordN p ∧ x = allE p i := by
  have hv := hc.valid
  have hl : ∀ d, d ∈ List.range p.n → d < p.n := fun d hd => List.mem_range.1 hd
  have hb := numF_lt hv (List.range p.n) hl x (List.range p.n).length (Nat.le_refl _)
  have hn := elTo_num hv (List.range p.n) List.nodup_range hl x (List.range p.n).length (Nat.le_refl _)
  rw [List.take_length] at hb hn
  refine ⟨(numF p (List.range p.n) x).toNat, by unfold ordN; omega, T.ext ?_⟩
  rw [allE_val, Int.toNat_of_nonneg hb.1]
  have hxl := x.inr.len
  refine list_ext0 (by rw [elTo_len]; exact hxl) fun d hd => ?_
  rw [hn d (List.mem_range.2 (by omega))]; rfl
open Classical in
/-- The elements of a kind among the first ones. -/
noncomputable def selL (P : El p → Prop) (k : Nat) : List (El p) := ((List.range k).map (allE p)).filter fun x => decide (P x)
theorem selL_yes {P : El p → Prop} {k : Nat} (h : P (allE p k)) : selL P (k + 1) = selL P k ++ [allE p k] := by simp [selL, List.range_succ, h]
theorem selL_no {P : El p → Prop} {k : Nat} (h : ¬ P (allE p k)) : selL P (k + 1) = selL P k := by simp [selL, List.range_succ, h]
theorem selL_len (P : El p → Prop) (k : Nat) : (selL P k).length ≤ k := Nat.le_trans (List.length_filter_le _ _) (by simp)
open Classical in
theorem selL_all (P : El p → Prop) : (fun a => a ∈ selL P (ordN p)) = P := by
  funext a
  refine propext ⟨fun h => of_decide_eq_true (List.mem_filter.1 h).2, fun h => List.mem_filter.2 ⟨?_, decide_eq_true h⟩⟩
  obtain ⟨i, hi, rfl⟩ := allE_surj a
  exact List.mem_map.2 ⟨i, List.mem_range.2 hi, rfl⟩
theorem ordN_rng (p : Pr) [hc : ConAll p] : ordL p (List.range p.n) = (ordN p : Int) ∧ 1 ≤ ordN p ∧ ordN p ≤ 117649 := by
  have hv := hc.valid
  have hn6 := hv.n6
  have h := ordL_rng hv (l := List.range p.n) (fun d hd => List.mem_range.1 hd) (by simp; omega) (k := p.n) (by simp)
  rw [List.take_of_length_le (by simp)] at h
  unfold ordN
  omega
/-- The commutators with all generators lie in the subgroup. -/
def AbP (ys : List (El p)) (x : El p) : Prop := ∀ i (h : i < (gensL p).length), Gen (fun a : El p => a ∈ ys) (Grp.cm x (gensL p)[i])
theorem gen_nil (a : El p) (h : Gen (fun a : El p => a ∈ ([] : List (El p))) a) : a = 1 := by
  have hs : Sub (fun a : El p => a = 1) := ⟨rfl, fun a b ha hb => by rw [ha, hb, Grp.one_mul], fun a ha => by rw [ha, Grp.inv_one]⟩
  exact Gen.le hs (fun a ha => (List.not_mem_nil ha).elim) a h
theorem seqEl_nil : SeqEl ([] : List (El p)) := by
  refine ⟨?_⟩
  rw [canon_vecs]
  have e : canEls (Gen (fun a : El p => a ∈ ([] : List (El p)))) = [] := by
    refine List.eq_nil_of_length_eq_zero ?_
    rw [canEls_len, List.countP_eq_zero]
    intro d _ h
    obtain ⟨x, h1, _, h3⟩ := (canT_isSome (Gen.sub _)).1 h
    rw [gen_nil x h1, co_one] at h3
    exact h3 rfl
  rw [e]
end
def CtV (p : Pr) (r : List (List Int)) (e : Int) : Prop := (∃ (_ : ConAll p), r = canon (Gen (fun a : El p => AbP [] a))) ∧ e = 0
theorem CtV.uniq {p : Pr} (a b : List (List Int)) (c d : Int) (h : CtV p a c) (k : CtV p b d) : a = b ∧ c = d := by
  obtain ⟨⟨_, h1⟩, h2⟩ := h
  obtain ⟨⟨_, k1⟩, k2⟩ := k
  exact ⟨by rw [h1, k1], by rw [h2, k2]⟩
theorem Center_sz0 {p : Pr} {r : List (List Int)} {e : Int} (_ : p.ord.length ≤ 2000000) (h : Ans (IsGrp p) (CtV p) [] r e) : r.length ≤ 2000000 ∧ ∀ i, (r.getD i []).length ≤ 2000000 := by
  rcases h with ⟨hG, ⟨hc, rfl⟩, _⟩ | ⟨_, rfl, _⟩
  · exact canon_sz _ hG.valid.n6
  · simp
end Go.Proofs.YtogbnkombnfknaaGreat

/-
  Words over the generators, the relators of a presentation, the value of a word at some elements.
  Conditions: none.
-/
namespace Go.Proofs.YtogbnkombnfknaaGreat
open Go Go.Pc
/-- The word of the powers of the generators from i on. -/
def wordA (i : Nat) : List Int → List Int
  | [] => []
  | x :: l => List.replicate x.toNat ((i : Int) + 1) ++ wordA (i + 1) l
def wordV (e : List Int) : List Int := wordA 0 e
theorem wordA_snoc : ∀ (l : List Int) (i : Nat) (x : Int), wordA i (l ++ [x]) = wordA i l ++ List.replicate x.toNat (((i + l.length : Nat) : Int) + 1)
  | [], i, x => by simp [wordA]
  | y :: l, i, x => by
    simp only [List.cons_append, wordA, wordA_snoc l (i + 1) x, List.append_assoc, List.length_cons]
    rw [show i + 1 + l.length = i + (l.length + 1) by omega]
theorem wordV_take {e : List Int} {k : Nat} (hk : k < e.length) : wordV (e.take (k + 1)) = wordV (e.take k) ++ List.replicate (e.getD k 0).toNat ((k : Int) + 1) := by
  rw [List.take_succ_eq_append_getElem hk]
  unfold wordV
  rw [wordA_snoc]
  have e1 : e.getD k 0 = e[k] := by simp [hk]
  have e2 : 0 + (e.take k).length = k := by simp; omega
  rw [e1, e2]
def invW (w : List Int) : List Int := (w.map fun x => -x).reverse
theorem invW_len (w : List Int) : (invW w).length = w.length := by simp [invW]
theorem wordA_len {b : Nat} : ∀ (l : List Int) (i : Nat), (∀ x, x ∈ l → x ≤ b) → (wordA i l).length ≤ l.length * b
  | [], _, _ => by simp [wordA]
  | x :: l, i, h => by
    have h1 := wordA_len l (i + 1) fun y hy => h y (List.mem_cons_of_mem _ hy)
    have h2 := h x List.mem_cons_self
    have h3 : x.toNat ≤ b := by omega
    simp only [wordA, List.length_append, List.length_replicate, List.length_cons, Nat.add_mul, Nat.one_mul]
    omega
theorem wordA_mem : ∀ (l : List Int) (i : Nat) (a : Int), a ∈ wordA i l → (i : Int) + 1 ≤ a ∧ a ≤ (i + l.length : Nat)
  | [], i, a, h => by simp [wordA] at h
  | x :: l, i, a, h => by
    simp only [wordA, List.mem_append, List.mem_replicate] at h
    simp only [List.length_cons]
    rcases h with ⟨_, rfl⟩ | h
    · omega
    · have := wordA_mem l (i + 1) a h
      omega
/-- All letters name one of n generators. -/
def LetW (n : Nat) (w : List Int) : Prop := ∀ a, a ∈ w → a ≠ 0 ∧ -(n : Int) ≤ a ∧ a ≤ n
theorem LetW.append {n : Nat} {w v : List Int} (h : LetW n w) (k : LetW n v) : LetW n (w ++ v) := fun a ha => (List.mem_append.1 ha).elim (h a) (k a)
theorem letW_word {n : Nat} {e : List Int} (he : e.length = n) : LetW n (wordV e) := fun a ha => by
  have := wordA_mem e 0 a ha
  omega
theorem letW_inv {n : Nat} {w : List Int} (h : LetW n w) : LetW n (invW w) := fun a ha => by
  obtain ⟨b, hb, rfl⟩ := List.mem_map.1 (List.mem_reverse.1 ha)
  have := h b hb
  omega
def relP (p : Pr) (i : Nat) : List Int := List.replicate (p.o i).toNat ((i : Int) + 1) ++ invW (wordV (p.pow.getD i []))
def relC (p : Pr) (i k : Nat) : List Int := [-(i : Int) - 1, ((i + 1 + k : Nat) : Int) + 1, (i : Int) + 1] ++ invW (wordV ((p.cnj.getD i []).getD k []))
def relCs (p : Pr) (i m : Nat) : List (List Int) := (List.range m).map (relC p i)
def relL (p : Pr) (m : Nat) : List (List Int) := (List.range p.n).map (relP p) ++ (List.range m).flatMap fun i => relCs p i (p.n - 1 - i)
/-- The relators of a presentation. -/
def rels (p : Pr) : List (List Int) := relL p p.n
theorem relL_succ (p : Pr) (m : Nat) : relL p (m + 1) = relL p m ++ relCs p m (p.n - 1 - m) := by
  simp [relL, List.range_succ]
theorem relCs_succ (p : Pr) (i m : Nat) : relCs p i (m + 1) = relCs p i m ++ [relC p i m] := by
  simp [relCs, List.range_succ]
section
variable {p : Pr}
theorem invec_word (hv : Valid p) {e : List Int} (h : InR p e) : e.length = p.n ∧ (wordV e).length ≤ 36 ∧ ∀ i, i < e.length → 0 ≤ e.getD i 0 ∧ e.getD i 0 ≤ 6 := by
  have hn := hv.n6
  have hr : ∀ i, i < e.length → 0 ≤ e.getD i 0 ∧ e.getD i 0 ≤ 6 := fun i hi => by
    have h1 := h.rng i (by have := h.len; omega)
    have h2 := hv.opos (i := i) (by have := h.len; omega)
    omega
  refine ⟨h.len, ?_, hr⟩
  have := wordA_len (b := 6) e 0 fun x hx => by
    obtain ⟨i, hi, rfl⟩ := List.getElem_of_mem hx
    have := (hr i hi).2
    simpa [hi] using this
  have hl := h.len
  have h6 : e.length * 6 ≤ 6 * 6 := Nat.mul_le_mul_right _ (by omega)
  exact Nat.le_trans this h6
theorem rels_props (hv : Valid p) : (rels p).length ≤ 100 ∧ ∀ w, w ∈ rels p → w.length ≤ 100 ∧ LetW p.n w := by
  have hn := hv.n6
  have hP : ∀ i, i < p.n → (relP p i).length ≤ 100 ∧ LetW p.n (relP p i) := fun i hi => by
    have h1 := invec_word hv (hv.w_in i hi)
    have ho := hv.opos hi
    have hw : p.w i = p.pow.getD i [] := rfl
    rw [hw] at h1
    refine ⟨?_, LetW.append (fun a ha => ?_) (letW_inv (letW_word h1.1))⟩
    · simp only [relP, List.length_append, List.length_replicate, invW_len]; omega
    · obtain ⟨_, rfl⟩ := List.mem_replicate.1 ha
      omega
  have hC : ∀ i k, i < p.n → k < p.n - 1 - i → (relC p i k).length ≤ 100 ∧ LetW p.n (relC p i k) := fun i k hi hk => by
    have h1 := invec_word hv (hv.c_in i (i + 1 + k) (by omega) (by omega))
    have hw : p.c i (i + 1 + k) = (p.cnj.getD i []).getD k [] := by
      show (p.cnj.getD i []).getD (i + 1 + k - (i + 1)) [] = _
      rw [show i + 1 + k - (i + 1) = k by omega]
    rw [hw] at h1
    refine ⟨?_, LetW.append (fun a ha => ?_) (letW_inv (letW_word h1.1))⟩
    · simp only [relC, List.length_append, invW_len, List.length_cons, List.length_nil]; omega
    · simp only [List.mem_cons, List.not_mem_nil, or_false] at ha
      rcases ha with rfl | rfl | rfl <;> omega
  have hL : ∀ m, m ≤ p.n → ((List.range m).flatMap fun i => relCs p i (p.n - 1 - i)).length ≤ m * 6 := by
    intro m
    induction m with
    | zero => simp
    | succ m ih =>
      intro h
      rw [List.range_succ, List.flatMap_append, List.length_append]
      have h2 := ih (by omega)
      have h3 : (List.flatMap (fun i => relCs p i (p.n - 1 - i)) [m]).length ≤ 6 := by
        simp only [List.flatMap_cons, List.flatMap_nil, List.append_nil, relCs, List.length_map, List.length_range]; omega
      omega
  refine ⟨?_, fun w hw => ?_⟩
  · have := hL p.n (Nat.le_refl _)
    simp only [rels, relL, List.length_append, List.length_map, List.length_range]
    omega
  · rcases List.mem_append.1 hw with h | h
    · obtain ⟨i, hi, rfl⟩ := List.mem_map.1 h
      exact hP i (List.mem_range.1 hi)
    · obtain ⟨i, hi, h⟩ := List.mem_flatMap.1 h
      obtain ⟨k, hk, rfl⟩ := List.mem_map.1 h
      exact hC i k (List.mem_range.1 hi) (List.mem_range.1 hk)
end
section
variable {q : Pr} [hc : ConAll q]
/-- The value of one letter. -/
noncomputable def letV (ys : List (El q)) (a : Int) : El q := if 0 < a then ys.getD (a - 1).toNat 1 else (ys.getD (-a - 1).toNat 1)⁻¹
/-- The value of a word. -/
noncomputable def evalW (ys : List (El q)) (w : List Int) : El q := w.foldl (fun a l => a * letV ys l) 1
theorem evalW_snoc (ys : List (El q)) (w : List Int) (a : Int) : evalW ys (w ++ [a]) = evalW ys w * letV ys a := by
  unfold evalW; rw [List.foldl_append]; rfl
theorem evalW_take {ys : List (El q)} {w : List Int} {k : Nat} (hk : k < w.length) : evalW ys (w.take (k + 1)) = evalW ys (w.take k) * letV ys (w.getD k 0) := by
  rw [List.take_succ_eq_append_getElem hk, evalW_snoc]
  have e1 : w.getD k 0 = w[k] := by simp [hk]
  rw [e1]
/-- The elements meet the relators. -/
def RelOk (p : Pr) (ys : List (El q)) : Prop := ∀ k, k < (rels p).length → evalW ys ((rels p).getD k []) = 1
end
end Go.Proofs.YtogbnkombnfknaaGreat

/-
  Homomorphisms by images: words as powers, sequences of the whole group, isomorphisms.
  Conditions: none.
-/
namespace Go.Proofs.YtogbnkombnfknaaGreat
open Go Go.Pc
section
variable {p : Pr} [hc : ConAll p]
theorem evalW_from (ys : List (El p)) : ∀ (w : List Int) (a : El p), w.foldl (fun a l => a * letV ys l) a = a * evalW ys w
  | [], a => by show a = a * 1; rw [Grp.mul_one]
  | l :: w, a => by
    show w.foldl (fun a l => a * letV ys l) (a * letV ys l) = a * w.foldl (fun a l => a * letV ys l) (1 * letV ys l)
    rw [evalW_from ys w (a * letV ys l), evalW_from ys w (1 * letV ys l), Grp.one_mul, Grp.mul_assoc]
theorem evalW_append (ys : List (El p)) (w v : List Int) : evalW ys (w ++ v) = evalW ys w * evalW ys v := by
  show (w ++ v).foldl (fun a l => a * letV ys l) 1 = _
  rw [List.foldl_append, evalW_from]
  rfl
theorem evalW_rep (ys : List (El p)) (k : Nat) : ∀ m, evalW ys (List.replicate m ((k : Int) + 1)) = Grp.pw (ys.getD k 1) m
  | 0 => rfl
  | m + 1 => by
    rw [List.replicate_succ', evalW_snoc, evalW_rep ys k m, Grp.pw_succ]
    unfold letV
    rw [if_pos (by omega), show ((k : Int) + 1 - 1).toNat = k by omega]
theorem evalW_word {ys : List (El p)} {x : List Int} (h : ∀ i, i < x.length → 0 ≤ x.getD i 0) : ∀ k, k ≤ x.length → evalW ys (wordV (x.take k)) = prodTo ys x k
  | 0, _ => rfl
  | k + 1, hk => by
    rw [wordV_take hk, evalW_append, evalW_word h k (by omega), evalW_rep]
    show _ = prodTo ys x k * Grp.pwz (ys.getD k 1) (x.getD k 0)
    rw [Grp.pwz_of _ (h k hk)]
/-- The image of an element. -/
noncomputable def imgE {q : Pr} [ConAll q] (ys : List (El q)) (x : List Int) : El q := prodTo ys x ys.length
theorem free_nil_iff (ys : List (El p)) : ∀ k, freeL p ys k = [] ↔ ∀ d, d < k → ∃ y, y ∈ ys ∧ lead y.v = d
  | 0 => by simp [freeL]
  | k + 1 => by
    have ih := free_nil_iff ys k
    by_cases h : ∃ y, y ∈ ys ∧ lead y.v = k
    · obtain ⟨y, hy, e⟩ := h
      rw [freeL_no hy e, ih]
      refine ⟨fun h d hd => ?_, fun h d hd => h d (by omega)⟩
      by_cases e2 : d = k
      · subst e2; exact ⟨y, hy, e⟩
      · exact h d (by omega)
    · rw [freeL_yes fun y hy e => h ⟨y, hy, e⟩]
      refine ⟨fun h2 => by simp at h2, fun h2 => absurd (h2 k (by omega)) h⟩
theorem foldl_ge (o : Nat → Int) : ∀ (l : List Nat) (a : Int), 1 ≤ a → (∀ d, d ∈ l → 2 ≤ o d) → a ≤ l.foldl (fun a d => a * o d) a ∧ (l ≠ [] → 2 * a ≤ l.foldl (fun a d => a * o d) a)
  | [], a, _, _ => ⟨Int.le_refl _, fun h => absurd rfl h⟩
  | d :: l, a, ha, h => by
    have hd := h d List.mem_cons_self
    have h1 : a * 2 ≤ a * o d := Int.mul_le_mul_of_nonneg_left hd (by omega)
    have h2 := (foldl_ge o l (a * o d) (by omega) fun e he => h e (List.mem_cons_of_mem _ he)).1
    simp only [List.foldl_cons]
    exact ⟨by omega, fun _ => by omega⟩
/-- A sequence tells the whole group when it has as many members as there are generators. -/
theorem ord_full {ys : List (El p)} (hs : SeqEl ys) : ordOf p ys = ordL p (List.range p.n) ↔ ys.length = p.n := by
  have hv := hc.valid
  have hord := ordOf_rng (ys := ys) (k := ys.length) (by have := hs.len; have := hv.n6; omega) (Nat.le_refl _) fun y hy => (hs.ok.lead1 y hy).1
  rw [List.take_length] at hord
  have hasc : ∀ i j (hi : i < ys.length) (hj : j < ys.length), i < j → lead (ys[i]).v < lead (ys[j]).v := fun i j hi hj hij => List.pairwise_iff_getElem.1 hs.ok.asc i j hi hj hij
  have hle : ∀ i (hi : i < ys.length), i ≤ lead (ys[i]).v := by
    intro i
    induction i with
    | zero => exact fun _ => Nat.zero_le _
    | succ i ih =>
      intro hi
      have h1 := ih (by omega)
      have h2 := hasc i (i + 1) (by omega) hi (by omega)
      omega
  have hsp := ord_split hs.ok
  have hfree : ordL p (freeL p ys p.n) = 1 ↔ freeL p ys p.n = [] := by
    constructor
    · intro h
      by_cases e : freeL p ys p.n = []
      · exact e
      · have h2 := (foldl_ge p.o (freeL p ys p.n) 1 (Int.le_refl _) fun d hd => (hv.opos (freeL_lt hd)).1).2 e
        have h3 : ordL p (freeL p ys p.n) = (freeL p ys p.n).foldl (fun a d => a * p.o d) 1 := rfl
        omega
    · intro h; rw [h]; rfl
  have hcov : freeL p ys p.n = [] ↔ ys.length = p.n := by
    rw [free_nil_iff]
    constructor
    · intro h
      have key : ∀ i, i < p.n → ∃ hi : i < ys.length, lead (ys[i]).v = i := by
        intro i
        induction i using Nat.strongRecOn with
        | _ i ih =>
          intro hi
          obtain ⟨y, hy, e⟩ := h i hi
          obtain ⟨j, hj, rfl⟩ := List.getElem_of_mem hy
          have h1 := hle j hj
          by_cases e2 : j < i
          · obtain ⟨_, e3⟩ := ih j e2 (by omega)
            omega
          · obtain rfl : j = i := by omega
            exact ⟨hj, e⟩
      have h1 := hs.len
      by_cases e : ys.length = p.n
      · exact e
      · obtain ⟨h2, _⟩ := key ys.length (by omega)
        omega
    · intro h d hd
      have hub : ∀ k i (hi : i < ys.length), i + k + 1 = ys.length → lead (ys[i]).v + k < p.n := by
        intro k
        induction k with
        | zero => exact fun i hi _ => by have := (hs.ok.lead1 _ (List.getElem_mem hi)).1; omega
        | succ k ih =>
          intro i hi e
          have h1 := ih (i + 1) (by omega) (by omega)
          have h2 := hasc i (i + 1) hi (by omega) (by omega)
          omega
      have hdl : d < ys.length := by omega
      have h1 := hub (ys.length - 1 - d) d hdl (by omega)
      have h2 := hle d hdl
      exact ⟨ys[d], List.getElem_mem hdl, by omega⟩
  rw [← hcov, ← hfree]
  constructor
  · intro h
    rw [← h] at hsp
    have h2 : 1 * ordOf p ys = ordL p (freeL p ys p.n) * ordOf p ys := by rw [Int.one_mul]; exact hsp
    exact (Int.eq_of_mul_eq_mul_right (by omega) h2).symm
  · intro h
    rw [h, Int.one_mul] at hsp
    exact hsp.symm
end
/-- The images are those of an isomorphism. -/
def IsoC (p q : Pr) [ConAll q] (xss : List (List Int)) : Prop := ∃ ys : List (El q), xss = vecs ys ∧ RelOk p ys ∧ ordOf q (canEls (Gen (fun a : El q => a ∈ ys))) = ordL q (List.range q.n)
def IsoP (p q : Pr) (xss : List (List Int)) : Prop := IsGrp p ∧ xss.length = p.n ∧ ordL p (List.range p.n) = ordL q (List.range q.n) ∧ ∃ hq : IsGrp q, (∀ i, i < xss.length → InR q (xss.getD i [])) ∧ @IsoC p q ⟨hq.con⟩ xss
theorem isoC_iff {p q : Pr} [ConAll q] {ys : List (El q)} : IsoC p q (vecs ys) ↔ RelOk p ys ∧ ordOf q (canEls (Gen (fun a : El q => a ∈ ys))) = ordL q (List.range q.n) := by
  constructor
  · rintro ⟨zs, h1, h2⟩
    obtain rfl := vecs_inj h1
    exact h2
  · exact fun h => ⟨ys, rfl, h⟩
/-- The answers of the functions on automorphisms. -/
def ApV (p : Pr) (xss : List (List Int)) (xs r : List Int) (e : Int) : Prop := (∃ (_ : ConAll p) (ys : List (El p)), xss = vecs ys ∧ r = (imgE ys xs).v) ∧ e = 0
theorem ApV.uniq {p : Pr} {xss : List (List Int)} {xs : List Int} (a b : List Int) (c d : Int) (h : ApV p xss xs a c) (k : ApV p xss xs b d) : a = b ∧ c = d := by
  obtain ⟨⟨_, ys, h1, h2⟩, h3⟩ := h
  obtain ⟨⟨_, zs, k1, k2⟩, k3⟩ := k
  obtain rfl := vecs_inj (h1.symm.trans k1)
  exact ⟨by rw [h2, k2], by rw [h3, k3]⟩
def CoV (p : Pr) (xss yss r : List (List Int)) (e : Int) : Prop := (∃ (_ : ConAll p) (ys zs : List (El p)), xss = vecs ys ∧ yss = vecs zs ∧ r = vecs (ys.map fun y => imgE zs y.v)) ∧ e = 0
theorem CoV.uniq {p : Pr} {xss yss : List (List Int)} (a b : List (List Int)) (c d : Int) (h : CoV p xss yss a c) (k : CoV p xss yss b d) : a = b ∧ c = d := by
  obtain ⟨⟨_, ys, zs, h1, h2, h3⟩, h4⟩ := h
  obtain ⟨⟨_, ys', zs', k1, k2, k3⟩, k4⟩ := k
  obtain rfl := vecs_inj (h1.symm.trans k1)
  obtain rfl := vecs_inj (h2.symm.trans k2)
  exact ⟨by rw [h3, k3], by rw [h4, k4]⟩
theorem ApplyAutomorphism_sz0 {p : Pr} {xss : List (List Int)} {xs r : List Int} {e : Int} (hl : p.ord.length ≤ 2000000) (_ : xss.length ≤ 2000000) (h : Ans (IsoP p p xss ∧ InR p xs) (ApV p xss xs) [] r e) : r.length ≤ 2000000 := by
  rcases h with ⟨_, ⟨_, ys, _, rfl⟩, _⟩ | ⟨_, rfl, _⟩
  · have h2 : (imgE ys xs).v.length = p.ord.length := (imgE ys xs).inr.len
    omega
  · simp
theorem ComposeAutomorphisms_sz0 {p : Pr} {xss yss r : List (List Int)} {e : Int} (hl : p.ord.length ≤ 2000000) (_ : xss.length ≤ 2000000) (_ : yss.length ≤ 2000000) (h : Ans (IsoP p p xss ∧ IsoP p p yss) (CoV p xss yss) [] r e) : r.length ≤ 2000000 ∧ ∀ i, (r.getD i []).length ≤ 2000000 := by
  rcases h with ⟨⟨⟨_, h1, _⟩, _⟩, ⟨_, ys, zs, rfl, _, rfl⟩, _⟩ | ⟨_, rfl, _⟩
  · have h2 : p.n = p.ord.length := rfl
    refine ⟨by simp at h1 ⊢; omega, fun i => ?_⟩
    have := vecs_len (ys.map fun y => imgE zs y.v) i
    omega
  · simp
end Go.Proofs.YtogbnkombnfknaaGreat

/-
  Walks: the reference's IsMember and IsSubset.
  Conditions: what the arguments read as.
-/
namespace Go.Proofs.YtogbnkombnfknaaGreat
open Go Go.Pc
end Go.Proofs.YtogbnkombnfknaaGreat

/-
  Walks: the reference's CosetRepresentative.
  Conditions: what the arguments read as.
-/
namespace Go.Proofs.YtogbnkombnfknaaGreat
open Go Go.Pc
end Go.Proofs.YtogbnkombnfknaaGreat

/-
  Lists of lists that come from a call and grow on: lowered bounds, 'out = append(out, x)' where the rows need not be the call's own.
  Conditions: none; nothing of the program stands here.
-/
namespace Go.Pc
open Go Go.RowKit
section
variable {e s s' : Nat} {w : World} {v : Value} {us : List Value} {xss : List (List Int)} {rs : List (Value × List Int)}
theorem Lst.low (h : Lst e s (· < s) w v us xss) (h1 : s' ≤ s) (h2 : s' ≤ w.heap.size) : Lst e s' (· < s') w v us xss :=
  (h.mono h1).weak (fun g hg => .inl (Nat.lt_of_lt_of_le hg h1)) (fun g hg hlt => by
    have h3 := (h.lt hg).1
    have h4 : g < s' := hlt
    omega) (fun g hg => Nat.lt_of_lt_of_le hg h2)
theorem GrowL.lower (h : GrowL e s w v rs) (h1 : s' ≤ s) (h2 : s' ≤ w.heap.size) : GrowL e s' w v rs := ⟨h.lst.low h1 h2, h.own.mono h1⟩
end
section
variable {P : Program} {N : Nat} {ops : Array Oper} {π : List Nat} {K : Env → World → Prop} {ρ : Env} {w w0 w1 w00 : World} {l : List Oper}
variable {i : Nat} {ty ty2 : TypeId} {pos pos2 : String} {after after2 : Array Edge} {g g2 : Option (Nat × Bool)} {d d2 : Nat}
theorem z_growl {s x : Operand} {b t e bytes sb : Nat} {z v u : Value} {xs : List Int} {us : List Value} {xss : List (List Int)} [ht : SlT P t e] [he : ElT P e 1 bytes z] (hG : Lst e sb (· < sb) w0 v us xss) (x01 : Ext w0 w1) (hu : Fr w0.heap.size w1 u xs) (hs0 : sb ≤ w0.heap.size)
    (hn : us.length ≤ 1000000) (hvb : ∀ g, v.ownBlock = some g → g = b) (hi1 : opAt ops π i = some ⟨some d, .buildSlice t 1 #[(0, x)], ty, pos, after, g⟩ := by exact rfl) (hi2 : opAt ops π (i + 1) = some ⟨some d2, .call { callee := .builtin .append, args := #[s, .tmp d], argTypes := #[t, t] }, ty2, pos2, after2, g2⟩ := by exact rfl)
    (next : ∀ v1 v' w', Lst e sb (· < sb) w' v' (us ++ [u]) (xss ++ [xs]) → (∀ wb, Ext wb w1 → wb.heap.size ≤ sb → Ext wb w') → w1.heap.size ≤ w'.heap.size → dops P N ops π (Chg b w00) K (i + 1 + 1) (put (put ρ d v1) d2 v') w')
    (hx : ev ρ x = u := by ((try simp only [ev_tmp, ev_const, ev_func, get_put, get_args, get_putL, get_putL_nil, Nat.reduceEqDiff, reduceIte, List.getD_cons_zero, List.getD_cons_succ, List.getD_nil]); first | done | with_reducible rfl)) (hs : ∀ v1, ev (put ρ d v1) s = v := by intro v1; ((try simp only [ev_tmp, ev_const, ev_func, get_put, get_args, get_putL, get_putL_nil, Nat.reduceEqDiff, reduceIte, List.getD_cons_zero, List.getD_cons_succ, List.getD_nil]); first | done | with_reducible rfl)) (hd : ∀ v1, ev (put ρ d v1) (.tmp d) = v1 := by intro v1; ((try simp only [ev_tmp, ev_const, ev_func, get_put, get_args, get_putL, get_putL_nil, Nat.reduceEqDiff, reduceIte, List.getD_cons_zero, List.getD_cons_succ, List.getD_nil]); first | done | with_reducible rfl)) (hz : z.cells = #[z] := by rfl) (hby : bytes ≤ 100 := by decide) (hg1 : Wants ops ρ g := by first | exact True.intro | exact ⟨_, rfl, by ((try simp only [ev_tmp, ev_const, ev_func, get_put, get_args, get_putL, get_putL_nil, Nat.reduceEqDiff, reduceIte, List.getD_cons_zero, List.getD_cons_succ, List.getD_nil, Bool.not_true, Bool.not_false]); first | done | with_reducible rfl)⟩) (hg2 : ∀ v1, Wants ops (put ρ d v1) g2 := by intro v1; first | exact True.intro | exact ⟨_, rfl, by ((try simp only [ev_tmp, ev_const, ev_func, get_put, get_args, get_putL, get_putL_nil, Nat.reduceEqDiff, reduceIte, List.getD_cons_zero, List.getD_cons_succ, List.getD_nil, Bool.not_true, Bool.not_false]); first | done | with_reducible rfl)⟩)
    (hn1 : nextOk ops π i = true := by decide +kernel) (hn2 : nextOk ops π (i + 1) = true := by decide +kernel) (hd1 : d < N := by decide) (hd2 : d2 < N := by decide) :
    dops P N ops π (Chg b w00) K i ρ w1 := by
  refine z_slice1 (u := u) hi1 hx hu.ints.sl.cells hz (fun w2 v2 he2 hs2 ho2 => ?_) hn1 hd1 hg1
  have hO := (hG.ext (x01.trans he2)).own
  have hz1 := x01.size
  have hz2 := he2.size
  have hb : (us.length + 1) * bytes ≤ 1000001 * 100 := Nat.mul_le_mul (by omega) hby
  refine z_append (hv := hO) (hy := ho2) hi2 (hs v2) (hd v2) (by rw [hz]; rfl) ?_ ?_ ?_ ?_ hvb (fun v3 w3 ho3 hg3 ha3 => ?_) hn2 hd2 (hg2 v2)
  · intro a ha
    rw [List.mem_singleton.1 ha]; exact hu.ints.sl.one
  · simp only [List.length_singleton]; omega
  · simp only [List.length_singleton, maxLen]; omega
  · omega
  · refine next v2 v3 w3 ?_ (fun wb hb1 hb2 => (hb1.trans he2).app hg3 (fun k hk => by have := (hG.lt hk).1; omega)) (Nat.le_trans hz2 hg3.size)
    exact (hG.ext (x01.trans he2)).push (IntsAp.ofFr (hu.ext' he2) (fun g hg => by
      rcases hg with hg | hg
      · have h4 : g < sb := hg
        omega
      · exact (hG.lt hg).2)) ho3 hg3 ha3
end
end Go.Pc

/-
  Walks: the reference's closure under conjugation, its test of normality (l13Stable, l13Normal).
  Conditions: the tails at all levels are groups; the lists are those told.
-/
namespace Go.Proofs.YtogbnkombnfknaaGreat
open Go Go.Pc
/-- One round: the elements, and their conjugates. -/
structure Rnd {p : Pr} [ConAll p] (os bs ls : List (El p)) (i j : Nat) : Prop where
  mem : ∀ a, a ∈ ls → a ∈ os ∨ ∃ o, o ∈ os ∧ ∃ b, b ∈ bs ∧ a = Grp.cj o b
  old : ∀ o, o ∈ os → o ∈ ls
  rows : ∀ i' (h : i' < bs.length), i' < i → ∀ o, o ∈ os → Grp.cj o bs[i'] ∈ ls
  part : ∀ (h : i < bs.length) j' (h' : j' < os.length), j' < j → Grp.cj os[j'] bs[i] ∈ ls
  len : ls.length ≤ 6 + i * 6 + j
theorem Rnd.step {p : Pr} [ConAll p] {os bs ls : List (El p)} {i j : Nat} (h : Rnd os bs ls i j) (hi : i < bs.length) (hj : j < os.length) : Rnd os bs (ls ++ [Grp.cj os[j] bs[i]]) i (j + 1) where
  mem a ha := by
    rcases List.mem_append.1 ha with ha | ha
    · exact h.mem a ha
    · exact .inr ⟨_, List.getElem_mem hj, _, List.getElem_mem hi, List.mem_singleton.1 ha⟩
  old o ho := List.mem_append_left _ (h.old o ho)
  rows i' h1 h2 o ho := List.mem_append_left _ (h.rows i' h1 h2 o ho)
  part h1 j' h2 h3 := by
    by_cases e : j' = j
    · subst e; simp
    · exact List.mem_append_left _ (h.part h1 j' h2 (by omega))
  len := by have := h.len; simp only [List.length_append, List.length_singleton]; omega
theorem Rnd.next {p : Pr} [ConAll p] {os bs ls : List (El p)} {i : Nat} (h : Rnd os bs ls i os.length) (hi : i < bs.length) (h6 : os.length ≤ 6) : Rnd os bs ls (i + 1) 0 where
  mem := h.mem
  old := h.old
  rows i' h1 h2 o ho := by
    by_cases e : i' = i
    · subst e
      obtain ⟨j, hj, rfl⟩ := List.getElem_of_mem ho
      exact h.part h1 j hj hj
    · exact h.rows i' h1 (by omega) o ho
  part h1 j' h2 h3 := absurd h3 (Nat.not_lt_zero _)
  len := by have := h.len; omega
theorem vecs_append {p : Pr} (l m : List (El p)) : vecs (l ++ m) = vecs l ++ vecs m := by simp [vecs]
theorem gen_le_gen {p : Pr} [ConAll p] {l m : List (El p)} (h : ∀ a, a ∈ l → Gen (fun a : El p => a ∈ m) a) : ∀ a, Gen (fun a : El p => a ∈ l) a → Gen (fun a : El p => a ∈ m) a := Gen.le (Gen.sub _) h
set_option maxHeartbeats 2000000 in
theorem l13StableL_ok {p : Pr} [hc : ConAll p] {ys bs : List (El p)} (hs : SeqEl ys) (hbl : bs.length ≤ 1000) {w : World} {vp vu vb : Value} {us ub : List Value} {xss yss : List (List Int)} {lo hi lo1 hi1 lo2 hi2 : Nat} [hp : Pres lo hi w vp p] [hu : Pc.Rows lo1 hi1 w vu us xss] [hb : Pc.Rows lo2 hi2 w vb ub yss] (hus : xss = vecs ys) (hbs : yss = vecs bs) :
    Calls Tryz.prog 107 #[vp, vu, vb] w (Ret fun v w' => Ext w w' ∧ ∃ us', Lst 22 w.heap.size (· < w.heap.size) w' v us' (canon (Clo (fun a : El p => a ∈ ys) (fun a : El p => a ∈ bs)))) := by
  subst hus hbs
  have hv := hc.valid
  have hn6 := hv.n6
  have hbvl : (vecs bs).length = bs.length := by simp
  replace hp := hp.wide
  replace hu := hu.wide
  replace hb := hb.wide
  obtain ⟨vo, vpw, vc, ps, cs, css, rfl, h1, h2, h3⟩ := hp.ex
  refine enter (args := [.agg #[vo, vpw, vc], vu, vb]) (l := [.tmp 6]) Tryz.func107 rfl rfl Tryz.ntmps107 (by simp) ?_
  refine go ?_
  refine st_box3 (by ((try simp only [ev_tmp, ev_const, ev_func, get_put, get_args, get_putL, get_putL_nil, Nat.reduceEqDiff, reduceIte, List.getD_cons_zero, List.getD_cons_succ, List.getD_nil]); first | done | with_reducible rfl)) (by first | exact True.intro | exact ⟨_, rfl, by ((try simp only [ev_tmp, ev_const, ev_func, get_put, get_args, get_putL, get_putL_nil, Nat.reduceEqDiff, reduceIte, List.getD_cons_zero, List.getD_cons_succ, List.getD_nil, Bool.not_true, Bool.not_false]); first | done | with_reducible rfl)⟩) fun w1 b he1 hb1 hs1 hc0 hc1 hc2 => ?_
  have hz1 := he1.size
  have hu1 : Pc.Rows 0 w1.heap.size w1 vu us (vecs ys) := Pc.Rows.wide inferInstance
  refine go ?_
  refine r_loop (fun m ρ w' => ∃ vo' uo os, Has ρ [(2, vb), (3, .pointer (some ⟨b, 0, none⟩)), (7, vo')] ∧ Ext w1 w' ∧ Pc.Rows 0 w'.heap.size w' vo' uo (vecs os) ∧ SeqEl os ∧ (∀ y, y ∈ ys → Gen (fun a : El p => a ∈ os) y) ∧ (∀ o, o ∈ os → Clo (fun a : El p => a ∈ ys) (fun a : El p => a ∈ bs) o) ∧ m = p.n - os.length) (p.n - ys.length) ?_ ?_
  · refine ⟨vu, us, ys, ?_, Ext.refl _, hu1, hs, fun y hy => .of y hy, fun y hy => .of y hy, rfl⟩
    exact hasP
  clear hu1
  rintro m ρ w2 ⟨vo', uo, os, hH, he2, hR2, hso, hyo, hoc, hm⟩
  refine rwp_has hH fun ρ0 => ?_
  have hz2 := he2.size
  have hol := hso.len
  have hovl : (vecs os).length = os.length := by simp
  have hE2 := he1.trans he2
  refine go ?_
  refine rc (l01Own2G_ok (xss := vecs os) (fun i => ?_) ?_) (next := fun v3 w3 h4 => ?_)
  · have := vecs_len os i; omega
  · omega
  obtain ⟨he3, rs3, hG3, hrs3⟩ := h4
  refine go ?_
  refine r_for bs.length (fun i ρ w' => ∃ vl rs ls, Has ρ [(2, vb), (3, .pointer (some ⟨b, 0, none⟩)), (7, vo'), (8, vl), (9, .int .i64 i)] ∧ Ext w2 w' ∧ GrowL 22 w2.heap.size w' vl rs ∧ rs.map (·.2) = vecs ls ∧ Rnd os bs ls i 0) ?_ ?_
  · refine ⟨v3, rs3, os, ?_, he3, hG3, hrs3, ⟨fun a ha => .inl ha, fun o ho => ho, fun i' _ h => absurd h (Nat.not_lt_zero _), fun _ j' _ h => absurd h (Nat.not_lt_zero _), by omega⟩⟩
    exact hasP
  clear hG3 hrs3 he3
  rintro i ρ w4 hi ⟨vl, rs, ls, hH4, he4, hG4, hrs4, hK4⟩
  refine rwp_has hH4 fun ρ1 => ?_
  have hz4 := he4.size
  refine go ?_
  refine c_if (fun h4 => ?_) (fun h4 => ?_)
  · have hin : i < bs.length := by omega
    refine go ?_
    refine r_for os.length (fun j ρ w' => ∃ vl rs ls, Has ρ [(2, vb), (3, .pointer (some ⟨b, 0, none⟩)), (7, vo'), (8, vl), (9, .int .i64 i), (10, .int .i64 j)] ∧ Ext w2 w' ∧ GrowL 22 w2.heap.size w' vl rs ∧ rs.map (·.2) = vecs ls ∧ Rnd os bs ls i j) ?_ ?_
    · refine ⟨vl, rs, ls, ?_, he4, hG4, hrs4, hK4⟩
      exact hasP
    clear hG4 hrs4 he4 hK4
    rintro j ρ w5 hj ⟨vl, rs, ls, hH5, he5, hG5, hrs5, hK5⟩
    refine rwp_has hH5 fun ρ2 => ?_
    have hz5 := he5.size
    have hrl : rs.length = ls.length := by have := congrArg List.length hrs5; simpa using this
    have hll := hK5.len
    refine go ?_
    refine c_if (fun h5 => ?_) (fun h5 => ?_)
    · have hjn : j < os.length := by omega
      have hg1 := vecs_getD os hjn
      have hg2 := vecs_getD bs hin
      have hE5 := hE2.trans he5
      obtain ⟨b', hb', hvb'⟩ := own_some' vl w2.heap.size w5.heap.size (by omega) (fun g h => (hG5.lst.lt h).1)
      have ap1 : Apart 0 w.heap.size b' := ⟨.inr (by omega)⟩
      have ap2 : Apart b (b + 1) b' := ⟨.inr (by omega)⟩
      have ap3 : Apart 0 w2.heap.size b' := ⟨.inr (by omega)⟩
      refine go ?_
      refine z_order b' (List.range 14) (h := fun w6 he6 _ => ?_)
      refine zgo ?_
      refine zc (l10Conj_ok (p := p) (x := os[j]) (y := bs[i]) hg1 hg2) (next := fun v7 w7 h7 => ?_)
      obtain ⟨he7, hf7⟩ := h7
      refine z_grow (hG5.ext he6) he7 hf7 (by have := he6.size; omega) (by omega) hvb' (next := fun v8 v9 w9 hG9 hx9 hz9 hgs9 => ?_)
      refine zgo ?_
      refine z_end ?_
      refine go ?_
      refine forQ_normal (by omega) ⟨v9, _, ls ++ [Grp.cj os[j] bs[i]], ?_, hx9 w2 ((he5.trans he6).trans he7) (Nat.le_refl _), hG9, ?_, hK5.step hin hjn⟩
      · exact hasP
      · rw [vecs_append, List.map_append, hrs5]; rfl
    · obtain rfl : j = os.length := by omega
      refine go ?_
      refine forQ_normal (by omega) ⟨vl, rs, ls, ?_, he5, hG5, hrs5, hK5.next hin (by omega)⟩
      exact hasP
  · obtain rfl : i = bs.length := by omega
    have hR4 := hG4.rows
    have hll := hK4.len
    have hE4 := hE2.trans he4
    refine go ?_
    refine rc (l12Close_ok (p := p) (ys := ls) hrs4 ?_) (next := fun v5 w5 h5 => ?_)
    · omega
    obtain ⟨he5, us5, hL5⟩ := h5
    have hN5 := hL5.newRows
    have hE5 := hE4.trans he5
    have hz5 := he5.size
    have hSL := Gen.sub (fun a : El p => a ∈ ls)
    have hSO := Gen.sub (fun a : El p => a ∈ os)
    have hSC := Clo.sub (fun a : El p => a ∈ ys) (fun a : El p => a ∈ bs)
    have hOL : ∀ a, Gen (fun a : El p => a ∈ os) a → Gen (fun a : El p => a ∈ ls) a := gen_le_gen fun a ha => .of a (hK4.old a ha)
    have hLC : ∀ a, Gen (fun a : El p => a ∈ ls) a → Clo (fun a : El p => a ∈ ys) (fun a : El p => a ∈ bs) a := Gen.le hSC fun a ha => by
      rcases hK4.mem a ha with h | ⟨o, ho, b, hb, rfl⟩
      · exact hoc a h
      · exact .cj _ _ (hoc o ho) hb
    have hcl : (canon (Gen (fun a : El p => a ∈ ls))).length = (canEls (Gen (fun a : El p => a ∈ ls))).length := by rw [canon_vecs]; simp
    have hle := can_len_le hSO hSL hOL
    rw [hso.els] at hle
    have hln := (seqEl_can hSL).len
    refine go ?_
    refine c_if (fun h6 => ?_) (fun h6 => ?_)
    · have hlen : (canEls (Gen (fun a : El p => a ∈ ls))).length ≤ os.length := by omega
      have hsame := same_of_len hSO hSL hOL (by rw [hso.els]; exact hlen)
      have hCO : ∀ a, Clo (fun a : El p => a ∈ ys) (fun a : El p => a ∈ bs) a → Gen (fun a : El p => a ∈ os) a :=
        Clo.le hSO (fun y hy => hyo y hy) fun a b ha hb => Gen.cj_closed hSO (fun o ho => hsame _ (.of _ (by
          obtain ⟨i', hi', rfl⟩ := List.getElem_of_mem hb
          exact hK4.rows i' hi' hi' o ho))) a ha
      have hfun : Gen (fun a : El p => a ∈ ls) = Clo (fun a : El p => a ∈ ys) (fun a : El p => a ∈ bs) := by
        funext a; exact propext ⟨hLC a, fun h => hOL a (hCO a h)⟩
      refine go ?_
      refine ret1 ⟨hE5, us5, ?_⟩
      rw [← hfun]
      exact hL5.low (by omega) (by omega)
    · refine go ?_
      have hR5 := hN5.mono (Nat.zero_le _) (Nat.le_refl _)
      refine loopQ_normal ?_ ⟨v5, us5, canEls (Gen (fun a : El p => a ∈ ls)), ?_, (he2.trans he4).trans he5, ?_, seqEl_can hSL, fun y hy => ?_, fun o ho => ?_, rfl⟩
      · omega
      · exact hasP
      · rw [← canon_vecs]; exact hR5
      · rw [gen_can_eq hSL]; exact hOL y (hyo y hy)
      · obtain ⟨d, _, h7⟩ := canEls_mem.1 ho
        exact hLC _ (canT_some h7).mem
theorem l13Stable_ok {p : Pr} [hc : ConAll p] {ys bs : List (El p)} (hs : SeqEl ys) (hbl : bs.length ≤ 1000) {w : World} {vp vu vb : Value} {us ub : List Value} {xss yss : List (List Int)} {lo hi lo1 hi1 lo2 hi2 : Nat} [hp : Pres lo hi w vp p] [hu : Pc.Rows lo1 hi1 w vu us xss] [hb : Pc.Rows lo2 hi2 w vb ub yss] (hus : xss = vecs ys) (hbs : yss = vecs bs) :
    Calls Tryz.prog 107 #[vp, vu, vb] w (Ret fun v w' => Ext w w' ∧ ∃ us', Pc.Rows w.heap.size w'.heap.size w' v us' (canon (Clo (fun a : El p => a ∈ ys) (fun a : El p => a ∈ bs)))) :=
  Pc.Calls.ret_mono (l13StableL_ok hs hbl hus hbs) fun _ _ ⟨h1, us', h2⟩ => ⟨h1, us', h2.newRows⟩
end Go.Proofs.YtogbnkombnfknaaGreat

/-
  Walks: the reference's GeneratedSubgroup, ConjugateSubgroup, IsNormalSubgroup, SubgroupIndex, SubgroupDepths.
  Conditions: what the arguments read as.
-/
namespace Go.Proofs.YtogbnkombnfknaaGreat
open Go Go.Pc
theorem els_inR {p : Pr} {xss : List (List Int)} (h : ∀ i, i < xss.length → InR p (xss.getD i [])) : ∃ ys : List (El p), xss = vecs ys := els_of h
set_option maxHeartbeats 1000000 in
theorem l13Normal_ok {p : Pr} [hc : ConAll p] {ys : List (El p)} (hs : SeqEl ys) {w : World} {vp vu : Value} {us : List Value} {xss : List (List Int)} {lo hi lo1 hi1 : Nat} [hp : Pres lo hi w vp p] [hu : Pc.Rows lo1 hi1 w vu us xss] (hus : xss = vecs ys) :
    Calls Tryz.prog 75 #[vp, vu] w (Ret fun v w' => ∃ b, v = .bool b ∧ (b = true ↔ NormP p xss) ∧ Ext w w') := by
  have hn6 := hc.valid.n6
  obtain ⟨vo, vpw, vc, ps, cs, css, rfl, h1, h2, h3⟩ := hp.ex
  refine enter (args := [.agg #[vo, vpw, vc], vu]) (l := [.tmp 4]) Tryz.func75 rfl rfl Tryz.ntmps75 (by simp) ?_
  refine go ?_
  refine st_box3 (by ((try simp only [ev_tmp, ev_const, ev_func, get_put, get_args, get_putL, get_putL_nil, Nat.reduceEqDiff, reduceIte, List.getD_cons_zero, List.getD_cons_succ, List.getD_nil]); first | done | with_reducible rfl)) (by first | exact True.intro | exact ⟨_, rfl, by ((try simp only [ev_tmp, ev_const, ev_func, get_put, get_args, get_putL, get_putL_nil, Nat.reduceEqDiff, reduceIte, List.getD_cons_zero, List.getD_cons_succ, List.getD_nil, Bool.not_true, Bool.not_false]); first | done | with_reducible rfl)⟩) fun w1 b he1 hb1 hs1 hc0 hc1 hc2 => ?_
  refine go ?_
  refine d_order [0, 1, 2, 6, 7, 3, 4, 5, 8, 9] (h := fun w2 he2 _ => ?_)
  refine dgo ?_
  refine dce (l12Whole_ok (p := p)) (next := fun v3 w3 h4 => ?_)
  obtain ⟨he3, us3, hR3⟩ := h4
  have hgl := gensL_len p
  refine dce (l13Stable_ok (p := p) (bs := gensL p) hs (by omega) hus rfl) (next := fun v4 w4 h5 => ?_)
  obtain ⟨he4, us4, hR4⟩ := h5
  have hlen4 : Len w2 v4 (canon (Clo (fun a : El p => a ∈ ys) (fun a : El p => a ∈ gensL p))).length := ⟨(Pc.Rows.toLen (h := hR4)).ex⟩
  have hxl : xss.length = ys.length := by rw [hus]; simp
  refine dgo ?_
  refine d_end (h := ?_)
  refine go ?_
  refine ret1 ⟨_, rfl, ?_, ((he1.trans he2).trans he3).trans he4⟩
  rw [hus, normP_iff, ← normal_len hs, decide_eq_true_iff, ← hus]
  omega
theorem ordOf_pos {p : Pr} [hc : ConAll p] {ys : List (El p)} (hs : SeqEl ys) : 1 ≤ ordOf p ys ∧ ordOf p ys ≤ 117649 := by
  have h := ordOf_rng (ys := ys) (k := ys.length) (by have := hs.len; have := hc.valid.n6; omega) (Nat.le_refl _) fun y hy => (hs.ok.lead1 y hy).1
  rwa [List.take_length] at h
end Go.Proofs.YtogbnkombnfknaaGreat

/-
  Walks: the reference's CosetNumber, MemberElement, MemberExponents.
  Conditions: what the arguments read as.
-/
namespace Go.Proofs.YtogbnkombnfknaaGreat
open Go Go.Pc
set_option maxHeartbeats 1000000 in
theorem l14Free_ok {p : Pr} [hc : ConAll p] {ys : List (El p)} (hs : SeqOk ys) {w : World} {vp vu : Value} {us : List Value} {xss : List (List Int)} {lo hi lo1 hi1 : Nat} [hp : Pres lo hi w vp p] [hu : Pc.Rows lo1 hi1 w vu us xss] (hus : xss = vecs ys) :
    Calls Tryz.prog 77 #[vp, vu] w (Ret fun v w' => Ext w w' ∧ Fr w.heap.size w' v (ints (freeL p ys p.n))) := by
  have hv := hc.valid
  have hn6 := hv.n6
  obtain ⟨vo, vpw, vc, ps, cs, css, rfl, h1, h2, h3⟩ := hp.ex
  refine enter (args := [.agg #[vo, vpw, vc], vu]) (l := [.tmp 4]) Tryz.func77 rfl rfl Tryz.ntmps77 (by simp) ?_
  refine go ?_
  refine st_box3 (by ((try simp only [ev_tmp, ev_const, ev_func, get_put, get_args, get_putL, get_putL_nil, Nat.reduceEqDiff, reduceIte, List.getD_cons_zero, List.getD_cons_succ, List.getD_nil]); first | done | with_reducible rfl)) (by first | exact True.intro | exact ⟨_, rfl, by ((try simp only [ev_tmp, ev_const, ev_func, get_put, get_args, get_putL, get_putL_nil, Nat.reduceEqDiff, reduceIte, List.getD_cons_zero, List.getD_cons_succ, List.getD_nil, Bool.not_true, Bool.not_false]); first | done | with_reducible rfl)⟩) fun w1 b he1 hb1 hs1 hc0 hc1 hc2 => ?_
  refine go ?_
  refine rc (l12Table_ok (p := p) hv hs hus) (next := fun v2 w2 h4 => ?_)
  obtain ⟨he2, us2, hR2⟩ := h4
  have htl := tabL_len (tabOf ys)
  have hz1 := he1.size
  have hz2 := he2.size
  refine go ?_
  refine st_slice0 (by first | exact True.intro | exact ⟨_, rfl, by ((try simp only [ev_tmp, ev_const, ev_func, get_put, get_args, get_putL, get_putL_nil, Nat.reduceEqDiff, reduceIte, List.getD_cons_zero, List.getD_cons_succ, List.getD_nil, Bool.not_true, Bool.not_false]); first | done | with_reducible rfl)⟩) fun w3 v3 he3 hs3 ho3 => ?_
  refine go ?_
  refine r_for p.n (fun k ρ w' => ∃ vl, Has ρ [(5, v2), (6, vl), (7, .int .i64 k)] ∧ Ext w2 w' ∧ GrowI 2 w2.heap.size w' vl (ints (freeL p ys k))) ?_ ?_
  · refine ⟨v3, ?_, he3, by simpa [freeL] using GrowI.start ho3 (Nat.le_refl _)⟩
    exact hasP
  clear ho3
  rintro k ρ w4 hk ⟨vl, hH, he4, hg4⟩
  refine rwp_has hH fun ρ0 => ?_
  have hz4 := he4.size
  have hfl := freeL_len p ys k
  have hfl2 : (ints (freeL p ys k)).length = (freeL p ys k).length := by simp
  refine go ?_
  refine c_if (fun h4 => ?_) (fun h4 => ?_)
  · have hkn : k < p.n := by omega
    have hrow : ((tabL (tabOf ys)).getD k []).length = 0 ↔ tabOf ys k = none := by rw [tabL_at _ hkn]; exact rowOf_len hkn
    refine go ?_
    refine c_if (fun h5 => ?_) (fun h5 => ?_)
    · have hnone := hrow.1 (by omega)
      refine go ?_
      refine st_growi hg4 hz4 (by omega) (next := fun v10 v11 w11 hg11 hx11 hz11 hgs11 => ?_)
      refine go ?_
      refine forQ_normal (by omega) ⟨v11, ?_, hx11 w2 he4 (Nat.le_refl _), ?_⟩
      · exact hasP
      · rw [freeL_yes fun y hy e => tabOf_mem hs hy (by rw [e]; exact hnone)]
        simpa using hg11
    · have hsome : tabOf ys k ≠ none := fun e => h5 (by rw [hrow.2 e]; rfl)
      obtain ⟨y, hy, hyl⟩ := tabOf_none hsome
      refine go ?_
      refine forQ_normal (by omega) ⟨vl, ?_, he4, ?_⟩
      · exact hasP
      · rw [freeL_no hy hyl]; exact hg4
  · obtain rfl : k = p.n := by omega
    refine go ?_
    exact ret1 ⟨(he1.trans he2).trans he4, hg4.fr.mono (by omega)⟩
theorem l10One_ok {p : Pr} [hc : ConAll p] {w : World} {vp : Value} {lo hi : Nat} [hp : Pres lo hi w vp p] :
    Calls Tryz.prog 73 #[vp] w (Ret fun v w' => Ext w w' ∧ Fr w.heap.size w' v (1 : El p).v) := by
  have hn6 := hc.valid.n6
  have hol : p.ord.length = p.n := rfl
  obtain ⟨vo, vpw, vc, ps, cs, css, rfl, h1, h2, h3⟩ := hp.ex
  refine enter (args := [.agg #[vo, vpw, vc]]) (l := [.tmp 2]) Tryz.func73 rfl rfl Tryz.ntmps73 (by simp) ?_
  refine go ?_
  refine st_box3 (by ((try simp only [ev_tmp, ev_const, ev_func, get_put, get_args, get_putL, get_putL_nil, Nat.reduceEqDiff, reduceIte, List.getD_cons_zero, List.getD_cons_succ, List.getD_nil]); first | done | with_reducible rfl)) (by first | exact True.intro | exact ⟨_, rfl, by ((try simp only [ev_tmp, ev_const, ev_func, get_put, get_args, get_putL, get_putL_nil, Nat.reduceEqDiff, reduceIte, List.getD_cons_zero, List.getD_cons_succ, List.getD_nil, Bool.not_true, Bool.not_false]); first | done | with_reducible rfl)⟩) fun w1 b he1 hb1 hs1 hc0 hc1 hc2 => ?_
  refine go ?_
  refine st_make_int (by ((try simp only [ev_tmp, ev_const, ev_func, get_put, get_args, get_putL, get_putL_nil, Nat.reduceEqDiff, reduceIte, List.getD_cons_zero, List.getD_cons_succ, List.getD_nil]); first | done | with_reducible rfl)) (by ((try simp only [ev_tmp, ev_const, ev_func, get_put, get_args, get_putL, get_putL_nil, Nat.reduceEqDiff, reduceIte, List.getD_cons_zero, List.getD_cons_succ, List.getD_nil]); first | done | with_reducible rfl)) (by omega) (by omega) (by first | exact True.intro | exact ⟨_, rfl, by ((try simp only [ev_tmp, ev_const, ev_func, get_put, get_args, get_putL, get_putL_nil, Nat.reduceEqDiff, reduceIte, List.getD_cons_zero, List.getD_cons_succ, List.getD_nil, Bool.not_true, Bool.not_false]); first | done | with_reducible rfl)⟩) fun w2 v2 he2 hs2 ho2 => ?_
  refine go ?_
  exact ret1 ⟨he1.trans he2, (ho2.toFr (lo := w1.heap.size) (Nat.le_refl _)).mono he1.size⟩
set_option maxHeartbeats 1000000 in
theorem l12Product_ok {p : Pr} [hc : ConAll p] {ys : List (El p)} (hyl : ys.length ≤ 1000) {w : World} {vp vu vx : Value} {us : List Value} {xss : List (List Int)} {as_ : List Int} {lo hi lo1 hi1 lo2 hi2 : Nat} [hp : Pres lo hi w vp p] [hu : Pc.Rows lo1 hi1 w vu us xss] [hx : Ints lo2 hi2 w vx as_] (hus : xss = vecs ys) (hal : as_.length = ys.length) (har : ∀ i, i < ys.length → -1000 ≤ as_.getD i 0 ∧ as_.getD i 0 ≤ 1000) :
    Calls Tryz.prog 60 #[vp, vu, vx] w (Ret fun v w' => Ext w w' ∧ Fr w.heap.size w' v (prodTo ys as_ ys.length).v) := by
  subst hus
  have hvl : (vecs ys).length = ys.length := by simp
  obtain ⟨vo, vpw, vc, ps, cs, css, rfl, h1, h2, h3⟩ := hp.ex
  refine enter (args := [.agg #[vo, vpw, vc], vu, vx]) (l := [.tmp 6]) Tryz.func60 rfl rfl Tryz.ntmps60 (by simp) ?_
  refine go ?_
  refine st_box3 (by ((try simp only [ev_tmp, ev_const, ev_func, get_put, get_args, get_putL, get_putL_nil, Nat.reduceEqDiff, reduceIte, List.getD_cons_zero, List.getD_cons_succ, List.getD_nil]); first | done | with_reducible rfl)) (by first | exact True.intro | exact ⟨_, rfl, by ((try simp only [ev_tmp, ev_const, ev_func, get_put, get_args, get_putL, get_putL_nil, Nat.reduceEqDiff, reduceIte, List.getD_cons_zero, List.getD_cons_succ, List.getD_nil, Bool.not_true, Bool.not_false]); first | done | with_reducible rfl)⟩) fun w1 b he1 hb1 hs1 hc0 hc1 hc2 => ?_
  have hz1 := he1.size
  refine go ?_
  refine rc (l10One_ok (p := p)) (next := fun v2 w2 h4 => ?_)
  obtain ⟨he2, hf2⟩ := h4
  refine go ?_
  refine r_for ys.length (fun k ρ w' => ∃ vr, Has ρ [(1, vu), (2, vx), (3, .pointer (some ⟨b, 0, none⟩)), (7, vr), (8, .int .i64 k)] ∧ Ext w1 w' ∧ Fr w1.heap.size w' vr (prodTo ys as_ k).v) ?_ ?_
  · refine ⟨v2, ?_, he2, hf2⟩
    exact hasP
  clear hf2
  rintro k ρ w3 hk ⟨vr, hH, he3, hf3⟩
  refine rwp_has hH fun ρ0 => ?_
  have hz3 := he3.size
  refine go ?_
  refine c_if (fun h4 => ?_) (fun h4 => ?_)
  · have hkn : k < ys.length := by omega
    have hg := vecs_getD ys hkn
    have hak := har k hkn
    refine go ?_
    refine d_region fun w4 he4 _ => ?_
    refine dgo ?_
    refine dce (l10Pow_ok (p := p) (x := ys[k]) hg ?_) (next := fun v5 w5 h5 => ?_)
    · omega
    obtain ⟨he5, hf5⟩ := h5
    refine dce (l08Mul_ok (p := p) (x := prodTo ys as_ k) (y := Grp.pwz ys[k] (as_.getD k 0)) rfl rfl) (next := fun v6 w6 h6 => ?_)
    obtain ⟨he6, hf6⟩ := h6
    refine dgo ?_
    refine d_end (h := ?_)
    refine go ?_
    have hE := (he3.trans he4).trans he5
    refine forQ_normal (by omega) ⟨v6, ?_, hE.trans he6, ?_⟩
    · exact hasP
    · show Fr w1.heap.size w6 v6 (prodTo ys as_ k * Grp.pwz (ys.getD k 1) (as_.getD k 0)).v
      rw [getD_one hkn]
      exact hf6.mono hE.size
  · obtain rfl : k = ys.length := by omega
    refine go ?_
    exact ret1 ⟨he1.trans he3, hf3.mono hz1⟩
theorem range_iff {p : Pr} {ys : List (El p)} {as_ : List Int} : ExpP (ys.map fun y => p.o (lead y.v)) as_ (-1) ↔ RangeP p (vecs ys) as_ := by
  have e : ∀ i, i < ys.length → (ys.map fun y => p.o (lead y.v)).getD i 0 = p.o (lead ((vecs ys).getD i [])) := fun i hi => by simp [vecs, hi]
  constructor
  · rintro ⟨h1, h2⟩
    have hl : as_.length = ys.length := by simpa using h1
    refine ⟨by simpa using h1, fun i hi => ?_⟩
    have hi' : i < ys.length := by simpa using hi
    have := (h2 i (by omega)).1
    rw [e i hi'] at this
    exact this
  · rintro ⟨h1, h2⟩
    have hl : as_.length = ys.length := by simpa using h1
    refine ⟨by simpa using h1, fun i hi => ⟨?_, fun h => by omega⟩⟩
    rw [e i (by omega)]
    exact h2 i (by simp; omega)
end Go.Proofs.YtogbnkombnfknaaGreat

/-
  Walks: the reference's order, index, transversal elements; Transversal.
  Conditions: stated at each theorem.
-/
namespace Go.Proofs.YtogbnkombnfknaaGreat
open Go Go.Pc
set_option maxHeartbeats 1000000 in
theorem l10Order_ok {p : Pr} (hv : Valid p) {w : World} {vp : Value} {lo hi : Nat} [hp : Pres lo hi w vp p] :
    Calls Tryz.prog 49 #[vp] w (Ret fun v w' => v = .int .i64 (ordL p (List.range p.n)) ∧ Ext w w') := by
  have hn6 := hv.n6
  have hol : p.ord.length = p.n := rfl
  have hrl : (List.range p.n).length = p.n := by simp
  obtain ⟨vo, vpw, vc, ps, cs, css, rfl, h1, h2, h3⟩ := hp.ex
  refine enter (args := [.agg #[vo, vpw, vc]]) (l := [.tmp 2]) Tryz.func49 rfl rfl Tryz.ntmps49 (by simp) ?_
  refine go ?_
  refine st_box3 (by ((try simp only [ev_tmp, ev_const, ev_func, get_put, get_args, get_putL, get_putL_nil, Nat.reduceEqDiff, reduceIte, List.getD_cons_zero, List.getD_cons_succ, List.getD_nil]); first | done | with_reducible rfl)) (by first | exact True.intro | exact ⟨_, rfl, by ((try simp only [ev_tmp, ev_const, ev_func, get_put, get_args, get_putL, get_putL_nil, Nat.reduceEqDiff, reduceIte, List.getD_cons_zero, List.getD_cons_succ, List.getD_nil, Bool.not_true, Bool.not_false]); first | done | with_reducible rfl)⟩) fun w1 b he1 hb1 hs1 hc0 hc1 hc2 => ?_
  refine go ?_
  refine r_for p.n (fun k ρ w' => Has ρ [(1, .pointer (some ⟨b, 0, none⟩)), (3, .int .i64 (ordL p ((List.range p.n).take k))), (4, .int .i64 k)] ∧ Ext w1 w') ?_ ?_
  · refine ⟨?_, Ext.refl _⟩
    exact hasP
  rintro k ρ w2 hk ⟨hH, he2⟩
  refine rwp_has hH fun ρ0 => ?_
  refine go ?_
  refine c_if (fun h4 => ?_) (fun h4 => ?_)
  · have hkn : k < p.n := by omega
    have hod := hv.opos hkn
    have hr := ordL_rng hv (l := List.range p.n) (fun d hd => List.mem_range.1 hd) (by omega) (k := k) (by omega)
    have hm : 0 ≤ ordL p ((List.range p.n).take k) * p.o k ∧ ordL p ((List.range p.n).take k) * p.o k ≤ 117649 * 7 := ⟨Int.mul_nonneg (by omega) (by omega), Int.mul_le_mul hr.2 hod.2 (by omega) (by omega)⟩
    have hmb : -9223372036854775808 ≤ ordL p ((List.range p.n).take k) * p.o k ∧ ordL p ((List.range p.n).take k) * p.o k ≤ 9223372036854775807 := ⟨by omega, by omega⟩
    have hst := ordL_take (p := p) (List.range p.n) (show k < (List.range p.n).length by omega)
    rw [show (List.range p.n).getD k 0 = k by simp [hkn]] at hst
    refine go ?_
    rw [show p.ord.getD k 0 = p.o k from rfl]
    refine ra (h := rd_mul (by ((try simp only [ev_tmp, ev_const, ev_func, get_put, get_args, get_putL, get_putL_nil, Nat.reduceEqDiff, reduceIte, List.getD_cons_zero, List.getD_cons_succ, List.getD_nil]); first | done | with_reducible rfl)) (by ((try simp only [ev_tmp, ev_const, ev_func, get_put, get_args, get_putL, get_putL_nil, Nat.reduceEqDiff, reduceIte, List.getD_cons_zero, List.getD_cons_succ, List.getD_nil]); first | done | with_reducible rfl)) hmb) (next := ?_)
    refine go ?_
    refine forQ_normal (by omega) ⟨?_, he2⟩
    rw [hst]
    exact hasP
  · refine go ?_
    have e : (List.range p.n).take k = List.range p.n := by rw [show k = p.n by omega, List.take_of_length_le (by omega)]
    rw [e]
    exact ret1 ⟨rfl, he1.trans he2⟩
theorem ordL_all_rng {p : Pr} (hv : Valid p) : 1 ≤ ordL p (List.range p.n) ∧ ordL p (List.range p.n) ≤ 117649 := by
  have hn6 := hv.n6
  have h := ordL_rng hv (l := List.range p.n) (fun d hd => List.mem_range.1 hd) (by simp; omega) (k := p.n) (by simp)
  rwa [List.take_of_length_le (by simp)] at h
theorem idx_rng {p : Pr} (hv : Valid p) (ys : List (El p)) : 1 ≤ idxOf p ys ∧ idxOf p ys ≤ 117649 := by
  have hn6 := hv.n6
  have h := ordL_rng hv (l := freeL p ys p.n) (fun d hd => freeL_lt hd) (by have := freeL_len p ys p.n; omega) (k := (freeL p ys p.n).length) (Nat.le_refl _)
  rwa [List.take_length] at h
end Go.Proofs.YtogbnkombnfknaaGreat

/-
  Lists of integers: the literal of three, 'append(u, v...)', also in drawn regions that write another block.
  Conditions: none; nothing of the program stands here.
-/
namespace Go.Pc
open Go Go.RowKit
section
variable {P : Program} {N : Nat} {ops : Array Oper} {π : List Nat} {K : Env → World → Prop} {ρ : Env} {w w0 w1 w00 : World} {l : List Oper}
variable {i : Nat} {ty ty2 : TypeId} {pos pos2 : String} {after after2 : Array Edge} {g g2 : Option (Nat × Bool)} {d d2 : Nat}
theorem run_slice1o {t e bytes : Nat} {x : Operand} {u z : Value} [ht : SlT P t e] [he : ElT P e 1 bytes z] (h : ev ρ x = u) (hu : u.cells = #[u]) (hz : z.cells = #[z]) :
    ∃ v w', Ex P (.buildSlice t 1 #[(0, x)]) ty ρ w v w' ∧ Ext w w' ∧ w'.heap.size = w.heap.size + 1 ∧ Own e w.heap.size w' v [u] := by
  obtain ⟨i, hi, hs, hby, hz'⟩ := he.ex
  refine ⟨.slice (some ⟨w.heap.size, 0, none⟩) 1 1, w.alloc (.cells #[u] e), ⟨fun _ _ _ _ => ?_⟩, Ext.alloc _ _, by simp, ?_⟩
  · simp [execOp, h, Instr.buildSlice, run_underlying ht.eq, sizeOf, typeInfo, hi, hs, zeroValue, hz', hz, Instr.fill, hu, newRow]
    refine congrArg (fun a => w.alloc (Obj.cells a e)) (Array.ext (by simp) fun j h1 h2 => ?_)
    have : j = 0 := by simp at h2; omega
    subst this
    simp
  · have := own_alloc w [u] e (by simp [maxLen])
    simpa using this
theorem st_slice3i {t e bytes : Nat} {x y s : Operand} {a b c : Int} {z : Value} [ht : SlT P t e] [he : ElT P e 1 bytes z] (h : ev ρ x = .int .i64 a) (k : ev ρ y = .int .i64 b) (m : ev ρ s = .int .i64 c) (hz : z.cells = #[z]) (hg : Wants ops ρ g)
    (next : ∀ w' v, Ext w w' → GrowI e w.heap.size w' v [a, b, c] → rops P N ops K l (put ρ d v) w') : rops P N ops K (⟨some d, .buildSlice t 3 #[(0, x), (1, y), (2, s)], ty, pos, after, g⟩ :: l) ρ w := by
  obtain ⟨i, hi, hs, hby, hz'⟩ := he.ex
  refine st_ex (v := .slice (some ⟨w.heap.size, 0, none⟩) 3 3) (w' := w.alloc (.cells #[.int .i64 a, .int .i64 b, .int .i64 c] e)) hg ⟨fun _ _ _ _ => ?_⟩ (next _ _ (Ext.alloc _ _) ?_)
  · have e1 : (Value.int .i64 a).cells = #[Value.int .i64 a] := rfl
    have e2 : (Value.int .i64 b).cells = #[Value.int .i64 b] := rfl
    have e3 : (Value.int .i64 c).cells = #[Value.int .i64 c] := rfl
    simp [execOp, h, k, m, Instr.buildSlice, run_underlying ht.eq, sizeOf, typeInfo, hi, hs, zeroValue, hz', hz, Instr.fill, e1, e2, e3, newRow]
    refine congrArg (fun a => w.alloc (Obj.cells a e)) (Array.ext (by simp) fun j h1 h2 => ?_)
    have : j = 0 ∨ j = 1 ∨ j = 2 := by simp at h2; omega
    rcases this with rfl | rfl | rfl <;> simp
  · have := own_alloc w [.int .i64 a, .int .i64 b, .int .i64 c] e (by simp [maxLen])
    exact ⟨by simpa using this.toN⟩
theorem st_appi {s x : Operand} {t e bytes sb lo hi : Nat} {z v y : Value} {xs ys : List Int} [ht : SlT P t e] [he : ElT P e 1 bytes z] (hG : GrowI e sb w1 v xs) (hy : Ints lo hi w1 y ys) (hs0 : sb ≤ w1.heap.size)
    (hn : xs.length + ys.length ≤ 1000000) (next : ∀ v' w', GrowI e sb w' v' (xs ++ ys) → (∀ wb, Ext wb w1 → wb.heap.size ≤ sb → Ext wb w') → w1.heap.size ≤ w'.heap.size → rops P N ops K l (put ρ d v') w')
    (hs : ev ρ s = v := by ((try simp only [ev_tmp, ev_const, ev_func, get_put, get_args, get_putL, get_putL_nil, Nat.reduceEqDiff, reduceIte, List.getD_cons_zero, List.getD_cons_succ, List.getD_nil]); first | done | with_reducible rfl)) (hx : ev ρ x = y := by ((try simp only [ev_tmp, ev_const, ev_func, get_put, get_args, get_putL, get_putL_nil, Nat.reduceEqDiff, reduceIte, List.getD_cons_zero, List.getD_cons_succ, List.getD_nil]); first | done | with_reducible rfl)) (hz : z.cells = #[z] := by rfl) (hby : bytes ≤ 100 := by decide) (hg1 : Wants ops ρ g := by first | exact True.intro | exact ⟨_, rfl, by ((try simp only [ev_tmp, ev_const, ev_func, get_put, get_args, get_putL, get_putL_nil, Nat.reduceEqDiff, reduceIte, List.getD_cons_zero, List.getD_cons_succ, List.getD_nil, Bool.not_true, Bool.not_false]); first | done | with_reducible rfl)⟩) :
    rops P N ops K (⟨some d, .call { callee := .builtin .append, args := #[s, x], argTypes := #[t, t] }, ty, pos, after, g⟩ :: l) ρ w1 := by
  have hO := hG.own
  have hsl := hy.sl
  have hb : (xs.length + ys.length) * bytes ≤ 1000000 * 100 := Nat.mul_le_mul (by omega) hby
  refine st_append (hv := hO) (hy := hsl) hs hx (by rw [hz]; rfl) ?_ ?_ ?_ ?_ hg1 fun v3 w3 ho3 hg3 ha3 => ?_
  · intro a ha
    obtain ⟨k, _, rfl⟩ := List.mem_map.1 ha
    rfl
  · simp only [List.length_map]; omega
  · simp only [List.length_map, maxLen]; omega
  · omega
  · exact next v3 w3 ⟨by simpa using ho3⟩ (fun wb hb1 hb2 => hb1.app hg3 (fun k hk => by have := (hO.lt k hk).1; omega)) hg3.size
theorem z_appi {s x : Operand} {b t e bytes sb lo hi : Nat} {z v y : Value} {xs ys : List Int} [ht : SlT P t e] [he : ElT P e 1 bytes z] (hG : GrowI e sb w1 v xs) (hy : Ints lo hi w1 y ys) (hs0 : sb ≤ w1.heap.size) (h00 : w00.heap.size ≤ sb)
    (hn : xs.length + ys.length ≤ 1000000) (next : ∀ v' w', GrowI e sb w' v' (xs ++ ys) → (∀ wb, Ext wb w1 → wb.heap.size ≤ sb → Ext wb w') → w1.heap.size ≤ w'.heap.size → dops P N ops π (Chg b w00) K (i + 1) (put ρ d v') w')
    (hi' : opAt ops π i = some ⟨some d, .call { callee := .builtin .append, args := #[s, x], argTypes := #[t, t] }, ty, pos, after, g⟩ := by exact rfl)
    (hs : ev ρ s = v := by ((try simp only [ev_tmp, ev_const, ev_func, get_put, get_args, get_putL, get_putL_nil, Nat.reduceEqDiff, reduceIte, List.getD_cons_zero, List.getD_cons_succ, List.getD_nil]); first | done | with_reducible rfl)) (hx : ev ρ x = y := by ((try simp only [ev_tmp, ev_const, ev_func, get_put, get_args, get_putL, get_putL_nil, Nat.reduceEqDiff, reduceIte, List.getD_cons_zero, List.getD_cons_succ, List.getD_nil]); first | done | with_reducible rfl)) (hz : z.cells = #[z] := by rfl) (hby : bytes ≤ 100 := by decide) (hg1 : Wants ops ρ g := by first | exact True.intro | exact ⟨_, rfl, by ((try simp only [ev_tmp, ev_const, ev_func, get_put, get_args, get_putL, get_putL_nil, Nat.reduceEqDiff, reduceIte, List.getD_cons_zero, List.getD_cons_succ, List.getD_nil, Bool.not_true, Bool.not_false]); first | done | with_reducible rfl)⟩)
    (hn1 : nextOk ops π i = true := by decide +kernel) (hd1 : d < N := by decide) :
    dops P N ops π (Chg b w00) K i ρ w1 := by
  have hO := hG.own
  have hsl := hy.sl
  have hb : (xs.length + ys.length) * bytes ≤ 1000000 * 100 := Nat.mul_le_mul (by omega) hby
  obtain ⟨v', w', hrun, h2, h3, h4⟩ := run_append (P := P) (ty := ty) (hv := hO) (hy := hsl) ht.eq he (by rw [hz]; rfl) (fun a ha => by
    obtain ⟨k, _, rfl⟩ := List.mem_map.1 ha
    rfl) (by simp only [List.length_map]; omega) (by simp only [List.length_map, maxLen]; omega) hs0
  have hex : Ex P (.call { callee := .builtin .append, args := #[s, x], argTypes := #[t, t] }) ty ρ w1 v' w' := by
    constructor; intro _ _ _ _
    simp [execOp, resolve, invoke, builtin, hs, hx, hrun]
  refine dt_ex hi' hn1 hd1 hg1 hex (fun hS => hS.app h3 (fun k hk => by have := (hO.lt k hk).1; omega)) (next v' w' ⟨by simpa using h2⟩ (fun wb hb1 hb2 => hb1.app h3 (fun k hk => by have := (hO.lt k hk).1; omega)) h3.size)
/-- The literal of one integer, in a drawn region that writes another block. -/
theorem z_slice1i {b t e bytes : Nat} {x : Operand} {a : Int} {z : Value} [ht : SlT P t e] [he : ElT P e 1 bytes z] (next : ∀ w' v, Ext w w' → w'.heap.size = w.heap.size + 1 → Own e w.heap.size w' v [.int .i64 a] → dops P N ops π (Chg b w00) K (i + 1) (put ρ d v) w')
    (hi : opAt ops π i = some ⟨some d, .buildSlice t 1 #[(0, x)], ty, pos, after, g⟩ := by exact rfl) (h : ev ρ x = .int .i64 a := by ((try simp only [ev_tmp, ev_const, ev_func, get_put, get_args, get_putL, get_putL_nil, Nat.reduceEqDiff, reduceIte, List.getD_cons_zero, List.getD_cons_succ, List.getD_nil]); first | done | with_reducible rfl)) (hz : z.cells = #[z] := by rfl)
    (hn : nextOk ops π i = true := by decide +kernel) (hd : d < N := by decide) (hg : Wants ops ρ g := by first | exact True.intro | exact ⟨_, rfl, by ((try simp only [ev_tmp, ev_const, ev_func, get_put, get_args, get_putL, get_putL_nil, Nat.reduceEqDiff, reduceIte, List.getD_cons_zero, List.getD_cons_succ, List.getD_nil, Bool.not_true, Bool.not_false]); first | done | with_reducible rfl)⟩) : dops P N ops π (Chg b w00) K i ρ w := by
  obtain ⟨v, w', hr, he', hs, hsl⟩ := run_slice1o (P := P) (ρ := ρ) (ty := ty) (w := w) (t := t) (ht := ht) (he := he) h rfl hz
  exact dt_ex hi hn hd hg hr (fun hS => hS.grow he') (next w' v he' hs hsl)
end
end Go.Pc

/-
  Walks: the reference's words, relators and values of words (l07Word, l06Invert, l07Relators, l10Eval, l16Relators, l10Elements).
  Conditions: stated at each theorem.
-/
namespace Go.Proofs.YtogbnkombnfknaaGreat
open Go Go.Pc
theorem app_repl (w : List Int) (m : Nat) (a : Int) : (w ++ List.replicate m a) ++ [a] = w ++ List.replicate (m + 1) a := by
  rw [List.append_assoc]
  congr 1
  exact (List.replicate_succ' (n := m) (a := a)).symm
set_option maxHeartbeats 2000000 in
theorem l07Word_ok {e : List Int} {w : World} {vx : Value} {lo hi : Nat} [hx : Ints lo hi w vx e] (hl : e.length ≤ 100) (hr : ∀ i, i < e.length → 0 ≤ e.getD i 0 ∧ e.getD i 0 ≤ 100) :
    Calls Tryz.prog 130 #[vx] w (Ret fun v w' => Ext w w' ∧ GrowI 2 w.heap.size w' v (wordV e)) := by
  have hwl : ∀ k, (wordV (e.take k)).length ≤ 10000 := fun k => by
    have h1 := wordA_len (b := 100) (e.take k) 0 fun x hx => by
      obtain ⟨i, hi, rfl⟩ := List.getElem_of_mem (List.mem_of_mem_take hx)
      have := (hr i hi).2
      simpa [hi] using this
    have h2 : (e.take k).length * 100 ≤ 100 * 100 := Nat.mul_le_mul_right _ (by rw [List.length_take]; omega)
    exact Nat.le_trans h1 h2
  refine enter (args := [vx]) (l := [.tmp 2]) Tryz.func130 rfl rfl Tryz.ntmps130 (by simp) ?_
  refine go ?_
  refine st_slice0 (by first | exact True.intro | exact ⟨_, rfl, by ((try simp only [ev_tmp, ev_const, ev_func, get_put, get_args, get_putL, get_putL_nil, Nat.reduceEqDiff, reduceIte, List.getD_cons_zero, List.getD_cons_succ, List.getD_nil, Bool.not_true, Bool.not_false]); first | done | with_reducible rfl)⟩) fun w0 v0 he0 hs0 ho0 => ?_
  refine go ?_
  refine r_for e.length (fun k ρ w' => ∃ vl, Has ρ [(0, vx), (3, vl), (4, .int .i64 k)] ∧ Ext w w' ∧ GrowI 2 w.heap.size w' vl (wordV (e.take k))) ?_ ?_
  · refine ⟨v0, ?_, he0, GrowI.start ho0 (Nat.le_refl _)⟩
    exact hasP
  clear ho0
  rintro k ρ w2 hk ⟨vl, hH, he2, hG2⟩
  refine rwp_has hH fun ρ0 => ?_
  refine go ?_
  refine c_if (fun h4 => ?_) (fun h4 => ?_)
  · have hkn : k < e.length := by omega
    have hrk := hr k hkn
    have hst := wordV_take hkn
    have hwk := hwl k
    refine go ?_
    refine r_for (e.getD k 0).toNat (fun j ρ w' => ∃ vl, Has ρ [(0, vx), (3, vl), (4, .int .i64 k), (5, .int .i64 j)] ∧ Ext w w' ∧ GrowI 2 w.heap.size w' vl (wordV (e.take k) ++ List.replicate j ((k : Int) + 1))) ?_ ?_
    · refine ⟨vl, ?_, he2, by simpa using hG2⟩
      exact hasP
    clear hG2 he2
    rintro j ρ w3 hj ⟨vl, hH3, he3, hG3⟩
    refine rwp_has hH3 fun ρ1 => ?_
    have hz3 := he3.size
    refine go ?_
    refine c_if (fun h5 => ?_) (fun h5 => ?_)
    · refine go ?_
      refine st_growi hG3 hz3 (by simp only [List.length_append, List.length_replicate]; omega) (next := fun v4 v5 w5 hG5 hx5 hz5 hgs5 => ?_)
      refine go ?_
      refine forQ_normal (by omega) ⟨v5, ?_, hx5 w he3 (Nat.le_refl _), ?_⟩
      · exact hasP
      · rw [← app_repl]; exact hG5
    · obtain rfl : j = (e.getD k 0).toNat := by omega
      rw [← hst] at hG3
      refine go ?_
      refine forQ_normal (by omega) ⟨vl, ?_, he3, hG3⟩
      exact hasP
  · obtain rfl : k = e.length := by omega
    rw [List.take_length] at hG2
    refine go ?_
    exact ret1 ⟨he2, hG2⟩
set_option maxHeartbeats 2000000 in
theorem l06Invert_ok {e : List Int} {w : World} {vx : Value} {lo hi : Nat} [hx : Ints lo hi w vx e] (hl : e.length ≤ 100000) (hr : ∀ i, i < e.length → -1000000 ≤ e.getD i 0 ∧ e.getD i 0 ≤ 1000000) :
    Calls Tryz.prog 129 #[vx] w (Ret fun v w' => Ext w w' ∧ GrowI 2 w.heap.size w' v (invW e)) := by
  refine enter (args := [vx]) (l := [.tmp 2]) Tryz.func129 rfl rfl Tryz.ntmps129 (by simp) ?_
  refine go ?_
  refine st_slice0 (by first | exact True.intro | exact ⟨_, rfl, by ((try simp only [ev_tmp, ev_const, ev_func, get_put, get_args, get_putL, get_putL_nil, Nat.reduceEqDiff, reduceIte, List.getD_cons_zero, List.getD_cons_succ, List.getD_nil, Bool.not_true, Bool.not_false]); first | done | with_reducible rfl)⟩) fun w0 v0 he0 hs0 ho0 => ?_
  refine go ?_
  refine r_for e.length (fun k ρ w' => ∃ vl, Has ρ [(0, vx), (3, vl), (4, .int .i64 ((e.length : Int) - 1 - k))] ∧ Ext w w' ∧ GrowI 2 w.heap.size w' vl (((e.map fun x => -x).reverse).take k)) ?_ ?_
  · refine ⟨v0, ?_, he0, GrowI.start ho0 (Nat.le_refl _)⟩
    exact hasP
  clear ho0
  rintro k ρ w2 hk ⟨vl, hH, he2, hG2⟩
  refine rwp_has hH fun ρ0 => ?_
  have hz2 := he2.size
  refine go ?_
  refine c_if (fun h4 => ?_) (fun h4 => ?_)
  · have hkn : k < e.length := by omega
    obtain ⟨i, hi⟩ : ∃ i, e.length - 1 - k = i := ⟨_, rfl⟩
    have hin : i < e.length := by omega
    have hcast : ((e.length : Int) - 1 - k) = (i : Int) := by omega
    have hri := hr i hin
    have hrl : ((e.map fun x => -x).reverse).length = e.length := by simp
    have hst : ((e.map fun x => -x).reverse).take (k + 1) = ((e.map fun x => -x).reverse).take k ++ [-(e.getD i 0)] := by
      rw [List.take_succ_eq_append_getElem (by omega)]
      congr 2
      rw [List.getElem_reverse, List.getElem_map]
      simp only [List.length_map]
      have e1 : e.getD i 0 = e[i] := by simp [hin]
      rw [e1]
      congr 1
      simp only [hi]
    rw [hcast]
    refine go ?_
    refine st_growi hG2 hz2 (by rw [List.length_take]; omega) (next := fun v4 v5 w5 hG5 hx5 hz5 hgs5 => ?_)
    refine go ?_
    refine forQ_normal (by omega) ⟨v5, ?_, hx5 w he2 (Nat.le_refl _), ?_⟩
    · exact hasP
    · rw [hst]; exact hG5
  · obtain rfl : k = e.length := by omega
    have e0 : ((e.map fun x => -x).reverse).take e.length = invW e := List.take_of_length_le (by simp)
    rw [e0] at hG2
    refine go ?_
    exact ret1 ⟨he2, hG2⟩
theorem ints_bd {e : List Int} {n : Nat} (hl : LetW n e) (hn : n ≤ 6) : ∀ i, i < e.length → -1000000 ≤ e.getD i 0 ∧ e.getD i 0 ≤ 1000000 := fun i hi => by
  have e1 : e.getD i 0 = e[i] := by simp [hi]
  have := hl _ (List.getElem_mem hi)
  omega
set_option maxHeartbeats 4000000 in
theorem l07Relators_ok {p : Pr} (hv : Valid p) {w : World} {vp : Value} {lo hi : Nat} [hp : Pres lo hi w vp p] :
    Calls Tryz.prog 97 #[vp] w (Ret fun v w' => Ext w w' ∧ ∃ rs, rs.map (·.2) = rels p ∧ GrowL 22 w.heap.size w' v rs) := by
  have hn6 := hv.n6
  have hol : p.ord.length = p.n := rfl
  have hwl := hv.lenw
  have hcl := hv.lenc
  replace hp := hp.wide
  obtain ⟨vo, vpw, vc, ps, cs, css, rfl, h1, h2, h3⟩ := hp.ex
  refine enter (args := [.agg #[vo, vpw, vc]]) (l := [.tmp 2]) Tryz.func97 rfl rfl Tryz.ntmps97 (by simp) ?_
  refine go ?_
  refine st_box3 (by ((try simp only [ev_tmp, ev_const, ev_func, get_put, get_args, get_putL, get_putL_nil, Nat.reduceEqDiff, reduceIte, List.getD_cons_zero, List.getD_cons_succ, List.getD_nil]); first | done | with_reducible rfl)) (by first | exact True.intro | exact ⟨_, rfl, by ((try simp only [ev_tmp, ev_const, ev_func, get_put, get_args, get_putL, get_putL_nil, Nat.reduceEqDiff, reduceIte, List.getD_cons_zero, List.getD_cons_succ, List.getD_nil, Bool.not_true, Bool.not_false]); first | done | with_reducible rfl)⟩) fun w1 b he1 hb1 hs1 hc0 hc1 hc2 => ?_
  have hz1 := he1.size
  refine go ?_
  refine st_slice0 (by first | exact True.intro | exact ⟨_, rfl, by ((try simp only [ev_tmp, ev_const, ev_func, get_put, get_args, get_putL, get_putL_nil, Nat.reduceEqDiff, reduceIte, List.getD_cons_zero, List.getD_cons_succ, List.getD_nil, Bool.not_true, Bool.not_false]); first | done | with_reducible rfl)⟩) fun w2 v2 he2 hs2 ho2 => ?_
  refine go ?_
  refine r_for p.n (fun i ρ w' => ∃ vl rs, Has ρ [(1, .pointer (some ⟨b, 0, none⟩)), (3, vl), (4, .int .i64 p.n), (5, .int .i64 i)] ∧ Ext w1 w' ∧ GrowL 22 w1.heap.size w' vl rs ∧ rs.map (·.2) = (List.range i).map (relP p)) ?_ ?_
  · refine ⟨v2, [], ?_, he2, GrowL.start ho2 (Nat.le_refl _), rfl⟩
    exact hasP
  clear ho2
  rintro i ρ w3 hi ⟨vl, rs, hH, he3, hG3, hrs3⟩
  refine rwp_has hH fun ρ0 => ?_
  have hz3 := he3.size
  have hE3 := he1.trans he3
  have hrl3 : rs.length = i := by have := congrArg List.length hrs3; simpa using this
  refine go ?_
  refine c_if (fun h4 => ?_) (fun h4 => ?_)
  · have hin : i < p.n := by omega
    have ho := hv.opos hin
    have hoi : p.ord.getD i 0 = p.o i := rfl
    refine go ?_
    refine st_slice0 (by first | exact True.intro | exact ⟨_, rfl, by ((try simp only [ev_tmp, ev_const, ev_func, get_put, get_args, get_putL, get_putL_nil, Nat.reduceEqDiff, reduceIte, List.getD_cons_zero, List.getD_cons_succ, List.getD_nil, Bool.not_true, Bool.not_false]); first | done | with_reducible rfl)⟩) fun w4 v4 he4 hs4 ho4 => ?_
    refine go ?_
    refine r_for (p.o i).toNat (fun k ρ w' => ∃ vw, Has ρ [(1, .pointer (some ⟨b, 0, none⟩)), (3, vl), (4, .int .i64 p.n), (5, .int .i64 i), (6, vw), (7, .int .i64 k)] ∧ Ext w3 w' ∧ GrowI 2 w3.heap.size w' vw (List.replicate k ((i : Int) + 1))) ?_ ?_
    · refine ⟨v4, ?_, he4, GrowI.start ho4 (Nat.le_refl _)⟩
      exact hasP
    clear ho4
    rintro k ρ w5 hk ⟨vw, hH5, he5, hG5⟩
    refine rwp_has hH5 fun ρ1 => ?_
    have hz5 := he5.size
    have hE5 := hE3.trans he5
    refine go ?_
    refine c_if (fun h6 => ?_) (fun h6 => ?_)
    · refine go ?_
      refine st_growi hG5 hz5 (by simp only [List.length_replicate]; omega) (next := fun v6 v7 w7 hG7 hx7 hz7 hgs7 => ?_)
      refine go ?_
      refine forQ_normal (by omega) ⟨v7, ?_, hx7 w3 he5 (Nat.le_refl _), ?_⟩
      · exact hasP
      · rw [List.replicate_succ']; exact hG7
    · obtain rfl : k = (p.o i).toNat := by omega
      have hiw := invec_word hv (hv.w_in i hin)
      have hpw : p.w i = p.pow.getD i [] := rfl
      rw [hpw] at hiw
      refine go ?_
      refine rc (l07Word_ok (e := p.pow.getD i []) (by omega) (fun j hj => by have := hiw.2.2 j hj; omega)) (next := fun v6 w6 h7 => ?_)
      obtain ⟨he6, hG6⟩ := h7
      have hi6 := hG6.fr.ints
      have hlw := letW_word hiw.1
      refine go ?_
      refine rc (l06Invert_ok (e := wordV (p.pow.getD i [])) (by omega) (ints_bd hlw hn6)) (next := fun v7 w7 h8 => ?_)
      obtain ⟨he7, hG7⟩ := h8
      have hG57 : GrowI 2 w3.heap.size w7 vw (List.replicate (p.o i).toNat ((i : Int) + 1)) := @GrowI.ext _ _ _ _ _ _ (he6.trans he7) hG5
      have hz7 := (he5.trans (he6.trans he7)).size
      refine go ?_
      refine st_appi hG57 hG7.fr.ints hz7 (by simp only [List.length_replicate, invW_len]; omega) (next := fun v8 w8 hG8 hx8 hz8 => ?_)
      have hx38 := hx8 w3 (he5.trans (he6.trans he7)) (Nat.le_refl _)
      refine go ?_
      refine st_grow hG3 hx38 hG8.fr hz3 (by omega) (next := fun v9 v10 w10 hG10 hx10 hz10 hgs10 => ?_)
      refine go ?_
      refine forQ_normal (by omega) ⟨v10, _, ?_, hx10 w1 (he3.trans hx38) (Nat.le_refl _), hG10, ?_⟩
      · exact hasP
      · rw [List.map_append, hrs3, List.range_succ, List.map_append]; rfl
  · obtain rfl : i = p.n := by omega
    have hrs0 : rs.map (·.2) = relL p 0 := by rw [hrs3]; simp [relL]
    have hrb : ∀ m, m ≤ p.n → (relL p m).length ≤ 100 := fun m hm => by
      have h := (rels_props hv).1
      have : (relL p m).length ≤ (rels p).length := by
        unfold rels relL
        simp only [List.length_append]
        have e : List.range p.n = List.range m ++ (List.range (p.n - m)).map (m + ·) := by
          rw [← List.range_add, show m + (p.n - m) = p.n by omega]
        rw [e, List.flatMap_append, List.length_append]
        simp only [List.length_append, List.length_map, List.length_range]
        omega
      omega
    clear hrs3
    refine go ?_
    refine r_for p.n (fun i ρ w' => ∃ vl rs, Has ρ [(1, .pointer (some ⟨b, 0, none⟩)), (3, vl), (4, .int .i64 p.n), (8, .int .i64 i)] ∧ Ext w1 w' ∧ GrowL 22 w1.heap.size w' vl rs ∧ rs.map (·.2) = relL p i) ?_ ?_
    · refine ⟨vl, rs, ?_, he3, hG3, hrs0⟩
      exact hasP
    clear hG3 he3 hrs0 hrl3 hz3 hE3
    rintro i ρ w3 hi ⟨vl, rs, hH3, he3, hG3, hrs3⟩
    refine rwp_has hH3 fun ρ1 => ?_
    have hz3 := he3.size
    have hE3 := he1.trans he3
    refine go ?_
    refine c_if (fun h5 => ?_) (fun h5 => ?_)
    · have hin : i < p.n := by omega
      refine go ?_
      refine r_for (p.n - 1 - i) (fun k ρ w' => ∃ vl rs, Has ρ [(1, .pointer (some ⟨b, 0, none⟩)), (3, vl), (4, .int .i64 p.n), (8, .int .i64 i), (9, .int .i64 ((i + 1 + k : Nat) : Int))] ∧ Ext w1 w' ∧ GrowL 22 w1.heap.size w' vl rs ∧ rs.map (·.2) = relL p i ++ relCs p i k) ?_ ?_
      · refine ⟨vl, rs, ?_, he3, hG3, by simpa [relCs] using hrs3⟩
        exact hasP
      clear hG3 he3 hrs3 hz3 hE3
      rintro k ρ w4 hk ⟨vl, rs, hH4, he4, hG4, hrs4⟩
      refine rwp_has hH4 fun ρ2 => ?_
      have hz4 := he4.size
      have hE4 := he1.trans he4
      have hrl4 : rs.length ≤ 1000 := by
        have h := congrArg List.length hrs4
        have h2 := hrb i (by omega)
        simp only [List.length_map, List.length_append, relCs, List.length_range] at h
        omega
      refine go ?_
      refine c_if (fun h6 => ?_) (fun h6 => ?_)
      · have hkn : k < p.n - 1 - i := by omega
        have hci := hv.lenci i hin
        refine go ?_
        refine st_slice3i (a := -(i : Int) - 1) (b := ((i + 1 + k : Nat) : Int) + 1) (c := (i : Int) + 1) (by ((try simp only [ev_tmp, ev_const, ev_func, get_put, get_args, get_putL, get_putL_nil, Nat.reduceEqDiff, reduceIte, List.getD_cons_zero, List.getD_cons_succ, List.getD_nil]); first | done | with_reducible rfl)) (by ((try simp only [ev_tmp, ev_const, ev_func, get_put, get_args, get_putL, get_putL_nil, Nat.reduceEqDiff, reduceIte, List.getD_cons_zero, List.getD_cons_succ, List.getD_nil]); first | done | with_reducible rfl)) (by ((try simp only [ev_tmp, ev_const, ev_func, get_put, get_args, get_putL, get_putL_nil, Nat.reduceEqDiff, reduceIte, List.getD_cons_zero, List.getD_cons_succ, List.getD_nil]); first | done | with_reducible rfl)) ?_ (by first | exact True.intro | exact ⟨_, rfl, by ((try simp only [ev_tmp, ev_const, ev_func, get_put, get_args, get_putL, get_putL_nil, Nat.reduceEqDiff, reduceIte, List.getD_cons_zero, List.getD_cons_succ, List.getD_nil, Bool.not_true, Bool.not_false]); first | done | with_reducible rfl)⟩) fun w5 v5 he5 hG5 => ?_
        · rfl
        have hiw := invec_word hv (hv.c_in i (i + 1 + k) (by omega) (by omega))
        have hw : p.c i (i + 1 + k) = (p.cnj.getD i []).getD k [] := by
          show (p.cnj.getD i []).getD (i + 1 + k - (i + 1)) [] = _
          rw [show i + 1 + k - (i + 1) = k by omega]
        rw [hw] at hiw
        have hixn : i + 1 + k - i - 1 = k := by omega
        refine go ?_
        rw [hixn]
        refine rc (l07Word_ok (e := (p.cnj.getD i []).getD k []) (by omega) (fun j hj => by have := hiw.2.2 j hj; omega)) (next := fun v6 w6 h7 => ?_)
        obtain ⟨he6, hG6⟩ := h7
        have hi6 := hG6.fr.ints
        have hlw := letW_word hiw.1
        refine go ?_
        refine rc (l06Invert_ok (e := wordV ((p.cnj.getD i []).getD k [])) (by omega) (ints_bd hlw hn6)) (next := fun v7 w7 h8 => ?_)
        obtain ⟨he7, hG7⟩ := h8
        have hG57 := @GrowI.ext _ _ _ _ _ _ (he6.trans he7) hG5
        have hz7 := (he5.trans (he6.trans he7)).size
        refine go ?_
        refine st_appi hG57 hG7.fr.ints hz7 (by simp only [List.length_cons, List.length_nil, invW_len]; omega) (next := fun v8 w8 hG8 hx8 hz8 => ?_)
        have hx48 := hx8 w4 (he5.trans (he6.trans he7)) (Nat.le_refl _)
        refine go ?_
        refine st_grow hG4 hx48 hG8.fr hz4 (by omega) (next := fun v9 v10 w10 hG10 hx10 hz10 hgs10 => ?_)
        refine go ?_
        refine forQ_normal (by omega) ⟨v10, _, ?_, hx10 w1 (he4.trans hx48) (Nat.le_refl _), hG10, ?_⟩
        · exact hasP
        · rw [List.map_append, hrs4, relCs_succ, List.append_assoc]; rfl
      · obtain rfl : k = p.n - 1 - i := by omega
        rw [← relL_succ] at hrs4
        refine go ?_
        refine forQ_normal (by omega) ⟨vl, rs, ?_, he4, hG4, hrs4⟩
        exact hasP
    · obtain rfl : i = p.n := by omega
      refine go ?_
      exact ret1 ⟨hE3, rs, hrs3, hG3.lower hz1 hE3.size⟩
end Go.Proofs.YtogbnkombnfknaaGreat

/-
  Walks: the reference's values of words, tests of homomorphisms (l10Eval, l10Elements, l16Relators, l16Apply).
  Conditions: stated at each theorem.
-/
namespace Go.Proofs.YtogbnkombnfknaaGreat
open Go Go.Pc
theorem letW_at {n : Nat} {w : List Int} (h : LetW n w) {k : Nat} (hk : k < w.length) : w.getD k 0 ≠ 0 ∧ -(n : Int) ≤ w.getD k 0 ∧ w.getD k 0 ≤ n := by
  have e1 : w.getD k 0 = w[k] := by simp [hk]
  rw [e1]
  exact h _ (List.getElem_mem hk)
set_option maxHeartbeats 2000000 in
theorem l10Eval_ok {q : Pr} [hc : ConAll q] {ys : List (El q)} {ws : List Int} (hw : LetW ys.length ws) (hwl : ws.length ≤ 100000) (hyl : ys.length ≤ 1000) {w : World} {vq vw vi : Value} {us : List Value} {xss : List (List Int)} {lo hi lo1 hi1 lo2 hi2 : Nat} [hp : Pres lo hi w vq q] [hx : Ints lo1 hi1 w vw ws] [hu : Pc.Rows lo2 hi2 w vi us xss] (hus : xss = vecs ys) :
    Calls Tryz.prog 99 #[vq, vw, vi] w (Ret fun v w' => Ext w w' ∧ Fr w.heap.size w' v (evalW ys ws).v) := by
  subst hus
  have hvl : (vecs ys).length = ys.length := by simp
  obtain ⟨vo, vpw, vc, ps, cs, css, rfl, h1, h2, h3⟩ := hp.ex
  refine enter (args := [.agg #[vo, vpw, vc], vw, vi]) (l := [.tmp 6]) Tryz.func99 rfl rfl Tryz.ntmps99 (by simp) ?_
  refine go ?_
  refine st_box3 (by ((try simp only [ev_tmp, ev_const, ev_func, get_put, get_args, get_putL, get_putL_nil, Nat.reduceEqDiff, reduceIte, List.getD_cons_zero, List.getD_cons_succ, List.getD_nil]); first | done | with_reducible rfl)) (by first | exact True.intro | exact ⟨_, rfl, by ((try simp only [ev_tmp, ev_const, ev_func, get_put, get_args, get_putL, get_putL_nil, Nat.reduceEqDiff, reduceIte, List.getD_cons_zero, List.getD_cons_succ, List.getD_nil, Bool.not_true, Bool.not_false]); first | done | with_reducible rfl)⟩) fun w1 b he1 hb1 hs1 hc0 hc1 hc2 => ?_
  have hz1 := he1.size
  refine go ?_
  refine rc (l10One_ok (p := q)) (next := fun v2 w2 h4 => ?_)
  obtain ⟨he2, hf2⟩ := h4
  refine go ?_
  refine r_for ws.length (fun k ρ w' => ∃ vr, Has ρ [(1, vw), (2, vi), (3, .pointer (some ⟨b, 0, none⟩)), (7, vr), (8, .int .i64 k)] ∧ Ext w1 w' ∧ Fr w1.heap.size w' vr (evalW ys (ws.take k)).v) ?_ ?_
  · refine ⟨v2, ?_, he2, hf2⟩
    exact hasP
  clear hf2
  rintro k ρ w3 hk ⟨vr, hH, he3, hf3⟩
  refine rwp_has hH fun ρ0 => ?_
  have hz3 := he3.size
  have hi3 := hf3.ints
  refine go ?_
  refine c_if (fun h4 => ?_) (fun h4 => ?_)
  · have hkn : k < ws.length := by omega
    have hlk := letW_at hw hkn
    have hst := evalW_take (ys := ys) hkn
    refine go ?_
    refine c_if (fun h5 => ?_) (fun h5 => ?_)
    · have hjn : ((ws.getD k 0).toNat - 1) < ys.length := by omega
      have hgj : (vecs ys).getD ((ws.getD k 0).toNat - 1) [] = (ys.getD ((ws.getD k 0).toNat - 1) 1).v := by rw [vecs_getD ys hjn, getD_one hjn]
      have hlv : letV ys (ws.getD k 0) = ys.getD ((ws.getD k 0).toNat - 1) 1 := by unfold letV; rw [if_pos (by omega), show (ws.getD k 0 - 1).toNat = (ws.getD k 0).toNat - 1 by omega]
      refine go ?_
      refine d_region fun w4 he4 _ => ?_
      refine dgo ?_
      refine dce (l08Mul_ok (p := q) (x := evalW ys (ws.take k)) (y := ys.getD ((ws.getD k 0).toNat - 1) 1) rfl hgj) (next := fun v6 w6 h6 => ?_)
      obtain ⟨he6, hf6⟩ := h6
      refine dgo ?_
      refine d_end (h := ?_)
      refine go ?_
      refine forQ_normal (by omega) ⟨v6, ?_, (he3.trans he4).trans he6, ?_⟩
      · exact hasP
      · rw [hst, hlv]
        exact hf6.mono (he3.trans he4).size
    · have hjn : ((-ws.getD k 0).toNat - 1) < ys.length := by omega
      have hgj : (vecs ys).getD ((-ws.getD k 0).toNat - 1) [] = (ys.getD ((-ws.getD k 0).toNat - 1) 1).v := by rw [vecs_getD ys hjn, getD_one hjn]
      have hlv : letV ys (ws.getD k 0) = (ys.getD ((-ws.getD k 0).toNat - 1) 1)⁻¹ := by unfold letV; rw [if_neg (by omega), show (-ws.getD k 0 - 1).toNat = (-ws.getD k 0).toNat - 1 by omega]
      refine go ?_
      refine d_region fun w4 he4 _ => ?_
      refine dgo ?_
      refine dce (l10Inv_ok (p := q) (x := ys.getD ((-ws.getD k 0).toNat - 1) 1) hgj) (next := fun v5 w5 h5 => ?_)
      obtain ⟨he5, hf5⟩ := h5
      refine dce (l08Mul_ok (p := q) (x := evalW ys (ws.take k)) (y := (ys.getD ((-ws.getD k 0).toNat - 1) 1)⁻¹) rfl rfl) (next := fun v6 w6 h6 => ?_)
      obtain ⟨he6, hf6⟩ := h6
      refine dgo ?_
      refine d_end (h := ?_)
      refine go ?_
      have hE := (he3.trans he4).trans he5
      refine forQ_normal (by omega) ⟨v6, ?_, hE.trans he6, ?_⟩
      · exact hasP
      · rw [hst, hlv]
        exact hf6.mono hE.size
  · obtain rfl : k = ws.length := by omega
    rw [List.take_length] at hf3
    refine go ?_
    exact ret1 ⟨he1.trans he3, hf3.mono hz1⟩
set_option maxHeartbeats 2000000 in
theorem l16Relators_ok {p q : Pr} (hvp : Valid p) [hc : ConAll q] {ys : List (El q)} (hyl : ys.length = p.n) {w : World} {vp vq vi : Value} {us : List Value} {xss : List (List Int)} {lo hi lo1 hi1 lo2 hi2 : Nat} [hp : Pres lo hi w vp p] [hq : Pres lo1 hi1 w vq q] [hu : Pc.Rows lo2 hi2 w vi us xss] (hus : xss = vecs ys) :
    Calls Tryz.prog 66 #[vp, vq, vi] w (Ret fun v w' => ∃ b, v = .bool b ∧ (b = true ↔ RelOk p ys) ∧ Ext w w') := by
  subst hus
  have hn6 := hvp.n6
  have hq6 := hc.valid.n6
  have hvl : (vecs ys).length = ys.length := by simp
  have hrp := rels_props hvp
  replace hp := hp.wide
  replace hq := hq.wide
  replace hu := hu.wide
  obtain ⟨vo, vpw, vc, ps, cs, css, rfl, h1, h2, h3⟩ := hp.ex
  obtain ⟨uo, upw, uc, qs, ds, dss, rfl, k1, k2, k3⟩ := hq.ex
  refine enter (args := [.agg #[vo, vpw, vc], .agg #[uo, upw, uc], vi]) (l := [.tmp 6]) Tryz.func66 rfl rfl Tryz.ntmps66 (by simp) ?_
  refine go ?_
  refine st_box3 (by ((try simp only [ev_tmp, ev_const, ev_func, get_put, get_args, get_putL, get_putL_nil, Nat.reduceEqDiff, reduceIte, List.getD_cons_zero, List.getD_cons_succ, List.getD_nil]); first | done | with_reducible rfl)) (by first | exact True.intro | exact ⟨_, rfl, by ((try simp only [ev_tmp, ev_const, ev_func, get_put, get_args, get_putL, get_putL_nil, Nat.reduceEqDiff, reduceIte, List.getD_cons_zero, List.getD_cons_succ, List.getD_nil, Bool.not_true, Bool.not_false]); first | done | with_reducible rfl)⟩) fun w0 b0 he0 hb0 hs0 ha0 ha1 ha2 => ?_
  refine go ?_
  refine st_box3 (by ((try simp only [ev_tmp, ev_const, ev_func, get_put, get_args, get_putL, get_putL_nil, Nat.reduceEqDiff, reduceIte, List.getD_cons_zero, List.getD_cons_succ, List.getD_nil]); first | done | with_reducible rfl)) (by first | exact True.intro | exact ⟨_, rfl, by ((try simp only [ev_tmp, ev_const, ev_func, get_put, get_args, get_putL, get_putL_nil, Nat.reduceEqDiff, reduceIte, List.getD_cons_zero, List.getD_cons_succ, List.getD_nil, Bool.not_true, Bool.not_false]); first | done | with_reducible rfl)⟩) fun w1 b he1 hb1 hs1 hc0 hc1 hc2 => ?_
  have hE1 := he0.trans he1
  refine go ?_
  refine rc (l07Relators_ok (p := p) hvp) (next := fun v2 w2 h4 => ?_)
  obtain ⟨he2, rs, hrs, hG2⟩ := h4
  have hR2 := hG2.rows
  rw [hrs] at hR2
  have hul2 := hR2.vals.len
  have hE2 := hE1.trans he2
  refine go ?_
  refine r_for (rels p).length (fun k ρ w' => Has ρ [(2, vi), (4, .pointer (some ⟨b, 0, none⟩)), (7, v2), (8, .int .i64 k)] ∧ Ext w2 w' ∧ ∀ j, j < k → evalW ys ((rels p).getD j []) = 1) ?_ ?_
  · refine ⟨?_, Ext.refl _, fun j hj => by omega⟩
    exact hasP
  rintro k ρ w3 hk ⟨hH, he3, hI⟩
  refine rwp_has hH fun ρ0 => ?_
  have hE3 := hE2.trans he3
  refine go ?_
  refine c_if (fun h4 => ?_) (fun h4 => ?_)
  · have hkn : k < (rels p).length := by omega
    have e1 : (rels p).getD k [] = (rels p)[k] := by simp [hkn]
    have hwk := hrp.2 _ (List.getElem_mem hkn)
    rw [← e1, ← hyl] at hwk
    have hel := (evalW ys ((rels p).getD k [])).inr.len
    refine go ?_
    refine d_region fun w4 he4 _ => ?_
    refine dgo ?_
    refine dce (l10Eval_ok (q := q) (ys := ys) (ws := (rels p).getD k []) hwk.2 (by omega) (by omega) rfl) (next := fun v5 w5 h5 => ?_)
    obtain ⟨he5, hf5⟩ := h5
    have hi5 := hf5.ints
    refine dce (l01Zero_ok (xs := (evalW ys ((rels p).getD k [])).v) (by omega)) (next := fun v6 w6 h6 => ?_)
    obtain ⟨b6, rfl, hb6, he6⟩ := h6
    rw [← el_one_iff] at hb6
    refine dgo ?_
    refine d_end (h := ?_)
    have hE6 := (he4.trans he5).trans he6
    refine go ?_
    refine c_b (fun h7 => ?_) (fun h7 => ?_)
    · refine go ?_
      refine ret1 ⟨false, rfl, ⟨fun h => (by cases h), fun h => ?_⟩, hE3.trans hE6⟩
      rw [hb6.2 (h k hkn)] at h7; cases h7
    · refine go ?_
      refine forQ_normal (by omega) ⟨?_, he3.trans hE6, fun j hj => ?_⟩
      · exact hasP
      · by_cases e : j = k
        · subst e; exact hb6.1 (by simpa using h7)
        · exact hI j (by omega)
  · refine go ?_
    exact ret1 ⟨true, rfl, ⟨fun _ j hj => hI j (by omega), fun _ => rfl⟩, hE3⟩
end Go.Proofs.YtogbnkombnfknaaGreat

/-
  Walks: the reference's IsAutomorphism, IsIsomorphism, ApplyAutomorphism, ComposeAutomorphisms.
  Conditions: stated at each theorem.
-/
namespace Go.Proofs.YtogbnkombnfknaaGreat
open Go Go.Pc
set_option maxHeartbeats 4000000 in
theorem l25Is_ok {p : Pr} [hc : ConAll p] {w : World} {vp vu : Value} {us : List Value} {xss : List (List Int)} {lo hi lo1 hi1 : Nat} [hp : Pres lo hi w vp p] [hu : Pc.Rows lo1 hi1 w vu us xss] (hxl : xss.length ≤ 2000000) :
    Calls Tryz.prog 42 #[vp, vu] w (Ret fun v w' => ∃ b, v = .bool b ∧ (b = true ↔ xss.length = p.n ∧ (∀ i, i < xss.length → InR p (xss.getD i [])) ∧ IsoC p p xss) ∧ Ext w w') := by
  have hv := hc.valid
  have hn6 := hv.n6
  have hol : p.ord.length = p.n := rfl
  replace hp := hp.wide
  replace hu := hu.wide
  obtain ⟨vo, vpw, vc, ps, cs, css, rfl, h1, h2, h3⟩ := hp.ex
  refine enter (args := [.agg #[vo, vpw, vc], vu]) (l := [.tmp 4]) Tryz.func42 rfl rfl Tryz.ntmps42 (by simp) ?_
  refine go ?_
  refine st_box3 (by ((try simp only [ev_tmp, ev_const, ev_func, get_put, get_args, get_putL, get_putL_nil, Nat.reduceEqDiff, reduceIte, List.getD_cons_zero, List.getD_cons_succ, List.getD_nil]); first | done | with_reducible rfl)) (by first | exact True.intro | exact ⟨_, rfl, by ((try simp only [ev_tmp, ev_const, ev_func, get_put, get_args, get_putL, get_putL_nil, Nat.reduceEqDiff, reduceIte, List.getD_cons_zero, List.getD_cons_succ, List.getD_nil, Bool.not_true, Bool.not_false]); first | done | with_reducible rfl)⟩) fun w1 b he1 hb1 hs1 hc0 hc1 hc2 => ?_
  refine go ?_
  refine d_order [0, 1, 2, 3, 4, 5, 6, 7, 8, 9, 10, 11, 12, 13, 14, 15, 16, 17, 18, 19, 22, 23, 24, 20, 21, 25, 26, 27] (h := fun w2 he2 _ => ?_)
  have hE2 := he1.trans he2
  refine dgo ?_
  refine dspd (fun h4 => ?_) (fun h4 => ?_)
  · have hlen : xss.length = p.n := by omega
    refine dgo ?_
    refine dce (l10Elements_ok (p := p) (xss := xss) hv (by omega)) (next := fun v5 w5 h5 => ?_)
    obtain ⟨b5, rfl, hb5, he5⟩ := h5
    refine dgo ?_
    refine dsp (fun h6 => ?_) (fun h6 => ?_)
    · subst h6
      obtain ⟨ys, hys⟩ := els_inR (hb5.1 rfl)
      have hyl : ys.length = p.n := by rw [← hlen, hys]; simp
      refine dgo ?_
      refine dce (l16Relators_ok (p := p) (q := p) hv (ys := ys) hyl hys) (next := fun v7 w7 h7 => ?_)
      obtain ⟨b7, rfl, hb7, he7⟩ := h7
      refine dgo ?_
      refine dsp (fun h8 => ?_) (fun h8 => ?_)
      · subst h8
        refine dgo ?_
        refine dce (l12Close_ok (p := p) (ys := ys) hys (by omega)) (next := fun v9 w9 h9 => ?_)
        obtain ⟨he9, us9, hL9⟩ := h9
        have hR9 := hL9.newRows
        rw [canon_vecs] at hR9
        have hsq := seqEl_can (Gen.sub (fun a : El p => a ∈ ys))
        have hvl9 : (vecs (canEls (Gen (fun a : El p => a ∈ ys)))).length = (canEls (Gen (fun a : El p => a ∈ ys))).length := by simp
        have hlen9 : Len w2 v9 (vecs (canEls (Gen (fun a : El p => a ∈ ys)))).length := ⟨(Pc.Rows.toLen (h := hR9)).ex⟩
        refine dgo ?_
        refine d_end (h := ?_)
        refine go ?_
        refine ret1 ⟨_, rfl, ?_, ((hE2.trans he5).trans he7).trans he9⟩
        rw [decide_eq_true_iff]
        constructor
        · intro h
          refine ⟨hlen, hb5.1 rfl, ys, hys, hb7.1 rfl, (ord_full hsq).2 (by omega)⟩
        · rintro ⟨_, _, hiso⟩
          rw [hys, isoC_iff] at hiso
          have := (ord_full hsq).1 hiso.2
          omega
      · subst h8
        refine dgo ?_
        refine d_end (h := ?_)
        refine go ?_
        refine ret1 ⟨false, rfl, ⟨fun h => (by cases h), fun h => ?_⟩, (hE2.trans he5).trans he7⟩
        obtain ⟨_, _, hiso⟩ := h
        rw [hys, isoC_iff] at hiso
        have := hb7.2 hiso.1
        cases this
    · subst h6
      refine dgo ?_
      refine d_end (h := ?_)
      refine go ?_
      refine ret1 ⟨false, rfl, ⟨fun h => (by cases h), fun h => ?_⟩, hE2.trans he5⟩
      have := hb5.2 h.2.1
      cases this
  · refine dgo ?_
    refine d_end (h := ?_)
    refine go ?_
    refine ret1 ⟨false, rfl, ⟨fun h => (by cases h), fun h => ?_⟩, hE2⟩
    have := h.1
    omega
set_option maxHeartbeats 1000000 in
theorem spec_IsAutomorphism_ok {p : Pr} {w : World} {vp vu : Value} {us : List Value} {xss : List (List Int)} {lo hi lo1 hi1 : Nat} [hp : Pres lo hi w vp p] [hu : Pc.Rows lo1 hi1 w vu us xss] (hl : p.ord.length ≤ 2000000) (hxl : xss.length ≤ 2000000) :
    Calls Tryz.prog 33 #[vp, vu] w (Ret fun v w' => ∃ b, v = .bool b ∧ (b = true ↔ IsoP p p xss) ∧ Ext w w') := by
  obtain ⟨vo, vpw, vc, ps, cs, css, rfl, h1, h2, h3⟩ := hp.ex
  refine enter (args := [.agg #[vo, vpw, vc], vu]) (l := [.tmp 4]) Tryz.func33 rfl rfl Tryz.ntmps33 (by simp) ?_
  refine go ?_
  refine st_box3 (by ((try simp only [ev_tmp, ev_const, ev_func, get_put, get_args, get_putL, get_putL_nil, Nat.reduceEqDiff, reduceIte, List.getD_cons_zero, List.getD_cons_succ, List.getD_nil]); first | done | with_reducible rfl)) (by first | exact True.intro | exact ⟨_, rfl, by ((try simp only [ev_tmp, ev_const, ev_func, get_put, get_args, get_putL, get_putL_nil, Nat.reduceEqDiff, reduceIte, List.getD_cons_zero, List.getD_cons_succ, List.getD_nil, Bool.not_true, Bool.not_false]); first | done | with_reducible rfl)⟩) fun w1 b he1 hb1 hs1 hc0 hc1 hc2 => ?_
  refine go ?_
  refine rc (l08Group_ok (p := p) hl) (next := fun v5 w5 h5 => ?_)
  obtain ⟨b5, rfl, hb5, he5⟩ := h5
  have hE5 := he1.trans he5
  refine go ?_
  refine sp (fun e5 => ?_) (fun e5 => ?_)
  · subst e5
    have hG := hb5.1 rfl
    haveI : ConAll p := ⟨hG.con⟩
    refine go ?_
    refine rc (l25Is_ok (p := p) (xss := xss) hxl) (next := fun v6 w6 h6 => ?_)
    obtain ⟨b6, rfl, hb6, he6⟩ := h6
    refine go ?_
    exact ret1 ⟨b6, rfl, hb6.trans ⟨fun h => ⟨hG, h.1, rfl, hG, h.2.1, h.2.2⟩, fun h => ⟨h.2.1, h.2.2.2.2.1, h.2.2.2.2.2⟩⟩, hE5.trans he6⟩
  · subst e5
    refine go ?_
    refine ret1 ⟨false, rfl, ⟨fun h => (by cases h), fun h => ?_⟩, hE5⟩
    have := hb5.2 h.1
    cases this
theorem inr_small {p : Pr} (hv : Valid p) {xs : List Int} (h : InR p xs) : ∀ i, i < xs.length → 0 ≤ xs.getD i 0 ∧ xs.getD i 0 ≤ 7 := fun i hi => by
  have h1 := h.rng i (by have := h.len; omega)
  have h2 := hv.opos (i := i) (by have := h.len; omega)
  omega
set_option maxHeartbeats 1000000 in
theorem l16Apply_ok {q : Pr} [hc : ConAll q] {ys : List (El q)} {x : List Int} (hyl : ys.length ≤ 1000) (hxl : x.length = ys.length) (hxr : ∀ i, i < x.length → 0 ≤ x.getD i 0 ∧ x.getD i 0 ≤ 7) {w : World} {vq vi vx : Value} {us : List Value} {xss : List (List Int)} {xs : List Int} {lo hi lo1 hi1 lo2 hi2 : Nat} [hp : Pres lo hi w vq q] [hu : Pc.Rows lo1 hi1 w vi us xss] [hx : Ints lo2 hi2 w vx xs] (hus : xss = vecs ys) (hxe : xs = x) :
    Calls Tryz.prog 35 #[vq, vi, vx] w (Ret fun v w' => Ext w w' ∧ Fr w.heap.size w' v (imgE ys x).v) := by
  subst hxe
  obtain ⟨vo, vpw, vc, ps, cs, css, rfl, h1, h2, h3⟩ := hp.ex
  refine enter (args := [.agg #[vo, vpw, vc], vi, vx]) (l := [.tmp 6]) Tryz.func35 rfl rfl Tryz.ntmps35 (by simp) ?_
  refine go ?_
  refine st_box3 (by ((try simp only [ev_tmp, ev_const, ev_func, get_put, get_args, get_putL, get_putL_nil, Nat.reduceEqDiff, reduceIte, List.getD_cons_zero, List.getD_cons_succ, List.getD_nil]); first | done | with_reducible rfl)) (by first | exact True.intro | exact ⟨_, rfl, by ((try simp only [ev_tmp, ev_const, ev_func, get_put, get_args, get_putL, get_putL_nil, Nat.reduceEqDiff, reduceIte, List.getD_cons_zero, List.getD_cons_succ, List.getD_nil, Bool.not_true, Bool.not_false]); first | done | with_reducible rfl)⟩) fun w1 b he1 hb1 hs1 hc0 hc1 hc2 => ?_
  refine go ?_
  refine rc (l12Product_ok (p := q) (ys := ys) (as_ := xs) hyl hus hxl (fun i hi => by have := hxr i (by omega); omega)) (next := fun v2 w2 h4 => ?_)
  obtain ⟨he2, hf2⟩ := h4
  refine go ?_
  exact ret1 ⟨he1.trans he2, hf2.mono he1.size⟩
set_option maxHeartbeats 2000000 in
theorem spec_ApplyAutomorphism_ok {p : Pr} {w : World} {vp vu vx : Value} {us : List Value} {xss : List (List Int)} {xs : List Int} {lo hi lo1 hi1 lo2 hi2 : Nat} [hp : Pres lo hi w vp p] [hu : Pc.Rows lo1 hi1 w vu us xss] [hx : Ints lo2 hi2 w vx xs] (hl : p.ord.length ≤ 2000000) (hxl : xss.length ≤ 2000000) :
    Calls Tryz.prog 10 #[vp, vu, vx] w (Ret fun v w' => ∃ (u : Value) (k : List Int) (e : Int), v = .tuple #[u, .int .i64 e] ∧ Ans (IsoP p p xss ∧ InR p xs) (ApV p xss xs) [] k e ∧ Ext w w' ∧ Ints w.heap.size w'.heap.size w' u k) := by
  replace hu := hu.wide
  replace hx := hx.wide
  obtain ⟨vo, vpw, vc, ps, cs, css, rfl, h1, h2, h3⟩ := hp.ex
  refine enter (args := [.agg #[vo, vpw, vc], vu, vx]) (l := [.tmp 6, .tmp 7]) Tryz.func10 rfl rfl Tryz.ntmps10 (by simp) ?_
  refine go ?_
  refine st_box3 (by ((try simp only [ev_tmp, ev_const, ev_func, get_put, get_args, get_putL, get_putL_nil, Nat.reduceEqDiff, reduceIte, List.getD_cons_zero, List.getD_cons_succ, List.getD_nil]); first | done | with_reducible rfl)) (by first | exact True.intro | exact ⟨_, rfl, by ((try simp only [ev_tmp, ev_const, ev_func, get_put, get_args, get_putL, get_putL_nil, Nat.reduceEqDiff, reduceIte, List.getD_cons_zero, List.getD_cons_succ, List.getD_nil, Bool.not_true, Bool.not_false]); first | done | with_reducible rfl)⟩) fun w1 b he1 hb1 hs1 hc0 hc1 hc2 => ?_
  refine go ?_
  refine rc (spec_IsAutomorphism_ok (p := p) (xss := xss) hl hxl) (next := fun v5 w5 h5 => ?_)
  obtain ⟨b5, rfl, hb5, he5⟩ := h5
  have hE5 := he1.trans he5
  refine ra (next := ?_)
  refine ra (next := ?_)
  refine sp (fun e5 => ?_) (fun e5 => ?_)
  · have e5' : b5 = false := by simpa using e5
    refine go ?_
    refine ret2 ⟨nilv, [], 1, rfl, .inr ⟨fun h => ?_, rfl, rfl⟩, hE5, (Fr.nilR _ _).ints⟩
    rw [hb5.2 h.1] at e5'; cases e5'
  have hA := hb5.1 (by simpa using e5)
  obtain ⟨hG, hlen, _, _, hI, _⟩ := hA
  haveI : ConAll p := ⟨hG.con⟩
  have hv := hG.valid
  have hn6 := hv.n6
  obtain ⟨ys, hys⟩ := els_inR hI
  have hyl : ys.length = p.n := by rw [← hlen, hys]; simp
  refine go ?_
  refine rc (l10Element_ok (p := p) (xs := xs) hv) (next := fun v6 w6 h6 => ?_)
  obtain ⟨b6, rfl, hb6, he6⟩ := h6
  have hE6 := hE5.trans he6
  refine go ?_
  refine c_b (fun e6 => ?_) (fun e6 => ?_)
  · refine go ?_
    refine ret2 ⟨nilv, [], 1, rfl, .inr ⟨fun h => ?_, rfl, rfl⟩, hE6, (Fr.nilR _ _).ints⟩
    rw [hb6.2 h.2] at e6; cases e6
  have hX := hb6.1 (by simpa using e6)
  have hXl := hX.len
  refine go ?_
  refine rc (l16Apply_ok (q := p) (ys := ys) (x := xs) (by omega) (by omega) (inr_small hv hX) hys rfl) (next := fun v7 w7 h7 => ?_)
  obtain ⟨he7, hf7⟩ := h7
  refine go ?_
  exact ret2 ⟨v7, _, 0, rfl, .inl ⟨⟨hb5.1 (by simpa using e5), hX⟩, ⟨inferInstance, ys, hys, rfl⟩, rfl⟩, hE6.trans he7, (hf7.mono hE6.size).ints⟩
set_option maxHeartbeats 2000000 in
theorem l25After_ok {p : Pr} [hc : ConAll p] {ys zs : List (El p)} (hyl : ys.length = p.n) (hzl : zs.length = p.n) {w : World} {vp vu vx : Value} {us vs : List Value} {xss yss : List (List Int)} {lo hi lo1 hi1 lo2 hi2 : Nat} [hp : Pres lo hi w vp p] [hu : Pc.Rows lo1 hi1 w vu us xss] [hx : Pc.Rows lo2 hi2 w vx vs yss] (hus : xss = vecs ys) (hvs : yss = vecs zs) :
    Calls Tryz.prog 43 #[vp, vu, vx] w (Ret fun v w' => Ext w w' ∧ ∃ us', Pc.Rows w.heap.size w'.heap.size w' v us' (vecs (ys.map fun y => imgE zs y.v))) := by
  subst hus hvs
  have hv := hc.valid
  have hn6 := hv.n6
  have hyv : (vecs ys).length = ys.length := by simp
  have hvl := hu.vals.len
  replace hp := hp.wide
  replace hu := hu.wide
  replace hx := hx.wide
  obtain ⟨vo, vpw, vc, ps, cs, css, rfl, h1, h2, h3⟩ := hp.ex
  refine enter (args := [.agg #[vo, vpw, vc], vu, vx]) (l := [.tmp 6]) Tryz.func43 rfl rfl Tryz.ntmps43 (by simp) ?_
  refine go ?_
  refine st_box3 (by ((try simp only [ev_tmp, ev_const, ev_func, get_put, get_args, get_putL, get_putL_nil, Nat.reduceEqDiff, reduceIte, List.getD_cons_zero, List.getD_cons_succ, List.getD_nil]); first | done | with_reducible rfl)) (by first | exact True.intro | exact ⟨_, rfl, by ((try simp only [ev_tmp, ev_const, ev_func, get_put, get_args, get_putL, get_putL_nil, Nat.reduceEqDiff, reduceIte, List.getD_cons_zero, List.getD_cons_succ, List.getD_nil, Bool.not_true, Bool.not_false]); first | done | with_reducible rfl)⟩) fun w1 b he1 hb1 hs1 hc0 hc1 hc2 => ?_
  have hz1 := he1.size
  refine go ?_
  refine st_slice0 (by first | exact True.intro | exact ⟨_, rfl, by ((try simp only [ev_tmp, ev_const, ev_func, get_put, get_args, get_putL, get_putL_nil, Nat.reduceEqDiff, reduceIte, List.getD_cons_zero, List.getD_cons_succ, List.getD_nil, Bool.not_true, Bool.not_false]); first | done | with_reducible rfl)⟩) fun w0 v0 he0 hs0 ho0 => ?_
  refine go ?_
  refine r_for ys.length (fun i ρ w' => ∃ vl rs, Has ρ [(1, vu), (2, vx), (3, .pointer (some ⟨b, 0, none⟩)), (7, vl), (8, .int .i64 i)] ∧ Ext w1 w' ∧ GrowL 22 w1.heap.size w' vl rs ∧ rs.map (·.2) = vecs ((ys.take i).map fun y => imgE zs y.v)) ?_ ?_
  · refine ⟨v0, [], ?_, he0, GrowL.start ho0 (Nat.le_refl _), rfl⟩
    exact hasP
  clear ho0
  rintro i ρ w3 hi ⟨vl, rs, hH, he3, hG3, hrs3⟩
  refine rwp_has hH fun ρ0 => ?_
  have hz3 := he3.size
  have hE3 := he1.trans he3
  have hrl : rs.length = i := by have := congrArg List.length hrs3; simp at this; omega
  refine go ?_
  refine c_if (fun h4 => ?_) (fun h4 => ?_)
  · have hin : i < ys.length := by omega
    have hgi := vecs_getD ys hin
    have hiy := (ys[i]).inr
    have hil := hiy.len
    obtain ⟨b', hb', hvb'⟩ := own_some' vl w1.heap.size w3.heap.size hz3 (fun g h => (hG3.lst.lt h).1)
    have ap1 : Apart 0 w.heap.size b' := ⟨.inr (by omega)⟩
    have ap2 : Apart b (b + 1) b' := ⟨.inr (by omega)⟩
    refine go ?_
    refine z_order b' (List.range 11) (h := fun w4 he4 _ => ?_)
    refine zgo ?_
    refine zc (l16Apply_ok (q := p) (ys := zs) (x := (ys[i]).v) (by omega) (by omega) (inr_small hv hiy) rfl hgi) (next := fun v5 w5 h6 => ?_)
    obtain ⟨he5, hf5⟩ := h6
    refine z_grow (hG3.ext he4) he5 hf5 (by have := he4.size; omega) (by omega) hvb' (next := fun v6 v7 w7 hG7 hx7 hz7 hgs7 => ?_)
    refine zgo ?_
    refine z_end ?_
    refine go ?_
    refine forQ_normal (by omega) ⟨v7, _, ?_, hx7 w1 ((he3.trans he4).trans he5) (Nat.le_refl _), hG7, ?_⟩
    · exact hasP
    · rw [List.take_succ_eq_append_getElem hin]
      simp only [List.map_append, List.map_cons, List.map_nil, hrs3, vecs]
  · obtain rfl : i = ys.length := by omega
    rw [List.take_length] at hrs3
    have hR := hG3.rows
    rw [hrs3] at hR
    refine go ?_
    exact ret1 ⟨hE3, _, hR.mono hz1 (Nat.le_refl _)⟩
set_option maxHeartbeats 2000000 in
theorem spec_ComposeAutomorphisms_ok {p : Pr} {w : World} {vp vu vx : Value} {us vs : List Value} {xss yss : List (List Int)} {lo hi lo1 hi1 lo2 hi2 : Nat} [hp : Pres lo hi w vp p] [hu : Pc.Rows lo1 hi1 w vu us xss] [hx : Pc.Rows lo2 hi2 w vx vs yss] (hl : p.ord.length ≤ 2000000) (hxl : xss.length ≤ 2000000) (hyl : yss.length ≤ 2000000) :
    Calls Tryz.prog 22 #[vp, vu, vx] w (Ret fun v w' => ∃ (u : Value) (k : List (List Int)) (e : Int), v = .tuple #[u, .int .i64 e] ∧ Ans (IsoP p p xss ∧ IsoP p p yss) (CoV p xss yss) [] k e ∧ Ext w w' ∧ ∃ us', Pc.Rows w.heap.size w'.heap.size w' u us' k) := by
  replace hu := hu.wide
  replace hx := hx.wide
  obtain ⟨vo, vpw, vc, ps, cs, css, rfl, h1, h2, h3⟩ := hp.ex
  refine enter (args := [.agg #[vo, vpw, vc], vu, vx]) (l := [.tmp 6, .tmp 7]) Tryz.func22 rfl rfl Tryz.ntmps22 (by simp) ?_
  refine go ?_
  refine st_box3 (by ((try simp only [ev_tmp, ev_const, ev_func, get_put, get_args, get_putL, get_putL_nil, Nat.reduceEqDiff, reduceIte, List.getD_cons_zero, List.getD_cons_succ, List.getD_nil]); first | done | with_reducible rfl)) (by first | exact True.intro | exact ⟨_, rfl, by ((try simp only [ev_tmp, ev_const, ev_func, get_put, get_args, get_putL, get_putL_nil, Nat.reduceEqDiff, reduceIte, List.getD_cons_zero, List.getD_cons_succ, List.getD_nil, Bool.not_true, Bool.not_false]); first | done | with_reducible rfl)⟩) fun w1 b he1 hb1 hs1 hc0 hc1 hc2 => ?_
  refine go ?_
  refine rc (spec_IsAutomorphism_ok (p := p) (xss := xss) hl hxl) (next := fun v5 w5 h5 => ?_)
  obtain ⟨b5, rfl, hb5, he5⟩ := h5
  have hE5 := he1.trans he5
  refine ra (next := ?_)
  refine ra (next := ?_)
  refine sp (fun e5 => ?_) (fun e5 => ?_)
  · have e5' : b5 = false := by simpa using e5
    refine go ?_
    refine ret2 ⟨nilv, [], 1, rfl, .inr ⟨fun h => ?_, rfl, rfl⟩, hE5, [], Rows.nilR _ _ _⟩
    rw [hb5.2 h.1] at e5'; cases e5'
  have hA := hb5.1 (by simpa using e5)
  have hA' := hA
  obtain ⟨hG, hlen, _, _, hI, _⟩ := hA'
  haveI : ConAll p := ⟨hG.con⟩
  have hv := hG.valid
  have hn6 := hv.n6
  obtain ⟨ys, hys⟩ := els_inR hI
  have hyl : ys.length = p.n := by rw [← hlen, hys]; simp
  refine go ?_
  refine rc (l25Is_ok (p := p) (xss := yss) (by omega)) (next := fun v6 w6 h6 => ?_)
  obtain ⟨b6, rfl, hb6, he6⟩ := h6
  have hE6 := hE5.trans he6
  refine go ?_
  refine c_b (fun e6 => ?_) (fun e6 => ?_)
  · refine go ?_
    refine ret2 ⟨nilv, [], 1, rfl, .inr ⟨fun h => ?_, rfl, rfl⟩, hE6, [], Rows.nilR _ _ _⟩
    obtain ⟨_, _, hlen2, _, _, hI2, hC2⟩ := h
    rw [hb6.2 ⟨hlen2, hI2, hC2⟩] at e6; cases e6
  obtain ⟨hlen2, hI2, hC2⟩ := hb6.1 (by simpa using e6)
  have hB : IsoP p p yss := ⟨hG, hlen2, rfl, hG, hI2, hC2⟩
  obtain ⟨zs, hzs⟩ := els_inR hI2
  have hzl : zs.length = p.n := by rw [← hlen2, hzs]; simp
  refine go ?_
  refine rc (l25After_ok (p := p) (ys := ys) (zs := zs) hyl hzl hys hzs) (next := fun v7 w7 h7 => ?_)
  obtain ⟨he7, us7, hR7⟩ := h7
  refine go ?_
  exact ret2 ⟨v7, _, 0, rfl, .inl ⟨⟨hA, hB⟩, ⟨inferInstance, ys, zs, hys, hzs, rfl⟩, rfl⟩, hE6.trans he7, us7, hR7.mono hE6.size (Nat.le_refl _)⟩
end Go.Proofs.YtogbnkombnfknaaGreat

/-
  Walk: the program's check of a presentation (IsPresentation).
  Conditions: stated at each theorem.
-/
namespace Go.Proofs.YtogbnkombnfknaaGreat
open Go Go.Pc
theorem foldl_mono : ∀ (l : List Int) (a : Int), (∀ o ∈ l, 1 ≤ o) → 1 ≤ a → a ≤ l.foldl (· * ·) a :=
  fun l a h ha => (capMul_foldl l a h ha).2.1
theorem prod_take {l : List Int} {k : Nat} (h : ∀ o ∈ l, 1 ≤ o) : 1 ≤ (l.take k).foldl (· * ·) 1 ∧ (l.take k).foldl (· * ·) 1 ≤ l.foldl (· * ·) 1 := by
  have h1 := foldl_mono (l.take k) 1 (fun o ho => h o (List.mem_of_mem_take ho)) (by omega)
  have h2 := foldl_mono (l.drop k) ((l.take k).foldl (· * ·) 1) (fun o ho => h o (List.mem_of_mem_drop ho)) h1
  rw [← List.foldl_append, List.take_append_drop] at h2
  exact ⟨h1, h2⟩
set_option maxHeartbeats 2000000 in
theorem impl_IsPresentation_ok {w : World} {v : Value} {p : Pr} {lo hi : Nat} [hp : Pres lo hi w v p] (hl : p.ord.length ≤ 2000000) :
    Calls Tryz.prog 110 #[v] w (Ret fun v' w' => ∃ b, v' = .bool b ∧ (b = true ↔ Valid p) ∧ Ext w w') := by
  have hol : p.ord.length = p.n := rfl
  obtain ⟨vo, vpw, vc, ps, cs, css, rfl, h1, h2, h3⟩ := hp.ex
  refine enter (args := [.agg #[vo, vpw, vc]]) (l := [.tmp 2]) Tryz.func110 rfl rfl Tryz.ntmps110 (by simp) ?_
  refine go ?_
  refine st_box3 (by ((try simp only [ev_tmp, ev_const, ev_func, get_put, get_args, get_putL, get_putL_nil, Nat.reduceEqDiff, reduceIte, List.getD_cons_zero, List.getD_cons_succ, List.getD_nil]); first | done | with_reducible rfl)) (by first | exact True.intro | exact ⟨_, rfl, by ((try simp only [ev_tmp, ev_const, ev_func, get_put, get_args, get_putL, get_putL_nil, Nat.reduceEqDiff, reduceIte, List.getD_cons_zero, List.getD_cons_succ, List.getD_nil, Bool.not_true, Bool.not_false]); first | done | with_reducible rfl)⟩) fun w1 b he1 hb1 hs1 hc0 hc1 hc2 => ?_
  have no : ∀ {w' : World}, ¬ Valid p → Ext w w' → ∃ b, Value.bool false = .bool b ∧ (b = true ↔ Valid p) ∧ Ext w w' := fun h he => ⟨_, rfl, by simp [h], he⟩
  have hpp := hp.boxed he1 hc0 hc1 hc2
  refine go ?_
  refine spd (fun hn => ?_) (fun hn => ?_)
  · refine go ?_
    exact ret1 (no (fun h => by have := h.n6; omega) he1)
  refine go ?_
  refine spd (fun hn2 => ?_) (fun hn2 => ?_)
  · refine go ?_
    exact ret1 (no (fun h => by have := h.lenw; omega) he1)
  refine go ?_
  refine c_if (fun hn3 => ?_) (fun hn3 => ?_)
  · refine go ?_
    exact ret1 (no (fun h => by have := h.lenc; omega) he1)
  refine go ?_
  refine r_for p.n (fun k ρ w' => Has ρ [(1, .pointer (some ⟨b, 0, none⟩)), (3, .int .i64 p.n), (4, .int .i64 ((p.ord.take k).foldl (· * ·) 1)), (30, vo), (31, .int .i64 p.n), (32, .int .i64 k)] ∧ Ext w1 w' ∧
    (p.ord.take k).foldl (· * ·) 1 ≤ 729 ∧ ∀ i, i < k → p.ord.getD i 0 = 2 ∨ p.ord.getD i 0 = 3 ∨ p.ord.getD i 0 = 5 ∨ p.ord.getD i 0 = 7) ?_ ?_
  · refine ⟨?_, Ext.refl _, by simp, fun i hi => by omega⟩
    exact hasP
  rintro k ρ w2 hk ⟨hH, he2, hpr, hpre⟩
  refine rwp_has hH fun ρ0 => ?_
  refine go ?_
  refine c_if (fun hk1 => ?_) (fun hk1 => ?_)
  · have hkn : k < p.n := by omega
    have hps : (p.ord.take (k + 1)).foldl (· * ·) 1 = (p.ord.take k).foldl (· * ·) 1 * p.ord.getD k 0 := foldl_take_succ _ _ _ _ _ hkn
    refine go ?_
    refine rc IsGroupPrime_ok (next := fun v3 w3 h3 => ?_)
    obtain ⟨b3, rfl, hb3, he3⟩ := h3
    refine go ?_
    refine sp (fun h4 => ?_) (fun h4 => ?_)
    · refine go ?_
      refine ret1 (no (fun h => ?_) ((he1.trans he2).trans he3))
      have := hb3.2 (h.prime k (by omega))
      rw [this] at h4; cases h4
    · have h5 := hb3.1 (by simpa using h4)
      have hone : 1 ≤ (p.ord.take k).foldl (· * ·) 1 := by
        refine foldl_mono _ 1 (fun o ho => ?_) (by omega)
        obtain ⟨i, hi, rfl⟩ := List.getElem_of_mem ho
        rw [List.length_take] at hi
        have := hpre i (by omega)
        simp only [List.getElem_take]
        have e : p.ord.getD i 0 = p.ord[i] := by simp [show i < p.ord.length by omega]
        rw [e] at this; omega
      have hm1 : 0 ≤ (p.ord.take k).foldl (· * ·) 1 * p.ord.getD k 0 := Int.mul_nonneg (by omega) (by omega)
      have hm2 : (p.ord.take k).foldl (· * ·) 1 * p.ord.getD k 0 ≤ 729 * 7 := Int.mul_le_mul hpr (by omega) (by omega) (by omega)
      have hmr : -9223372036854775808 ≤ (p.ord.take k).foldl (· * ·) 1 * p.ord.getD k 0 ∧ (p.ord.take k).foldl (· * ·) 1 * p.ord.getD k 0 ≤ 9223372036854775807 := by omega
      refine go ?_
      refine ra (h := rd_mul (by ((try simp only [ev_tmp, ev_const, ev_func, get_put, get_args, get_putL, get_putL_nil, Nat.reduceEqDiff, reduceIte, List.getD_cons_zero, List.getD_cons_succ, List.getD_nil]); first | done | with_reducible rfl)) (by ((try simp only [ev_tmp, ev_const, ev_func, get_put, get_args, get_putL, get_putL_nil, Nat.reduceEqDiff, reduceIte, List.getD_cons_zero, List.getD_cons_succ, List.getD_nil]); first | done | with_reducible rfl)) hmr) (next := ?_)
      refine go ?_
      refine c_if (fun h6 => ?_) (fun h6 => ?_)
      · refine go ?_
        refine ret1 (no (fun h => ?_) ((he1.trans he2).trans he3))
        have := (prod_take (k := k + 1) (fun o ho => (primes_bd h.prime o ho).1)).2
        have h8 := h.prod
        rw [hps] at this
        omega
      · refine go ?_
        refine ra (h := rd_mul (by ((try simp only [ev_tmp, ev_const, ev_func, get_put, get_args, get_putL, get_putL_nil, Nat.reduceEqDiff, reduceIte, List.getD_cons_zero, List.getD_cons_succ, List.getD_nil]); first | done | with_reducible rfl)) (by ((try simp only [ev_tmp, ev_const, ev_func, get_put, get_args, get_putL, get_putL_nil, Nat.reduceEqDiff, reduceIte, List.getD_cons_zero, List.getD_cons_succ, List.getD_nil]); first | done | with_reducible rfl)) hmr) (next := ?_)
        refine go ?_
        refine forQ_normal (by omega) ⟨?_, he2.trans he3, by rw [hps]; omega, fun i hi => ?_⟩
        · rw [hps]; exact hasP
        · by_cases e : i = k
          · subst e; exact h5
          · exact hpre i (by omega)
  · have hkn : k = p.n := by omega
    subst hkn
    have hprod : p.ord.foldl (· * ·) 1 ≤ 729 := by
      rw [← hol, List.take_length] at hpr; exact hpr
    have hbd : ∀ i, i < p.n → 2 ≤ p.o i ∧ p.o i ≤ 7 := fun i hi => by have := hpre i hi; unfold Pr.o; omega
    refine go ?_
    refine r_for p.n (fun k ρ w' => Has ρ [(1, .pointer (some ⟨b, 0, none⟩)), (3, .int .i64 p.n), (49, .int .i64 p.n), (50, .int .i64 k)] ∧ Ext w1 w' ∧ ∀ q, q < k → RowOk p q) ?_ ?_
    · refine ⟨?_, he2, fun i hi => by omega⟩
      exact hasP
    clear he2
    rintro k ρ w4 hk ⟨hH, he4, hrow⟩
    refine rwp_has hH fun ρ1 => ?_
    refine go ?_
    refine c_if (fun hk2 => ?_) (fun hk2 => ?_)
    · have hkn : k < p.n := by omega
      refine go ?_
      refine rc (tailVector_ok (p := p) (xs := p.pow.getD k []) rfl hkn hbd (by omega)) (next := fun v6 w6 h6 => ?_)
      obtain ⟨b6, rfl, hb6, he6⟩ := h6
      refine go ?_
      refine sp (fun h7 => ?_) (fun h7 => ?_)
      · refine go ?_
        refine ret1 (no (fun h => ?_) ((he1.trans he4).trans he6))
        have := hb6.2 ⟨h.w_in k hkn, h.w_zu k hkn⟩
        rw [this] at h7; cases h7
      · have h8 := exp_iff.2 (hb6.1 (by simpa using h7))
        refine go ?_
        refine c_if (fun h9 => ?_) (fun h9 => ?_)
        · refine go ?_
          refine ret1 (no (fun h => ?_) ((he1.trans he4).trans he6))
          have := ((valid_iff.1 h).2.2.2.2.2 k (by omega)).2.1
          omega
        · refine go ?_
          refine r_for (p.cnj.getD k []).length (fun m ρ w' => Has ρ [(1, .pointer (some ⟨b, 0, none⟩)), (3, .int .i64 p.n), (49, .int .i64 p.n), (50, .int .i64 k), (7, .int .i64 k), (78, Pc.rowAt vc cs k), (79, .int .i64 (p.cnj.getD k []).length), (80, .int .i64 m)] ∧ Ext w1 w' ∧ ∀ j, j < m → ExpP p.ord ((p.cnj.getD k []).getD j []) k) ?_ ?_
          · refine ⟨?_, he4.trans he6, fun i hi => by omega⟩
            exact hasP
          clear he4 he6
          rintro m ρ w7 hm ⟨hH, he7, hin⟩
          refine rwp_has hH fun ρ2 => ?_
          refine go ?_
          refine c_if (fun hm2 => ?_) (fun hm2 => ?_)
          · refine go ?_
            refine rc (tailVector_ok (p := p) (xs := (p.cnj.getD k []).getD m []) rfl hkn hbd (by omega)) (next := fun v9 w9 h9 => ?_)
            obtain ⟨b9, rfl, hb9, he9⟩ := h9
            refine go ?_
            refine c_b (fun h10 => ?_) (fun h10 => ?_)
            · refine go ?_
              refine ret1 (no (fun h => ?_) ((he1.trans he7).trans he9))
              have := hb9.2 (exp_iff.1 (((valid_iff.1 h).2.2.2.2.2 k (by omega)).2.2 m (by omega)))
              rw [this] at h10; cases h10
            · have h11 := exp_iff.2 (hb9.1 (by simpa using h10))
              refine go ?_
              refine forQ_normal (by omega) ⟨?_, he7.trans he9, fun j hj => ?_⟩
              · exact hasP
              · by_cases e : j = m
                · subst e; exact h11
                · exact hin j (by omega)
          · refine go ?_
            refine forQ_normal (by omega) ⟨?_, he7, fun q hq => ?_⟩
            · exact hasP
            · by_cases e : q = k
              · subst e
                exact ⟨h8, by omega, fun j hj => hin j (by omega)⟩
              · exact hrow q (by omega)
    · refine go ?_
      refine ret1 ⟨_, rfl, ?_, he1.trans he4⟩
      simp only [true_iff]
      exact valid_iff.2 ⟨by omega, by omega, by omega, hpre, hprod, fun q hq => hrow q (by omega)⟩
end Go.Proofs.YtogbnkombnfknaaGreat
