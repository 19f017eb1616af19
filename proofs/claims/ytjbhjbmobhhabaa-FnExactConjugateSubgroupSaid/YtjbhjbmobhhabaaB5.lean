/-
  Texts of one proof, put together by program: Ans3, W15, W16b, W17, I13, I16, I17, Ans4, W18, I15, I18.
  Conditions: those told at each part.
-/
import Derived.Test.YtjbhjbmobhhabaaB4
set_option linter.unusedVariables false
set_option linter.unusedSimpArgs false
set_option linter.unusedSectionVars false
set_option linter.constructorNameAsVariable false
set_option linter.unnecessarySimpa false
set_option linter.deprecated false
/-
  Answers: generated subgroups, conjugate subgroups, normality, indices, depths.
  Conditions: none.
-/
namespace Go.Proofs.Ytjbhjbmobhhabaa
open Go Go.Pc
/-- The list is the canonical sequence of a subgroup told by elements. -/
theorem canon_sz {p : Pr} [ConAll p] (H : El p → Prop) (h6 : p.n ≤ 6) : (canon H).length ≤ 2000000 ∧ ∀ i, ((canon H).getD i []).length ≤ 2000000 := by
  have hcl := canTo_len H p.n
  rw [canTo_end] at hcl
  exact ⟨by omega, fun i => by have := canon_row H i; omega⟩
def GrpL (p : Pr) (xss : List (List Int)) : Prop := IsGrp p ∧ ∀ i, i < xss.length → InR p (xss.getD i [])
def GenV (p : Pr) (xss r : List (List Int)) (e : Int) : Prop := (24 < xss.length ∧ r = [] ∧ e = 3) ∨ (xss.length ≤ 24 ∧ (∃ (_ : ConAll p) (ys : List (El p)), xss = vecs ys ∧ r = canon (Gen (fun a : El p => a ∈ ys))) ∧ e = 0)
theorem GenV.uniq {p : Pr} {xss : List (List Int)} (a b : List (List Int)) (c d : Int) (h : GenV p xss a c) (k : GenV p xss b d) : a = b ∧ c = d := by
  rcases h with ⟨h1, h2, h3⟩ | ⟨h1, ⟨hc, ys, h2, h3⟩, h4⟩ <;> rcases k with ⟨k1, k2, k3⟩ | ⟨k1, ⟨hc', ys', k2, k3⟩, k4⟩
  · exact ⟨by rw [h2, k2], by rw [h3, k3]⟩
  · omega
  · omega
  · obtain rfl := vecs_inj (h2.symm.trans k2)
    exact ⟨by rw [h3, k3], by rw [h4, k4]⟩
theorem GeneratedSubgroup_sz0 {p : Pr} {xss r : List (List Int)} {e : Int} (_ : p.ord.length ≤ 2000000) (_ : xss.length ≤ 2000000) (h : Ans (GrpL p xss) (GenV p xss) [] r e) : r.length ≤ 2000000 ∧ ∀ i, (r.getD i []).length ≤ 2000000 := by
  rcases h with ⟨⟨hG, _⟩, h⟩ | ⟨_, rfl, _⟩
  · rcases h with ⟨_, rfl, _⟩ | ⟨_, ⟨hc, ys, _, rfl⟩, _⟩
    · simp
    · exact canon_sz _ hG.valid.n6
  · simp
def ConjV (p : Pr) (xss : List (List Int)) (xs : List Int) (r : List (List Int)) (e : Int) : Prop := (∃ (_ : ConAll p) (ys : List (El p)) (x : El p), xss = vecs ys ∧ xs = x.v ∧ r = canon (Gen (fun a : El p => a ∈ ys.map (Grp.cj · x)))) ∧ e = 0
theorem ConjV.uniq {p : Pr} {xss : List (List Int)} {xs : List Int} (a b : List (List Int)) (c d : Int) (h : ConjV p xss xs a c) (k : ConjV p xss xs b d) : a = b ∧ c = d := by
  obtain ⟨⟨hc, ys, x, h2, h3, h4⟩, h5⟩ := h
  obtain ⟨⟨hc', ys', x', k2, k3, k4⟩, k5⟩ := k
  obtain rfl := vecs_inj (h2.symm.trans k2)
  obtain rfl : x = x' := T.ext (h3.symm.trans k3)
  exact ⟨by rw [h4, k4], by rw [h5, k5]⟩
theorem ConjugateSubgroup_sz0 {p : Pr} {xss : List (List Int)} {xs : List Int} {r : List (List Int)} {e : Int} (_ : p.ord.length ≤ 2000000) (h : Ans (IsSubP p xss ∧ InR p xs) (ConjV p xss xs) [] r e) : r.length ≤ 2000000 ∧ ∀ i, (r.getD i []).length ≤ 2000000 := by
  rcases h with ⟨⟨⟨hG, _⟩, _⟩, ⟨hc, ys, x, _, _, rfl⟩, _⟩ | ⟨_, rfl, _⟩
  · exact canon_sz _ hG.valid.n6
  · simp
/-- The subgroup is normal. -/
def NormP (p : Pr) (xss : List (List Int)) : Prop := ∃ (_ : ConAll p) (ys : List (El p)), xss = vecs ys ∧ ∀ y, y ∈ ys → ∀ g, g ∈ gensL p → Gen (fun a : El p => a ∈ ys) (Grp.cj y g)
theorem normP_iff {p : Pr} [hc : ConAll p] {ys : List (El p)} : NormP p (vecs ys) ↔ ∀ y, y ∈ ys → ∀ g, g ∈ gensL p → Gen (fun a : El p => a ∈ ys) (Grp.cj y g) := by
  constructor
  · rintro ⟨_, ys', h1, h2⟩
    obtain rfl := vecs_inj h1
    exact h2
  · exact fun h => ⟨hc, ys, rfl, h⟩
def NormV (p : Pr) (xss : List (List Int)) (b : Bool) (e : Int) : Prop := (b = true ↔ NormP p xss) ∧ e = 0
theorem NormV.uniq {p : Pr} {xss : List (List Int)} (a b : Bool) (c d : Int) (h : NormV p xss a c) (k : NormV p xss b d) : a = b ∧ c = d := ⟨bool_eq h.1 k.1, by rw [h.2, k.2]⟩
theorem normal_len {p : Pr} [hc : ConAll p] {ys : List (El p)} (hs : SeqEl ys) : (canon (Clo (fun a : El p => a ∈ ys) (fun a : El p => a ∈ gensL p))).length = ys.length ↔ ∀ y, y ∈ ys → ∀ g, g ∈ gensL p → Gen (fun a : El p => a ∈ ys) (Grp.cj y g) := by
  have hSY := Gen.sub (fun a : El p => a ∈ ys)
  have hSC := Clo.sub (fun a : El p => a ∈ ys) (fun a : El p => a ∈ gensL p)
  have e : (canon (Clo (fun a : El p => a ∈ ys) (fun a : El p => a ∈ gensL p))).length = (canEls (Clo (fun a : El p => a ∈ ys) (fun a : El p => a ∈ gensL p))).length := by rw [canon_vecs]; simp
  rw [e]
  constructor
  · intro h y hy g hg
    exact same_of_len hSY hSC (Gen.le hSC fun a ha => .of a ha) (by rw [hs.els]; omega) _ (.cj _ _ (.of _ hy) hg)
  · intro h
    rw [gen_eq_clo fun a b ha hb => h a ha b hb, hs.els]
/-- The index of a subgroup. -/
def IdxV (p : Pr) (xss yss : List (List Int)) (k e : Int) : Prop := ((∀ x, x ∈ yss → MemP p xss x) ∧ k = ordOfL p xss / ordOfL p yss ∧ e = 0) ∨ (¬ (∀ x, x ∈ yss → MemP p xss x) ∧ k = 0 ∧ e = 5)
theorem IdxV.uniq {p : Pr} {xss yss : List (List Int)} (a b c d : Int) (h : IdxV p xss yss a c) (k : IdxV p xss yss b d) : a = b ∧ c = d := by
  rcases h with ⟨h1, h2, h3⟩ | ⟨h1, h2, h3⟩ <;> rcases k with ⟨k1, k2, k3⟩ | ⟨k1, k2, k3⟩
  · exact ⟨by rw [h2, k2], by rw [h3, k3]⟩
  · exact absurd h1 k1
  · exact absurd k1 h1
  · exact ⟨by rw [h2, k2], by rw [h3, k3]⟩
def DepV (xss : List (List Int)) (r : List Int) (e : Int) : Prop := r = xss.map (fun x => (lead x : Int)) ∧ e = 0
theorem DepV.uniq {xss : List (List Int)} (a b : List Int) (c d : Int) (h : DepV xss a c) (k : DepV xss b d) : a = b ∧ c = d := ⟨by rw [h.1, k.1], by rw [h.2, k.2]⟩
theorem SubgroupDepths_sz0 {p : Pr} {xss : List (List Int)} {r : List Int} {e : Int} (hl : p.ord.length ≤ 2000000) (h : Ans (IsSubP p xss) (DepV xss) [] r e) : r.length ≤ 2000000 := by
  rcases h with ⟨⟨hG, hq⟩, rfl, _⟩ | ⟨_, rfl, _⟩
  · haveI : ConAll p := ⟨hG.con⟩
    have h1 := hq.len
    have h2 := hG.valid.n6
    simp; omega
  · simp
end Go.Proofs.Ytjbhjbmobhhabaa

/-
  Walks: the reference's CosetRepresentative.
  Conditions: what the arguments read as.
-/
namespace Go.Proofs.Ytjbhjbmobhhabaa
open Go Go.Pc
set_option maxHeartbeats 1000000 in
theorem spec_CosetRepresentative_ok {p : Pr} {w : World} {vp vu vx : Value} {us : List Value} {xss : List (List Int)} {xs : List Int} {lo hi lo1 hi1 lo2 hi2 : Nat} [hp : Pres lo hi w vp p] [hu : Pc.Rows lo1 hi1 w vu us xss] [hx : Ints lo2 hi2 w vx xs] (hl : p.ord.length ≤ 2000000) :
    Calls Try.prog 41 #[vp, vu, vx] w (Ret fun v w' => ∃ (u : Value) (k : List Int) (e : Int), v = .tuple #[u, .int .i64 e] ∧ Ans (IsSubP p xss ∧ InR p xs) (RepV p xss xs) [] k e ∧ Ext w w' ∧ Ints w.heap.size w'.heap.size w' u k) := by
  obtain ⟨vo, vpw, vc, ps, cs, css, rfl, h1, h2, h3⟩ := hp.ex
  refine enter (args := [.agg #[vo, vpw, vc], vu, vx]) (l := [.tmp 6, .tmp 7]) Try.func41 rfl rfl Try.ntmps41 (by simp) ?_
  refine go ?_
  refine st_box3 (by ((try simp only [ev_tmp, ev_const, ev_func, get_put, get_args, get_putL, get_putL_nil, Nat.reduceEqDiff, reduceIte, List.getD_cons_zero, List.getD_cons_succ, List.getD_nil]); first | done | with_reducible rfl)) (by first | exact True.intro | exact ⟨_, rfl, by ((try simp only [ev_tmp, ev_const, ev_func, get_put, get_args, get_putL, get_putL_nil, Nat.reduceEqDiff, reduceIte, List.getD_cons_zero, List.getD_cons_succ, List.getD_nil, Bool.not_true, Bool.not_false]); first | done | with_reducible rfl)⟩) fun w1 b he1 hb1 hs1 hc0 hc1 hc2 => ?_
  refine go ?_
  refine rc (spec_IsSubgroup_ok (p := p) (xss := xss) hl) (next := fun v5 w5 h5 => ?_)
  obtain ⟨b5, rfl, hb5, he5⟩ := h5
  have hE5 := he1.trans he5
  refine go ?_
  refine sp (fun e5 => ?_) (fun e5 => ?_)
  · refine go ?_
    refine ret2 ⟨nilv, [], 1, rfl, .inr ⟨fun h => ?_, rfl, rfl⟩, hE5, Ints.nilR _ _ _⟩
    rw [hb5.2 h.1] at e5; cases e5
  have hS := hb5.1 (by simpa using e5)
  obtain ⟨hG, hq⟩ := hS
  haveI : ConAll p := ⟨hG.con⟩
  have hv := hG.valid
  have hn6 := hv.n6
  obtain ⟨ys, hys, hse⟩ := isSeq_iff.1 hq
  have hyl := hse.len
  refine go ?_
  refine rc (l10Element_ok (p := p) (xs := xs) hG.valid) (next := fun v6 w6 h6 => ?_)
  obtain ⟨b6, rfl, hb6, he6⟩ := h6
  have hE6 := hE5.trans he6
  refine go ?_
  refine c_b (fun e6 => ?_) (fun e6 => ?_)
  · refine go ?_
    refine ret2 ⟨nilv, [], 1, rfl, .inr ⟨fun h => ?_, rfl, rfl⟩, hE6, Ints.nilR _ _ _⟩
    rw [hb6.2 h.2] at e6; cases e6
  have hI := hb6.1 (by simpa using e6)
  obtain ⟨x, hx6⟩ : ∃ x : El p, xs = x.v := ⟨⟨xs, hI, fun i hi => absurd hi (Nat.not_lt_zero i)⟩, rfl⟩
  refine go ?_
  refine rc (l12Sift_ok (p := p) (x := x) hse.ok hys hx6) (next := fun v7 w7 h7 => ?_)
  obtain ⟨he7, r, hf7, hr⟩ := h7
  refine go ?_
  exact ret2 ⟨v7, r.v, 0, rfl, .inl ⟨⟨⟨hG, hq⟩, hI⟩, ⟨_, ys, x, r, hys, hx6, rfl, hr⟩, rfl⟩, hE6.trans he7, (hf7.mono hE6.size).ints⟩
end Go.Proofs.Ytjbhjbmobhhabaa

/-
  Walks: the reference's closure under conjugation, its test of normality (l13Stable, l13Normal).
  Conditions: the tails at all levels are groups; the lists are those told.
-/
namespace Go.Proofs.Ytjbhjbmobhhabaa
open Go Go.Pc
/-- One round: the elements, and their conjugates. -/
structure Rnd {p : Pr} [ConAll p] (os bs ls : List (El p)) (i j : Nat) : Prop where
  mem : ∀ a, a ∈ ls → a ∈ os ∨ ∃ o, o ∈ os ∧ ∃ b, b ∈ bs ∧ a = Grp.cj o b
  old : ∀ o, o ∈ os → o ∈ ls
  rows : ∀ i' (h : i' < bs.length), i' < i → ∀ o, o ∈ os → Grp.cj o bs[i'] ∈ ls
  part : ∀ (h : i < bs.length) j' (h' : j' < os.length), j' < j → Grp.cj os[j'] bs[i] ∈ ls
  len : ls.length ≤ 6 + i * 6 + j
theorem Rnd.step {p : Pr} [ConAll p] {os bs ls : List (El p)} {i j : Nat} (h : Rnd os bs ls i j) (hi : i < bs.length) (hj : j < os.length) : Rnd os bs (ls ++ [Grp.cj os[j] bs[i]]) i (j + 1) where
  mem a ha := by
    rcases List.mem_append.1 ha with ha | ha
    · exact h.mem a ha
    · exact .inr ⟨_, List.getElem_mem hj, _, List.getElem_mem hi, List.mem_singleton.1 ha⟩
  old o ho := List.mem_append_left _ (h.old o ho)
  rows i' h1 h2 o ho := List.mem_append_left _ (h.rows i' h1 h2 o ho)
  part h1 j' h2 h3 := by
    by_cases e : j' = j
    · subst e; simp
    · exact List.mem_append_left _ (h.part h1 j' h2 (by omega))
  len := by have := h.len; simp only [List.length_append, List.length_singleton]; omega
theorem Rnd.next {p : Pr} [ConAll p] {os bs ls : List (El p)} {i : Nat} (h : Rnd os bs ls i os.length) (hi : i < bs.length) (h6 : os.length ≤ 6) : Rnd os bs ls (i + 1) 0 where
  mem := h.mem
  old := h.old
  rows i' h1 h2 o ho := by
    by_cases e : i' = i
    · subst e
      obtain ⟨j, hj, rfl⟩ := List.getElem_of_mem ho
      exact h.part h1 j hj hj
    · exact h.rows i' h1 (by omega) o ho
  part h1 j' h2 h3 := absurd h3 (Nat.not_lt_zero _)
  len := by have := h.len; omega
theorem vecs_append {p : Pr} (l m : List (El p)) : vecs (l ++ m) = vecs l ++ vecs m := by simp [vecs]
theorem gen_le_gen {p : Pr} [ConAll p] {l m : List (El p)} (h : ∀ a, a ∈ l → Gen (fun a : El p => a ∈ m) a) : ∀ a, Gen (fun a : El p => a ∈ l) a → Gen (fun a : El p => a ∈ m) a := Gen.le (Gen.sub _) h
set_option maxHeartbeats 2000000 in
theorem l13Stable_ok {p : Pr} [hc : ConAll p] {ys bs : List (El p)} (hs : SeqEl ys) (hbl : bs.length ≤ 1000) {w : World} {vp vu vb : Value} {us ub : List Value} {xss yss : List (List Int)} {lo hi lo1 hi1 lo2 hi2 : Nat} [hp : Pres lo hi w vp p] [hu : Pc.Rows lo1 hi1 w vu us xss] [hb : Pc.Rows lo2 hi2 w vb ub yss] (hus : xss = vecs ys) (hbs : yss = vecs bs) :
    Calls Try.prog 96 #[vp, vu, vb] w (Ret fun v w' => Ext w w' ∧ ∃ us', Pc.Rows w.heap.size w'.heap.size w' v us' (canon (Clo (fun a : El p => a ∈ ys) (fun a : El p => a ∈ bs)))) := by
  subst hus hbs
  have hv := hc.valid
  have hn6 := hv.n6
  have hbvl : (vecs bs).length = bs.length := by simp
  replace hp := hp.wide
  replace hu := hu.wide
  replace hb := hb.wide
  obtain ⟨vo, vpw, vc, ps, cs, css, rfl, h1, h2, h3⟩ := hp.ex
  refine enter (args := [.agg #[vo, vpw, vc], vu, vb]) (l := [.tmp 6]) Try.func96 rfl rfl Try.ntmps96 (by simp) ?_
  refine go ?_
  refine st_box3 (by ((try simp only [ev_tmp, ev_const, ev_func, get_put, get_args, get_putL, get_putL_nil, Nat.reduceEqDiff, reduceIte, List.getD_cons_zero, List.getD_cons_succ, List.getD_nil]); first | done | with_reducible rfl)) (by first | exact True.intro | exact ⟨_, rfl, by ((try simp only [ev_tmp, ev_const, ev_func, get_put, get_args, get_putL, get_putL_nil, Nat.reduceEqDiff, reduceIte, List.getD_cons_zero, List.getD_cons_succ, List.getD_nil, Bool.not_true, Bool.not_false]); first | done | with_reducible rfl)⟩) fun w1 b he1 hb1 hs1 hc0 hc1 hc2 => ?_
  have hz1 := he1.size
  have hu1 : Pc.Rows 0 w1.heap.size w1 vu us (vecs ys) := Pc.Rows.wide inferInstance
  refine go ?_
  refine r_loop (fun m ρ w' => ∃ vo' uo os, Has ρ [(2, vb), (3, .pointer (some ⟨b, 0, none⟩)), (7, vo')] ∧ Ext w1 w' ∧ Pc.Rows 0 w'.heap.size w' vo' uo (vecs os) ∧ SeqEl os ∧ (∀ y, y ∈ ys → Gen (fun a : El p => a ∈ os) y) ∧ (∀ o, o ∈ os → Clo (fun a : El p => a ∈ ys) (fun a : El p => a ∈ bs) o) ∧ m = p.n - os.length) (p.n - ys.length) ?_ ?_
  · refine ⟨vu, us, ys, ?_, Ext.refl _, hu1, hs, fun y hy => .of y hy, fun y hy => .of y hy, rfl⟩
    exact hasP
  clear hu1
  rintro m ρ w2 ⟨vo', uo, os, hH, he2, hR2, hso, hyo, hoc, hm⟩
  refine rwp_has hH fun ρ0 => ?_
  have hz2 := he2.size
  have hol := hso.len
  have hovl : (vecs os).length = os.length := by simp
  have hE2 := he1.trans he2
  refine go ?_
  refine rc (l01Own2G_ok (xss := vecs os) (fun i => ?_) ?_) (next := fun v3 w3 h4 => ?_)
  · have := vecs_len os i; omega
  · omega
  obtain ⟨he3, rs3, hG3, hrs3⟩ := h4
  refine go ?_
  refine r_for bs.length (fun i ρ w' => ∃ vl rs ls, Has ρ [(2, vb), (3, .pointer (some ⟨b, 0, none⟩)), (7, vo'), (8, vl), (9, .int .i64 i)] ∧ Ext w2 w' ∧ GrowL 22 w2.heap.size w' vl rs ∧ rs.map (·.2) = vecs ls ∧ Rnd os bs ls i 0) ?_ ?_
  · refine ⟨v3, rs3, os, ?_, he3, hG3, hrs3, ⟨fun a ha => .inl ha, fun o ho => ho, fun i' _ h => absurd h (Nat.not_lt_zero _), fun _ j' _ h => absurd h (Nat.not_lt_zero _), by omega⟩⟩
    exact hasP
  clear hG3 hrs3 he3
  rintro i ρ w4 hi ⟨vl, rs, ls, hH4, he4, hG4, hrs4, hK4⟩
  refine rwp_has hH4 fun ρ1 => ?_
  have hz4 := he4.size
  refine go ?_
  refine c_if (fun h4 => ?_) (fun h4 => ?_)
  · have hin : i < bs.length := by omega
    refine go ?_
    refine r_for os.length (fun j ρ w' => ∃ vl rs ls, Has ρ [(2, vb), (3, .pointer (some ⟨b, 0, none⟩)), (7, vo'), (8, vl), (9, .int .i64 i), (10, .int .i64 j)] ∧ Ext w2 w' ∧ GrowL 22 w2.heap.size w' vl rs ∧ rs.map (·.2) = vecs ls ∧ Rnd os bs ls i j) ?_ ?_
    · refine ⟨vl, rs, ls, ?_, he4, hG4, hrs4, hK4⟩
      exact hasP
    clear hG4 hrs4 he4 hK4
    rintro j ρ w5 hj ⟨vl, rs, ls, hH5, he5, hG5, hrs5, hK5⟩
    refine rwp_has hH5 fun ρ2 => ?_
    have hz5 := he5.size
    have hrl : rs.length = ls.length := by have := congrArg List.length hrs5; simpa using this
    have hll := hK5.len
    refine go ?_
    refine c_if (fun h5 => ?_) (fun h5 => ?_)
    · have hjn : j < os.length := by omega
      have hg1 := vecs_getD os hjn
      have hg2 := vecs_getD bs hin
      have hE5 := hE2.trans he5
      obtain ⟨b', hb', hvb'⟩ := own_some' vl w2.heap.size w5.heap.size (by omega) (fun g h => (hG5.lst.lt h).1)
      have ap1 : Apart 0 w.heap.size b' := ⟨.inr (by omega)⟩
      have ap2 : Apart b (b + 1) b' := ⟨.inr (by omega)⟩
      have ap3 : Apart 0 w2.heap.size b' := ⟨.inr (by omega)⟩
      refine go ?_
      refine z_order b' (List.range 14) (h := fun w6 he6 _ => ?_)
      refine zgo ?_
      refine zc (l10Conj_ok (p := p) (x := os[j]) (y := bs[i]) hg1 hg2) (next := fun v7 w7 h7 => ?_)
      obtain ⟨he7, hf7⟩ := h7
      refine z_grow (hG5.ext he6) he7 hf7 (by have := he6.size; omega) (by omega) hvb' (next := fun v8 v9 w9 hG9 hx9 hz9 hgs9 => ?_)
      refine zgo ?_
      refine z_end ?_
      refine go ?_
      refine forQ_normal (by omega) ⟨v9, _, ls ++ [Grp.cj os[j] bs[i]], ?_, hx9 w2 ((he5.trans he6).trans he7) (Nat.le_refl _), hG9, ?_, hK5.step hin hjn⟩
      · exact hasP
      · rw [vecs_append, List.map_append, hrs5]; rfl
    · obtain rfl : j = os.length := by omega
      refine go ?_
      refine forQ_normal (by omega) ⟨vl, rs, ls, ?_, he5, hG5, hrs5, hK5.next hin (by omega)⟩
      exact hasP
  · obtain rfl : i = bs.length := by omega
    have hR4 := hG4.rows
    have hll := hK4.len
    have hE4 := hE2.trans he4
    refine go ?_
    refine rc (l12Close_ok (p := p) (ys := ls) hrs4 ?_) (next := fun v5 w5 h5 => ?_)
    · omega
    obtain ⟨he5, us5, hL5⟩ := h5
    have hN5 := hL5.newRows
    have hE5 := hE4.trans he5
    have hz5 := he5.size
    have hSL := Gen.sub (fun a : El p => a ∈ ls)
    have hSO := Gen.sub (fun a : El p => a ∈ os)
    have hSC := Clo.sub (fun a : El p => a ∈ ys) (fun a : El p => a ∈ bs)
    have hOL : ∀ a, Gen (fun a : El p => a ∈ os) a → Gen (fun a : El p => a ∈ ls) a := gen_le_gen fun a ha => .of a (hK4.old a ha)
    have hLC : ∀ a, Gen (fun a : El p => a ∈ ls) a → Clo (fun a : El p => a ∈ ys) (fun a : El p => a ∈ bs) a := Gen.le hSC fun a ha => by
      rcases hK4.mem a ha with h | ⟨o, ho, b, hb, rfl⟩
      · exact hoc a h
      · exact .cj _ _ (hoc o ho) hb
    have hcl : (canon (Gen (fun a : El p => a ∈ ls))).length = (canEls (Gen (fun a : El p => a ∈ ls))).length := by rw [canon_vecs]; simp
    have hle := can_len_le hSO hSL hOL
    rw [hso.els] at hle
    have hln := (seqEl_can hSL).len
    refine go ?_
    refine c_if (fun h6 => ?_) (fun h6 => ?_)
    · have hlen : (canEls (Gen (fun a : El p => a ∈ ls))).length ≤ os.length := by omega
      have hsame := same_of_len hSO hSL hOL (by rw [hso.els]; exact hlen)
      have hCO : ∀ a, Clo (fun a : El p => a ∈ ys) (fun a : El p => a ∈ bs) a → Gen (fun a : El p => a ∈ os) a :=
        Clo.le hSO (fun y hy => hyo y hy) fun a b ha hb => Gen.cj_closed hSO (fun o ho => hsame _ (.of _ (by
          obtain ⟨i', hi', rfl⟩ := List.getElem_of_mem hb
          exact hK4.rows i' hi' hi' o ho))) a ha
      have hfun : Gen (fun a : El p => a ∈ ls) = Clo (fun a : El p => a ∈ ys) (fun a : El p => a ∈ bs) := by
        funext a; exact propext ⟨hLC a, fun h => hOL a (hCO a h)⟩
      refine go ?_
      refine ret1 ⟨hE5, us5, ?_⟩
      rw [← hfun]
      exact hN5.mono (by omega) (Nat.le_refl _)
    · refine go ?_
      have hR5 := hN5.mono (Nat.zero_le _) (Nat.le_refl _)
      refine loopQ_normal ?_ ⟨v5, us5, canEls (Gen (fun a : El p => a ∈ ls)), ?_, (he2.trans he4).trans he5, ?_, seqEl_can hSL, fun y hy => ?_, fun o ho => ?_, rfl⟩
      · omega
      · exact hasP
      · rw [← canon_vecs]; exact hR5
      · rw [gen_can_eq hSL]; exact hOL y (hyo y hy)
      · obtain ⟨d, _, h7⟩ := canEls_mem.1 ho
        exact hLC _ (canT_some h7).mem
end Go.Proofs.Ytjbhjbmobhhabaa

/-
  Walks: the reference's GeneratedSubgroup, ConjugateSubgroup, IsNormalSubgroup, SubgroupIndex, SubgroupDepths.
  Conditions: what the arguments read as.
-/
namespace Go.Proofs.Ytjbhjbmobhhabaa
open Go Go.Pc
theorem els_inR {p : Pr} {xss : List (List Int)} (h : ∀ i, i < xss.length → InR p (xss.getD i [])) : ∃ ys : List (El p), xss = vecs ys := els_of h
set_option maxHeartbeats 1000000 in
theorem spec_GeneratedSubgroup_ok {p : Pr} {w : World} {vp vu : Value} {us : List Value} {xss : List (List Int)} {lo hi lo1 hi1 : Nat} [hp : Pres lo hi w vp p] [hu : Pc.Rows lo1 hi1 w vu us xss] (hl : p.ord.length ≤ 2000000) (hxl : xss.length ≤ 2000000) :
    Calls Try.prog 47 #[vp, vu] w (Ret fun v w' => ∃ (u : Value) (k : List (List Int)) (e : Int), v = .tuple #[u, .int .i64 e] ∧ Ans (GrpL p xss) (GenV p xss) [] k e ∧ Ext w w' ∧ ∃ us', Pc.Rows w.heap.size w'.heap.size w' u us' k) := by
  obtain ⟨vo, vpw, vc, ps, cs, css, rfl, h1, h2, h3⟩ := hp.ex
  refine enter (args := [.agg #[vo, vpw, vc], vu]) (l := [.tmp 4, .tmp 5]) Try.func47 rfl rfl Try.ntmps47 (by simp) ?_
  refine go ?_
  refine st_box3 (by ((try simp only [ev_tmp, ev_const, ev_func, get_put, get_args, get_putL, get_putL_nil, Nat.reduceEqDiff, reduceIte, List.getD_cons_zero, List.getD_cons_succ, List.getD_nil]); first | done | with_reducible rfl)) (by first | exact True.intro | exact ⟨_, rfl, by ((try simp only [ev_tmp, ev_const, ev_func, get_put, get_args, get_putL, get_putL_nil, Nat.reduceEqDiff, reduceIte, List.getD_cons_zero, List.getD_cons_succ, List.getD_nil, Bool.not_true, Bool.not_false]); first | done | with_reducible rfl)⟩) fun w1 b he1 hb1 hs1 hc0 hc1 hc2 => ?_
  refine go ?_
  refine rc (l08Group_ok (p := p) hl) (next := fun v5 w5 h5 => ?_)
  obtain ⟨b5, rfl, hb5, he5⟩ := h5
  have hE5 := he1.trans he5
  refine go ?_
  refine sp (fun e5 => ?_) (fun e5 => ?_)
  · refine go ?_
    refine ret2 ⟨nilv, [], 1, rfl, .inr ⟨fun h => ?_, rfl, rfl⟩, hE5, [], Rows.nilR _ _ _⟩
    rw [hb5.2 h.1] at e5; cases e5
  have hG := hb5.1 (by simpa using e5)
  haveI : ConAll p := ⟨hG.con⟩
  refine go ?_
  refine rc (l10Elements_ok (p := p) (xss := xss) hG.valid (by omega)) (next := fun v6 w6 h6 => ?_)
  obtain ⟨b6, rfl, hb6, he6⟩ := h6
  have hE6 := hE5.trans he6
  refine go ?_
  refine c_b (fun e6 => ?_) (fun e6 => ?_)
  · refine go ?_
    refine ret2 ⟨nilv, [], 1, rfl, .inr ⟨fun h => ?_, rfl, rfl⟩, hE6, [], Rows.nilR _ _ _⟩
    rw [hb6.2 h.2] at e6; cases e6
  have hI := hb6.1 (by simpa using e6)
  obtain ⟨ys, hys⟩ := els_inR hI
  have hyl : ys.length = xss.length := by rw [hys]; simp
  refine go ?_
  refine c_if (fun h7 => ?_) (fun h7 => ?_)
  · refine go ?_
    exact ret2 ⟨nilv, [], 3, rfl, .inl ⟨⟨hG, hI⟩, .inl ⟨by omega, rfl, rfl⟩⟩, hE6, [], Rows.nilR _ _ _⟩
  refine go ?_
  refine rc (l12Close_ok (p := p) (ys := ys) hys (by omega)) (next := fun v8 w8 h8 => ?_)
  obtain ⟨he8, us8, hL8⟩ := h8
  refine go ?_
  exact ret2 ⟨v8, _, 0, rfl, .inl ⟨⟨hG, hI⟩, .inr ⟨by omega, ⟨inferInstance, ys, hys, rfl⟩, rfl⟩⟩, hE6.trans he8, us8, hL8.newRows.mono hE6.size (Nat.le_refl _)⟩
set_option maxHeartbeats 1000000 in
theorem spec_ConjugateSubgroup_ok {p : Pr} {w : World} {vp vu vx : Value} {us : List Value} {xss : List (List Int)} {xs : List Int} {lo hi lo1 hi1 lo2 hi2 : Nat} [hp : Pres lo hi w vp p] [hu : Pc.Rows lo1 hi1 w vu us xss] [hx : Ints lo2 hi2 w vx xs] (hl : p.ord.length ≤ 2000000) :
    Calls Try.prog 50 #[vp, vu, vx] w (Ret fun v w' => ∃ (u : Value) (k : List (List Int)) (e : Int), v = .tuple #[u, .int .i64 e] ∧ Ans (IsSubP p xss ∧ InR p xs) (ConjV p xss xs) [] k e ∧ Ext w w' ∧ ∃ us', Pc.Rows w.heap.size w'.heap.size w' u us' k) := by
  obtain ⟨vo, vpw, vc, ps, cs, css, rfl, h1, h2, h3⟩ := hp.ex
  refine enter (args := [.agg #[vo, vpw, vc], vu, vx]) (l := [.tmp 6, .tmp 7]) Try.func50 rfl rfl Try.ntmps50 (by simp) ?_
  refine go ?_
  refine st_box3 (by ((try simp only [ev_tmp, ev_const, ev_func, get_put, get_args, get_putL, get_putL_nil, Nat.reduceEqDiff, reduceIte, List.getD_cons_zero, List.getD_cons_succ, List.getD_nil]); first | done | with_reducible rfl)) (by first | exact True.intro | exact ⟨_, rfl, by ((try simp only [ev_tmp, ev_const, ev_func, get_put, get_args, get_putL, get_putL_nil, Nat.reduceEqDiff, reduceIte, List.getD_cons_zero, List.getD_cons_succ, List.getD_nil, Bool.not_true, Bool.not_false]); first | done | with_reducible rfl)⟩) fun w1 b he1 hb1 hs1 hc0 hc1 hc2 => ?_
  refine go ?_
  refine rc (spec_IsSubgroup_ok (p := p) (xss := xss) hl) (next := fun v5 w5 h5 => ?_)
  obtain ⟨b5, rfl, hb5, he5⟩ := h5
  have hE5 := he1.trans he5
  refine go ?_
  refine sp (fun e5 => ?_) (fun e5 => ?_)
  · refine go ?_
    refine ret2 ⟨nilv, [], 1, rfl, .inr ⟨fun h => ?_, rfl, rfl⟩, hE5, [], Rows.nilR _ _ _⟩
    rw [hb5.2 h.1] at e5; cases e5
  have hS := hb5.1 (by simpa using e5)
  obtain ⟨hG, hq⟩ := hS
  haveI : ConAll p := ⟨hG.con⟩
  have hv := hG.valid
  have hn6 := hv.n6
  obtain ⟨ys, hys, hse⟩ := isSeq_iff.1 hq
  have hyl := hse.len
  refine go ?_
  refine rc (l10Element_ok (p := p) (xs := xs) hG.valid) (next := fun v6 w6 h6 => ?_)
  obtain ⟨b6, rfl, hb6, he6⟩ := h6
  have hE6 := hE5.trans he6
  refine go ?_
  refine c_b (fun e6 => ?_) (fun e6 => ?_)
  · refine go ?_
    refine ret2 ⟨nilv, [], 1, rfl, .inr ⟨fun h => ?_, rfl, rfl⟩, hE6, [], Rows.nilR _ _ _⟩
    rw [hb6.2 h.2] at e6; cases e6
  have hI := hb6.1 (by simpa using e6)
  obtain ⟨x, hx6⟩ : ∃ x : El p, xs = x.v := ⟨⟨xs, hI, fun i hi => absurd hi (Nat.not_lt_zero i)⟩, rfl⟩
  refine go ?_
  refine rc (l13Conj_ok (p := p) (ys := ys) (x := x) (by omega) hys hx6) (next := fun v7 w7 h7 => ?_)
  obtain ⟨he7, us7, hR7⟩ := h7
  refine go ?_
  exact ret2 ⟨v7, _, 0, rfl, .inl ⟨⟨⟨hG, hq⟩, hI⟩, ⟨inferInstance, ys, x, hys, hx6, rfl⟩, rfl⟩, hE6.trans he7, us7, hR7.mono hE6.size (Nat.le_refl _)⟩
set_option maxHeartbeats 1000000 in
theorem l13Normal_ok {p : Pr} [hc : ConAll p] {ys : List (El p)} (hs : SeqEl ys) {w : World} {vp vu : Value} {us : List Value} {xss : List (List Int)} {lo hi lo1 hi1 : Nat} [hp : Pres lo hi w vp p] [hu : Pc.Rows lo1 hi1 w vu us xss] (hus : xss = vecs ys) :
    Calls Try.prog 67 #[vp, vu] w (Ret fun v w' => ∃ b, v = .bool b ∧ (b = true ↔ NormP p xss) ∧ Ext w w') := by
  have hn6 := hc.valid.n6
  obtain ⟨vo, vpw, vc, ps, cs, css, rfl, h1, h2, h3⟩ := hp.ex
  refine enter (args := [.agg #[vo, vpw, vc], vu]) (l := [.tmp 4]) Try.func67 rfl rfl Try.ntmps67 (by simp) ?_
  refine go ?_
  refine st_box3 (by ((try simp only [ev_tmp, ev_const, ev_func, get_put, get_args, get_putL, get_putL_nil, Nat.reduceEqDiff, reduceIte, List.getD_cons_zero, List.getD_cons_succ, List.getD_nil]); first | done | with_reducible rfl)) (by first | exact True.intro | exact ⟨_, rfl, by ((try simp only [ev_tmp, ev_const, ev_func, get_put, get_args, get_putL, get_putL_nil, Nat.reduceEqDiff, reduceIte, List.getD_cons_zero, List.getD_cons_succ, List.getD_nil, Bool.not_true, Bool.not_false]); first | done | with_reducible rfl)⟩) fun w1 b he1 hb1 hs1 hc0 hc1 hc2 => ?_
  refine go ?_
  refine d_order [0, 1, 2, 6, 7, 3, 4, 5, 8, 9] (h := fun w2 he2 _ => ?_)
  refine dgo ?_
  refine dce (l12Whole_ok (p := p)) (next := fun v3 w3 h4 => ?_)
  obtain ⟨he3, us3, hR3⟩ := h4
  have hgl := gensL_len p
  refine dce (l13Stable_ok (p := p) (bs := gensL p) hs (by omega) hus rfl) (next := fun v4 w4 h5 => ?_)
  obtain ⟨he4, us4, hR4⟩ := h5
  have hlen4 : Len w2 v4 (canon (Clo (fun a : El p => a ∈ ys) (fun a : El p => a ∈ gensL p))).length := ⟨(Pc.Rows.toLen (h := hR4)).ex⟩
  have hxl : xss.length = ys.length := by rw [hus]; simp
  refine dgo ?_
  refine d_end (h := ?_)
  refine go ?_
  refine ret1 ⟨_, rfl, ?_, ((he1.trans he2).trans he3).trans he4⟩
  rw [hus, normP_iff, ← normal_len hs, decide_eq_true_iff, ← hus]
  omega
set_option maxHeartbeats 1000000 in
theorem spec_IsNormalSubgroup_ok {p : Pr} {w : World} {vp vu : Value} {us : List Value} {xss : List (List Int)} {lo hi lo1 hi1 : Nat} [hp : Pres lo hi w vp p] [hu : Pc.Rows lo1 hi1 w vu us xss] (hl : p.ord.length ≤ 2000000) :
    Calls Try.prog 29 #[vp, vu] w (Ret fun v w' => ∃ (k : Bool) (e : Int), v = .tuple #[.bool k, .int .i64 e] ∧ Ans (IsSubP p xss) (NormV p xss) false k e ∧ Ext w w') := by
  obtain ⟨vo, vpw, vc, ps, cs, css, rfl, h1, h2, h3⟩ := hp.ex
  refine enter (args := [.agg #[vo, vpw, vc], vu]) (l := [.tmp 4, .tmp 5]) Try.func29 rfl rfl Try.ntmps29 (by simp) ?_
  refine go ?_
  refine st_box3 (by ((try simp only [ev_tmp, ev_const, ev_func, get_put, get_args, get_putL, get_putL_nil, Nat.reduceEqDiff, reduceIte, List.getD_cons_zero, List.getD_cons_succ, List.getD_nil]); first | done | with_reducible rfl)) (by first | exact True.intro | exact ⟨_, rfl, by ((try simp only [ev_tmp, ev_const, ev_func, get_put, get_args, get_putL, get_putL_nil, Nat.reduceEqDiff, reduceIte, List.getD_cons_zero, List.getD_cons_succ, List.getD_nil, Bool.not_true, Bool.not_false]); first | done | with_reducible rfl)⟩) fun w1 b he1 hb1 hs1 hc0 hc1 hc2 => ?_
  refine go ?_
  refine rc (spec_IsSubgroup_ok (p := p) (xss := xss) hl) (next := fun v5 w5 h5 => ?_)
  obtain ⟨b5, rfl, hb5, he5⟩ := h5
  have hE5 := he1.trans he5
  refine go ?_
  refine c_b (fun e5 => ?_) (fun e5 => ?_)
  · refine go ?_
    refine ret2 ⟨false, 1, rfl, .inr ⟨fun h => ?_, rfl, rfl⟩, hE5⟩
    rw [hb5.2 h] at e5; cases e5
  have hS := hb5.1 (by simpa using e5)
  obtain ⟨hG, hq⟩ := hS
  haveI : ConAll p := ⟨hG.con⟩
  have hv := hG.valid
  have hn6 := hv.n6
  obtain ⟨ys, hys, hse⟩ := isSeq_iff.1 hq
  have hyl := hse.len
  have hE6 := hE5
  refine go ?_
  refine rc (l13Normal_ok (p := p) hse hys) (next := fun v7 w7 h7 => ?_)
  obtain ⟨b7, rfl, hb7, he7⟩ := h7
  refine go ?_
  exact ret2 ⟨b7, 0, rfl, .inl ⟨⟨hG, hq⟩, hb7, rfl⟩, hE6.trans he7⟩
theorem l13Two_ok {p : Pr} {w : World} {vp vu vx : Value} {us vs : List Value} {xss yss : List (List Int)} {lo hi lo1 hi1 lo2 hi2 : Nat} [hp : Pres lo hi w vp p] [hu : Pc.Rows lo1 hi1 w vu us xss] [hx : Pc.Rows lo2 hi2 w vx vs yss] (hl : p.ord.length ≤ 2000000) :
    Calls Try.prog 71 #[vp, vu, vx] w (Ret fun v w' => ∃ b, v = .bool b ∧ (b = true ↔ IsSubP p xss ∧ IsSubP p yss) ∧ Ext w w') := by
  obtain ⟨vo, vpw, vc, ps, cs, css, rfl, h1, h2, h3⟩ := hp.ex
  refine enter (args := [.agg #[vo, vpw, vc], vu, vx]) (l := [.tmp 6]) Try.func71 rfl rfl Try.ntmps71 (by simp) ?_
  refine go ?_
  refine st_box3 (by ((try simp only [ev_tmp, ev_const, ev_func, get_put, get_args, get_putL, get_putL_nil, Nat.reduceEqDiff, reduceIte, List.getD_cons_zero, List.getD_cons_succ, List.getD_nil]); first | done | with_reducible rfl)) (by first | exact True.intro | exact ⟨_, rfl, by ((try simp only [ev_tmp, ev_const, ev_func, get_put, get_args, get_putL, get_putL_nil, Nat.reduceEqDiff, reduceIte, List.getD_cons_zero, List.getD_cons_succ, List.getD_nil, Bool.not_true, Bool.not_false]); first | done | with_reducible rfl)⟩) fun w1 b he1 hb1 hs1 hc0 hc1 hc2 => ?_
  refine go ?_
  refine rc (spec_IsSubgroup_ok (p := p) (xss := xss) hl) (next := fun v5 w5 h5 => ?_)
  obtain ⟨b5, rfl, hb5, he5⟩ := h5
  have hE5 := he1.trans he5
  refine go ?_
  refine sp (fun e5 => ?_) (fun e5 => ?_)
  · obtain ⟨hG, hq⟩ := hb5.1 e5
    haveI : ConAll p := ⟨hG.con⟩
    refine go ?_
    refine rc (l12Is_ok (p := p) (xss := yss)) (next := fun v6 w6 h6 => ?_)
    obtain ⟨b6, rfl, hb6, he6⟩ := h6
    refine go ?_
    exact ret1 ⟨b6, rfl, ⟨fun h => ⟨⟨hG, hq⟩, ⟨hG, hb6.1 h⟩⟩, fun ⟨_, ⟨_, h⟩⟩ => hb6.2 h⟩, hE5.trans he6⟩
  · refine go ?_
    refine ret1 ⟨_, rfl, ?_, hE5⟩
    simp only [Bool.false_eq_true, false_iff]
    rintro ⟨h, _⟩
    rw [hb5.2 h] at e5; cases e5
theorem ordOf_pos {p : Pr} [hc : ConAll p] {ys : List (El p)} (hs : SeqEl ys) : 1 ≤ ordOf p ys ∧ ordOf p ys ≤ 117649 := by
  have h := ordOf_rng (ys := ys) (k := ys.length) (by have := hs.len; have := hc.valid.n6; omega) (Nat.le_refl _) fun y hy => (hs.ok.lead1 y hy).1
  rwa [List.take_length] at h
set_option maxHeartbeats 1000000 in
theorem spec_SubgroupIndex_ok {p : Pr} {w : World} {vp vu vx : Value} {us vs : List Value} {xss yss : List (List Int)} {lo hi lo1 hi1 lo2 hi2 : Nat} [hp : Pres lo hi w vp p] [hu : Pc.Rows lo1 hi1 w vu us xss] [hx : Pc.Rows lo2 hi2 w vx vs yss] (hl : p.ord.length ≤ 2000000) :
    Calls Try.prog 33 #[vp, vu, vx] w (Ret fun v w' => ∃ (k e : Int), v = .tuple #[.int .i64 k, .int .i64 e] ∧ Ans (IsSubP p xss ∧ IsSubP p yss) (IdxV p xss yss) 0 k e ∧ Ext w w') := by
  obtain ⟨vo, vpw, vc, ps, cs, css, rfl, h1, h2, h3⟩ := hp.ex
  refine enter (args := [.agg #[vo, vpw, vc], vu, vx]) (l := [.tmp 6, .tmp 7]) Try.func33 rfl rfl Try.ntmps33 (by simp) ?_
  refine go ?_
  refine st_box3 (by ((try simp only [ev_tmp, ev_const, ev_func, get_put, get_args, get_putL, get_putL_nil, Nat.reduceEqDiff, reduceIte, List.getD_cons_zero, List.getD_cons_succ, List.getD_nil]); first | done | with_reducible rfl)) (by first | exact True.intro | exact ⟨_, rfl, by ((try simp only [ev_tmp, ev_const, ev_func, get_put, get_args, get_putL, get_putL_nil, Nat.reduceEqDiff, reduceIte, List.getD_cons_zero, List.getD_cons_succ, List.getD_nil, Bool.not_true, Bool.not_false]); first | done | with_reducible rfl)⟩) fun w1 b he1 hb1 hs1 hc0 hc1 hc2 => ?_
  refine go ?_
  refine rc (l13Two_ok (p := p) (xss := xss) (yss := yss) hl) (next := fun v5 w5 h5 => ?_)
  obtain ⟨b5, rfl, hb5, he5⟩ := h5
  have hE5 := he1.trans he5
  refine go ?_
  refine c_b (fun e5 => ?_) (fun e5 => ?_)
  · refine go ?_
    refine ret2 ⟨0, 1, rfl, .inr ⟨fun h => ?_, rfl, rfl⟩, hE5⟩
    rw [hb5.2 h] at e5; cases e5
  have hS := hb5.1 (by simpa using e5)
  obtain ⟨⟨hG, hq⟩, ⟨_, hI⟩⟩ := hS
  haveI : ConAll p := ⟨hG.con⟩
  have hn6 := hG.valid.n6
  obtain ⟨ys, hys, hse⟩ := isSeq_iff.1 hq
  obtain ⟨zs, hzs, hsz⟩ := isSeq_iff.1 hI
  have hzl := hsz.len
  refine go ?_
  refine rc (l12Within_ok (p := p) (ys := zs) hse (by omega) hzs hys) (next := fun v7 w7 h7 => ?_)
  obtain ⟨b7, rfl, hb7, he7⟩ := h7
  rw [← subV_iff, ← hys, ← hzs] at hb7
  have hE7 := hE5.trans he7
  refine go ?_
  refine c_b (fun e7 => ?_) (fun e7 => ?_)
  · refine go ?_
    refine ret2 ⟨0, 5, rfl, .inl ⟨⟨⟨hG, hq⟩, ⟨hG, hI⟩⟩, .inr ⟨fun h => ?_, rfl, rfl⟩⟩, hE7⟩
    rw [hb7.2 h] at e7; cases e7
  have h8 := hb7.1 (by simpa using e7)
  have ho1 := ordOf_pos hse
  have ho2 := ordOf_pos hsz
  refine go ?_
  refine d_order [0, 1, 3, 4, 2, 5, 6, 7, 8] (h := fun w9 he9 _ => ?_)
  refine dgo ?_
  refine dce (l12Order_ok (p := p) hse hys) (next := fun v10 w10 h10 => ?_)
  obtain ⟨rfl, he10⟩ := h10
  refine dce (l12Order_ok (p := p) hsz hzs) (next := fun v11 w11 h11 => ?_)
  obtain ⟨rfl, he11⟩ := h11
  refine dgo ?_
  refine d_end (h := ?_)
  refine go ?_
  exact ret2 ⟨_, 0, rfl, .inl ⟨⟨⟨hG, hq⟩, ⟨hG, hI⟩⟩, .inl ⟨h8, by rw [hys, hzs, ordOfL_vecs, ordOfL_vecs], rfl⟩⟩, ((hE7.trans he9).trans he10).trans he11⟩
set_option maxHeartbeats 1000000 in
theorem spec_SubgroupDepths_ok {p : Pr} {w : World} {vp vu : Value} {us : List Value} {xss : List (List Int)} {lo hi lo1 hi1 : Nat} [hp : Pres lo hi w vp p] [hu : Pc.Rows lo1 hi1 w vu us xss] (hl : p.ord.length ≤ 2000000) :
    Calls Try.prog 35 #[vp, vu] w (Ret fun v w' => ∃ (u : Value) (k : List Int) (e : Int), v = .tuple #[u, .int .i64 e] ∧ Ans (IsSubP p xss) (DepV xss) [] k e ∧ Ext w w' ∧ Ints w.heap.size w'.heap.size w' u k) := by
  obtain ⟨vo, vpw, vc, ps, cs, css, rfl, h1, h2, h3⟩ := hp.ex
  refine enter (args := [.agg #[vo, vpw, vc], vu]) (l := [.tmp 4, .tmp 5]) Try.func35 rfl rfl Try.ntmps35 (by simp) ?_
  refine go ?_
  refine st_box3 (by ((try simp only [ev_tmp, ev_const, ev_func, get_put, get_args, get_putL, get_putL_nil, Nat.reduceEqDiff, reduceIte, List.getD_cons_zero, List.getD_cons_succ, List.getD_nil]); first | done | with_reducible rfl)) (by first | exact True.intro | exact ⟨_, rfl, by ((try simp only [ev_tmp, ev_const, ev_func, get_put, get_args, get_putL, get_putL_nil, Nat.reduceEqDiff, reduceIte, List.getD_cons_zero, List.getD_cons_succ, List.getD_nil, Bool.not_true, Bool.not_false]); first | done | with_reducible rfl)⟩) fun w1 b he1 hb1 hs1 hc0 hc1 hc2 => ?_
  refine go ?_
  refine rc (spec_IsSubgroup_ok (p := p) (xss := xss) hl) (next := fun v5 w5 h5 => ?_)
  obtain ⟨b5, rfl, hb5, he5⟩ := h5
  have hE5 := he1.trans he5
  refine go ?_
  refine c_b (fun e5 => ?_) (fun e5 => ?_)
  · refine go ?_
    refine ret2 ⟨nilv, [], 1, rfl, .inr ⟨fun h => ?_, rfl, rfl⟩, hE5, Ints.nilR _ _ _⟩
    rw [hb5.2 h] at e5; cases e5
  have hS := hb5.1 (by simpa using e5)
  obtain ⟨hG, hq⟩ := hS
  haveI : ConAll p := ⟨hG.con⟩
  have hv := hG.valid
  have hn6 := hv.n6
  obtain ⟨ys, hys, hse⟩ := isSeq_iff.1 hq
  have hyl := hse.len
  have hE6 := hE5
  have hxl : xss.length = ys.length := by rw [hys]; simp
  have hxr : ∀ i, (xss.getD i []).length ≤ p.n := fun i => by rw [hys]; exact vecs_len ys i
  have hz5 := hE6.size
  refine go ?_
  refine st_slice0 (by first | exact True.intro | exact ⟨_, rfl, by ((try simp only [ev_tmp, ev_const, ev_func, get_put, get_args, get_putL, get_putL_nil, Nat.reduceEqDiff, reduceIte, List.getD_cons_zero, List.getD_cons_succ, List.getD_nil, Bool.not_true, Bool.not_false]); first | done | with_reducible rfl)⟩) fun w7 v7 he7 hs7 ho7 => ?_
  refine go ?_
  refine r_for xss.length (fun k ρ w' => ∃ vl, Has ρ [(1, vu), (6, vl), (7, .int .i64 k)] ∧ Ext w5 w' ∧ GrowI 2 w5.heap.size w' vl ((xss.take k).map fun x => (lead x : Int))) ?_ ?_
  · refine ⟨v7, ?_, he7, by simpa using GrowI.start ho7 (Nat.le_refl _)⟩
    exact hasP
  clear ho7
  rintro k ρ w8 hk ⟨vl, hH, he8, hg8⟩
  refine rwp_has hH fun ρ0 => ?_
  have hxk := hxr k
  have hz8 := he8.size
  have hkl : ((xss.take k).map fun x => (lead x : Int)).length ≤ 1000 := by simp; omega
  refine go ?_
  refine c_if (fun h4 => ?_) (fun h4 => ?_)
  · refine go ?_
    refine rc (l12Depth_ok (xs := xss.getD k []) ?_) (next := fun v9 w9 h9 => ?_)
    · omega
    obtain ⟨rfl, he9⟩ := h9
    refine go ?_
    refine st_growi (@GrowI.ext _ _ _ _ _ _ he9 hg8) (by have := he9.size; omega) (by omega) (next := fun v10 v11 w11 hg11 hx11 hz11 hgs11 => ?_)
    refine go ?_
    refine forQ_normal (by omega) ⟨v11, ?_, hx11 w5 (he8.trans he9) (Nat.le_refl _), ?_⟩
    · exact hasP
    · have e : (xss.take (k + 1)).map (fun x => (lead x : Int)) = (xss.take k).map (fun x => (lead x : Int)) ++ [(lead (xss.getD k []) : Int)] := by
        rw [List.take_succ_eq_append_getElem (by omega), List.map_append]; simp [show k < xss.length by omega]
      rw [e]; exact hg11
  · obtain rfl : k = xss.length := by omega
    rw [List.take_length] at hg8
    refine go ?_
    exact ret2 ⟨vl, _, 0, rfl, .inl ⟨⟨hG, hq⟩, rfl, rfl⟩, hE6.trans he8, (hg8.fr.mono hz5).ints⟩
end Go.Proofs.Ytjbhjbmobhhabaa

/-
  Walks: the program's order of a subgroup (sizeOf, SubgroupOrder).
  Conditions: stated at each theorem.
-/
namespace Go.Proofs.Ytjbhjbmobhhabaa
open Go Go.Pc
set_option maxHeartbeats 1000000 in
theorem sizeOf_ok {p : Pr} [hc : ConAll p] {ys : List (El p)} (hs : SeqEl ys) {w : World} {vp vu : Value} {us : List Value} {xss : List (List Int)} {lo hi lo1 hi1 : Nat} [hp : PresP lo hi w vp p] [hu : Pc.Rows lo1 hi1 w vu us xss] (hus : xss = vecs ys) :
    Calls Try.prog 58 #[vp, vu] w (Ret fun v w' => v = .int .i64 (ordOf p ys) ∧ Ext w w') := by
  subst hus
  have hv := hc.valid
  have hn6 := hv.n6
  have hol : p.ord.length = p.n := rfl
  have hlen := hs.len
  have hvl : (vecs ys).length = ys.length := by simp
  obtain ⟨g, vo, vpw, vc, ps, cs, css, rfl, hg1, hg2, hc0, hc1, hc2, h1, h2, h3⟩ := hp.ex
  refine enter (args := [.pointer (some ⟨g, 0, none⟩), vu]) (l := [.tmp 4]) Try.func58 rfl rfl Try.ntmps58 (by simp) ?_
  refine go ?_
  refine rc (pivots_ok (xss := vecs ys) ?_ ?_) (next := fun v2 w2 h5 => ?_)
  · omega
  · intro i hi
    rw [vecs_getD ys (by omega), (ys[i]'(by omega)).inr.len]
    exact ⟨(hs.ok.lead1 _ (List.getElem_mem _)).1, by omega⟩
  obtain ⟨he2, hf2⟩ := h5
  have hpi := hf2.ints
  have hpl : ((vecs ys).map fun x => (lead x : Int)).length = ys.length := by simp
  have hpg : ∀ i (h : i < ys.length), ((vecs ys).map fun x => (lead x : Int)).getD i 0 = (lead (ys[i]).v : Int) := fun i h => by simp [vecs, h]
  refine go ?_
  refine r_for ys.length (fun k ρ w' => Has ρ [(0, .pointer (some ⟨g, 0, none⟩)), (5, .int .i64 (ordOf p (ys.take k))), (9, v2), (10, .int .i64 ((vecs ys).map fun x => (lead x : Int)).length), (11, .int .i64 k)] ∧ Ext w2 w') ?_ ?_
  · refine ⟨?_, Ext.refl _⟩
    exact hasP
  rintro k ρ w3 hk ⟨hH, he3⟩
  refine rwp_has hH fun ρ0 => ?_
  refine go ?_
  refine c_if (fun h4 => ?_) (fun h4 => ?_)
  · have hkn : k < ys.length := by omega
    have hpk := hpg k hkn
    obtain ⟨hdn, hy1⟩ := hs.ok.lead1 _ (List.getElem_mem hkn)
    obtain ⟨d, hd⟩ : ∃ d, lead (ys[k]).v = d := ⟨_, rfl⟩
    rw [hd] at hdn hpk
    have hod := hv.opos hdn
    have hr := ordOf_rng (k := k) (by omega) (by omega) fun y hy => (hs.ok.lead1 y hy).1
    have hm : 0 ≤ ordOf p (ys.take k) * p.o d ∧ ordOf p (ys.take k) * p.o d ≤ 117649 * 7 := ⟨Int.mul_nonneg (by omega) (by omega), Int.mul_le_mul hr.2 hod.2 (by omega) (by omega)⟩
    have hmb : -9223372036854775808 ≤ ordOf p (ys.take k) * p.o d ∧ ordOf p (ys.take k) * p.o d ≤ 9223372036854775807 := ⟨by omega, by omega⟩
    refine go ?_
    rw [hpk]
    refine go ?_
    rw [show p.ord.getD ((d : Int).toNat) 0 = p.o d from rfl]
    refine ra (h := rd_mul (by ((try simp only [ev_tmp, ev_const, ev_func, get_put, get_args, get_putL, get_putL_nil, Nat.reduceEqDiff, reduceIte, List.getD_cons_zero, List.getD_cons_succ, List.getD_nil]); first | done | with_reducible rfl)) (by ((try simp only [ev_tmp, ev_const, ev_func, get_put, get_args, get_putL, get_putL_nil, Nat.reduceEqDiff, reduceIte, List.getD_cons_zero, List.getD_cons_succ, List.getD_nil]); first | done | with_reducible rfl)) hmb) (next := ?_)
    refine go ?_
    refine forQ_normal (by omega) ⟨?_, he3⟩
    have ht := ordOf_take ys hkn
    rw [hd] at ht
    rw [ht]
    exact hasP
  · refine go ?_
    rw [show k = ys.length by omega, List.take_length]
    exact ret1 ⟨rfl, he2.trans he3⟩
set_option maxHeartbeats 1000000 in
theorem impl_SubgroupOrder_ok {p : Pr} {w : World} {vp vu : Value} {us : List Value} {xss : List (List Int)} {lo hi lo1 hi1 : Nat} [hp : Pres lo hi w vp p] [hu : Pc.Rows lo1 hi1 w vu us xss] (hl : p.ord.length ≤ 2000000) :
    Calls Try.prog 20 #[vp, vu] w (Ret fun v w' => ∃ k e, v = .tuple #[.int .i64 k, .int .i64 e] ∧ OrdAns p xss k e ∧ Ext w w') := by
  obtain ⟨vo, vpw, vc, ps, cs, css, rfl, h1, h2, h3⟩ := hp.ex
  refine enter (args := [.agg #[vo, vpw, vc], vu]) (l := [.tmp 4, .tmp 5]) Try.func20 rfl rfl Try.ntmps20 (by simp) ?_
  refine go ?_
  refine st_box3 (by ((try simp only [ev_tmp, ev_const, ev_func, get_put, get_args, get_putL, get_putL_nil, Nat.reduceEqDiff, reduceIte, List.getD_cons_zero, List.getD_cons_succ, List.getD_nil]); first | done | with_reducible rfl)) (by first | exact True.intro | exact ⟨_, rfl, by ((try simp only [ev_tmp, ev_const, ev_func, get_put, get_args, get_putL, get_putL_nil, Nat.reduceEqDiff, reduceIte, List.getD_cons_zero, List.getD_cons_succ, List.getD_nil, Bool.not_true, Bool.not_false]); first | done | with_reducible rfl)⟩) fun w1 b he1 hb1 hs1 hc0 hc1 hc2 => ?_
  have hpp := hp.boxed he1 hc0 hc1 hc2
  refine go ?_
  refine st_slice1 (u := vu) (by ((try simp only [ev_tmp, ev_const, ev_func, get_put, get_args, get_putL, get_putL_nil, Nat.reduceEqDiff, reduceIte, List.getD_cons_zero, List.getD_cons_succ, List.getD_nil]); first | done | with_reducible rfl)) ?_ ?_ (by first | exact True.intro | exact ⟨_, rfl, by ((try simp only [ev_tmp, ev_const, ev_func, get_put, get_args, get_putL, get_putL_nil, Nat.reduceEqDiff, reduceIte, List.getD_cons_zero, List.getD_cons_succ, List.getD_nil, Bool.not_true, Bool.not_false]); first | done | with_reducible rfl)⟩) fun w2 v2 he2 hs2 ho2 => ?_
  · exact hu.sl.cells
  · rfl
  have hR : Rowss 0 w2.heap.size w2 v2 [vu] [us] [xss] := by
    refine ⟨ho2.wide, rfl, rfl, fun i => ?_⟩
    have hw : Pc.Rows 0 w2.heap.size w2 vu us xss := Pc.Rows.wide (inferInstance : Pc.Rows lo1 hi1 w2 vu us xss)
    cases i with
    | zero => exact hw
    | succ i => exact ⟨⟨⟨none, 0, rfl, Nat.le_refl _, by omega, fun k u hu => by simp at hu⟩⟩, rfl, fun j => by simpa using (Ints.nil_ w2).mono (Nat.le_refl 0) (Nat.zero_le _)⟩
  refine go ?_
  refine rc (areSubgroups_ok (p := p) (xsss := [xss]) hl (by simp)) (next := fun v3 w3 h4 => ?_)
  obtain ⟨b3, rfl, hb3, he3⟩ := h4
  have hb3' : b3 = true ↔ IsSubP p xss := hb3.trans ⟨fun ⟨h, h5⟩ => ⟨h, h5 0 (by simp)⟩, fun ⟨h, h5⟩ => ⟨h, fun i hi => by
    have : i = 0 := by simpa using hi
    subst this
    exact h5⟩⟩
  refine go ?_
  refine c_b (fun e5 => ?_) (fun e5 => ?_)
  · refine go ?_
    refine ret2 ⟨0, 1, rfl, .inr ⟨fun h => ?_, rfl, rfl⟩, (he1.trans he2).trans he3⟩
    rw [hb3'.2 h] at e5; cases e5
  · have hS := hb3'.1 (by simpa using e5)
    obtain ⟨hG, hq⟩ := hS
    haveI : ConAll p := ⟨hG.con⟩
    obtain ⟨ys, hys, hse⟩ := isSeq_iff.1 hq
    refine go ?_
    refine rc (sizeOf_ok (p := p) hse (xss := xss) hys) (next := fun v6 w6 h6 => ?_)
    obtain ⟨rfl, he6⟩ := h6
    refine go ?_
    exact ret2 ⟨_, _, rfl, .inl ⟨⟨hG, hq⟩, by rw [hys, ordOfL_vecs], rfl⟩, ((he1.trans he2).trans he3).trans he6⟩
end Go.Proofs.Ytjbhjbmobhhabaa

/-
  Walks: the program's generators, conjugates, conjugate subgroup, test of normality, test of elements.
  Conditions: stated at each theorem.
-/
namespace Go.Proofs.Ytjbhjbmobhhabaa
open Go Go.Pc
set_option maxHeartbeats 1000000 in
theorem generators_ok {p : Pr} [hc : ConAll p] {w : World} {vp : Value} {lo hi : Nat} [hp : PresP lo hi w vp p] :
    Calls Try.prog 98 #[vp] w (Ret fun v w' => Ext w w' ∧ ∃ rs, vecs (gensL p) = rs.map (·.2) ∧ MatO w.heap.size w'.heap.size w' v rs) := by
  have hn6 := hc.valid.n6
  have hol : p.ord.length = p.n := rfl
  obtain ⟨g, vo, vpw, vc, ps, cs, css, rfl, hg1, hg2, hc0, hc1, hc2, h1, h2, h3⟩ := hp.ex
  refine enter (args := [.pointer (some ⟨g, 0, none⟩)]) (l := [.tmp 2]) Try.func98 rfl rfl Try.ntmps98 (by simp) ?_
  refine go ?_
  refine r_for p.n (fun k ρ w' => ∃ vl rs, Has ρ [(0, .pointer (some ⟨g, 0, none⟩)), (3, vl), (9, .int .i64 p.n), (10, .int .i64 k)] ∧ Ext w w' ∧ GrowL 22 w.heap.size w' vl rs ∧ rs.map (·.2) = (List.range k).map fun i => (zeros p.n).set i 1) ?_ ?_
  · refine ⟨nilv, [], ?_, Ext.refl _, GrowL.nil _ _ _ (Nat.le_refl _), by simp⟩
    exact hasP
  rintro k ρ w3 hk ⟨vl, rs, hH, he3, hG, hrs⟩
  refine rwp_has hH fun ρ0 => ?_
  have hz3 := he3.size
  have hrl : rs.length = k := by have := congrArg List.length hrs; simp at this; omega
  refine go ?_
  refine c_if (fun h4 => ?_) (fun h4 => ?_)
  · refine go ?_
    refine rc (unitVector_ok (n := p.n) (i := k) ?_ ?_ (by omega) (by omega)) (next := fun v4 w4 h5 => ?_)
    · omega
    · rfl
    obtain ⟨he4, hf4⟩ := h5
    refine go ?_
    refine st_grow hG he4 hf4 hz3 (by omega) (next := fun v6 v7 w7 hG7 hx7 hz7 hgs7 => ?_)
    refine go ?_
    refine forQ_normal (by omega) ⟨v7, _, ?_, hx7 w (he3.trans he4) (Nat.le_refl _), hG7, ?_⟩
    · exact hasP
    · rw [List.range_succ, List.map_append, List.map_append, hrs]; simp
  · obtain rfl : k = p.n := by omega
    refine go ?_
    refine ret1 ⟨he3, rs, ?_, hG.mat⟩
    rw [hrs]
    unfold vecs gensL
    rw [List.map_map]
    exact List.map_congr_left fun i hi => gOf_val (List.mem_range.1 hi)
set_option maxHeartbeats 1000000 in
theorem conjugates_ok {p : Pr} [hc : ConAll p] {ys : List (El p)} (hyl : ys.length ≤ 10000) {w : World} {vp vu vx : Value} {us : List Value} {xss : List (List Int)} {x : El p} {xs : List Int} {lo hi lo1 hi1 lo2 hi2 : Nat} [hp : PresP lo hi w vp p] [hu : Pc.Rows lo1 hi1 w vu us xss] [hx : Ints lo2 hi2 w vx xs] (hus : xss = vecs ys) (hxe : xs = x.v) :
    Calls Try.prog 127 #[vp, vu, vx] w (Ret fun v w' => Ext w w' ∧ ∃ rs, vecs (ys.map (Grp.cj · x)) = rs.map (·.2) ∧ MatO w.heap.size w'.heap.size w' v rs) := by
  subst hus
  have hvl : (vecs ys).length = ys.length := by simp
  refine enter (args := [vp, vu, vx]) (l := [.tmp 6]) Try.func127 rfl rfl Try.ntmps127 (by simp) ?_
  refine go ?_
  refine r_for ys.length (fun k ρ w' => ∃ vl rs, Has ρ [(0, vp), (2, vx), (7, vl), (10, vu), (11, .int .i64 (vecs ys).length), (12, .int .i64 k)] ∧ Ext w w' ∧ GrowL 22 w.heap.size w' vl rs ∧ rs.map (·.2) = vecs ((ys.take k).map (Grp.cj · x))) ?_ ?_
  · refine ⟨nilv, [], ?_, Ext.refl _, GrowL.nil _ _ _ (Nat.le_refl _), by simp⟩
    exact hasP
  rintro k ρ w3 hk ⟨vl, rs, hH, he3, hG, hrs⟩
  refine rwp_has hH fun ρ0 => ?_
  have hz3 := he3.size
  have hrl : rs.length = k := by have := congrArg List.length hrs; simp at this; omega
  refine go ?_
  refine c_if (fun h4 => ?_) (fun h4 => ?_)
  · have hkn : k < ys.length := by omega
    have hg := vecs_getD ys hkn
    refine go ?_
    refine rc (conjugate_ok (p := p) (x := ys[k]) (y := x) (Nat.zero_le _) hg hxe) (next := fun v5 w5 h5 => ?_)
    obtain ⟨he5, hf5⟩ := h5
    refine go ?_
    refine st_grow hG he5 hf5 hz3 (by omega) (next := fun v6 v7 w7 hG7 hx7 hz7 hgs7 => ?_)
    refine go ?_
    refine forQ_normal (by omega) ⟨v7, _, ?_, hx7 w (he3.trans he5) (Nat.le_refl _), hG7, ?_⟩
    · exact hasP
    · rw [List.take_succ_eq_append_getElem hkn]
      simp only [List.map_append, List.map_cons, List.map_nil, hrs, vecs]
  · obtain rfl : k = ys.length := by omega
    rw [List.take_length] at hrs
    refine go ?_
    exact ret1 ⟨he3, rs, hrs.symm, hG.mat⟩
set_option maxHeartbeats 1000000 in
theorem conjugateSubgroup_ok {p : Pr} [hc : ConAll p] {ys : List (El p)} (hyl : ys.length ≤ 10000) {w : World} {vp vu vx : Value} {us : List Value} {xss : List (List Int)} {x : El p} {xs : List Int} {lo hi lo1 hi1 lo2 hi2 : Nat} [hp : PresP lo hi w vp p] [hu : Pc.Rows lo1 hi1 w vu us xss] [hx : Ints lo2 hi2 w vx xs] (hus : xss = vecs ys) (hxe : xs = x.v) :
    Calls Try.prog 90 #[vp, vu, vx] w (Ret fun v w' => Ext w w' ∧ ∃ rs, canon (Gen (fun a : El p => a ∈ ys.map (Grp.cj · x))) = rs.map (·.2) ∧ MatO w.heap.size w'.heap.size w' v rs) := by
  refine enter (args := [vp, vu, vx]) (l := [.tmp 6]) Try.func90 rfl rfl Try.ntmps90 (by simp) ?_
  refine go ?_
  refine rc (conjugates_ok (p := p) (ys := ys) (x := x) hyl hus hxe) (next := fun v1 w1 h1 => ?_)
  obtain ⟨he1, rs1, hrs1, hM1⟩ := h1
  have hR1 := hM1.rows
  rw [← hrs1] at hR1
  refine go ?_
  refine rc (generatedM_ok (p := p) (ys := ys.map (Grp.cj · x)) rfl ?_) (next := fun v2 w2 h2 => ?_)
  · simp; omega
  obtain ⟨he2, rs2, hrs2, hM2⟩ := h2
  refine go ?_
  exact ret1 ⟨he1.trans he2, rs2, hrs2, hM2.lower he1.size⟩
set_option maxHeartbeats 1000000 in
theorem isNormal_ok {p : Pr} [hc : ConAll p] {ys : List (El p)} (hs : SeqEl ys) {w : World} {vp vu : Value} {us : List Value} {xss : List (List Int)} {lo hi lo1 hi1 : Nat} [hp : PresP lo hi w vp p] [hu : Pc.Rows lo1 hi1 w vu us xss] (hus : xss = vecs ys) :
    Calls Try.prog 68 #[vp, vu] w (Ret fun v w' => ∃ b, v = .bool b ∧ (b = true ↔ NormP p xss) ∧ Ext w w') := by
  subst hus
  have hn6 := hc.valid.n6
  have hyl := hs.len
  have hvl : (vecs ys).length = ys.length := by simp
  have hgl := gensL_len p
  have hgvl : (vecs (gensL p)).length = p.n := by simp [hgl]
  rw [show (NormP p (vecs ys)) = (∀ y, y ∈ ys → ∀ g, g ∈ gensL p → Gen (fun a : El p => a ∈ ys) (Grp.cj y g)) from propext normP_iff]
  refine enter (args := [vp, vu]) (l := [.tmp 4]) Try.func68 rfl rfl Try.ntmps68 (by simp) ?_
  refine go ?_
  refine rc (generators_ok (p := p)) (next := fun v1 w1 h1 => ?_)
  obtain ⟨he1, rs1, hrs1, hM1⟩ := h1
  have hR1 := hM1.rows
  rw [← hrs1] at hR1
  refine go ?_
  refine r_for p.n (fun i ρ w' => Has ρ [(0, vp), (1, vu), (10, v1), (11, .int .i64 (vecs (gensL p)).length), (12, .int .i64 i)] ∧ Ext w1 w' ∧ ∀ i' (h : i' < (gensL p).length), i' < i → ∀ y, y ∈ ys → Gen (fun a : El p => a ∈ ys) (Grp.cj y (gensL p)[i'])) ?_ ?_
  · refine ⟨?_, Ext.refl _, fun i' _ h => absurd h (Nat.not_lt_zero _)⟩
    exact hasP
  rintro i ρ w2 hi ⟨hH, he2, hI⟩
  refine rwp_has hH fun ρ0 => ?_
  refine go ?_
  refine c_if (fun h4 => ?_) (fun h4 => ?_)
  · have hin : i < (gensL p).length := by omega
    have hg2 := vecs_getD (gensL p) hin
    refine go ?_
    refine r_for ys.length (fun j ρ w' => Has ρ [(0, vp), (1, vu), (6, Pc.rowAt v1 (rs1.map (·.1)) i), (10, v1), (11, .int .i64 (vecs (gensL p)).length), (12, .int .i64 i), (16, vu), (17, .int .i64 (vecs ys).length), (18, .int .i64 j)] ∧ Ext w1 w' ∧ ∀ j' (h : j' < ys.length), j' < j → Gen (fun a : El p => a ∈ ys) (Grp.cj ys[j'] (gensL p)[i])) ?_ ?_
    · refine ⟨?_, he2, fun j' _ h => absurd h (Nat.not_lt_zero _)⟩
      exact hasP
    clear he2
    rintro j ρ w3 hj ⟨hH3, he3, hJ⟩
    refine rwp_has hH3 fun ρ1 => ?_
    refine go ?_
    refine c_if (fun h5 => ?_) (fun h5 => ?_)
    · have hjn : j < ys.length := by omega
      have hg1 := vecs_getD ys hjn
      refine go ?_
      refine rc (conjugate_ok (p := p) (x := ys[j]) (y := (gensL p)[i]) (Nat.zero_le _) hg1 hg2) (next := fun v5 w5 h5 => ?_)
      obtain ⟨he5, hf5⟩ := h5
      refine go ?_
      refine rc (isMember_ok (p := p) (x := Grp.cj ys[j] (gensL p)[i]) hs (xss := vecs ys) rfl rfl) (next := fun v6 w6 h6 => ?_)
      obtain ⟨b6, rfl, hb6, he6⟩ := h6
      have hE := (he3.trans he5).trans he6
      refine go ?_
      refine c_b (fun h7 => ?_) (fun h7 => ?_)
      · refine go ?_
        refine ret1 ⟨_, rfl, ?_, he1.trans hE⟩
        simp only [Bool.false_eq_true, false_iff]
        intro h
        rw [hb6.2 (h _ (List.getElem_mem hjn) _ (List.getElem_mem hin))] at h7; cases h7
      · refine go ?_
        refine forQ_normal (by omega) ⟨?_, hE, fun j' h h8 => ?_⟩
        · exact hasP
        · by_cases e : j' = j
          · subst e; exact hb6.1 (by simpa using h7)
          · exact hJ j' h (by omega)
    · refine go ?_
      refine forQ_normal (by omega) ⟨?_, he3, fun i' h h8 y hy => ?_⟩
      · exact hasP
      · by_cases e : i' = i
        · subst e
          obtain ⟨j', hj', rfl⟩ := List.getElem_of_mem hy
          exact hJ j' hj' (by omega)
        · exact hI i' h (by omega) y hy
  · refine go ?_
    refine ret1 ⟨_, rfl, ?_, he1.trans he2⟩
    simp only [true_iff]
    intro y hy g hg
    obtain ⟨i', hi', rfl⟩ := List.getElem_of_mem hg
    exact hI i' hi' (by omega) y hy
set_option maxHeartbeats 1000000 in
theorem areElements_ok {p : Pr} {w : World} {vp vl : Value} {us : List Value} {xss : List (List Int)} {lo hi lo1 hi1 : Nat} [hp : PresP lo hi w vp p] [hl : Pc.Rows lo1 hi1 w vl us xss] (hol : p.ord.length ≤ 2000000) (hxl : xss.length ≤ 2000000) :
    Calls Try.prog 87 #[vp, vl] w (Ret fun v w' => ∃ b, v = .bool b ∧ (b = true ↔ GrpL p xss) ∧ Ext w w') := by
  obtain ⟨g, vo, vpw, vc, ps, cs, css, rfl, hg1, hg2, hc0, hc1, hc2, h1, h2, h3⟩ := hp.ex
  have hpv := PresP.val (b := g) h1 h2 h3
  refine enter (args := [.pointer (some ⟨g, 0, none⟩), vl]) (l := [.tmp 4]) Try.func87 rfl rfl Try.ntmps87 (by simp) ?_
  refine go ?_
  refine rc (impl_IsConsistent_ok (p := p) hol) (next := fun v1 w1 h4 => ?_)
  obtain ⟨b1, rfl, hb1, he1⟩ := h4
  refine go ?_
  refine c_b (fun e1 => ?_) (fun e1 => ?_)
  · refine go ?_
    refine ret1 ⟨_, rfl, ?_, he1⟩
    simp only [Bool.false_eq_true, false_iff]
    rintro ⟨h, _⟩
    rw [hb1.2 h] at e1; cases e1
  have hG := hb1.1 (by simpa using e1)
  have hv := hG.valid
  refine go ?_
  refine r_for xss.length (fun q ρ w' => Has ρ [(0, .pointer (some ⟨g, 0, none⟩)), (12, vl), (13, .int .i64 xss.length), (14, .int .i64 q)] ∧ Ext w w' ∧ ∀ i, i < q → InR p (xss.getD i [])) ?_ ?_
  · refine ⟨?_, he1, fun i hi => by omega⟩
    exact hasP
  clear he1
  rintro q ρ w3 hq ⟨hH3, he3, hQ⟩
  refine rwp_has hH3 fun ρ1 => ?_
  refine go ?_
  refine c_if (fun h6 => ?_) (fun h6 => ?_)
  · refine go ?_
    refine rc (isExponents_ok (p := p) (xs := xss.getD q []) (fun i hi => hv.opos hi) hol) (next := fun v4 w4 h7 => ?_)
    obtain ⟨b4, rfl, hb4, he4⟩ := h7
    refine go ?_
    refine c_b (fun h8 => ?_) (fun h8 => ?_)
    · refine go ?_
      refine ret1 ⟨_, rfl, ?_, he3.trans he4⟩
      simp only [Bool.false_eq_true, false_iff]
      rintro ⟨_, h⟩
      rw [hb4.2 (h q (by omega))] at h8; cases h8
    · have h9 := hb4.1 (by simpa using h8)
      refine go ?_
      refine forQ_normal (by omega) ⟨?_, he3.trans he4, fun i hi => ?_⟩
      · exact hasP
      · by_cases e : i = q
        · subst e; exact h9
        · exact hQ i (by omega)
  · refine go ?_
    refine ret1 ⟨_, rfl, ?_, he3⟩
    simp only [true_iff]
    exact ⟨hG, fun i hi => hQ i (by omega)⟩
end Go.Proofs.Ytjbhjbmobhhabaa

/-
  Walks: the program's GeneratedSubgroup, ConjugateSubgroup, IsNormalSubgroup, SubgroupIndex, SubgroupDepths.
  Conditions: what the arguments read as.
-/
namespace Go.Proofs.Ytjbhjbmobhhabaa
open Go Go.Pc
set_option maxHeartbeats 1000000 in
theorem impl_GeneratedSubgroup_ok {p : Pr} {w : World} {vp vu : Value} {us : List Value} {xss : List (List Int)} {lo hi lo1 hi1 : Nat} [hp : Pres lo hi w vp p] [hu : Pc.Rows lo1 hi1 w vu us xss] (hl : p.ord.length ≤ 2000000) (hxl : xss.length ≤ 2000000) :
    Calls Try.prog 48 #[vp, vu] w (Ret fun v w' => ∃ (u : Value) (k : List (List Int)) (e : Int), v = .tuple #[u, .int .i64 e] ∧ Ans (GrpL p xss) (GenV p xss) [] k e ∧ Ext w w' ∧ ∃ rs, k = rs.map (·.2) ∧ MatO w.heap.size w'.heap.size w' u rs) := by
  obtain ⟨vo, vpw, vc, ps, cs, css, rfl, h1, h2, h3⟩ := hp.ex
  refine enter (args := [.agg #[vo, vpw, vc], vu]) (l := [.tmp 4, .tmp 5]) Try.func48 rfl rfl Try.ntmps48 (by simp) ?_
  refine go ?_
  refine st_box3 (by ((try simp only [ev_tmp, ev_const, ev_func, get_put, get_args, get_putL, get_putL_nil, Nat.reduceEqDiff, reduceIte, List.getD_cons_zero, List.getD_cons_succ, List.getD_nil]); first | done | with_reducible rfl)) (by first | exact True.intro | exact ⟨_, rfl, by ((try simp only [ev_tmp, ev_const, ev_func, get_put, get_args, get_putL, get_putL_nil, Nat.reduceEqDiff, reduceIte, List.getD_cons_zero, List.getD_cons_succ, List.getD_nil, Bool.not_true, Bool.not_false]); first | done | with_reducible rfl)⟩) fun w1 b he1 hb1 hs1 hc0 hc1 hc2 => ?_
  have hpp := hp.boxed he1 hc0 hc1 hc2
  refine go ?_
  refine rc (areElements_ok (p := p) (xss := xss) hl hxl) (next := fun v5 w5 h5 => ?_)
  obtain ⟨b5, rfl, hb5, he5⟩ := h5
  have hE5 := he1.trans he5
  refine go ?_
  refine c_b (fun e5 => ?_) (fun e5 => ?_)
  · refine go ?_
    refine ret2 ⟨nilv, [], 1, rfl, .inr ⟨fun h => ?_, rfl, rfl⟩, hE5, [], rfl, MatO.nilR _ _ _⟩
    rw [hb5.2 h] at e5; cases e5
  have hS := hb5.1 (by simpa using e5)
  obtain ⟨hG, hI⟩ := hS
  haveI : ConAll p := ⟨hG.con⟩
  obtain ⟨ys, hys⟩ := els_of hI
  have hyl : ys.length = xss.length := by rw [hys]; simp
  refine go ?_
  refine c_if (fun h7 => ?_) (fun h7 => ?_)
  · refine go ?_
    exact ret2 ⟨nilv, [], 3, rfl, .inl ⟨⟨hG, hI⟩, .inl ⟨by omega, rfl, rfl⟩⟩, hE5, [], rfl, MatO.nilR _ _ _⟩
  refine go ?_
  refine rc (generatedM_ok (p := p) (ys := ys) hys (by omega)) (next := fun v8 w8 h8 => ?_)
  obtain ⟨he8, rs8, hrs8, hM8⟩ := h8
  refine go ?_
  exact ret2 ⟨v8, _, 0, rfl, .inl ⟨⟨hG, hI⟩, .inr ⟨by omega, ⟨inferInstance, ys, hys, rfl⟩, rfl⟩⟩, hE5.trans he8, rs8, hrs8, hM8.lower hE5.size⟩
set_option maxHeartbeats 1000000 in
theorem impl_ConjugateSubgroup_ok {p : Pr} {w : World} {vp vu vx : Value} {us : List Value} {xss : List (List Int)} {xs : List Int} {lo hi lo1 hi1 lo2 hi2 : Nat} [hp : Pres lo hi w vp p] [hu : Pc.Rows lo1 hi1 w vu us xss] [hx : Ints lo2 hi2 w vx xs] (hl : p.ord.length ≤ 2000000) :
    Calls Try.prog 51 #[vp, vu, vx] w (Ret fun v w' => ∃ (u : Value) (k : List (List Int)) (e : Int), v = .tuple #[u, .int .i64 e] ∧ Ans (IsSubP p xss ∧ InR p xs) (ConjV p xss xs) [] k e ∧ Ext w w' ∧ ∃ rs, k = rs.map (·.2) ∧ MatO w.heap.size w'.heap.size w' u rs) := by
  obtain ⟨vo, vpw, vc, ps, cs, css, rfl, h1, h2, h3⟩ := hp.ex
  refine enter (args := [.agg #[vo, vpw, vc], vu, vx]) (l := [.tmp 6, .tmp 7]) Try.func51 rfl rfl Try.ntmps51 (by simp) ?_
  refine go ?_
  refine st_box3 (by ((try simp only [ev_tmp, ev_const, ev_func, get_put, get_args, get_putL, get_putL_nil, Nat.reduceEqDiff, reduceIte, List.getD_cons_zero, List.getD_cons_succ, List.getD_nil]); first | done | with_reducible rfl)) (by first | exact True.intro | exact ⟨_, rfl, by ((try simp only [ev_tmp, ev_const, ev_func, get_put, get_args, get_putL, get_putL_nil, Nat.reduceEqDiff, reduceIte, List.getD_cons_zero, List.getD_cons_succ, List.getD_nil, Bool.not_true, Bool.not_false]); first | done | with_reducible rfl)⟩) fun w1 b he1 hb1 hs1 hc0 hc1 hc2 => ?_
  have hpp := hp.boxed he1 hc0 hc1 hc2
  refine go ?_
  refine st_slice1 (u := vu) (by ((try simp only [ev_tmp, ev_const, ev_func, get_put, get_args, get_putL, get_putL_nil, Nat.reduceEqDiff, reduceIte, List.getD_cons_zero, List.getD_cons_succ, List.getD_nil]); first | done | with_reducible rfl)) ?_ ?_ (by first | exact True.intro | exact ⟨_, rfl, by ((try simp only [ev_tmp, ev_const, ev_func, get_put, get_args, get_putL, get_putL_nil, Nat.reduceEqDiff, reduceIte, List.getD_cons_zero, List.getD_cons_succ, List.getD_nil, Bool.not_true, Bool.not_false]); first | done | with_reducible rfl)⟩) fun w2 v2 he2 hs2 ho2 => ?_
  · exact hu.sl.cells
  · rfl
  have hE2 := he1.trans he2
  have hR := rowss_one (xss := xss) ho2 inferInstance
  refine go ?_
  refine rc (areSubgroups_ok (p := p) (xsss := [xss]) hl (by simp)) (next := fun v5 w5 h5 => ?_)
  obtain ⟨b5, rfl, hb5, he5⟩ := h5
  rw [areSub1] at hb5
  have hE5 := hE2.trans he5
  refine go ?_
  refine sp (fun e5 => ?_) (fun e5 => ?_)
  · refine go ?_
    refine ret2 ⟨nilv, [], 1, rfl, .inr ⟨fun h => ?_, rfl, rfl⟩, hE5, [], rfl, MatO.nilR _ _ _⟩
    rw [hb5.2 h.1] at e5; cases e5
  have hS := hb5.1 (by simpa using e5)
  obtain ⟨hG, hq⟩ := hS
  haveI : ConAll p := ⟨hG.con⟩
  have hv := hG.valid
  have hn6 := hv.n6
  obtain ⟨ys, hys, hse⟩ := isSeq_iff.1 hq
  have hyl := hse.len
  refine go ?_
  refine rc (isExponents_ok (p := p) (xs := xs) (fun i hi => hv.opos hi) hl) (next := fun v6 w6 h6 => ?_)
  obtain ⟨b6, rfl, hb6, he6⟩ := h6
  have hE6 := hE5.trans he6
  refine go ?_
  refine c_b (fun e6 => ?_) (fun e6 => ?_)
  · refine go ?_
    refine ret2 ⟨nilv, [], 1, rfl, .inr ⟨fun h => ?_, rfl, rfl⟩, hE6, [], rfl, MatO.nilR _ _ _⟩
    rw [hb6.2 h.2] at e6; cases e6
  have hI := hb6.1 (by simpa using e6)
  obtain ⟨x, hx6⟩ : ∃ x : El p, xs = x.v := ⟨⟨xs, hI, fun i hi => absurd hi (Nat.not_lt_zero i)⟩, rfl⟩
  refine go ?_
  refine rc (conjugateSubgroup_ok (p := p) (ys := ys) (x := x) (by omega) hys hx6) (next := fun v7 w7 h7 => ?_)
  obtain ⟨he7, rs7, hrs7, hM7⟩ := h7
  refine go ?_
  exact ret2 ⟨v7, _, 0, rfl, .inl ⟨⟨⟨hG, hq⟩, hI⟩, ⟨inferInstance, ys, x, hys, hx6, rfl⟩, rfl⟩, hE6.trans he7, rs7, hrs7, hM7.lower hE6.size⟩
set_option maxHeartbeats 1000000 in
theorem impl_IsNormalSubgroup_ok {p : Pr} {w : World} {vp vu : Value} {us : List Value} {xss : List (List Int)} {lo hi lo1 hi1 : Nat} [hp : Pres lo hi w vp p] [hu : Pc.Rows lo1 hi1 w vu us xss] (hl : p.ord.length ≤ 2000000) :
    Calls Try.prog 30 #[vp, vu] w (Ret fun v w' => ∃ (k : Bool) (e : Int), v = .tuple #[.bool k, .int .i64 e] ∧ Ans (IsSubP p xss) (NormV p xss) false k e ∧ Ext w w') := by
  obtain ⟨vo, vpw, vc, ps, cs, css, rfl, h1, h2, h3⟩ := hp.ex
  refine enter (args := [.agg #[vo, vpw, vc], vu]) (l := [.tmp 4, .tmp 5]) Try.func30 rfl rfl Try.ntmps30 (by simp) ?_
  refine go ?_
  refine st_box3 (by ((try simp only [ev_tmp, ev_const, ev_func, get_put, get_args, get_putL, get_putL_nil, Nat.reduceEqDiff, reduceIte, List.getD_cons_zero, List.getD_cons_succ, List.getD_nil]); first | done | with_reducible rfl)) (by first | exact True.intro | exact ⟨_, rfl, by ((try simp only [ev_tmp, ev_const, ev_func, get_put, get_args, get_putL, get_putL_nil, Nat.reduceEqDiff, reduceIte, List.getD_cons_zero, List.getD_cons_succ, List.getD_nil, Bool.not_true, Bool.not_false]); first | done | with_reducible rfl)⟩) fun w1 b he1 hb1 hs1 hc0 hc1 hc2 => ?_
  have hpp := hp.boxed he1 hc0 hc1 hc2
  refine go ?_
  refine st_slice1 (u := vu) (by ((try simp only [ev_tmp, ev_const, ev_func, get_put, get_args, get_putL, get_putL_nil, Nat.reduceEqDiff, reduceIte, List.getD_cons_zero, List.getD_cons_succ, List.getD_nil]); first | done | with_reducible rfl)) ?_ ?_ (by first | exact True.intro | exact ⟨_, rfl, by ((try simp only [ev_tmp, ev_const, ev_func, get_put, get_args, get_putL, get_putL_nil, Nat.reduceEqDiff, reduceIte, List.getD_cons_zero, List.getD_cons_succ, List.getD_nil, Bool.not_true, Bool.not_false]); first | done | with_reducible rfl)⟩) fun w2 v2 he2 hs2 ho2 => ?_
  · exact hu.sl.cells
  · rfl
  have hE2 := he1.trans he2
  have hR := rowss_one (xss := xss) ho2 inferInstance
  refine go ?_
  refine rc (areSubgroups_ok (p := p) (xsss := [xss]) hl (by simp)) (next := fun v5 w5 h5 => ?_)
  obtain ⟨b5, rfl, hb5, he5⟩ := h5
  rw [areSub1] at hb5
  have hE5 := hE2.trans he5
  refine go ?_
  refine c_b (fun e5 => ?_) (fun e5 => ?_)
  · refine go ?_
    refine ret2 ⟨false, 1, rfl, .inr ⟨fun h => ?_, rfl, rfl⟩, hE5⟩
    rw [hb5.2 h] at e5; cases e5
  have hS := hb5.1 (by simpa using e5)
  obtain ⟨hG, hq⟩ := hS
  haveI : ConAll p := ⟨hG.con⟩
  have hv := hG.valid
  have hn6 := hv.n6
  obtain ⟨ys, hys, hse⟩ := isSeq_iff.1 hq
  have hyl := hse.len
  have hE6 := hE5
  refine go ?_
  refine rc (isNormal_ok (p := p) hse hys) (next := fun v7 w7 h7 => ?_)
  obtain ⟨b7, rfl, hb7, he7⟩ := h7
  refine go ?_
  exact ret2 ⟨b7, 0, rfl, .inl ⟨⟨hG, hq⟩, hb7, rfl⟩, hE6.trans he7⟩
theorem ordOf_pos' {p : Pr} [hc : ConAll p] {ys : List (El p)} (hs : SeqEl ys) : 1 ≤ ordOf p ys ∧ ordOf p ys ≤ 117649 := by
  have h := ordOf_rng (ys := ys) (k := ys.length) (by have := hs.len; have := hc.valid.n6; omega) (Nat.le_refl _) fun y hy => (hs.ok.lead1 y hy).1
  rwa [List.take_length] at h
set_option maxHeartbeats 1000000 in
theorem impl_SubgroupIndex_ok {p : Pr} {w : World} {vp vu vx : Value} {us vs : List Value} {xss yss : List (List Int)} {lo hi lo1 hi1 lo2 hi2 : Nat} [hp : Pres lo hi w vp p] [hu : Pc.Rows lo1 hi1 w vu us xss] [hx : Pc.Rows lo2 hi2 w vx vs yss] (hl : p.ord.length ≤ 2000000) :
    Calls Try.prog 34 #[vp, vu, vx] w (Ret fun v w' => ∃ (k e : Int), v = .tuple #[.int .i64 k, .int .i64 e] ∧ Ans (IsSubP p xss ∧ IsSubP p yss) (IdxV p xss yss) 0 k e ∧ Ext w w') := by
  obtain ⟨vo, vpw, vc, ps, cs, css, rfl, h1, h2, h3⟩ := hp.ex
  refine enter (args := [.agg #[vo, vpw, vc], vu, vx]) (l := [.tmp 6, .tmp 7]) Try.func34 rfl rfl Try.ntmps34 (by simp) ?_
  refine go ?_
  refine st_box3 (by ((try simp only [ev_tmp, ev_const, ev_func, get_put, get_args, get_putL, get_putL_nil, Nat.reduceEqDiff, reduceIte, List.getD_cons_zero, List.getD_cons_succ, List.getD_nil]); first | done | with_reducible rfl)) (by first | exact True.intro | exact ⟨_, rfl, by ((try simp only [ev_tmp, ev_const, ev_func, get_put, get_args, get_putL, get_putL_nil, Nat.reduceEqDiff, reduceIte, List.getD_cons_zero, List.getD_cons_succ, List.getD_nil, Bool.not_true, Bool.not_false]); first | done | with_reducible rfl)⟩) fun w1 b he1 hb1 hs1 hc0 hc1 hc2 => ?_
  have hpp := hp.boxed he1 hc0 hc1 hc2
  refine go ?_
  refine st_slice2 (u := vu) (v := vx) (by ((try simp only [ev_tmp, ev_const, ev_func, get_put, get_args, get_putL, get_putL_nil, Nat.reduceEqDiff, reduceIte, List.getD_cons_zero, List.getD_cons_succ, List.getD_nil]); first | done | with_reducible rfl)) (by ((try simp only [ev_tmp, ev_const, ev_func, get_put, get_args, get_putL, get_putL_nil, Nat.reduceEqDiff, reduceIte, List.getD_cons_zero, List.getD_cons_succ, List.getD_nil]); first | done | with_reducible rfl)) ?_ ?_ ?_ (by first | exact True.intro | exact ⟨_, rfl, by ((try simp only [ev_tmp, ev_const, ev_func, get_put, get_args, get_putL, get_putL_nil, Nat.reduceEqDiff, reduceIte, List.getD_cons_zero, List.getD_cons_succ, List.getD_nil, Bool.not_true, Bool.not_false]); first | done | with_reducible rfl)⟩) fun w2 v2 he2 hs2 ho2 => ?_
  · exact hu.sl.cells
  · exact hx.sl.cells
  · rfl
  have hE2 := he1.trans he2
  have hR := rowss_two (xss := xss) (yss := yss) ho2 inferInstance inferInstance
  refine go ?_
  refine rc (areSubgroups_ok (p := p) (xsss := [xss, yss]) hl (by simp)) (next := fun v5 w5 h5 => ?_)
  obtain ⟨b5, rfl, hb5, he5⟩ := h5
  rw [areSub2] at hb5
  have hE5 := hE2.trans he5
  refine go ?_
  refine c_b (fun e5 => ?_) (fun e5 => ?_)
  · refine go ?_
    refine ret2 ⟨0, 1, rfl, .inr ⟨fun h => ?_, rfl, rfl⟩, hE5⟩
    rw [hb5.2 h] at e5; cases e5
  have hS := hb5.1 (by simpa using e5)
  obtain ⟨⟨hG, hq⟩, ⟨_, hI⟩⟩ := hS
  haveI : ConAll p := ⟨hG.con⟩
  have hv := hG.valid
  have hn6 := hv.n6
  obtain ⟨ys, hys, hse⟩ := isSeq_iff.1 hq
  obtain ⟨zs, hzs, hsz⟩ := isSeq_iff.1 hI
  have hyl := hse.len
  have hzl := hsz.len
  have hE6 := hE5
  refine go ?_
  refine rc (isSubset_ok (p := p) (ys := zs) hse (by omega) hzs hys) (next := fun v7 w7 h7 => ?_)
  obtain ⟨b7, rfl, hb7, he7⟩ := h7
  rw [← subV_iff, ← hys, ← hzs] at hb7
  have hE7 := hE5.trans he7
  refine go ?_
  refine c_b (fun e7 => ?_) (fun e7 => ?_)
  · refine go ?_
    refine ret2 ⟨0, 5, rfl, .inl ⟨⟨⟨hG, hq⟩, ⟨hG, hI⟩⟩, .inr ⟨fun h => ?_, rfl, rfl⟩⟩, hE7⟩
    rw [hb7.2 h] at e7; cases e7
  have h8 := hb7.1 (by simpa using e7)
  have ho1 := ordOf_pos' hse
  have ho2 := ordOf_pos' hsz
  refine go ?_
  refine rc (sizeOf_ok (p := p) hse hys) (next := fun v10 w10 h10 => ?_)
  obtain ⟨rfl, he10⟩ := h10
  refine go ?_
  refine rc (sizeOf_ok (p := p) hsz hzs) (next := fun v11 w11 h11 => ?_)
  obtain ⟨rfl, he11⟩ := h11
  refine go ?_
  exact ret2 ⟨_, 0, rfl, .inl ⟨⟨⟨hG, hq⟩, ⟨hG, hI⟩⟩, .inl ⟨h8, by rw [hys, hzs, ordOfL_vecs, ordOfL_vecs], rfl⟩⟩, (hE7.trans he10).trans he11⟩
set_option maxHeartbeats 1000000 in
theorem impl_SubgroupDepths_ok {p : Pr} {w : World} {vp vu : Value} {us : List Value} {xss : List (List Int)} {lo hi lo1 hi1 : Nat} [hp : Pres lo hi w vp p] [hu : Pc.Rows lo1 hi1 w vu us xss] (hl : p.ord.length ≤ 2000000) :
    Calls Try.prog 36 #[vp, vu] w (Ret fun v w' => ∃ (u : Value) (k : List Int) (e : Int), v = .tuple #[u, .int .i64 e] ∧ Ans (IsSubP p xss) (DepV xss) [] k e ∧ Ext w w' ∧ Fr w.heap.size w' u k) := by
  obtain ⟨vo, vpw, vc, ps, cs, css, rfl, h1, h2, h3⟩ := hp.ex
  refine enter (args := [.agg #[vo, vpw, vc], vu]) (l := [.tmp 4, .tmp 5]) Try.func36 rfl rfl Try.ntmps36 (by simp) ?_
  refine go ?_
  refine st_box3 (by ((try simp only [ev_tmp, ev_const, ev_func, get_put, get_args, get_putL, get_putL_nil, Nat.reduceEqDiff, reduceIte, List.getD_cons_zero, List.getD_cons_succ, List.getD_nil]); first | done | with_reducible rfl)) (by first | exact True.intro | exact ⟨_, rfl, by ((try simp only [ev_tmp, ev_const, ev_func, get_put, get_args, get_putL, get_putL_nil, Nat.reduceEqDiff, reduceIte, List.getD_cons_zero, List.getD_cons_succ, List.getD_nil, Bool.not_true, Bool.not_false]); first | done | with_reducible rfl)⟩) fun w1 b he1 hb1 hs1 hc0 hc1 hc2 => ?_
  have hpp := hp.boxed he1 hc0 hc1 hc2
  refine go ?_
  refine st_slice1 (u := vu) (by ((try simp only [ev_tmp, ev_const, ev_func, get_put, get_args, get_putL, get_putL_nil, Nat.reduceEqDiff, reduceIte, List.getD_cons_zero, List.getD_cons_succ, List.getD_nil]); first | done | with_reducible rfl)) ?_ ?_ (by first | exact True.intro | exact ⟨_, rfl, by ((try simp only [ev_tmp, ev_const, ev_func, get_put, get_args, get_putL, get_putL_nil, Nat.reduceEqDiff, reduceIte, List.getD_cons_zero, List.getD_cons_succ, List.getD_nil, Bool.not_true, Bool.not_false]); first | done | with_reducible rfl)⟩) fun w2 v2 he2 hs2 ho2 => ?_
  · exact hu.sl.cells
  · rfl
  have hE2 := he1.trans he2
  have hR := rowss_one (xss := xss) ho2 inferInstance
  refine go ?_
  refine rc (areSubgroups_ok (p := p) (xsss := [xss]) hl (by simp)) (next := fun v5 w5 h5 => ?_)
  obtain ⟨b5, rfl, hb5, he5⟩ := h5
  rw [areSub1] at hb5
  have hE5 := hE2.trans he5
  refine go ?_
  refine c_b (fun e5 => ?_) (fun e5 => ?_)
  · refine go ?_
    refine ret2 ⟨nilv, [], 1, rfl, .inr ⟨fun h => ?_, rfl, rfl⟩, hE5, Fr.nilR _ _⟩
    rw [hb5.2 h] at e5; cases e5
  have hS := hb5.1 (by simpa using e5)
  obtain ⟨hG, hq⟩ := hS
  haveI : ConAll p := ⟨hG.con⟩
  have hv := hG.valid
  have hn6 := hv.n6
  obtain ⟨ys, hys, hse⟩ := isSeq_iff.1 hq
  have hyl := hse.len
  have hE6 := hE5
  have hxl : xss.length = ys.length := by rw [hys]; simp
  have hz5 := hE6.size
  refine go ?_
  refine rc (pivots_ok (xss := xss) ?_ ?_) (next := fun v7 w7 h7 => ?_)
  · omega
  · intro i hi
    rw [hys, vecs_getD ys (by omega), (ys[i]'(by omega)).inr.len]
    exact ⟨(hse.ok.lead1 _ (List.getElem_mem _)).1, by omega⟩
  obtain ⟨he7, hf7⟩ := h7
  have hpi := hf7.ints
  have hpl : (xss.map fun x => (lead x : Int)).length = xss.length := by simp
  have hz7 := he7.size
  refine go ?_
  refine r_for xss.length (fun k ρ w' => ∃ vl, Has ρ [(6, vl), (14, v7), (15, .int .i64 (xss.map fun x => (lead x : Int)).length), (16, .int .i64 k)] ∧ Ext w7 w' ∧ GrowI 2 w7.heap.size w' vl ((xss.take k).map fun x => (lead x : Int))) ?_ ?_
  · refine ⟨nilv, ?_, Ext.refl _, by simpa using GrowI.nil _ _ _⟩
    exact hasP
  rintro k ρ w8 hk ⟨vl, hH, he8, hg8⟩
  refine rwp_has hH fun ρ0 => ?_
  have hz8 := he8.size
  have hkl : ((xss.take k).map fun x => (lead x : Int)).length ≤ 1000 := by simp; omega
  refine go ?_
  refine c_if (fun h4 => ?_) (fun h4 => ?_)
  · refine go ?_
    refine st_growi hg8 (by omega) (by omega) (next := fun v10 v11 w11 hg11 hx11 hz11 hgs11 => ?_)
    refine go ?_
    refine forQ_normal (by omega) ⟨v11, ?_, hx11 w7 he8 (Nat.le_refl _), ?_⟩
    · exact hasP
    · have e : (xss.take (k + 1)).map (fun x => (lead x : Int)) = (xss.take k).map (fun x => (lead x : Int)) ++ [(xss.map fun x => (lead x : Int)).getD k 0] := by
        rw [List.take_succ_eq_append_getElem (by omega), List.map_append]; simp [show k < xss.length by omega]
      rw [e]; exact hg11
  · obtain rfl : k = xss.length := by omega
    rw [List.take_length] at hg8
    refine go ?_
    exact ret2 ⟨vl, _, 0, rfl, .inl ⟨⟨hG, hq⟩, rfl, rfl⟩, (hE6.trans he7).trans he8, hg8.fr.mono (by omega)⟩
end Go.Proofs.Ytjbhjbmobhhabaa

/-
  Answers: coset numbers, elements and exponents of subgroups.
  Conditions: none.
-/
namespace Go.Proofs.Ytjbhjbmobhhabaa
open Go Go.Pc
section
variable {p : Pr}
/-- The places that are no depths of the elements. -/
def freeL (p : Pr) (ys : List (El p)) (k : Nat) : List Nat := (List.range k).filter fun d => ys.all fun y => decide (lead y.v ≠ d)
abbrev ints (l : List Nat) : List Int := l.map fun d : Nat => (d : Int)
theorem freeL_len (p : Pr) (ys : List (El p)) (k : Nat) : (freeL p ys k).length ≤ k := by unfold freeL; exact Nat.le_trans (List.length_filter_le _ _) (by simp)
theorem freeL_lt {ys : List (El p)} {k d : Nat} (h : d ∈ freeL p ys k) : d < k := List.mem_range.1 (List.mem_filter.1 h).1
theorem freeL_yes {ys : List (El p)} {k : Nat} (h : ∀ y, y ∈ ys → lead y.v ≠ k) : freeL p ys (k + 1) = freeL p ys k ++ [k] := by
  unfold freeL
  rw [List.range_succ, List.filter_append]
  congr 1
  rw [List.filter_cons_of_pos, List.filter_nil]
  simpa using h
theorem freeL_no {ys : List (El p)} {k : Nat} {y : El p} (hy : y ∈ ys) (h : lead y.v = k) : freeL p ys (k + 1) = freeL p ys k := by
  unfold freeL
  rw [List.range_succ, List.filter_append, List.filter_cons_of_neg, List.filter_nil, List.append_nil]
  simp only [List.all_eq_true, decide_eq_true_eq]
  exact fun h' => h' y hy h
/-- The number that the free places of an element tell. -/
def numF (p : Pr) (l : List Nat) (r : El p) : Int := l.foldl (fun a d => a * p.o d + co r d) 0
theorem numF_take (l : List Nat) (r : El p) {k : Nat} (hk : k < l.length) : numF p (l.take (k + 1)) r = numF p (l.take k) r * p.o l[k] + co r l[k] := by
  unfold numF
  rw [List.take_succ_eq_append_getElem hk, List.foldl_append]; rfl
theorem numF_bd (hv : Valid p) (l : List Nat) (r : El p) (hl : ∀ d, d ∈ l → d < p.n) : ∀ k, k ≤ l.length → 0 ≤ numF p (l.take k) r ∧ numF p (l.take k) r + 1 ≤ (7 ^ k : Nat)
  | 0, _ => by simp [numF]
  | k + 1, h => by
    have ih := numF_bd hv l r hl k (by omega)
    rw [numF_take l r (by omega)]
    have hd := hl _ (List.getElem_mem (show k < l.length by omega))
    have ho := hv.opos hd
    have hc := r.inr.rng _ hd
    have hc' : 0 ≤ co r l[k] ∧ co r l[k] < p.o l[k] := hc
    generalize numF p (l.take k) r = a at ih ⊢
    generalize co r l[k] = c at hc' ⊢
    generalize p.o l[k] = o at ho hc' ⊢
    have e : ((7 ^ (k + 1) : Nat) : Int) = (7 ^ k : Nat) * 7 := by rw [Nat.pow_succ]; simp
    rw [e]
    have h1 : 0 ≤ a * o := Int.mul_nonneg ih.1 (by omega)
    have h2 : a * o ≤ a * 7 := Int.mul_le_mul_of_nonneg_left ho.2 ih.1
    omega
theorem numF_rng (hv : Valid p) (l : List Nat) (r : El p) (hl : ∀ d, d ∈ l → d < p.n) (h6 : l.length ≤ 6) {k : Nat} (hk : k ≤ l.length) : 0 ≤ numF p (l.take k) r ∧ numF p (l.take k) r ≤ 117648 := by
  have h := numF_bd hv l r hl k hk
  have h2 : (7 ^ k : Nat) ≤ 7 ^ 6 := Nat.pow_le_pow_right (by omega) (by omega)
  have h3 : (7 : Nat) ^ 6 = 117649 := by decide
  omega
def NumV (p : Pr) (xss : List (List Int)) (xs : List Int) (k e : Int) : Prop := (∃ (_ : ConAll p) (ys : List (El p)) (x r : El p), xss = vecs ys ∧ xs = x.v ∧ RepOf ys x r ∧ k = numF p (freeL p ys p.n) r) ∧ e = 0
theorem NumV.uniq {xss : List (List Int)} {xs : List Int} (hS : IsSubP p xss) (a b c d : Int) (h : NumV p xss xs a c) (k : NumV p xss xs b d) : a = b ∧ c = d := by
  obtain ⟨⟨hc, ys, x, y, h1, h2, h3, h4⟩, h5⟩ := h
  obtain ⟨⟨hc', ys', x', y', k1, k2, k3, k4⟩, k5⟩ := k
  obtain ⟨hG, hq⟩ := hS
  haveI : ConAll p := ⟨hG.con⟩
  obtain ⟨zs, hzs, hse⟩ := isSeq_iff.1 hq
  obtain rfl : ys = zs := vecs_inj (h1.symm.trans hzs)
  obtain rfl : ys' = ys := vecs_inj (k1.symm.trans hzs)
  obtain rfl : x = x' := T.ext (h2.symm.trans k2)
  exact ⟨by rw [h4, k4, RepOf.unique hse h3 k3], by rw [h5, k5]⟩
end
section
variable {p : Pr} [hc : ConAll p]
/-- The product of powers of elements. -/
noncomputable def prodTo (ys : List (El p)) (as_ : List Int) : Nat → El p
  | 0 => 1
  | k + 1 => prodTo ys as_ k * Grp.pwz (ys.getD k 1) (as_.getD k 0)
/-- What is left of an element behind its first exponents. -/
noncomputable def stE (ys : List (El p)) (x : El p) : Nat → El p
  | 0 => x
  | k + 1 => Grp.pwz (ys.getD k 1) (-(co (stE ys x k) (lead (ys.getD k 1).v))) * stE ys x k
noncomputable def expsL (ys : List (El p)) (x : El p) (k : Nat) : List Int := (List.range k).map fun i => co (stE ys x i) (lead (ys.getD i 1).v)
theorem expsL_succ (ys : List (El p)) (x : El p) (k : Nat) : expsL ys x (k + 1) = expsL ys x k ++ [co (stE ys x k) (lead (ys.getD k 1).v)] := by
  unfold expsL; rw [List.range_succ, List.map_append]; rfl
theorem expsL_len (ys : List (El p)) (x : El p) (k : Nat) : (expsL ys x k).length = k := by simp [expsL]
theorem getD_one {ys : List (El p)} {k : Nat} (hk : k < ys.length) : ys.getD k 1 = ys[k] := by simp [hk]
theorem stE_gen (ys : List (El p)) (x : El p) : ∀ k, k ≤ ys.length → (Gen (fun a : El p => a ∈ ys) (stE ys x k) ↔ Gen (fun a : El p => a ∈ ys) x)
  | 0, _ => Iff.rfl
  | k + 1, h => by
    have hk : k < ys.length := by omega
    rw [← stE_gen ys x k (by omega)]
    show Gen _ (Grp.pwz (ys.getD k 1) _ * stE ys x k) ↔ _
    rw [getD_one hk]
    exact (Gen.sub _).left ((Gen.sub _).pwz (.of _ (List.getElem_mem hk)) _)
theorem tl_up {ys : List (El p)} (hs : SeqEl ys) {h : El p} (hh : Gen (fun a : El p => a ∈ ys) h) : ∀ m d d', d' - d = m → d ≤ d' → d' ≤ p.n → (∀ y, y ∈ ys → lead y.v < d ∨ d' ≤ lead y.v) → Tl d h → Tl d' h := by
  intro m
  induction m with
  | zero => intro d d' h1 h2 _ _ h5; rwa [show d' = d by omega]
  | succ m ih =>
    intro d d' h1 h2 h3 h4 h5
    refine ih (d + 1) d' (by omega) (by omega) h3 (fun y hy => ?_) (h5.succ ?_)
    · rcases h4 y hy with h | h
      · exact .inl (by omega)
      · exact .inr h
    · by_cases h0 : co h d = 0
      · exact h0
      · obtain ⟨y, hy, e⟩ := hs.dep ⟨h, hh, h5, h0⟩
        rcases h4 y hy with h | h <;> omega
theorem stE_one {ys : List (El p)} (hs : SeqEl ys) (x : El p) : stE ys x ys.length = 1 ↔ Gen (fun a : El p => a ∈ ys) x := by
  constructor
  · intro h
    rw [← stE_gen ys x ys.length (Nat.le_refl _), h]; exact .one
  · intro hx
    have hok := hs.ok
    have hasc : ∀ i j (hi : i < ys.length) (hj : j < ys.length), i < j → lead (ys[i]).v < lead (ys[j]).v := fun i j hi hj hij => List.pairwise_iff_getElem.1 hok.asc i j hi hj hij
    have key : ∀ k, k ≤ ys.length → ∀ d', (∀ i (h : i < ys.length), k ≤ i → d' ≤ lead (ys[i]).v) → d' ≤ p.n → Tl d' (stE ys x k) := by
      intro k
      induction k with
      | zero =>
        intro _ d' h1 h2
        refine tl_up hs hx _ 0 d' rfl (Nat.zero_le _) h2 (fun y hy => ?_) (Tl.zero x)
        obtain ⟨i, hi, rfl⟩ := List.getElem_of_mem hy
        exact .inr (h1 i hi (Nat.zero_le _))
      | succ k ih =>
        intro hk d' h1 h2
        have hkn : k < ys.length := by omega
        obtain ⟨hdn, hy1⟩ := hok.lead1 _ (List.getElem_mem hkn)
        have ht := ih (by omega) (lead (ys[k]).v) (fun i hi hki => by
          by_cases e : i = k
          · subst e; exact Nat.le_refl _
          · exact Nat.le_of_lt (hasc k i hkn hi (by omega))) (by omega)
        have hyt : Tl (lead (ys[k]).v) (ys[k]) := lead_tl _
        have hmem := (stE_gen ys x (k + 1) hk).2 hx
        have hstep : Tl (lead (ys[k]).v + 1) (stE ys x (k + 1)) := by
          show Tl _ (Grp.pwz (ys.getD k 1) (-(co (stE ys x k) (lead (ys.getD k 1).v))) * stE ys x k)
          rw [getD_one hkn]
          refine (Tl.mul (by omega) (hyt.pwz (by omega) _) ht).succ ?_
          rw [co_at _ hdn ht, co_pwz hdn hyt, hy1, Int.mul_one, Int.emod_add_emod, Int.add_left_neg, Int.zero_emod]
        by_cases hd : lead (ys[k]).v + 1 ≤ d'
        · refine tl_up hs hmem _ _ d' rfl hd h2 (fun y hy => ?_) hstep
          obtain ⟨i, hi, rfl⟩ := List.getElem_of_mem hy
          by_cases hik : k + 1 ≤ i
          · exact .inr (h1 i hi hik)
          · left
            by_cases e : i = k
            · subst e; omega
            · have := hasc i k hi hkn (by omega); omega
        · exact hstep.mono (by omega)
    exact (key ys.length (Nat.le_refl _) p.n (fun i hi h => by omega) (Nat.le_refl _)).end_
end
/-- The exponents lie in their ranges. -/
def RangeP (p : Pr) (xss : List (List Int)) (as_ : List Int) : Prop := as_.length = xss.length ∧ ∀ i, i < xss.length → 0 ≤ as_.getD i 0 ∧ as_.getD i 0 ≤ p.o (lead (xss.getD i [])) - 1
def MeV (p : Pr) (xss : List (List Int)) (as_ r : List Int) (e : Int) : Prop := (RangeP p xss as_ ∧ (∃ (_ : ConAll p) (ys : List (El p)), xss = vecs ys ∧ r = (prodTo ys as_ ys.length).v) ∧ e = 0) ∨ (¬ RangeP p xss as_ ∧ r = [] ∧ e = 2)
theorem MeV.uniq {p : Pr} {xss : List (List Int)} {as_ : List Int} (a b : List Int) (c d : Int) (h : MeV p xss as_ a c) (k : MeV p xss as_ b d) : a = b ∧ c = d := by
  rcases h with ⟨h1, ⟨_, ys, h2, h3⟩, h4⟩ | ⟨h1, h2, h3⟩ <;> rcases k with ⟨k1, ⟨_, ys', k2, k3⟩, k4⟩ | ⟨k1, k2, k3⟩
  · obtain rfl := vecs_inj (h2.symm.trans k2)
    exact ⟨by rw [h3, k3], by rw [h4, k4]⟩
  · exact absurd h1 k1
  · exact absurd k1 h1
  · exact ⟨by rw [h2, k2], by rw [h3, k3]⟩
theorem MemberElement_sz0 {p : Pr} {xss : List (List Int)} {as_ r : List Int} {e : Int} (hl : p.ord.length ≤ 2000000) (_ : as_.length ≤ 2000000) (h : Ans (IsSubP p xss) (MeV p xss as_) [] r e) : r.length ≤ 2000000 := by
  rcases h with ⟨_, ⟨_, ⟨_, ys, _, rfl⟩, _⟩ | ⟨_, rfl, _⟩⟩ | ⟨_, rfl, _⟩
  · have := el_len (prodTo ys as_ ys.length); omega
  · simp
  · simp
def MxV (p : Pr) (xss : List (List Int)) (xs r : List Int) (e : Int) : Prop := (MemP p xss xs ∧ (∃ (_ : ConAll p) (ys : List (El p)) (x : El p), xss = vecs ys ∧ xs = x.v ∧ r = expsL ys x ys.length) ∧ e = 0) ∨ (¬ MemP p xss xs ∧ r = [] ∧ e = 4)
theorem MxV.uniq {p : Pr} {xss : List (List Int)} {xs : List Int} (a b : List Int) (c d : Int) (h : MxV p xss xs a c) (k : MxV p xss xs b d) : a = b ∧ c = d := by
  rcases h with ⟨h1, ⟨_, ys, x, h2, hx, h3⟩, h4⟩ | ⟨h1, h2, h3⟩ <;> rcases k with ⟨k1, ⟨_, ys', x', k2, kx, k3⟩, k4⟩ | ⟨k1, k2, k3⟩
  · obtain rfl := vecs_inj (h2.symm.trans k2)
    obtain rfl : x = x' := T.ext (hx.symm.trans kx)
    exact ⟨by rw [h3, k3], by rw [h4, k4]⟩
  · exact absurd h1 k1
  · exact absurd k1 h1
  · exact ⟨by rw [h2, k2], by rw [h3, k3]⟩
theorem MemberExponents_sz0 {p : Pr} {xss : List (List Int)} {xs r : List Int} {e : Int} (hl : p.ord.length ≤ 2000000) (h : Ans (IsSubP p xss ∧ InR p xs) (MxV p xss xs) [] r e) : r.length ≤ 2000000 := by
  rcases h with ⟨⟨⟨hG, hq⟩, _⟩, ⟨_, ⟨_, ys, x, hys, _, rfl⟩, _⟩ | ⟨_, rfl, _⟩⟩ | ⟨_, rfl, _⟩
  · haveI : ConAll p := ⟨hG.con⟩
    have h1 := hq.len
    have h2 := hG.valid.n6
    have h3 : xss.length = ys.length := by rw [hys]; simp
    rw [expsL_len]; omega
  · simp
  · simp
end Go.Proofs.Ytjbhjbmobhhabaa

/-
  Walks: the reference's CosetNumber, MemberElement, MemberExponents.
  Conditions: what the arguments read as.
-/
namespace Go.Proofs.Ytjbhjbmobhhabaa
open Go Go.Pc
set_option maxHeartbeats 1000000 in
theorem l14Free_ok {p : Pr} [hc : ConAll p] {ys : List (El p)} (hs : SeqOk ys) {w : World} {vp vu : Value} {us : List Value} {xss : List (List Int)} {lo hi lo1 hi1 : Nat} [hp : Pres lo hi w vp p] [hu : Pc.Rows lo1 hi1 w vu us xss] (hus : xss = vecs ys) :
    Calls Try.prog 100 #[vp, vu] w (Ret fun v w' => Ext w w' ∧ Fr w.heap.size w' v (ints (freeL p ys p.n))) := by
  have hv := hc.valid
  have hn6 := hv.n6
  obtain ⟨vo, vpw, vc, ps, cs, css, rfl, h1, h2, h3⟩ := hp.ex
  refine enter (args := [.agg #[vo, vpw, vc], vu]) (l := [.tmp 4]) Try.func100 rfl rfl Try.ntmps100 (by simp) ?_
  refine go ?_
  refine st_box3 (by ((try simp only [ev_tmp, ev_const, ev_func, get_put, get_args, get_putL, get_putL_nil, Nat.reduceEqDiff, reduceIte, List.getD_cons_zero, List.getD_cons_succ, List.getD_nil]); first | done | with_reducible rfl)) (by first | exact True.intro | exact ⟨_, rfl, by ((try simp only [ev_tmp, ev_const, ev_func, get_put, get_args, get_putL, get_putL_nil, Nat.reduceEqDiff, reduceIte, List.getD_cons_zero, List.getD_cons_succ, List.getD_nil, Bool.not_true, Bool.not_false]); first | done | with_reducible rfl)⟩) fun w1 b he1 hb1 hs1 hc0 hc1 hc2 => ?_
  refine go ?_
  refine rc (l12Table_ok (p := p) hv hs hus) (next := fun v2 w2 h4 => ?_)
  obtain ⟨he2, us2, hR2⟩ := h4
  have htl := tabL_len (tabOf ys)
  have hz1 := he1.size
  have hz2 := he2.size
  refine go ?_
  refine st_slice0 (by first | exact True.intro | exact ⟨_, rfl, by ((try simp only [ev_tmp, ev_const, ev_func, get_put, get_args, get_putL, get_putL_nil, Nat.reduceEqDiff, reduceIte, List.getD_cons_zero, List.getD_cons_succ, List.getD_nil, Bool.not_true, Bool.not_false]); first | done | with_reducible rfl)⟩) fun w3 v3 he3 hs3 ho3 => ?_
  refine go ?_
  refine r_for p.n (fun k ρ w' => ∃ vl, Has ρ [(5, v2), (6, vl), (7, .int .i64 k)] ∧ Ext w2 w' ∧ GrowI 2 w2.heap.size w' vl (ints (freeL p ys k))) ?_ ?_
  · refine ⟨v3, ?_, he3, by simpa [freeL] using GrowI.start ho3 (Nat.le_refl _)⟩
    exact hasP
  clear ho3
  rintro k ρ w4 hk ⟨vl, hH, he4, hg4⟩
  refine rwp_has hH fun ρ0 => ?_
  have hz4 := he4.size
  have hfl := freeL_len p ys k
  have hfl2 : (ints (freeL p ys k)).length = (freeL p ys k).length := by simp
  refine go ?_
  refine c_if (fun h4 => ?_) (fun h4 => ?_)
  · have hkn : k < p.n := by omega
    have hrow : ((tabL (tabOf ys)).getD k []).length = 0 ↔ tabOf ys k = none := by rw [tabL_at _ hkn]; exact rowOf_len hkn
    refine go ?_
    refine c_if (fun h5 => ?_) (fun h5 => ?_)
    · have hnone := hrow.1 (by omega)
      refine go ?_
      refine st_growi hg4 hz4 (by omega) (next := fun v10 v11 w11 hg11 hx11 hz11 hgs11 => ?_)
      refine go ?_
      refine forQ_normal (by omega) ⟨v11, ?_, hx11 w2 he4 (Nat.le_refl _), ?_⟩
      · exact hasP
      · rw [freeL_yes fun y hy e => tabOf_mem hs hy (by rw [e]; exact hnone)]
        simpa using hg11
    · have hsome : tabOf ys k ≠ none := fun e => h5 (by rw [hrow.2 e]; rfl)
      obtain ⟨y, hy, hyl⟩ := tabOf_none hsome
      refine go ?_
      refine forQ_normal (by omega) ⟨vl, ?_, he4, ?_⟩
      · exact hasP
      · rw [freeL_no hy hyl]; exact hg4
  · obtain rfl : k = p.n := by omega
    refine go ?_
    exact ret1 ⟨(he1.trans he2).trans he4, hg4.fr.mono (by omega)⟩
set_option maxHeartbeats 1000000 in
theorem l14Number_ok {p : Pr} [hc : ConAll p] {ys : List (El p)} (hs : SeqEl ys) {w : World} {vp vu vx : Value} {us : List Value} {xss : List (List Int)} {x : El p} {xs : List Int} {lo hi lo1 hi1 lo2 hi2 : Nat} [hp : Pres lo hi w vp p] [hu : Pc.Rows lo1 hi1 w vu us xss] [hx : Ints lo2 hi2 w vx xs] (hus : xss = vecs ys) (hxe : xs = x.v) :
    Calls Try.prog 69 #[vp, vu, vx] w (Ret fun v w' => ∃ r, v = .int .i64 (numF p (freeL p ys p.n) r) ∧ RepOf ys x r ∧ Ext w w') := by
  have hv := hc.valid
  have hn6 := hv.n6
  have hol : p.ord.length = p.n := rfl
  obtain ⟨vo, vpw, vc, ps, cs, css, rfl, h1, h2, h3⟩ := hp.ex
  refine enter (args := [.agg #[vo, vpw, vc], vu, vx]) (l := [.tmp 6]) Try.func69 rfl rfl Try.ntmps69 (by simp) ?_
  refine go ?_
  refine st_box3 (by ((try simp only [ev_tmp, ev_const, ev_func, get_put, get_args, get_putL, get_putL_nil, Nat.reduceEqDiff, reduceIte, List.getD_cons_zero, List.getD_cons_succ, List.getD_nil]); first | done | with_reducible rfl)) (by first | exact True.intro | exact ⟨_, rfl, by ((try simp only [ev_tmp, ev_const, ev_func, get_put, get_args, get_putL, get_putL_nil, Nat.reduceEqDiff, reduceIte, List.getD_cons_zero, List.getD_cons_succ, List.getD_nil, Bool.not_true, Bool.not_false]); first | done | with_reducible rfl)⟩) fun w1 b he1 hb1 hs1 hc0 hc1 hc2 => ?_
  refine go ?_
  refine rc (l12Sift_ok (p := p) (x := x) hs.ok hus hxe) (next := fun v2 w2 h4 => ?_)
  obtain ⟨he2, r, hf2, hr⟩ := h4
  refine go ?_
  refine rc (l14Free_ok (p := p) hs.ok hus) (next := fun v3 w3 h5 => ?_)
  obtain ⟨he3, hf3⟩ := h5
  have hfl := freeL_len p ys p.n
  have hfl2 : (ints (freeL p ys p.n)).length = (freeL p ys p.n).length := by simp
  have hrl := r.inr.len
  have hlt : ∀ d, d ∈ freeL p ys p.n → d < p.n := fun d hd => freeL_lt hd
  have hE3 := (he1.trans he2).trans he3
  refine go ?_
  refine r_for (freeL p ys p.n).length (fun k ρ w' => Has ρ [(3, .pointer (some ⟨b, 0, none⟩)), (7, v2), (8, v3), (9, .int .i64 (numF p ((freeL p ys p.n).take k) r)), (10, .int .i64 k)] ∧ Ext w3 w') ?_ ?_
  · refine ⟨?_, Ext.refl _⟩
    exact hasP
  rintro k ρ w4 hk ⟨hH, he4⟩
  refine rwp_has hH fun ρ0 => ?_
  refine go ?_
  refine c_if (fun h4 => ?_) (fun h4 => ?_)
  · have hkn : k < (freeL p ys p.n).length := by omega
    obtain ⟨d, hd⟩ : ∃ d, (freeL p ys p.n)[k] = d := ⟨_, rfl⟩
    have hdn : d < p.n := by rw [← hd]; exact hlt _ (List.getElem_mem hkn)
    have hfk : (ints (freeL p ys p.n)).getD k 0 = (d : Int) := by simp [hkn, hd]
    have hod := hv.opos hdn
    have hcr : 0 ≤ co r d ∧ co r d < p.o d := r.inr.rng d hdn
    have hb := numF_rng hv (freeL p ys p.n) r hlt (by omega) hk
    have hm : 0 ≤ numF p ((freeL p ys p.n).take k) r * p.o d ∧ numF p ((freeL p ys p.n).take k) r * p.o d ≤ 117648 * 7 := ⟨Int.mul_nonneg (by omega) (by omega), Int.mul_le_mul hb.2 hod.2 (by omega) (by omega)⟩
    have hmb : -9223372036854775808 ≤ numF p ((freeL p ys p.n).take k) r * p.o d ∧ numF p ((freeL p ys p.n).take k) r * p.o d ≤ 9223372036854775807 := ⟨by omega, by omega⟩
    obtain ⟨q, hq⟩ : ∃ q, numF p ((freeL p ys p.n).take k) r * p.o d = q := ⟨_, rfl⟩
    have hstep := numF_take (freeL p ys p.n) r hkn
    rw [hd, hq] at hstep
    refine go ?_
    refine d_region fun w5 he5 _ => ?_
    refine dgo ?_
    rw [hfk]
    refine dgo ?_
    rw [show p.ord.getD ((d : Int).toNat) 0 = p.o d from rfl]
    refine da (h := rs_mul (by ((try simp only [ev_tmp, ev_const, ev_func, get_put, get_args, get_putL, get_putL_nil, Nat.reduceEqDiff, reduceIte, List.getD_cons_zero, List.getD_cons_succ, List.getD_nil]); first | done | with_reducible rfl)) (by ((try simp only [ev_tmp, ev_const, ev_func, get_put, get_args, get_putL, get_putL_nil, Nat.reduceEqDiff, reduceIte, List.getD_cons_zero, List.getD_cons_succ, List.getD_nil]); first | done | with_reducible rfl)) hmb) (next := ?_)
    rw [hq] at hm ⊢
    refine dgo ?_
    rw [hfk]
    refine dgo ?_
    rw [show r.v.getD ((d : Int).toNat) 0 = co r d from rfl]
    refine dgo ?_
    refine d_end (h := ?_)
    refine go ?_
    refine forQ_normal (by omega) ⟨?_, he4.trans he5⟩
    rw [hstep]
    exact hasP
  · obtain rfl : k = (freeL p ys p.n).length := by omega
    rw [List.take_length]
    refine go ?_
    exact ret1 ⟨r, rfl, hr, hE3.trans he4⟩
set_option maxHeartbeats 1000000 in
theorem spec_CosetNumber_ok {p : Pr} {w : World} {vp vu vx : Value} {us : List Value} {xss : List (List Int)} {xs : List Int} {lo hi lo1 hi1 lo2 hi2 : Nat} [hp : Pres lo hi w vp p] [hu : Pc.Rows lo1 hi1 w vu us xss] [hx : Ints lo2 hi2 w vx xs] (hl : p.ord.length ≤ 2000000) :
    Calls Try.prog 31 #[vp, vu, vx] w (Ret fun v w' => ∃ (k e : Int), v = .tuple #[.int .i64 k, .int .i64 e] ∧ Ans (IsSubP p xss ∧ InR p xs) (NumV p xss xs) 0 k e ∧ Ext w w') := by
  obtain ⟨vo, vpw, vc, ps, cs, css, rfl, h1, h2, h3⟩ := hp.ex
  refine enter (args := [.agg #[vo, vpw, vc], vu, vx]) (l := [.tmp 6, .tmp 7]) Try.func31 rfl rfl Try.ntmps31 (by simp) ?_
  refine go ?_
  refine st_box3 (by ((try simp only [ev_tmp, ev_const, ev_func, get_put, get_args, get_putL, get_putL_nil, Nat.reduceEqDiff, reduceIte, List.getD_cons_zero, List.getD_cons_succ, List.getD_nil]); first | done | with_reducible rfl)) (by first | exact True.intro | exact ⟨_, rfl, by ((try simp only [ev_tmp, ev_const, ev_func, get_put, get_args, get_putL, get_putL_nil, Nat.reduceEqDiff, reduceIte, List.getD_cons_zero, List.getD_cons_succ, List.getD_nil, Bool.not_true, Bool.not_false]); first | done | with_reducible rfl)⟩) fun w1 b he1 hb1 hs1 hc0 hc1 hc2 => ?_
  refine go ?_
  refine rc (spec_IsSubgroup_ok (p := p) (xss := xss) hl) (next := fun v5 w5 h5 => ?_)
  obtain ⟨b5, rfl, hb5, he5⟩ := h5
  have hE5 := he1.trans he5
  refine go ?_
  refine sp (fun e5 => ?_) (fun e5 => ?_)
  · refine go ?_
    refine ret2 ⟨0, 1, rfl, .inr ⟨fun h => ?_, rfl, rfl⟩, hE5⟩
    rw [hb5.2 h.1] at e5; cases e5
  have hS := hb5.1 (by simpa using e5)
  obtain ⟨hG, hq⟩ := hS
  haveI : ConAll p := ⟨hG.con⟩
  have hv := hG.valid
  have hn6 := hv.n6
  obtain ⟨ys, hys, hse⟩ := isSeq_iff.1 hq
  have hyl := hse.len
  refine go ?_
  refine rc (l10Element_ok (p := p) (xs := xs) hG.valid) (next := fun v6 w6 h6 => ?_)
  obtain ⟨b6, rfl, hb6, he6⟩ := h6
  have hE6 := hE5.trans he6
  refine go ?_
  refine c_b (fun e6 => ?_) (fun e6 => ?_)
  · refine go ?_
    refine ret2 ⟨0, 1, rfl, .inr ⟨fun h => ?_, rfl, rfl⟩, hE6⟩
    rw [hb6.2 h.2] at e6; cases e6
  have hI := hb6.1 (by simpa using e6)
  obtain ⟨x, hx6⟩ : ∃ x : El p, xs = x.v := ⟨⟨xs, hI, fun i hi => absurd hi (Nat.not_lt_zero i)⟩, rfl⟩
  refine go ?_
  refine rc (l14Number_ok (p := p) (x := x) hse hys hx6) (next := fun v7 w7 h7 => ?_)
  obtain ⟨r, rfl, hr, he7⟩ := h7
  refine go ?_
  exact ret2 ⟨_, 0, rfl, .inl ⟨⟨⟨hG, hq⟩, hI⟩, ⟨_, ys, x, r, hys, hx6, hr, rfl⟩, rfl⟩, hE6.trans he7⟩
set_option maxHeartbeats 1000000 in
theorem l12Orders_ok {p : Pr} [hc : ConAll p] {ys : List (El p)} (hs : SeqOk ys) (hyl : ys.length ≤ 1000) {w : World} {vp vu : Value} {us : List Value} {xss : List (List Int)} {lo hi lo1 hi1 : Nat} [hp : Pres lo hi w vp p] [hu : Pc.Rows lo1 hi1 w vu us xss] (hus : xss = vecs ys) :
    Calls Try.prog 80 #[vp, vu] w (Ret fun v w' => Ext w w' ∧ Fr w.heap.size w' v (ys.map fun y => p.o (lead y.v))) := by
  subst hus
  have hv := hc.valid
  have hn6 := hv.n6
  have hol : p.ord.length = p.n := rfl
  have hvl : (vecs ys).length = ys.length := by simp
  replace hp := hp.wide
  replace hu := hu.wide
  obtain ⟨vo, vpw, vc, ps, cs, css, rfl, h1, h2, h3⟩ := hp.ex
  refine enter (args := [.agg #[vo, vpw, vc], vu]) (l := [.tmp 4]) Try.func80 rfl rfl Try.ntmps80 (by simp) ?_
  refine go ?_
  refine st_box3 (by ((try simp only [ev_tmp, ev_const, ev_func, get_put, get_args, get_putL, get_putL_nil, Nat.reduceEqDiff, reduceIte, List.getD_cons_zero, List.getD_cons_succ, List.getD_nil]); first | done | with_reducible rfl)) (by first | exact True.intro | exact ⟨_, rfl, by ((try simp only [ev_tmp, ev_const, ev_func, get_put, get_args, get_putL, get_putL_nil, Nat.reduceEqDiff, reduceIte, List.getD_cons_zero, List.getD_cons_succ, List.getD_nil, Bool.not_true, Bool.not_false]); first | done | with_reducible rfl)⟩) fun w1 b he1 hb1 hs1 hc0 hc1 hc2 => ?_
  refine go ?_
  refine st_slice0 (by first | exact True.intro | exact ⟨_, rfl, by ((try simp only [ev_tmp, ev_const, ev_func, get_put, get_args, get_putL, get_putL_nil, Nat.reduceEqDiff, reduceIte, List.getD_cons_zero, List.getD_cons_succ, List.getD_nil, Bool.not_true, Bool.not_false]); first | done | with_reducible rfl)⟩) fun w3 v3 he3 hs3 ho3 => ?_
  have hz1 := he1.size
  have hz3 := he3.size
  refine go ?_
  refine r_for ys.length (fun k ρ w' => ∃ vl, Has ρ [(1, vu), (2, .pointer (some ⟨b, 0, none⟩)), (5, vl), (6, .int .i64 k)] ∧ Ext w1 w' ∧ GrowI 2 w1.heap.size w' vl ((ys.take k).map fun y => p.o (lead y.v))) ?_ ?_
  · refine ⟨v3, ?_, he3, by simpa using GrowI.start ho3 (Nat.le_refl _)⟩
    exact hasP
  clear ho3
  rintro k ρ w4 hk ⟨vl, hH, he4, hg4⟩
  refine rwp_has hH fun ρ0 => ?_
  have hz4 := he4.size
  have hkl : ((ys.take k).map fun y => p.o (lead y.v)).length ≤ 1000 := by simp; omega
  refine go ?_
  refine c_if (fun h4 => ?_) (fun h4 => ?_)
  · have hkn : k < ys.length := by omega
    have hg := vecs_getD ys hkn
    have hgl : ((vecs ys).getD k []).length = p.n := by rw [hg]; exact (ys[k]).inr.len
    obtain ⟨hdn, hy1⟩ := hs.lead1 _ (List.getElem_mem hkn)
    obtain ⟨d, hd⟩ : ∃ d, lead (ys[k]).v = d := ⟨_, rfl⟩
    rw [hd] at hdn
    obtain ⟨b', hb', hvb'⟩ := own_some' vl w1.heap.size w4.heap.size (by omega) (fun g h => (hg4.own.lt g h).1)
    have ap1 : Apart 0 w.heap.size b' := ⟨.inr (by omega)⟩
    have ap2 : Apart b (b + 1) b' := ⟨.inr (by omega)⟩
    refine go ?_
    refine z_order b' (List.range 13) (h := fun w5 he5 _ => ?_)
    refine zgo ?_
    refine zc (l12Depth_ok (xs := (vecs ys).getD k []) ?_) (next := fun v6 w6 h7 => ?_)
    · omega
    obtain ⟨rfl, he6⟩ := h7
    rw [hg, hd]
    refine zgo ?_
    rw [show p.ord.getD d 0 = p.o d from rfl]
    have hg6 : GrowI 2 w1.heap.size w6 vl ((ys.take k).map fun y => p.o (lead y.v)) := @GrowI.ext _ _ _ _ _ _ he6 (@GrowI.ext _ _ _ _ _ _ he5 hg4)
    have hz5 := he5.size
    have hz6 := he6.size
    refine z_growi hg6 (by omega) (by omega) hvb' (next := fun v10 v11 w11 hg11 hx11 hz11 hgs11 => ?_)
    refine zgo ?_
    refine z_end ?_
    refine go ?_
    refine forQ_normal (by omega) ⟨v11, ?_, hx11 w1 ((he4.trans he5).trans he6) (Nat.le_refl _), ?_⟩
    · exact hasP
    · rw [List.take_succ_eq_append_getElem hkn, List.map_append, List.map_cons, List.map_nil, hd]; exact hg11
  · obtain rfl : k = ys.length := by omega
    rw [List.take_length] at hg4
    refine go ?_
    exact ret1 ⟨he1.trans he4, hg4.fr.mono (by omega)⟩
theorem l10One_ok {p : Pr} [hc : ConAll p] {w : World} {vp : Value} {lo hi : Nat} [hp : Pres lo hi w vp p] :
    Calls Try.prog 115 #[vp] w (Ret fun v w' => Ext w w' ∧ Fr w.heap.size w' v (1 : El p).v) := by
  have hn6 := hc.valid.n6
  have hol : p.ord.length = p.n := rfl
  obtain ⟨vo, vpw, vc, ps, cs, css, rfl, h1, h2, h3⟩ := hp.ex
  refine enter (args := [.agg #[vo, vpw, vc]]) (l := [.tmp 2]) Try.func115 rfl rfl Try.ntmps115 (by simp) ?_
  refine go ?_
  refine st_box3 (by ((try simp only [ev_tmp, ev_const, ev_func, get_put, get_args, get_putL, get_putL_nil, Nat.reduceEqDiff, reduceIte, List.getD_cons_zero, List.getD_cons_succ, List.getD_nil]); first | done | with_reducible rfl)) (by first | exact True.intro | exact ⟨_, rfl, by ((try simp only [ev_tmp, ev_const, ev_func, get_put, get_args, get_putL, get_putL_nil, Nat.reduceEqDiff, reduceIte, List.getD_cons_zero, List.getD_cons_succ, List.getD_nil, Bool.not_true, Bool.not_false]); first | done | with_reducible rfl)⟩) fun w1 b he1 hb1 hs1 hc0 hc1 hc2 => ?_
  refine go ?_
  refine st_make_int (by ((try simp only [ev_tmp, ev_const, ev_func, get_put, get_args, get_putL, get_putL_nil, Nat.reduceEqDiff, reduceIte, List.getD_cons_zero, List.getD_cons_succ, List.getD_nil]); first | done | with_reducible rfl)) (by ((try simp only [ev_tmp, ev_const, ev_func, get_put, get_args, get_putL, get_putL_nil, Nat.reduceEqDiff, reduceIte, List.getD_cons_zero, List.getD_cons_succ, List.getD_nil]); first | done | with_reducible rfl)) (by omega) (by omega) (by first | exact True.intro | exact ⟨_, rfl, by ((try simp only [ev_tmp, ev_const, ev_func, get_put, get_args, get_putL, get_putL_nil, Nat.reduceEqDiff, reduceIte, List.getD_cons_zero, List.getD_cons_succ, List.getD_nil, Bool.not_true, Bool.not_false]); first | done | with_reducible rfl)⟩) fun w2 v2 he2 hs2 ho2 => ?_
  refine go ?_
  exact ret1 ⟨he1.trans he2, (ho2.toFr (lo := w1.heap.size) (Nat.le_refl _)).mono he1.size⟩
set_option maxHeartbeats 1000000 in
theorem l12Product_ok {p : Pr} [hc : ConAll p] {ys : List (El p)} (hyl : ys.length ≤ 1000) {w : World} {vp vu vx : Value} {us : List Value} {xss : List (List Int)} {as_ : List Int} {lo hi lo1 hi1 lo2 hi2 : Nat} [hp : Pres lo hi w vp p] [hu : Pc.Rows lo1 hi1 w vu us xss] [hx : Ints lo2 hi2 w vx as_] (hus : xss = vecs ys) (hal : as_.length = ys.length) (har : ∀ i, i < ys.length → -1000 ≤ as_.getD i 0 ∧ as_.getD i 0 ≤ 1000) :
    Calls Try.prog 81 #[vp, vu, vx] w (Ret fun v w' => Ext w w' ∧ Fr w.heap.size w' v (prodTo ys as_ ys.length).v) := by
  subst hus
  have hvl : (vecs ys).length = ys.length := by simp
  obtain ⟨vo, vpw, vc, ps, cs, css, rfl, h1, h2, h3⟩ := hp.ex
  refine enter (args := [.agg #[vo, vpw, vc], vu, vx]) (l := [.tmp 6]) Try.func81 rfl rfl Try.ntmps81 (by simp) ?_
  refine go ?_
  refine st_box3 (by ((try simp only [ev_tmp, ev_const, ev_func, get_put, get_args, get_putL, get_putL_nil, Nat.reduceEqDiff, reduceIte, List.getD_cons_zero, List.getD_cons_succ, List.getD_nil]); first | done | with_reducible rfl)) (by first | exact True.intro | exact ⟨_, rfl, by ((try simp only [ev_tmp, ev_const, ev_func, get_put, get_args, get_putL, get_putL_nil, Nat.reduceEqDiff, reduceIte, List.getD_cons_zero, List.getD_cons_succ, List.getD_nil, Bool.not_true, Bool.not_false]); first | done | with_reducible rfl)⟩) fun w1 b he1 hb1 hs1 hc0 hc1 hc2 => ?_
  have hz1 := he1.size
  refine go ?_
  refine rc (l10One_ok (p := p)) (next := fun v2 w2 h4 => ?_)
  obtain ⟨he2, hf2⟩ := h4
  refine go ?_
  refine r_for ys.length (fun k ρ w' => ∃ vr, Has ρ [(1, vu), (2, vx), (3, .pointer (some ⟨b, 0, none⟩)), (7, vr), (8, .int .i64 k)] ∧ Ext w1 w' ∧ Fr w1.heap.size w' vr (prodTo ys as_ k).v) ?_ ?_
  · refine ⟨v2, ?_, he2, hf2⟩
    exact hasP
  clear hf2
  rintro k ρ w3 hk ⟨vr, hH, he3, hf3⟩
  refine rwp_has hH fun ρ0 => ?_
  have hz3 := he3.size
  refine go ?_
  refine c_if (fun h4 => ?_) (fun h4 => ?_)
  · have hkn : k < ys.length := by omega
    have hg := vecs_getD ys hkn
    have hak := har k hkn
    refine go ?_
    refine d_region fun w4 he4 _ => ?_
    refine dgo ?_
    refine dce (l10Pow_ok (p := p) (x := ys[k]) hg ?_) (next := fun v5 w5 h5 => ?_)
    · omega
    obtain ⟨he5, hf5⟩ := h5
    refine dce (l08Mul_ok (p := p) (x := prodTo ys as_ k) (y := Grp.pwz ys[k] (as_.getD k 0)) rfl rfl) (next := fun v6 w6 h6 => ?_)
    obtain ⟨he6, hf6⟩ := h6
    refine dgo ?_
    refine d_end (h := ?_)
    refine go ?_
    have hE := (he3.trans he4).trans he5
    refine forQ_normal (by omega) ⟨v6, ?_, hE.trans he6, ?_⟩
    · exact hasP
    · show Fr w1.heap.size w6 v6 (prodTo ys as_ k * Grp.pwz (ys.getD k 1) (as_.getD k 0)).v
      rw [getD_one hkn]
      exact hf6.mono hE.size
  · obtain rfl : k = ys.length := by omega
    refine go ?_
    exact ret1 ⟨he1.trans he3, hf3.mono hz1⟩
theorem range_iff {p : Pr} {ys : List (El p)} {as_ : List Int} : ExpP (ys.map fun y => p.o (lead y.v)) as_ (-1) ↔ RangeP p (vecs ys) as_ := by
  have e : ∀ i, i < ys.length → (ys.map fun y => p.o (lead y.v)).getD i 0 = p.o (lead ((vecs ys).getD i [])) := fun i hi => by simp [vecs, hi]
  constructor
  · rintro ⟨h1, h2⟩
    have hl : as_.length = ys.length := by simpa using h1
    refine ⟨by simpa using h1, fun i hi => ?_⟩
    have hi' : i < ys.length := by simpa using hi
    have := (h2 i (by omega)).1
    rw [e i hi'] at this
    exact this
  · rintro ⟨h1, h2⟩
    have hl : as_.length = ys.length := by simpa using h1
    refine ⟨by simpa using h1, fun i hi => ⟨?_, fun h => by omega⟩⟩
    rw [e i (by omega)]
    exact h2 i (by simp; omega)
set_option maxHeartbeats 1000000 in
theorem spec_MemberElement_ok {p : Pr} {w : World} {vp vu vx : Value} {us : List Value} {xss : List (List Int)} {as_ : List Int} {lo hi lo1 hi1 lo2 hi2 : Nat} [hp : Pres lo hi w vp p] [hu : Pc.Rows lo1 hi1 w vu us xss] [hx : Ints lo2 hi2 w vx as_] (hl : p.ord.length ≤ 2000000) (hal : as_.length ≤ 2000000) :
    Calls Try.prog 45 #[vp, vu, vx] w (Ret fun v w' => ∃ (u : Value) (k : List Int) (e : Int), v = .tuple #[u, .int .i64 e] ∧ Ans (IsSubP p xss) (MeV p xss as_) [] k e ∧ Ext w w' ∧ Ints w.heap.size w'.heap.size w' u k) := by
  obtain ⟨vo, vpw, vc, ps, cs, css, rfl, h1, h2, h3⟩ := hp.ex
  refine enter (args := [.agg #[vo, vpw, vc], vu, vx]) (l := [.tmp 6, .tmp 7]) Try.func45 rfl rfl Try.ntmps45 (by simp) ?_
  refine go ?_
  refine st_box3 (by ((try simp only [ev_tmp, ev_const, ev_func, get_put, get_args, get_putL, get_putL_nil, Nat.reduceEqDiff, reduceIte, List.getD_cons_zero, List.getD_cons_succ, List.getD_nil]); first | done | with_reducible rfl)) (by first | exact True.intro | exact ⟨_, rfl, by ((try simp only [ev_tmp, ev_const, ev_func, get_put, get_args, get_putL, get_putL_nil, Nat.reduceEqDiff, reduceIte, List.getD_cons_zero, List.getD_cons_succ, List.getD_nil, Bool.not_true, Bool.not_false]); first | done | with_reducible rfl)⟩) fun w1 b he1 hb1 hs1 hc0 hc1 hc2 => ?_
  refine go ?_
  refine rc (spec_IsSubgroup_ok (p := p) (xss := xss) hl) (next := fun v5 w5 h5 => ?_)
  obtain ⟨b5, rfl, hb5, he5⟩ := h5
  have hE5 := he1.trans he5
  refine go ?_
  refine c_b (fun e5 => ?_) (fun e5 => ?_)
  · refine go ?_
    refine ret2 ⟨nilv, [], 1, rfl, .inr ⟨fun h => ?_, rfl, rfl⟩, hE5, Ints.nilR _ _ _⟩
    rw [hb5.2 h] at e5; cases e5
  have hS := hb5.1 (by simpa using e5)
  obtain ⟨hG, hq⟩ := hS
  haveI : ConAll p := ⟨hG.con⟩
  have hv := hG.valid
  have hn6 := hv.n6
  obtain ⟨ys, hys, hse⟩ := isSeq_iff.1 hq
  have hyl := hse.len
  have hE6 := hE5
  refine go ?_
  refine rc (l12Orders_ok (p := p) hse.ok (by omega) hys) (next := fun v7 w7 h7 => ?_)
  obtain ⟨he7, hf7⟩ := h7
  refine go ?_
  refine rc (l07Exponents_ok (os := ys.map fun y => p.o (lead y.v)) (xs := as_) (z := -1) (fun i hi => ?_) ?_) (next := fun v8 w8 h8 => ?_)
  · have hi' : i < ys.length := by simpa using hi
    have := hv.opos (hse.ok.lead1 _ (List.getElem_mem hi')).1
    simp only [List.getD_eq_getElem?_getD, List.getElem?_map, List.getElem?_eq_getElem hi', Option.map_some, Option.getD_some]
    omega
  · simp; omega
  obtain ⟨b8, rfl, hb8, he8⟩ := h8
  rw [range_iff, ← hys] at hb8
  have hE8 := (hE6.trans he7).trans he8
  refine go ?_
  refine c_b (fun e8 => ?_) (fun e8 => ?_)
  · refine go ?_
    refine ret2 ⟨nilv, [], 2, rfl, .inl ⟨⟨hG, hq⟩, .inr ⟨fun h => ?_, rfl, rfl⟩⟩, hE8, Ints.nilR _ _ _⟩
    rw [hb8.2 h] at e8; cases e8
  have hRg := hb8.1 (by simpa using e8)
  have hxl : xss.length = ys.length := by rw [hys]; simp
  refine go ?_
  refine rc (l12Product_ok (p := p) (ys := ys) (by omega) hys ?_ (fun i hi => ?_)) (next := fun v9 w9 h9 => ?_)
  · rw [hRg.1, hxl]
  · have h1 := hRg.2 i (by omega)
    rw [hys, vecs_getD ys hi] at h1
    have := hv.opos (hse.ok.lead1 _ (List.getElem_mem hi)).1
    omega
  obtain ⟨he9, hf9⟩ := h9
  refine go ?_
  exact ret2 ⟨v9, _, 0, rfl, .inl ⟨⟨hG, hq⟩, .inl ⟨hRg, ⟨_, ys, hys, rfl⟩, rfl⟩⟩, hE8.trans he9, (hf9.mono hE8.size).ints⟩
set_option maxHeartbeats 1000000 in
theorem l12Exponents_ok {p : Pr} [hc : ConAll p] {ys : List (El p)} (hs : SeqOk ys) (hyl : ys.length ≤ 1000) {w : World} {vp vu vx : Value} {us : List Value} {xss : List (List Int)} {x : El p} {xs : List Int} {lo hi lo1 hi1 lo2 hi2 : Nat} [hp : Pres lo hi w vp p] [hu : Pc.Rows lo1 hi1 w vu us xss] [hx : Ints lo2 hi2 w vx xs] (hus : xss = vecs ys) (hxe : xs = x.v) :
    Calls Try.prog 77 #[vp, vu, vx] w (Ret fun v w' => Ext w w' ∧ Fr w.heap.size w' v (expsL ys x ys.length)) := by
  subst hus hxe
  have hv := hc.valid
  have hvl : (vecs ys).length = ys.length := by simp
  replace hx := hx.wide
  obtain ⟨vo, vpw, vc, ps, cs, css, rfl, h1, h2, h3⟩ := hp.ex
  refine enter (args := [.agg #[vo, vpw, vc], vu, vx]) (l := [.tmp 6]) Try.func77 rfl rfl Try.ntmps77 (by simp) ?_
  refine go ?_
  refine st_box3 (by ((try simp only [ev_tmp, ev_const, ev_func, get_put, get_args, get_putL, get_putL_nil, Nat.reduceEqDiff, reduceIte, List.getD_cons_zero, List.getD_cons_succ, List.getD_nil]); first | done | with_reducible rfl)) (by first | exact True.intro | exact ⟨_, rfl, by ((try simp only [ev_tmp, ev_const, ev_func, get_put, get_args, get_putL, get_putL_nil, Nat.reduceEqDiff, reduceIte, List.getD_cons_zero, List.getD_cons_succ, List.getD_nil, Bool.not_true, Bool.not_false]); first | done | with_reducible rfl)⟩) fun w1 b he1 hb1 hs1 hc0 hc1 hc2 => ?_
  have hz1 := he1.size
  refine go ?_
  refine st_slice0 (by first | exact True.intro | exact ⟨_, rfl, by ((try simp only [ev_tmp, ev_const, ev_func, get_put, get_args, get_putL, get_putL_nil, Nat.reduceEqDiff, reduceIte, List.getD_cons_zero, List.getD_cons_succ, List.getD_nil, Bool.not_true, Bool.not_false]); first | done | with_reducible rfl)⟩) fun w2 v2 he2 hs2 ho2 => ?_
  have hx2 : IntsAp (fun g => v2.ownBlock = some g) w2 vx x.v := ⟨0, w.heap.size, hx.same ((he1.trans he2).same _ _), by have := he2.size; omega, fun g hg => .inr (by
    rw [ho2.toN_block] at hg; injection hg with hg; omega)⟩
  refine go ?_
  refine r_for ys.length (fun k ρ w' => ∃ vl vr, Has ρ [(1, vu), (2, vr), (3, .pointer (some ⟨b, 0, none⟩)), (7, vl), (8, .int .i64 k)] ∧ Ext w1 w' ∧ GrowI 2 w1.heap.size w' vl (expsL ys x k) ∧ IntsAp (fun g => vl.ownBlock = some g) w' vr (stE ys x k).v) ?_ ?_
  · refine ⟨v2, vx, ?_, he2, by simpa [expsL] using GrowI.start ho2 (Nat.le_refl _), hx2⟩
    exact hasP
  clear ho2 hx2 hx
  rintro k ρ w3 hk ⟨vl, vr, hH, he3, hg3, hi3⟩
  refine rwp_has hH fun ρ0 => ?_
  have hz3 := he3.size
  have hkl := expsL_len ys x k
  have hsl := (stE ys x k).inr.len
  have hi3' := hi3.ints
  refine go ?_
  refine c_if (fun h4 => ?_) (fun h4 => ?_)
  · have hkn : k < ys.length := by omega
    have hg := vecs_getD ys hkn
    have hgl : ((vecs ys).getD k []).length = p.n := by rw [hg]; exact (ys[k]).inr.len
    have hn6 := hv.n6
    obtain ⟨hdn, hy1⟩ := hs.lead1 _ (List.getElem_mem hkn)
    obtain ⟨d, hd⟩ : ∃ d, lead (ys[k]).v = d := ⟨_, rfl⟩
    rw [hd] at hdn
    have hod := hv.opos hdn
    have hcr : 0 ≤ co (stE ys x k) d ∧ co (stE ys x k) d < p.o d := (stE ys x k).inr.rng d hdn
    refine go ?_
    refine rc (l12Depth_ok (xs := (vecs ys).getD k []) ?_) (next := fun v5 w5 h5 => ?_)
    · omega
    obtain ⟨rfl, he5⟩ := h5
    rw [hg, hd]
    refine go ?_
    rw [show (stE ys x k).v.getD d 0 = co (stE ys x k) d from rfl]
    refine go ?_
    refine st_growi (@GrowI.ext _ _ _ _ _ _ he5 hg3) (by have := he5.size; omega) (by omega) (next := fun v10 v11 w11 hg11 hx11 hz11 hgs11 => ?_)
    have hE11 := hx11 w1 (he3.trans he5) (Nat.le_refl _)
    have hi11 := ((hi3.ext he5).gstep hgs11).ints
    have hz11' := hE11.size
    clear hi3'
    refine go ?_
    refine d_order [0, 1, 2, 3, 4, 5, 6, 7, 9, 8, 10, 11] (h := fun w12 he12 _ => ?_)
    refine dgo ?_
    refine dce (l10Pow_ok (p := p) (x := ys[k]) hg ?_) (next := fun v13 w13 h13 => ?_)
    · omega
    obtain ⟨he13, hf13⟩ := h13
    refine dce (l08Mul_ok (p := p) (x := Grp.pwz ys[k] (-(co (stE ys x k) d))) (y := stE ys x k) rfl rfl) (next := fun v14 w14 h14 => ?_)
    obtain ⟨he14, hf14⟩ := h14
    refine dgo ?_
    refine d_end (h := ?_)
    refine go ?_
    have hE13 := he12.trans he13
    have e1 : expsL ys x (k + 1) = expsL ys x k ++ [co (stE ys x k) d] := by rw [expsL_succ, getD_one hkn, hd]
    have e2 : stE ys x (k + 1) = Grp.pwz ys[k] (-(co (stE ys x k) d)) * stE ys x k := by
      show Grp.pwz (ys.getD k 1) _ * _ = _
      rw [getD_one hkn, hd]
    have hl11 : ∀ g, v11.ownBlock = some g → g < w11.heap.size := fun g hg => (hg11.own.lt g hg).2
    refine forQ_normal (by omega) ⟨v11, v14, ?_, hE11.trans (hE13.trans he14), ?_, ?_⟩
    · exact hasP
    · rw [e1]; exact @GrowI.ext _ _ _ _ _ _ (hE13.trans he14) hg11
    · rw [e2]; exact IntsAp.ofFr hf14 fun g hg => by have := hl11 g hg; have := hE13.size; omega
  · obtain rfl : k = ys.length := by omega
    refine go ?_
    exact ret1 ⟨he1.trans he3, hg3.fr.mono hz1⟩
set_option maxHeartbeats 1000000 in
theorem spec_MemberExponents_ok {p : Pr} {w : World} {vp vu vx : Value} {us : List Value} {xss : List (List Int)} {xs : List Int} {lo hi lo1 hi1 lo2 hi2 : Nat} [hp : Pres lo hi w vp p] [hu : Pc.Rows lo1 hi1 w vu us xss] [hx : Ints lo2 hi2 w vx xs] (hl : p.ord.length ≤ 2000000) :
    Calls Try.prog 43 #[vp, vu, vx] w (Ret fun v w' => ∃ (u : Value) (k : List Int) (e : Int), v = .tuple #[u, .int .i64 e] ∧ Ans (IsSubP p xss ∧ InR p xs) (MxV p xss xs) [] k e ∧ Ext w w' ∧ Ints w.heap.size w'.heap.size w' u k) := by
  obtain ⟨vo, vpw, vc, ps, cs, css, rfl, h1, h2, h3⟩ := hp.ex
  refine enter (args := [.agg #[vo, vpw, vc], vu, vx]) (l := [.tmp 6, .tmp 7]) Try.func43 rfl rfl Try.ntmps43 (by simp) ?_
  refine go ?_
  refine st_box3 (by ((try simp only [ev_tmp, ev_const, ev_func, get_put, get_args, get_putL, get_putL_nil, Nat.reduceEqDiff, reduceIte, List.getD_cons_zero, List.getD_cons_succ, List.getD_nil]); first | done | with_reducible rfl)) (by first | exact True.intro | exact ⟨_, rfl, by ((try simp only [ev_tmp, ev_const, ev_func, get_put, get_args, get_putL, get_putL_nil, Nat.reduceEqDiff, reduceIte, List.getD_cons_zero, List.getD_cons_succ, List.getD_nil, Bool.not_true, Bool.not_false]); first | done | with_reducible rfl)⟩) fun w1 b he1 hb1 hs1 hc0 hc1 hc2 => ?_
  refine go ?_
  refine rc (spec_IsSubgroup_ok (p := p) (xss := xss) hl) (next := fun v5 w5 h5 => ?_)
  obtain ⟨b5, rfl, hb5, he5⟩ := h5
  have hE5 := he1.trans he5
  refine go ?_
  refine sp (fun e5 => ?_) (fun e5 => ?_)
  · refine go ?_
    refine ret2 ⟨nilv, [], 1, rfl, .inr ⟨fun h => ?_, rfl, rfl⟩, hE5, Ints.nilR _ _ _⟩
    rw [hb5.2 h.1] at e5; cases e5
  have hS := hb5.1 (by simpa using e5)
  obtain ⟨hG, hq⟩ := hS
  haveI : ConAll p := ⟨hG.con⟩
  have hv := hG.valid
  have hn6 := hv.n6
  obtain ⟨ys, hys, hse⟩ := isSeq_iff.1 hq
  have hyl := hse.len
  refine go ?_
  refine rc (l10Element_ok (p := p) (xs := xs) hG.valid) (next := fun v6 w6 h6 => ?_)
  obtain ⟨b6, rfl, hb6, he6⟩ := h6
  have hE6 := hE5.trans he6
  refine go ?_
  refine c_b (fun e6 => ?_) (fun e6 => ?_)
  · refine go ?_
    refine ret2 ⟨nilv, [], 1, rfl, .inr ⟨fun h => ?_, rfl, rfl⟩, hE6, Ints.nilR _ _ _⟩
    rw [hb6.2 h.2] at e6; cases e6
  have hI := hb6.1 (by simpa using e6)
  obtain ⟨x, hx6⟩ : ∃ x : El p, xs = x.v := ⟨⟨xs, hI, fun i hi => absurd hi (Nat.not_lt_zero i)⟩, rfl⟩
  refine go ?_
  refine rc (l12Has_ok (p := p) (x := x) hse hys hx6) (next := fun v7 w7 h7 => ?_)
  obtain ⟨b7, rfl, hb7, he7⟩ := h7
  rw [← memP_iff, ← hys, ← hx6] at hb7
  have hE7 := hE6.trans he7
  refine go ?_
  refine c_b (fun e7 => ?_) (fun e7 => ?_)
  · refine go ?_
    refine ret2 ⟨nilv, [], 4, rfl, .inl ⟨⟨⟨hG, hq⟩, hI⟩, .inr ⟨fun h => ?_, rfl, rfl⟩⟩, hE7, Ints.nilR _ _ _⟩
    rw [hb7.2 h] at e7; cases e7
  have hM := hb7.1 (by simpa using e7)
  refine go ?_
  refine rc (l12Exponents_ok (p := p) (x := x) hse.ok (by omega) hys hx6) (next := fun v8 w8 h8 => ?_)
  obtain ⟨he8, hf8⟩ := h8
  refine go ?_
  exact ret2 ⟨v8, _, 0, rfl, .inl ⟨⟨⟨hG, hq⟩, hI⟩, .inl ⟨hM, ⟨_, ys, x, hys, hx6, rfl⟩, rfl⟩⟩, hE7.trans he8, (hf8.mono hE7.size).ints⟩
end Go.Proofs.Ytjbhjbmobhhabaa

/-
  Walks: the program's CosetRepresentative.
  Conditions: what the arguments read as.
-/
namespace Go.Proofs.Ytjbhjbmobhhabaa
open Go Go.Pc
set_option maxHeartbeats 1000000 in
theorem impl_CosetRepresentative_ok {p : Pr} {w : World} {vp vu vx : Value} {us : List Value} {xss : List (List Int)} {xs : List Int} {lo hi lo1 hi1 lo2 hi2 : Nat} [hp : Pres lo hi w vp p] [hu : Pc.Rows lo1 hi1 w vu us xss] [hx : Ints lo2 hi2 w vx xs] (hl : p.ord.length ≤ 2000000) :
    Calls Try.prog 42 #[vp, vu, vx] w (Ret fun v w' => ∃ (u : Value) (k : List Int) (e : Int), v = .tuple #[u, .int .i64 e] ∧ Ans (IsSubP p xss ∧ InR p xs) (RepV p xss xs) [] k e ∧ Ext w w' ∧ Fr w.heap.size w' u k) := by
  obtain ⟨vo, vpw, vc, ps, cs, css, rfl, h1, h2, h3⟩ := hp.ex
  refine enter (args := [.agg #[vo, vpw, vc], vu, vx]) (l := [.tmp 6, .tmp 7]) Try.func42 rfl rfl Try.ntmps42 (by simp) ?_
  refine go ?_
  refine st_box3 (by ((try simp only [ev_tmp, ev_const, ev_func, get_put, get_args, get_putL, get_putL_nil, Nat.reduceEqDiff, reduceIte, List.getD_cons_zero, List.getD_cons_succ, List.getD_nil]); first | done | with_reducible rfl)) (by first | exact True.intro | exact ⟨_, rfl, by ((try simp only [ev_tmp, ev_const, ev_func, get_put, get_args, get_putL, get_putL_nil, Nat.reduceEqDiff, reduceIte, List.getD_cons_zero, List.getD_cons_succ, List.getD_nil, Bool.not_true, Bool.not_false]); first | done | with_reducible rfl)⟩) fun w1 b he1 hb1 hs1 hc0 hc1 hc2 => ?_
  have hpp := hp.boxed he1 hc0 hc1 hc2
  refine go ?_
  refine st_slice1 (u := vu) (by ((try simp only [ev_tmp, ev_const, ev_func, get_put, get_args, get_putL, get_putL_nil, Nat.reduceEqDiff, reduceIte, List.getD_cons_zero, List.getD_cons_succ, List.getD_nil]); first | done | with_reducible rfl)) ?_ ?_ (by first | exact True.intro | exact ⟨_, rfl, by ((try simp only [ev_tmp, ev_const, ev_func, get_put, get_args, get_putL, get_putL_nil, Nat.reduceEqDiff, reduceIte, List.getD_cons_zero, List.getD_cons_succ, List.getD_nil, Bool.not_true, Bool.not_false]); first | done | with_reducible rfl)⟩) fun w2 v2 he2 hs2 ho2 => ?_
  · exact hu.sl.cells
  · rfl
  have hE2 := he1.trans he2
  have hR := rowss_one (xss := xss) ho2 inferInstance
  refine go ?_
  refine rc (areSubgroups_ok (p := p) (xsss := [xss]) hl (by simp)) (next := fun v5 w5 h5 => ?_)
  obtain ⟨b5, rfl, hb5, he5⟩ := h5
  rw [areSub1] at hb5
  have hE5 := hE2.trans he5
  refine go ?_
  refine sp (fun e5 => ?_) (fun e5 => ?_)
  · refine go ?_
    refine ret2 ⟨nilv, [], 1, rfl, .inr ⟨fun h => ?_, rfl, rfl⟩, hE5, Fr.nilR _ _⟩
    rw [hb5.2 h.1] at e5; cases e5
  have hS := hb5.1 (by simpa using e5)
  obtain ⟨hG, hq⟩ := hS
  haveI : ConAll p := ⟨hG.con⟩
  have hv := hG.valid
  have hn6 := hv.n6
  obtain ⟨ys, hys, hse⟩ := isSeq_iff.1 hq
  have hyl := hse.len
  refine go ?_
  refine rc (isExponents_ok (p := p) (xs := xs) (fun i hi => hv.opos hi) hl) (next := fun v6 w6 h6 => ?_)
  obtain ⟨b6, rfl, hb6, he6⟩ := h6
  have hE6 := hE5.trans he6
  refine go ?_
  refine c_b (fun e6 => ?_) (fun e6 => ?_)
  · refine go ?_
    refine ret2 ⟨nilv, [], 1, rfl, .inr ⟨fun h => ?_, rfl, rfl⟩, hE6, Fr.nilR _ _⟩
    rw [hb6.2 h.2] at e6; cases e6
  have hI := hb6.1 (by simpa using e6)
  obtain ⟨x, hx6⟩ : ∃ x : El p, xs = x.v := ⟨⟨xs, hI, fun i hi => absurd hi (Nat.not_lt_zero i)⟩, rfl⟩
  refine go ?_
  refine rc (representative_ok (p := p) (x := x) hse.ok hys hx6 (by omega)) (next := fun v7 w7 h7 => ?_)
  obtain ⟨he7, r, hf7, hr⟩ := h7
  refine go ?_
  exact ret2 ⟨v7, r.v, 0, rfl, .inl ⟨⟨⟨hG, hq⟩, hI⟩, ⟨_, ys, x, r, hys, hx6, rfl, hr⟩, rfl⟩, hE6.trans he7, hf7.mono hE6.size⟩
end Go.Proofs.Ytjbhjbmobhhabaa

/-
  Walks: the program's CosetNumber, MemberElement, MemberExponents.
  Conditions: what the arguments read as.
-/
namespace Go.Proofs.Ytjbhjbmobhhabaa
open Go Go.Pc
set_option maxHeartbeats 400000 in
theorem sliceIndex_ok {w : World} {v : Value} {xs : List Int} {k : Int} {lo hi : Nat} [hx : Ints lo hi w v xs] (hl : xs.length ≤ 2000000) :
    Calls Try.prog 153 #[v, .int .i64 k] w (Ret fun v w' => ∃ j : Int, v = .int .i64 j ∧ (0 ≤ j ↔ k ∈ xs) ∧ Ext w w') := by
  refine enter (args := [v, .int .i64 k]) (l := [.tmp 4]) Try.func153 rfl rfl Try.ntmps153 (by simp) ?_
  refine go ?_
  refine r_for xs.length (fun i ρ w' => Has ρ [(0, v), (1, .int .i64 k), (7, .int .i64 xs.length), (8, .int .i64 i)] ∧ Ext w w' ∧ ∀ j, j < i → xs.getD j 0 ≠ k) ?_ ?_
  · refine ⟨?_, Ext.refl _, fun j hj => by omega⟩
    exact hasP
  rintro i ρ w2 hi ⟨hH, he2, hI⟩
  refine rwp_has hH fun ρ0 => ?_
  refine go ?_
  refine c_if (fun h4 => ?_) (fun h4 => ?_)
  · have hin : i < xs.length := by omega
    refine go ?_
    refine c_if (fun h5 => ?_) (fun h5 => ?_)
    · refine go ?_
      refine ret1 ⟨i, rfl, ?_, he2⟩
      refine ⟨fun _ => ?_, fun _ => by omega⟩
      rw [h5]
      simp [hin]
    · refine go ?_
      refine forQ_normal (by omega) ⟨?_, he2, fun j hj => ?_⟩
      · exact hasP
      · by_cases e : j = i
        · subst e; exact fun e => h5 e.symm
        · exact hI j (by omega)
  · refine go ?_
    refine ret1 ⟨-1, rfl, ?_, he2⟩
    refine ⟨fun h => by omega, fun h => ?_⟩
    obtain ⟨j, hj, e⟩ := List.getElem_of_mem h
    exact absurd (by simp [hj, e]) (hI j (by omega))
theorem sliceContains_ok {w : World} {v : Value} {xs : List Int} {k : Int} {lo hi : Nat} [hx : Ints lo hi w v xs] (hl : xs.length ≤ 2000000) :
    Calls Try.prog 135 #[v, .int .i64 k] w (Ret fun v w' => ∃ b, v = .bool b ∧ (b = true ↔ k ∈ xs) ∧ Ext w w') := by
  refine enter (args := [v, .int .i64 k]) (l := [.tmp 4]) Try.func135 rfl rfl Try.ntmps135 (by simp) ?_
  refine go ?_
  refine rc (sliceIndex_ok (xs := xs) (k := k) hl) (next := fun v1 w1 h1 => ?_)
  obtain ⟨j, rfl, hj, he1⟩ := h1
  refine go ?_
  refine ret1 ⟨_, rfl, ?_, he1⟩
  rw [decide_eq_true_iff]; exact hj
set_option maxHeartbeats 1000000 in
theorem otherIndices_ok {p : Pr} [hc : ConAll p] {ys : List (El p)} (hs : SeqOk ys) (hyl : ys.length ≤ 1000) {w : World} {vp vu : Value} {us : List Value} {xss : List (List Int)} {lo hi lo1 hi1 : Nat} [hp : PresP lo hi w vp p] [hu : Pc.Rows lo1 hi1 w vu us xss] (hus : xss = vecs ys) :
    Calls Try.prog 101 #[vp, vu] w (Ret fun v w' => Ext w w' ∧ Fr w.heap.size w' v (ints (freeL p ys p.n))) := by
  subst hus
  have hv := hc.valid
  have hn6 := hv.n6
  have hol : p.ord.length = p.n := rfl
  have hvl : (vecs ys).length = ys.length := by simp
  obtain ⟨g, vo, vpw, vc, ps, cs, css, rfl, hg1, hg2, hc0, hc1, hc2, h1, h2, h3⟩ := hp.ex
  refine enter (args := [.pointer (some ⟨g, 0, none⟩), vu]) (l := [.tmp 4]) Try.func101 rfl rfl Try.ntmps101 (by simp) ?_
  refine go ?_
  refine rc (pivots_ok (xss := vecs ys) ?_ ?_) (next := fun v1 w1 h5 => ?_)
  · omega
  · intro i hi
    rw [vecs_getD ys (by omega), (ys[i]'(by omega)).inr.len]
    exact ⟨(hs.lead1 _ (List.getElem_mem _)).1, by omega⟩
  obtain ⟨he1, hf1⟩ := h5
  have hpi := hf1.ints
  have hpl : ((vecs ys).map fun x => (lead x : Int)).length = ys.length := by simp
  have hmem : ∀ k : Nat, (k : Int) ∈ ((vecs ys).map fun x => (lead x : Int)) ↔ ∃ y, y ∈ ys ∧ lead y.v = k := fun k => by
    simp only [vecs, List.map_map, List.mem_map, Function.comp]
    exact ⟨fun ⟨y, h1, h2⟩ => ⟨y, h1, by omega⟩, fun ⟨y, h1, h2⟩ => ⟨y, h1, by omega⟩⟩
  have hz1 := he1.size
  refine go ?_
  refine r_for p.n (fun k ρ w' => ∃ vl, Has ρ [(0, .pointer (some ⟨g, 0, none⟩)), (5, v1), (6, vl), (14, .int .i64 p.n), (15, .int .i64 k)] ∧ Ext w1 w' ∧ GrowI 3 w1.heap.size w' vl (ints (freeL p ys k))) ?_ ?_
  · refine ⟨nilv, ?_, Ext.refl _, by simpa [freeL] using GrowI.nil _ _ _⟩
    exact hasP
  rintro k ρ w4 hk ⟨vl, hH, he4, hg4⟩
  refine rwp_has hH fun ρ0 => ?_
  have hz4 := he4.size
  have hfl := freeL_len p ys k
  have hfl2 : (ints (freeL p ys k)).length = (freeL p ys k).length := by simp
  refine go ?_
  refine c_if (fun h4 => ?_) (fun h4 => ?_)
  · have hkn : k < p.n := by omega
    refine go ?_
    refine rc (sliceContains_ok (xs := (vecs ys).map fun x => (lead x : Int)) (k := (k : Int)) ?_) (next := fun v5 w5 h6 => ?_)
    · omega
    obtain ⟨b5, rfl, hb5, he5⟩ := h6
    rw [hmem] at hb5
    refine go ?_
    refine c_b (fun h7 => ?_) (fun h7 => ?_)
    · refine go ?_
      refine st_growi (@GrowI.ext _ _ _ _ _ _ he5 hg4) (by have := he5.size; omega) (by omega) (next := fun v10 v11 w11 hg11 hx11 hz11 hgs11 => ?_)
      refine go ?_
      refine forQ_normal (by omega) ⟨v11, ?_, hx11 w1 (he4.trans he5) (Nat.le_refl _), ?_⟩
      · exact hasP
      · rw [freeL_yes fun y hy e => by rw [hb5.2 ⟨y, hy, e⟩] at h7; cases h7]
        simpa using hg11
    · obtain ⟨y, hy, hyl⟩ := hb5.1 (by simpa using h7)
      refine go ?_
      refine forQ_normal (by omega) ⟨vl, ?_, he4.trans he5, ?_⟩
      · exact hasP
      · rw [freeL_no hy hyl]; exact @GrowI.ext _ _ _ _ _ _ he5 hg4
  · obtain rfl : k = p.n := by omega
    refine go ?_
    exact ret1 ⟨he1.trans he4, hg4.fr.mono hz1⟩
set_option maxHeartbeats 1000000 in
theorem cosetNumber_ok {p : Pr} [hc : ConAll p] {ys : List (El p)} (hs : SeqEl ys) {w : World} {vp vu vx : Value} {us : List Value} {xss : List (List Int)} {x : El p} {xs : List Int} {lo hi lo1 hi1 lo2 hi2 : Nat} [hp : PresP lo hi w vp p] [hu : Pc.Rows lo1 hi1 w vu us xss] [hx : Ints lo2 hi2 w vx xs] (hus : xss = vecs ys) (hxe : xs = x.v) :
    Calls Try.prog 70 #[vp, vu, vx] w (Ret fun v w' => ∃ r, v = .int .i64 (numF p (freeL p ys p.n) r) ∧ RepOf ys x r ∧ Ext w w') := by
  have hv := hc.valid
  have hn6 := hv.n6
  have hyl := hs.len
  have hol : p.ord.length = p.n := rfl
  obtain ⟨g, vo, vpw, vc, ps, cs, css, rfl, hg1, hg2, hc0, hc1, hc2, h1, h2, h3⟩ := hp.ex
  refine enter (args := [.pointer (some ⟨g, 0, none⟩), vu, vx]) (l := [.tmp 6]) Try.func70 rfl rfl Try.ntmps70 (by simp) ?_
  refine go ?_
  refine rc (representative_ok (p := p) (x := x) hs.ok hus hxe (by omega)) (next := fun v2 w2 h4 => ?_)
  obtain ⟨he2, r, hf2, hr⟩ := h4
  refine go ?_
  refine rc (otherIndices_ok (p := p) hs.ok (by omega) hus) (next := fun v3 w3 h5 => ?_)
  obtain ⟨he3, hf3⟩ := h5
  have hfl := freeL_len p ys p.n
  have hfl2 : (ints (freeL p ys p.n)).length = (freeL p ys p.n).length := by simp
  have hrl := r.inr.len
  have hlt : ∀ d, d ∈ freeL p ys p.n → d < p.n := fun d hd => freeL_lt hd
  have hE3 := he2.trans he3
  refine go ?_
  refine r_for (freeL p ys p.n).length (fun k ρ w' => Has ρ [(0, .pointer (some ⟨g, 0, none⟩)), (7, v2), (8, .int .i64 (numF p ((freeL p ys p.n).take k) r)), (17, v3), (18, .int .i64 (ints (freeL p ys p.n)).length), (19, .int .i64 k)] ∧ Ext w3 w') ?_ ?_
  · refine ⟨?_, Ext.refl _⟩
    exact hasP
  rintro k ρ w4 hk ⟨hH, he4⟩
  refine rwp_has hH fun ρ0 => ?_
  refine go ?_
  refine c_if (fun h4 => ?_) (fun h4 => ?_)
  · have hkn : k < (freeL p ys p.n).length := by omega
    obtain ⟨d, hd⟩ : ∃ d, (freeL p ys p.n)[k] = d := ⟨_, rfl⟩
    have hdn : d < p.n := by rw [← hd]; exact hlt _ (List.getElem_mem hkn)
    have hfk : (ints (freeL p ys p.n)).getD k 0 = (d : Int) := by simp [hkn, hd]
    have hod := hv.opos hdn
    have hcr : 0 ≤ co r d ∧ co r d < p.o d := r.inr.rng d hdn
    have hb := numF_rng hv (freeL p ys p.n) r hlt (by omega) hk
    have hm : 0 ≤ numF p ((freeL p ys p.n).take k) r * p.o d ∧ numF p ((freeL p ys p.n).take k) r * p.o d ≤ 117648 * 7 := ⟨Int.mul_nonneg (by omega) (by omega), Int.mul_le_mul hb.2 hod.2 (by omega) (by omega)⟩
    have hmb : -9223372036854775808 ≤ numF p ((freeL p ys p.n).take k) r * p.o d ∧ numF p ((freeL p ys p.n).take k) r * p.o d ≤ 9223372036854775807 := ⟨by omega, by omega⟩
    obtain ⟨q, hq⟩ : ∃ q, numF p ((freeL p ys p.n).take k) r * p.o d = q := ⟨_, rfl⟩
    have hstep := numF_take (freeL p ys p.n) r hkn
    rw [hd, hq] at hstep
    refine go ?_
    rw [hfk]
    refine go ?_
    refine d_region fun w5 he5 _ => ?_
    refine dgo ?_
    rw [show p.ord.getD d 0 = p.o d from rfl]
    refine da (h := rs_mul (by ((try simp only [ev_tmp, ev_const, ev_func, get_put, get_args, get_putL, get_putL_nil, Nat.reduceEqDiff, reduceIte, List.getD_cons_zero, List.getD_cons_succ, List.getD_nil]); first | done | with_reducible rfl)) (by ((try simp only [ev_tmp, ev_const, ev_func, get_put, get_args, get_putL, get_putL_nil, Nat.reduceEqDiff, reduceIte, List.getD_cons_zero, List.getD_cons_succ, List.getD_nil]); first | done | with_reducible rfl)) hmb) (next := ?_)
    rw [hq] at hm ⊢
    refine dgo ?_
    rw [show r.v.getD d 0 = co r d from rfl]
    refine dgo ?_
    refine d_end (h := ?_)
    refine go ?_
    refine forQ_normal (by omega) ⟨?_, he4.trans he5⟩
    rw [hstep]
    exact hasP
  · obtain rfl : k = (freeL p ys p.n).length := by omega
    rw [List.take_length]
    refine go ?_
    exact ret1 ⟨r, rfl, hr, hE3.trans he4⟩
set_option maxHeartbeats 1000000 in
theorem impl_CosetNumber_ok {p : Pr} {w : World} {vp vu vx : Value} {us : List Value} {xss : List (List Int)} {xs : List Int} {lo hi lo1 hi1 lo2 hi2 : Nat} [hp : Pres lo hi w vp p] [hu : Pc.Rows lo1 hi1 w vu us xss] [hx : Ints lo2 hi2 w vx xs] (hl : p.ord.length ≤ 2000000) :
    Calls Try.prog 32 #[vp, vu, vx] w (Ret fun v w' => ∃ (k e : Int), v = .tuple #[.int .i64 k, .int .i64 e] ∧ Ans (IsSubP p xss ∧ InR p xs) (NumV p xss xs) 0 k e ∧ Ext w w') := by
  obtain ⟨vo, vpw, vc, ps, cs, css, rfl, h1, h2, h3⟩ := hp.ex
  refine enter (args := [.agg #[vo, vpw, vc], vu, vx]) (l := [.tmp 6, .tmp 7]) Try.func32 rfl rfl Try.ntmps32 (by simp) ?_
  refine go ?_
  refine st_box3 (by ((try simp only [ev_tmp, ev_const, ev_func, get_put, get_args, get_putL, get_putL_nil, Nat.reduceEqDiff, reduceIte, List.getD_cons_zero, List.getD_cons_succ, List.getD_nil]); first | done | with_reducible rfl)) (by first | exact True.intro | exact ⟨_, rfl, by ((try simp only [ev_tmp, ev_const, ev_func, get_put, get_args, get_putL, get_putL_nil, Nat.reduceEqDiff, reduceIte, List.getD_cons_zero, List.getD_cons_succ, List.getD_nil, Bool.not_true, Bool.not_false]); first | done | with_reducible rfl)⟩) fun w1 b he1 hb1 hs1 hc0 hc1 hc2 => ?_
  have hpp := hp.boxed he1 hc0 hc1 hc2
  refine go ?_
  refine st_slice1 (u := vu) (by ((try simp only [ev_tmp, ev_const, ev_func, get_put, get_args, get_putL, get_putL_nil, Nat.reduceEqDiff, reduceIte, List.getD_cons_zero, List.getD_cons_succ, List.getD_nil]); first | done | with_reducible rfl)) ?_ ?_ (by first | exact True.intro | exact ⟨_, rfl, by ((try simp only [ev_tmp, ev_const, ev_func, get_put, get_args, get_putL, get_putL_nil, Nat.reduceEqDiff, reduceIte, List.getD_cons_zero, List.getD_cons_succ, List.getD_nil, Bool.not_true, Bool.not_false]); first | done | with_reducible rfl)⟩) fun w2 v2 he2 hs2 ho2 => ?_
  · exact hu.sl.cells
  · rfl
  have hE2 := he1.trans he2
  have hR := rowss_one (xss := xss) ho2 inferInstance
  refine go ?_
  refine rc (areSubgroups_ok (p := p) (xsss := [xss]) hl (by simp)) (next := fun v5 w5 h5 => ?_)
  obtain ⟨b5, rfl, hb5, he5⟩ := h5
  rw [areSub1] at hb5
  have hE5 := hE2.trans he5
  refine go ?_
  refine sp (fun e5 => ?_) (fun e5 => ?_)
  · refine go ?_
    refine ret2 ⟨0, 1, rfl, .inr ⟨fun h => ?_, rfl, rfl⟩, hE5⟩
    rw [hb5.2 h.1] at e5; cases e5
  have hS := hb5.1 (by simpa using e5)
  obtain ⟨hG, hq⟩ := hS
  haveI : ConAll p := ⟨hG.con⟩
  have hv := hG.valid
  have hn6 := hv.n6
  obtain ⟨ys, hys, hse⟩ := isSeq_iff.1 hq
  have hyl := hse.len
  refine go ?_
  refine rc (isExponents_ok (p := p) (xs := xs) (fun i hi => hv.opos hi) hl) (next := fun v6 w6 h6 => ?_)
  obtain ⟨b6, rfl, hb6, he6⟩ := h6
  have hE6 := hE5.trans he6
  refine go ?_
  refine c_b (fun e6 => ?_) (fun e6 => ?_)
  · refine go ?_
    refine ret2 ⟨0, 1, rfl, .inr ⟨fun h => ?_, rfl, rfl⟩, hE6⟩
    rw [hb6.2 h.2] at e6; cases e6
  have hI := hb6.1 (by simpa using e6)
  obtain ⟨x, hx6⟩ : ∃ x : El p, xs = x.v := ⟨⟨xs, hI, fun i hi => absurd hi (Nat.not_lt_zero i)⟩, rfl⟩
  refine go ?_
  refine rc (cosetNumber_ok (p := p) (x := x) hse hys hx6) (next := fun v7 w7 h7 => ?_)
  obtain ⟨r, rfl, hr, he7⟩ := h7
  refine go ?_
  exact ret2 ⟨_, 0, rfl, .inl ⟨⟨⟨hG, hq⟩, hI⟩, ⟨_, ys, x, r, hys, hx6, hr, rfl⟩, rfl⟩, hE6.trans he7⟩
set_option maxHeartbeats 2000000 in
theorem memberElement_ok {p : Pr} [hc : ConAll p] {ys : List (El p)} (hyl : ys.length ≤ 1000) {w : World} {vp vu vx : Value} {us : List Value} {xss : List (List Int)} {as_ : List Int} {lo hi lo1 hi1 lo2 hi2 : Nat} [hp : PresP lo hi w vp p] [hu : Pc.Rows lo1 hi1 w vu us xss] [hx : Ints lo2 hi2 w vx as_] (hus : xss = vecs ys) (hal : as_.length = ys.length) (har : ∀ i, i < ys.length → 0 ≤ as_.getD i 0 ∧ as_.getD i 0 ≤ 1000) :
    Calls Try.prog 83 #[vp, vu, vx] w (Ret fun v w' => Ext w w' ∧ Fr w.heap.size w' v (prodTo ys as_ ys.length).v) := by
  subst hus
  have hn6 := hc.valid.n6
  have hvl : (vecs ys).length = ys.length := by simp
  have hol : p.ord.length = p.n := rfl
  replace hp := hp.wide
  replace hu := hu.wide
  replace hx := hx.wide
  have hpp := hp
  obtain ⟨g, vo, vpw, vc, ps, cs, css, rfl, hg1, hg2, hc0, hc1, hc2, h1, h2, h3⟩ := hp.ex
  refine enter (args := [.pointer (some ⟨g, 0, none⟩), vu, vx]) (l := [.tmp 6]) Try.func83 rfl rfl Try.ntmps83 (by simp) ?_
  refine go ?_
  refine st_make_int (by ((try simp only [ev_tmp, ev_const, ev_func, get_put, get_args, get_putL, get_putL_nil, Nat.reduceEqDiff, reduceIte, List.getD_cons_zero, List.getD_cons_succ, List.getD_nil]); first | done | with_reducible rfl)) (by ((try simp only [ev_tmp, ev_const, ev_func, get_put, get_args, get_putL, get_putL_nil, Nat.reduceEqDiff, reduceIte, List.getD_cons_zero, List.getD_cons_succ, List.getD_nil]); first | done | with_reducible rfl)) (by omega) (by omega) (by first | exact True.intro | exact ⟨_, rfl, by ((try simp only [ev_tmp, ev_const, ev_func, get_put, get_args, get_putL, get_putL_nil, Nat.reduceEqDiff, reduceIte, List.getD_cons_zero, List.getD_cons_succ, List.getD_nil, Bool.not_true, Bool.not_false]); first | done | with_reducible rfl)⟩) fun w1 v1 he1 hs1 ho1 => ?_
  have hf1 : Fr w.heap.size w1 v1 (1 : El p).v := ho1.toFr (Nat.le_refl _)
  clear ho1
  refine go ?_
  refine r_for ys.length (fun k ρ w' => Has ρ [(0, .pointer (some ⟨g, 0, none⟩)), (1, vu), (7, v1), (16, vx), (17, .int .i64 as_.length), (18, .int .i64 k)] ∧ Ext w w' ∧ Fr w.heap.size w' v1 (prodTo ys as_ k).v) ?_ ?_
  · refine ⟨?_, he1, hf1⟩
    exact hasP
  clear hf1 he1
  rintro k ρ w3 hk ⟨hH, he3, hf3⟩
  refine rwp_has hH fun ρ0 => ?_
  refine go ?_
  refine c_if (fun h4 => ?_) (fun h4 => ?_)
  · have hkn : k < ys.length := by omega
    have hg := vecs_getD ys hkn
    have hak := har k hkn
    refine go ?_
    refine r_for (as_.getD k 0).toNat (fun j ρ w' => Has ρ [(0, .pointer (some ⟨g, 0, none⟩)), (1, vu), (7, v1), (8, .int .i64 k), (16, vx), (17, .int .i64 as_.length), (18, .int .i64 k), (23, .int .i64 (as_.getD k 0)), (24, .int .i64 j)] ∧ Ext w w' ∧ Fr w.heap.size w' v1 (prodTo ys as_ k * Grp.pw ys[k] j).v) ?_ ?_
    · refine ⟨?_, he3, by rw [Grp.pw_zero, Grp.mul_one]; exact hf3⟩
      exact hasP
    clear hf3 he3
    rintro j ρ w4 hj ⟨hH4, he4, hf4⟩
    refine rwp_has hH4 fun ρ1 => ?_
    refine go ?_
    refine c_if (fun h5 => ?_) (fun h5 => ?_)
    · have hui : Ints 0 w.heap.size w (Pc.rowAt vu us k) ((vecs ys).getD k []) := inferInstance
      refine go ?_
      refine rc (timesVectorF_ok (p := p) (i := 0) (w0 := w) (x := prodTo ys as_ k * Grp.pw ys[k] j) (y := ys[k]) he4 hf4 (Nat.zero_le _) rfl hg) (next := fun v5 w5 h6 => ?_)
      obtain ⟨he5, hf5⟩ := h6
      refine go ?_
      refine forQ_normal (by omega) ⟨?_, he5, by rw [Grp.pw_succ, ← Grp.mul_assoc]; exact hf5⟩
      exact hasP
    · obtain rfl : j = (as_.getD k 0).toNat := by omega
      refine go ?_
      refine forQ_normal (by omega) ⟨?_, he4, ?_⟩
      · exact hasP
      · show Fr w.heap.size w4 v1 (prodTo ys as_ k * Grp.pwz (ys.getD k 1) (as_.getD k 0)).v
        rw [getD_one hkn, Grp.pwz_of _ hak.1]
        exact hf4
  · obtain rfl : k = ys.length := by omega
    refine go ?_
    exact ret1 ⟨he3, hf3⟩
set_option maxHeartbeats 2000000 in
theorem impl_MemberElement_ok {p : Pr} {w : World} {vp vu vx : Value} {us : List Value} {xss : List (List Int)} {as_ : List Int} {lo hi lo1 hi1 lo2 hi2 : Nat} [hp : Pres lo hi w vp p] [hu : Pc.Rows lo1 hi1 w vu us xss] [hx : Ints lo2 hi2 w vx as_] (hl : p.ord.length ≤ 2000000) (hal : as_.length ≤ 2000000) :
    Calls Try.prog 46 #[vp, vu, vx] w (Ret fun v w' => ∃ (u : Value) (k : List Int) (e : Int), v = .tuple #[u, .int .i64 e] ∧ Ans (IsSubP p xss) (MeV p xss as_) [] k e ∧ Ext w w' ∧ Fr w.heap.size w' u k) := by
  obtain ⟨vo, vpw, vc, ps, cs, css, rfl, h1, h2, h3⟩ := hp.ex
  refine enter (args := [.agg #[vo, vpw, vc], vu, vx]) (l := [.tmp 6, .tmp 7]) Try.func46 rfl rfl Try.ntmps46 (by simp) ?_
  refine go ?_
  refine st_box3 (by ((try simp only [ev_tmp, ev_const, ev_func, get_put, get_args, get_putL, get_putL_nil, Nat.reduceEqDiff, reduceIte, List.getD_cons_zero, List.getD_cons_succ, List.getD_nil]); first | done | with_reducible rfl)) (by first | exact True.intro | exact ⟨_, rfl, by ((try simp only [ev_tmp, ev_const, ev_func, get_put, get_args, get_putL, get_putL_nil, Nat.reduceEqDiff, reduceIte, List.getD_cons_zero, List.getD_cons_succ, List.getD_nil, Bool.not_true, Bool.not_false]); first | done | with_reducible rfl)⟩) fun w1 b he1 hb1 hs1 hc0 hc1 hc2 => ?_
  have hpp := hp.boxed he1 hc0 hc1 hc2
  refine go ?_
  refine st_slice1 (u := vu) (by ((try simp only [ev_tmp, ev_const, ev_func, get_put, get_args, get_putL, get_putL_nil, Nat.reduceEqDiff, reduceIte, List.getD_cons_zero, List.getD_cons_succ, List.getD_nil]); first | done | with_reducible rfl)) ?_ ?_ (by first | exact True.intro | exact ⟨_, rfl, by ((try simp only [ev_tmp, ev_const, ev_func, get_put, get_args, get_putL, get_putL_nil, Nat.reduceEqDiff, reduceIte, List.getD_cons_zero, List.getD_cons_succ, List.getD_nil, Bool.not_true, Bool.not_false]); first | done | with_reducible rfl)⟩) fun w2 v2 he2 hs2 ho2 => ?_
  · exact hu.sl.cells
  · rfl
  have hE2 := he1.trans he2
  have hR := rowss_one (xss := xss) ho2 inferInstance
  refine go ?_
  refine rc (areSubgroups_ok (p := p) (xsss := [xss]) hl (by simp)) (next := fun v5 w5 h5 => ?_)
  obtain ⟨b5, rfl, hb5, he5⟩ := h5
  rw [areSub1] at hb5
  have hE5 := hE2.trans he5
  refine go ?_
  refine c_b (fun e5 => ?_) (fun e5 => ?_)
  · refine go ?_
    refine ret2 ⟨nilv, [], 1, rfl, .inr ⟨fun h => ?_, rfl, rfl⟩, hE5, Fr.nilR _ _⟩
    rw [hb5.2 h] at e5; cases e5
  have hS := hb5.1 (by simpa using e5)
  obtain ⟨hG, hq⟩ := hS
  haveI : ConAll p := ⟨hG.con⟩
  have hv := hG.valid
  have hn6 := hv.n6
  obtain ⟨ys, hys, hse⟩ := isSeq_iff.1 hq
  have hyl := hse.len
  have hE6 := hE5
  have hol : p.ord.length = p.n := rfl
  have hxl : xss.length = ys.length := by rw [hys]; simp
  have hno : ∀ {w' : World}, ¬ RangeP p xss as_ → Ext w w' → ∃ (u : Value) (k : List Int) (e : Int), Value.tuple #[nilv, .int .i64 2] = .tuple #[u, .int .i64 e] ∧ Ans (IsSubP p xss) (MeV p xss as_) [] k e ∧ Ext w w' ∧ Fr w.heap.size w' u k := fun h he => ⟨nilv, [], 2, rfl, .inl ⟨⟨hG, hq⟩, .inr ⟨h, rfl, rfl⟩⟩, he, Fr.nilR _ _⟩
  refine go ?_
  refine c_if (fun h7 => ?_) (fun h7 => ?_)
  · refine go ?_
    exact ret2 (hno (fun h => h7 (by rw [h.1])) hE6)
  have hal2 : as_.length = xss.length := by omega
  refine go ?_
  refine rc (pivots_ok (xss := xss) ?_ ?_) (next := fun v7 w7 h8 => ?_)
  · omega
  · intro i hi
    rw [hys, vecs_getD ys (by omega), (ys[i]'(by omega)).inr.len]
    exact ⟨(hse.ok.lead1 _ (List.getElem_mem _)).1, by omega⟩
  obtain ⟨he7, hf7⟩ := h8
  have hpi := hf7.ints
  have hpl : (xss.map fun x => (lead x : Int)).length = xss.length := by simp
  have hE7 := hE6.trans he7
  refine go ?_
  refine r_for xss.length (fun k ρ w' => Has ρ [(1, vu), (2, vx), (3, .pointer (some ⟨b, 0, none⟩)), (20, v7), (21, .int .i64 (xss.map fun x => (lead x : Int)).length), (22, .int .i64 k)] ∧ Ext w7 w' ∧ ∀ i, i < k → 0 ≤ as_.getD i 0 ∧ as_.getD i 0 ≤ p.o (lead (xss.getD i [])) - 1) ?_ ?_
  · refine ⟨?_, Ext.refl _, fun i hi => by omega⟩
    exact hasP
  rintro k ρ w8 hk ⟨hH, he8, hI⟩
  refine rwp_has hH fun ρ0 => ?_
  refine go ?_
  refine c_if (fun h9 => ?_) (fun h9 => ?_)
  · have hkn : k < xss.length := by omega
    obtain ⟨d, hd⟩ : ∃ d, lead (xss.getD k []) = d := ⟨_, rfl⟩
    have hdn : d < p.n := by rw [← hd, hys, vecs_getD ys (by omega)]; exact (hse.ok.lead1 _ (List.getElem_mem _)).1
    have hpk : (xss.map fun x => (lead x : Int)).getD k 0 = (d : Int) := by rw [← hd]; simp [hkn]
    have hod := hv.opos hdn
    refine go ?_
    rw [hpk]
    refine go ?_
    refine d_region fun w9 he9 _ => ?_
    refine dgo ?_
    rw [show p.ord.getD d 0 = p.o d from rfl]
    refine dgo ?_
    refine dce inside_ok (next := fun v10 w10 h10 => ?_)
    obtain ⟨b10, rfl, hb10, he10⟩ := h10
    refine dgo ?_
    refine d_end (h := ?_)
    refine go ?_
    have hE10 := (he8.trans he9).trans he10
    refine c_b (fun h11 => ?_) (fun h11 => ?_)
    · refine go ?_
      refine ret2 (hno (fun h => ?_) (hE7.trans hE10))
      have := h.2 k hkn
      rw [hd] at this
      rw [hb10.2 this] at h11; cases h11
    · have h12 := hb10.1 (by simpa using h11)
      refine go ?_
      refine forQ_normal (by omega) ⟨?_, hE10, fun i hi => ?_⟩
      · exact hasP
      · by_cases e : i = k
        · subst e; rw [hd]; exact h12
        · exact hI i (by omega)
  · obtain rfl : k = xss.length := by omega
    have hR : RangeP p xss as_ := ⟨hal2, hI⟩
    refine go ?_
    refine rc (memberElement_ok (p := p) (ys := ys) (as_ := as_) (by omega) hys (by omega) (fun i hi => ?_)) (next := fun v9 w9 h9 => ?_)
    · have h1 := hI i (by omega)
      rw [hys, vecs_getD ys hi] at h1
      have := hv.opos (hse.ok.lead1 _ (List.getElem_mem hi)).1
      omega
    obtain ⟨he9, hf9⟩ := h9
    have hE8 := hE7.trans he8
    refine go ?_
    exact ret2 ⟨v9, _, 0, rfl, .inl ⟨⟨hG, hq⟩, .inl ⟨hR, ⟨_, ys, hys, rfl⟩, rfl⟩⟩, hE8.trans he9, hf9.mono hE8.size⟩
set_option maxHeartbeats 1000000 in
theorem memberExponents_ok {p : Pr} [hc : ConAll p] {ys : List (El p)} (hs : SeqEl ys) {w : World} {vp vu vx : Value} {us : List Value} {xss : List (List Int)} {x : El p} {xs : List Int} {lo hi lo1 hi1 lo2 hi2 : Nat} [hp : PresP lo hi w vp p] [hu : Pc.Rows lo1 hi1 w vu us xss] [hx : Ints lo2 hi2 w vx xs] (hus : xss = vecs ys) (hxe : xs = x.v) :
    Calls Try.prog 78 #[vp, vu, vx] w (Ret fun v w' => ∃ (u : Value) (b : Bool), v = .tuple #[u, .bool b] ∧ (b = true ↔ Gen (fun a : El p => a ∈ ys) x) ∧ Ext w w' ∧ Fr w.heap.size w' u (expsL ys x ys.length)) := by
  subst hus hxe
  have hv := hc.valid
  have hn6 := hv.n6
  have hyl := hs.len
  have hvl : (vecs ys).length = ys.length := by simp
  replace hx := hx.wide
  refine enter (args := [vp, vu, vx]) (l := [.tmp 6, .tmp 7]) Try.func78 rfl rfl Try.ntmps78 (by simp) ?_
  refine go ?_
  refine rc (pivots_ok (xss := vecs ys) ?_ ?_) (next := fun v1 w1 h5 => ?_)
  · omega
  · intro i hi
    rw [vecs_getD ys (by omega), (ys[i]'(by omega)).inr.len]
    exact ⟨(hs.ok.lead1 _ (List.getElem_mem _)).1, by omega⟩
  obtain ⟨he1, hf1⟩ := h5
  have hpi := hf1.ints
  have hpl : ((vecs ys).map fun x => (lead x : Int)).length = ys.length := by simp
  have hz1 := he1.size
  have hx1 : IntsAp (fun g => nilv.ownBlock = some g) w1 vx x.v := ⟨0, w.heap.size, hx.same (he1.same _ _), hz1, fun g hg => by cases hg⟩
  refine go ?_
  refine r_for ys.length (fun k ρ w' => ∃ vl vr, Has ρ [(0, vp), (1, vu), (2, vr), (8, vl), (13, v1), (14, .int .i64 ((vecs ys).map fun x => (lead x : Int)).length), (15, .int .i64 k)] ∧ Ext w1 w' ∧ GrowI 2 w1.heap.size w' vl (expsL ys x k) ∧ IntsAp (fun g => vl.ownBlock = some g) w' vr (stE ys x k).v) ?_ ?_
  · refine ⟨nilv, vx, ?_, Ext.refl _, by simpa [expsL] using GrowI.nil _ _ _, hx1⟩
    exact hasP
  clear hx1 hx
  rintro k ρ w3 hk ⟨vl, vr, hH, he3, hg3, hi3⟩
  refine rwp_has hH fun ρ0 => ?_
  have hz3 := he3.size
  have hkl := expsL_len ys x k
  have hsl := (stE ys x k).inr.len
  have hi3' := hi3.ints
  refine go ?_
  refine c_if (fun h4 => ?_) (fun h4 => ?_)
  · have hkn : k < ys.length := by omega
    have hg := vecs_getD ys hkn
    obtain ⟨hdn, hy1⟩ := hs.ok.lead1 _ (List.getElem_mem hkn)
    obtain ⟨d, hd⟩ : ∃ d, lead (ys[k]).v = d := ⟨_, rfl⟩
    rw [hd] at hdn
    have hpk : ((vecs ys).map fun x => (lead x : Int)).getD k 0 = (d : Int) := by rw [← hd]; simp [vecs, hkn]
    have hod := hv.opos hdn
    have hcr : 0 ≤ co (stE ys x k) d ∧ co (stE ys x k) d < p.o d := (stE ys x k).inr.rng d hdn
    refine go ?_
    rw [hpk]
    refine go ?_
    rw [show (stE ys x k).v.getD ((d : Int).toNat) 0 = co (stE ys x k) d from rfl]
    refine go ?_
    refine st_growi hg3 hz3 (by omega) (next := fun v10 v11 w11 hg11 hx11 hz11 hgs11 => ?_)
    have hE11 := hx11 w1 he3 (Nat.le_refl _)
    have hi11 := (hi3.gstep hgs11).ints
    have hz11' := hE11.size
    clear hi3'
    refine go ?_
    refine rc (power_ok (p := p) (x := ys[k]) (Nat.zero_le _) hg ?_) (next := fun v13 w13 h13 => ?_)
    · omega
    obtain ⟨he13, hf13⟩ := h13
    refine go ?_
    refine rc (invert_ok (p := p) (i := 0) (x := Grp.pw ys[k] (co (stE ys x k) d).toNat) rfl) (next := fun v14 w14 h14 => ?_)
    obtain ⟨he14, hf14⟩ := h14
    refine go ?_
    refine rc (multiply_ok (p := p) (i := 0) (x := (Grp.pw ys[k] (co (stE ys x k) d).toNat)⁻¹) (y := stE ys x k) (Nat.zero_le _) rfl rfl) (next := fun v15 w15 h15 => ?_)
    obtain ⟨he15, hf15⟩ := h15
    refine go ?_
    have hE14 := he13.trans he14
    have e1 : expsL ys x (k + 1) = expsL ys x k ++ [co (stE ys x k) d] := by rw [expsL_succ, getD_one hkn, hd]
    have e2 : stE ys x (k + 1) = (Grp.pw ys[k] (co (stE ys x k) d).toNat)⁻¹ * stE ys x k := by
      show Grp.pwz (ys.getD k 1) _ * _ = _
      have e3 := Grp.pwz_neg ys[k] (co (stE ys x k) d).toNat
      rw [Int.toNat_of_nonneg hcr.1] at e3
      rw [getD_one hkn, hd, e3]
    have hl11 : ∀ g, v11.ownBlock = some g → g < w11.heap.size := fun g hg => (hg11.own.lt g hg).2
    refine forQ_normal (by omega) ⟨v11, v15, ?_, hE11.trans (hE14.trans he15), ?_, ?_⟩
    · exact hasP
    · rw [e1]; exact @GrowI.ext _ _ _ _ _ _ (hE14.trans he15) hg11
    · rw [e2]; exact IntsAp.ofFr hf15 fun g hg => by have := hl11 g hg; have := hE14.size; omega
  · obtain rfl : k = ys.length := by omega
    refine go ?_
    refine rc (isZero_ok (xs := (stE ys x ys.length).v) ?_) (next := fun v4 w4 h6 => ?_)
    · omega
    obtain ⟨b4, rfl, hb4, he4⟩ := h6
    rw [← el_one_iff, stE_one hs] at hb4
    refine go ?_
    exact ret2 ⟨vl, b4, rfl, hb4, (he1.trans he3).trans he4, (hg3.fr.mono hz1).ext' he4⟩
set_option maxHeartbeats 1000000 in
theorem impl_MemberExponents_ok {p : Pr} {w : World} {vp vu vx : Value} {us : List Value} {xss : List (List Int)} {xs : List Int} {lo hi lo1 hi1 lo2 hi2 : Nat} [hp : Pres lo hi w vp p] [hu : Pc.Rows lo1 hi1 w vu us xss] [hx : Ints lo2 hi2 w vx xs] (hl : p.ord.length ≤ 2000000) :
    Calls Try.prog 44 #[vp, vu, vx] w (Ret fun v w' => ∃ (u : Value) (k : List Int) (e : Int), v = .tuple #[u, .int .i64 e] ∧ Ans (IsSubP p xss ∧ InR p xs) (MxV p xss xs) [] k e ∧ Ext w w' ∧ Fr w.heap.size w' u k) := by
  obtain ⟨vo, vpw, vc, ps, cs, css, rfl, h1, h2, h3⟩ := hp.ex
  refine enter (args := [.agg #[vo, vpw, vc], vu, vx]) (l := [.tmp 6, .tmp 7]) Try.func44 rfl rfl Try.ntmps44 (by simp) ?_
  refine go ?_
  refine st_box3 (by ((try simp only [ev_tmp, ev_const, ev_func, get_put, get_args, get_putL, get_putL_nil, Nat.reduceEqDiff, reduceIte, List.getD_cons_zero, List.getD_cons_succ, List.getD_nil]); first | done | with_reducible rfl)) (by first | exact True.intro | exact ⟨_, rfl, by ((try simp only [ev_tmp, ev_const, ev_func, get_put, get_args, get_putL, get_putL_nil, Nat.reduceEqDiff, reduceIte, List.getD_cons_zero, List.getD_cons_succ, List.getD_nil, Bool.not_true, Bool.not_false]); first | done | with_reducible rfl)⟩) fun w1 b he1 hb1 hs1 hc0 hc1 hc2 => ?_
  have hpp := hp.boxed he1 hc0 hc1 hc2
  refine go ?_
  refine st_slice1 (u := vu) (by ((try simp only [ev_tmp, ev_const, ev_func, get_put, get_args, get_putL, get_putL_nil, Nat.reduceEqDiff, reduceIte, List.getD_cons_zero, List.getD_cons_succ, List.getD_nil]); first | done | with_reducible rfl)) ?_ ?_ (by first | exact True.intro | exact ⟨_, rfl, by ((try simp only [ev_tmp, ev_const, ev_func, get_put, get_args, get_putL, get_putL_nil, Nat.reduceEqDiff, reduceIte, List.getD_cons_zero, List.getD_cons_succ, List.getD_nil, Bool.not_true, Bool.not_false]); first | done | with_reducible rfl)⟩) fun w2 v2 he2 hs2 ho2 => ?_
  · exact hu.sl.cells
  · rfl
  have hE2 := he1.trans he2
  have hR := rowss_one (xss := xss) ho2 inferInstance
  refine go ?_
  refine rc (areSubgroups_ok (p := p) (xsss := [xss]) hl (by simp)) (next := fun v5 w5 h5 => ?_)
  obtain ⟨b5, rfl, hb5, he5⟩ := h5
  rw [areSub1] at hb5
  have hE5 := hE2.trans he5
  refine go ?_
  refine sp (fun e5 => ?_) (fun e5 => ?_)
  · refine go ?_
    refine ret2 ⟨nilv, [], 1, rfl, .inr ⟨fun h => ?_, rfl, rfl⟩, hE5, Fr.nilR _ _⟩
    rw [hb5.2 h.1] at e5; cases e5
  have hS := hb5.1 (by simpa using e5)
  obtain ⟨hG, hq⟩ := hS
  haveI : ConAll p := ⟨hG.con⟩
  have hv := hG.valid
  have hn6 := hv.n6
  obtain ⟨ys, hys, hse⟩ := isSeq_iff.1 hq
  have hyl := hse.len
  refine go ?_
  refine rc (isExponents_ok (p := p) (xs := xs) (fun i hi => hv.opos hi) hl) (next := fun v6 w6 h6 => ?_)
  obtain ⟨b6, rfl, hb6, he6⟩ := h6
  have hE6 := hE5.trans he6
  refine go ?_
  refine c_b (fun e6 => ?_) (fun e6 => ?_)
  · refine go ?_
    refine ret2 ⟨nilv, [], 1, rfl, .inr ⟨fun h => ?_, rfl, rfl⟩, hE6, Fr.nilR _ _⟩
    rw [hb6.2 h.2] at e6; cases e6
  have hI := hb6.1 (by simpa using e6)
  obtain ⟨x, hx6⟩ : ∃ x : El p, xs = x.v := ⟨⟨xs, hI, fun i hi => absurd hi (Nat.not_lt_zero i)⟩, rfl⟩
  refine go ?_
  refine rc (memberExponents_ok (p := p) (x := x) hse hys hx6) (next := fun v7 w7 h7 => ?_)
  obtain ⟨u7, b7, rfl, hb7, he7, hf7⟩ := h7
  rw [← memP_iff, ← hys, ← hx6] at hb7
  have hE7 := hE6.trans he7
  refine go ?_
  refine c_b (fun e7 => ?_) (fun e7 => ?_)
  · refine go ?_
    refine ret2 ⟨nilv, [], 4, rfl, .inl ⟨⟨⟨hG, hq⟩, hI⟩, .inr ⟨fun h => ?_, rfl, rfl⟩⟩, hE7, Fr.nilR _ _⟩
    rw [hb7.2 h] at e7; cases e7
  have hM := hb7.1 (by simpa using e7)
  refine go ?_
  exact ret2 ⟨u7, _, 0, rfl, .inl ⟨⟨⟨hG, hq⟩, hI⟩, .inl ⟨hM, ⟨_, ys, x, hys, hx6, rfl⟩, rfl⟩⟩, hE7, hf7.mono hE6.size⟩
end Go.Proofs.Ytjbhjbmobhhabaa
