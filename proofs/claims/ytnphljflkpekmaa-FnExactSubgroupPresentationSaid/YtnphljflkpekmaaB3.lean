/-
  Texts of one proof, put together by program: W07, I01, I01b, Lead, I02, I08, I08b, I08c, Queue, Tab, Can, Seq, W07b, W08, W08b, W08c, W08d, W10, W10b, W10c, W12, I12, More, W01c.
  Conditions: those told at each part.
-/
import Derived.Test.YtnphljflkpekmaaB2
import Derived.Deep.AppendSrc
set_option linter.unusedVariables false
set_option linter.unusedSimpArgs false
set_option linter.unusedSectionVars false
set_option linter.constructorNameAsVariable false
set_option linter.unnecessarySimpa false
set_option linter.deprecated false
/-
  Walks: the reference's checks of a presentation (l01Prime, l07Product, l07Exponents, IsPresentation).
  Conditions: stated at each theorem.
-/
namespace Go.Proofs.Ytnphljflkpekmaa
open Go Go.Pc
theorem l01In_ok {n l h : Int} {w : World} : Calls Try.prog 129 #[.int .i64 n, .int .i64 l, .int .i64 h] w (Ret fun v w' => ∃ b, v = .bool b ∧ (b = true ↔ l ≤ n ∧ n ≤ h) ∧ Ext w w') := by
  refine enter (args := [.int .i64 n, .int .i64 l, .int .i64 h]) (l := [.tmp 6]) Try.func129 rfl rfl Try.ntmps129 (by simp) ?_
  refine go ?_
  refine spd (fun h1 => ?_) (fun h1 => ?_)
  · refine go ?_
    refine ret1 ⟨_, rfl, ?_, Ext.refl _⟩
    simp [h1]
  · refine go ?_
    refine ret1 ⟨_, rfl, ?_, Ext.refl _⟩
    simp [h1]
theorem l01Prime_ok {n : Int} {w : World} : Calls Try.prog 103 #[.int .i64 n] w (Ret fun v w' => ∃ b, v = .bool b ∧ (b = true ↔ (n = 2 ∨ n = 3 ∨ n = 5 ∨ n = 7)) ∧ Ext w w') := by
  refine enter (args := [.int .i64 n]) (l := [.tmp 2]) Try.func103 rfl rfl Try.ntmps103 (by simp) ?_
  refine go ?_
  refine spd (fun h1 => ?_) (fun h1 => ?_)
  · refine go ?_
    refine ret1 ⟨_, rfl, ?_, Ext.refl _⟩
    simp [h1]
  · refine go ?_
    refine spd (fun h2 => ?_) (fun h2 => ?_)
    · refine go ?_
      refine ret1 ⟨_, rfl, ?_, Ext.refl _⟩
      simp [h2]
    · refine go ?_
      refine spd (fun h3 => ?_) (fun h3 => ?_)
      · refine go ?_
        refine ret1 ⟨_, rfl, ?_, Ext.refl _⟩
        simp [h3]
      · refine go ?_
        refine ret1 ⟨_, rfl, ?_, Ext.refl _⟩
        simp [h1, h2, h3]
def capMul (a o : Int) : Int := if a ≤ 729 then a * o else a
theorem capMul_foldl : ∀ (l : List Int) (a : Int), (∀ o ∈ l, 1 ≤ o) → 1 ≤ a → (l.foldl capMul a ≤ 729 ↔ l.foldl (· * ·) a ≤ 729) ∧ a ≤ l.foldl (· * ·) a ∧ (l.foldl capMul a ≤ 729 → l.foldl capMul a = l.foldl (· * ·) a)
  | [], a, _, _ => by simp
  | o :: l, a, ho, ha => by
    have h1 := ho o (by simp)
    have hao : a ≤ a * o := by
      have := Int.mul_le_mul_of_nonneg_left h1 (show 0 ≤ a by omega)
      rw [Int.mul_one] at this; exact this
    have ih := fun b hb => capMul_foldl l b (fun x hx => ho x (by simp [hx])) hb
    simp only [List.foldl_cons, capMul]
    have i2 := ih (a * o) (by omega)
    by_cases h : a ≤ 729
    · rw [if_pos h]
      exact ⟨i2.1, by omega, i2.2.2⟩
    · rw [if_neg h]
      have i1 := ih a ha
      have hcap : ¬ l.foldl capMul a ≤ 729 := by rw [i1.1]; omega
      exact ⟨⟨fun h => absurd h hcap, fun h => by omega⟩, by omega, fun h => absurd h hcap⟩
theorem capMul_bd : ∀ (l : List Int) (a : Int), (∀ o ∈ l, 1 ≤ o ∧ o ≤ 7) → 1 ≤ a → a ≤ 5103 → 1 ≤ l.foldl capMul a ∧ l.foldl capMul a ≤ 5103
  | [], a, _, h1, h2 => ⟨h1, h2⟩
  | o :: l, a, ho, h1, h2 => by
    have h := ho o (by simp)
    simp only [List.foldl_cons]
    have hc : 1 ≤ capMul a o ∧ capMul a o ≤ 5103 := by
      unfold capMul
      split
      · have e1 := Int.mul_le_mul_of_nonneg_left h.1 (show 0 ≤ a by omega)
        have e2 : a * o ≤ 729 * 7 := Int.mul_le_mul (by omega) h.2 (by omega) (by omega)
        omega
      · omega
    exact capMul_bd l _ (fun x hx => ho x (by simp [hx])) hc.1 hc.2
theorem foldl_take_succ {α β : Type} (f : β → α → β) (b : β) (d : α) (l : List α) (k : Nat) (hk : k < l.length) : (l.take (k + 1)).foldl f b = f ((l.take k).foldl f b) (l.getD k d) := by
  rw [List.take_succ_eq_append_getElem hk, List.foldl_append]; simp [hk]
set_option maxHeartbeats 400000 in
theorem l07Product_ok {w : World} {v : Value} {xs : List Int} {lo hi : Nat} [hx : Ints lo hi w v xs] (ho : ∀ o ∈ xs, 1 ≤ o ∧ o ≤ 7) (hl : xs.length ≤ 2000000) :
    Calls Try.prog 104 #[v] w (Ret fun v' w' => v' = .int .i64 (xs.foldl capMul 1) ∧ Ext w w') := by
  refine enter (args := [v]) (l := [.tmp 2]) Try.func104 rfl rfl Try.ntmps104 (by simp) ?_
  refine go ?_
  refine r_for xs.length (fun k ρ w' => Has ρ [(0, v), (3, .int .i64 ((xs.take k).foldl capMul 1)), (4, .int .i64 k)] ∧ Ext w w') ?_ ?_
  · refine ⟨?_, Ext.refl _⟩
    exact hasP
  · rintro k ρ w1 hk ⟨hH, he⟩
    refine rwp_has hH fun ρ0 => ?_
    refine go ?_
    refine c_if (fun h1 => ?_) (fun h1 => ?_)
    · have hkl : k < xs.length := by omega
      have hb := capMul_bd (xs.take k) 1 (fun o h => ho o (List.mem_of_mem_take h)) (by omega) (by omega)
      have hok := ho (xs.getD k 0) (by simp [hkl])
      have hsucc := foldl_take_succ capMul 1 0 xs k hkl
      refine go ?_
      refine c_if (fun h2 => ?_) (fun h2 => ?_)
      · have e1 := Int.mul_le_mul_of_nonneg_left hok.1 (show 0 ≤ (xs.take k).foldl capMul 1 by omega)
        have e2 : (xs.take k).foldl capMul 1 * xs.getD k 0 ≤ 729 * 7 := Int.mul_le_mul (by omega) hok.2 (by omega) (by omega)
        have hc : capMul ((xs.take k).foldl capMul 1) (xs.getD k 0) = (xs.take k).foldl capMul 1 * xs.getD k 0 := if_pos h2
        rw [hc] at hsucc
        refine go ?_
        refine ra (h := rd_mul (by ((try simp only [ev_tmp, ev_const, ev_func, get_put, get_args, get_putL, get_putL_nil, Nat.reduceEqDiff, reduceIte, List.getD_cons_zero, List.getD_cons_succ, List.getD_nil]); first | done | with_reducible rfl)) (by ((try simp only [ev_tmp, ev_const, ev_func, get_put, get_args, get_putL, get_putL_nil, Nat.reduceEqDiff, reduceIte, List.getD_cons_zero, List.getD_cons_succ, List.getD_nil]); first | done | with_reducible rfl)) ?_) (next := ?_)
        · omega
        refine go ?_
        refine forQ_normal hkl ⟨?_, he⟩
        rw [hsucc]
        exact hasP
      · have hc : capMul ((xs.take k).foldl capMul 1) (xs.getD k 0) = (xs.take k).foldl capMul 1 := if_neg h2
        rw [hc] at hsucc
        refine go ?_
        refine forQ_normal hkl ⟨?_, he⟩
        rw [hsucc]
        exact hasP
    · refine go ?_
      have : k = xs.length := by omega
      subst this
      refine ret1 ⟨?_, he⟩
      rw [List.take_of_length_le (Nat.le_refl _)]
/-- The entries of a vector under a list of orders. -/
def ExpP (os v : List Int) (z : Int) : Prop := v.length = os.length ∧ ∀ i, i < v.length → (0 ≤ v.getD i 0 ∧ v.getD i 0 ≤ os.getD i 0 - 1) ∧ ((i : Int) ≤ z → v.getD i 0 = 0)
set_option maxHeartbeats 1000000 in
theorem l07Exponents_ok {w : World} {vo vv : Value} {os xs : List Int} {z : Int} {lo hi lo1 hi1 : Nat} [ho : Ints lo hi w vo os] [hx : Ints lo1 hi1 w vv xs] (hb : ∀ i, i < os.length → 0 ≤ os.getD i 0 ∧ os.getD i 0 ≤ 2000000) (hl : os.length ≤ 2000000) :
    Calls Try.prog 105 #[vo, vv, .int .i64 z] w (Ret fun v' w' => ∃ b, v' = .bool b ∧ (b = true ↔ ExpP os xs z) ∧ Ext w w') := by
  refine enter (args := [vo, vv, .int .i64 z]) (l := [.tmp 6]) Try.func105 rfl rfl Try.ntmps105 (by simp) ?_
  refine go ?_
  refine c_if (fun h1 => ?_) (fun h1 => ?_)
  · refine go ?_
    refine ret1 ⟨_, rfl, ?_, Ext.refl _⟩
    simp only [Bool.false_eq_true, false_iff]
    rintro ⟨h, _⟩
    exact h1 (by rw [h])
  · refine go ?_
    refine r_for xs.length (fun k ρ w' => Has ρ [(0, vo), (1, vv), (2, .int .i64 z), (7, .int .i64 k)] ∧ Ext w w' ∧ ∀ i, i < k → (0 ≤ xs.getD i 0 ∧ xs.getD i 0 ≤ os.getD i 0 - 1) ∧ ((i : Int) ≤ z → xs.getD i 0 = 0)) ?_ ?_
    · refine ⟨?_, Ext.refl _, fun i hi => by omega⟩
      exact hasP
    · rintro k ρ w1 hk ⟨hH, he, hpre⟩
      refine rwp_has hH fun ρ0 => ?_
      refine go ?_
      refine c_if (fun h2 => ?_) (fun h2 => ?_)
      · have hkl : k < xs.length := by omega
        have hko : k < os.length := by omega
        have hbk := hb k hko
        refine go ?_
        refine d_region fun w2 he2 _ => ?_
        refine dgo ?_
        refine dc l01In_ok (next := fun v3 w3 h3 => ?_)
        obtain ⟨b3, rfl, hb3, he3⟩ := h3
        refine ⟨fun h => h.trans he3, ?_⟩
        have hE := (he.trans he2).trans he3
        have close_no : ∀ (hneg : ¬ ((0 ≤ xs.getD k 0 ∧ xs.getD k 0 ≤ os.getD k 0 - 1) ∧ ((k : Int) ≤ z → xs.getD k 0 = 0))), (false = true ↔ ExpP os xs z) := by
          intro hneg
          simp only [Bool.false_eq_true, false_iff]
          rintro ⟨_, h⟩
          exact hneg (h k hkl)
        refine da (next := ?_)
        refine da (next := ?_)
        refine dsp (fun h5 => ?_) (fun h5 => ?_)
        · refine dgo ?_
          refine d_end (h := ?_)
          refine go ?_
          refine ret1 ⟨_, rfl, close_no ?_, hE⟩
          rintro ⟨h, _⟩
          rw [hb3.2 h] at h5; cases h5
        · have h6 := hb3.1 (by simpa using h5)
          refine dgo ?_
          refine dspd (fun h7 => ?_) (fun h7 => ?_)
          · refine dgo ?_
            refine d_end (h := ?_)
            refine go ?_
            refine c_if (fun h8 => ?_) (fun h8 => ?_)
            · refine go ?_
              refine ret1 ⟨_, rfl, close_no ?_, hE⟩
              rintro ⟨_, h⟩
              exact h8 (h h7)
            · refine go ?_
              refine forQ_normal hkl ⟨?_, hE, fun i hi => ?_⟩
              · exact hasP
              · by_cases e : i = k
                · subst e; exact ⟨h6, fun _ => Decidable.not_not.1 h8⟩
                · exact hpre i (by omega)
          · refine dgo ?_
            refine d_end (h := ?_)
            refine go ?_
            refine forQ_normal hkl ⟨?_, hE, fun i hi => ?_⟩
            · exact hasP
            · by_cases e : i = k
              · subst e; exact ⟨h6, fun h => absurd h h7⟩
              · exact hpre i (by omega)
      · refine go ?_
        refine ret1 ⟨_, rfl, ?_, he⟩
        simp only [true_iff]
        exact ⟨by omega, fun i hi => hpre i (by omega)⟩
end Go.Proofs.Ytnphljflkpekmaa

/-
  Walks: the program's small functions on lists, and those of package slices that it calls.
  Conditions: stated at each theorem: what the arguments read as, and that lists are short.
-/
namespace Go.Proofs.Ytnphljflkpekmaa
open Go Go.Pc
theorem inside_ok {n l h : Int} {w : World} : Calls Try.prog 83 #[.int .i64 n, .int .i64 l, .int .i64 h] w (Ret fun v w' => ∃ b, v = .bool b ∧ (b = true ↔ l ≤ n ∧ n ≤ h) ∧ Ext w w') := by
  refine enter (args := [.int .i64 n, .int .i64 l, .int .i64 h]) (l := [.tmp 6]) Try.func83 rfl rfl Try.ntmps83 (by simp) ?_
  refine go ?_
  refine spd (fun h1 => ?_) (fun h1 => ?_)
  · refine go ?_
    refine ret1 ⟨_, rfl, ?_, Ext.refl _⟩
    simp [h1]
  · refine go ?_
    refine ret1 ⟨_, rfl, ?_, Ext.refl _⟩
    simp [h1]
theorem IsGroupPrime_ok {n : Int} {w : World} : Calls Try.prog 116 #[.int .i64 n] w (Ret fun v w' => ∃ b, v = .bool b ∧ (b = true ↔ (n = 2 ∨ n = 3 ∨ n = 5 ∨ n = 7)) ∧ Ext w w') := by
  refine enter (args := [.int .i64 n]) (l := [.tmp 2]) Try.func116 rfl rfl Try.ntmps116 (by simp) ?_
  refine go ?_
  refine spd (fun h1 => ?_) (fun h1 => ?_)
  · refine go ?_
    refine ret1 ⟨_, rfl, ?_, Ext.refl _⟩
    simp [h1]
  · refine go ?_
    refine spd (fun h2 => ?_) (fun h2 => ?_)
    · refine go ?_
      refine ret1 ⟨_, rfl, ?_, Ext.refl _⟩
      simp [h2]
    · refine go ?_
      refine spd (fun h3 => ?_) (fun h3 => ?_)
      · refine go ?_
        refine ret1 ⟨_, rfl, ?_, Ext.refl _⟩
        simp [h3]
      · refine go ?_
        refine ret1 ⟨_, rfl, ?_, Ext.refl _⟩
        simp [h1, h2, h3]
set_option maxHeartbeats 400000 in
theorem isZero_ok {w : World} {v : Value} {xs : List Int} {lo hi : Nat} [hx : Ints lo hi w v xs] (hl : xs.length ≤ 2000000) :
    Calls Try.prog 93 #[v] w (Ret fun v w' => ∃ b, v = .bool b ∧ (b = true ↔ ∀ i, i < xs.length → xs.getD i 0 = 0) ∧ Ext w w') := by
  refine enter (args := [v]) (l := [.tmp 2]) Try.func93 rfl rfl Try.ntmps93 (by simp) ?_
  refine go ?_
  refine r_for xs.length (fun k ρ w' => Has ρ [(0, v), (5, v), (6, .int .i64 xs.length), (7, .int .i64 k)] ∧ Ext w w' ∧ ∀ i, i < k → xs.getD i 0 = 0) ?_ ?_
  · refine ⟨?_, Ext.refl _, fun i hi => by omega⟩
    exact hasP
  rintro k ρ w2 hk ⟨hH, he2, hI⟩
  refine rwp_has hH fun ρ0 => ?_
  refine go ?_
  refine c_if (fun h4 => ?_) (fun h4 => ?_)
  · refine go ?_
    refine c_if (fun h5 => ?_) (fun h5 => ?_)
    · refine go ?_
      refine ret1 ⟨_, rfl, ?_, he2⟩
      simp only [Bool.false_eq_true, false_iff]
      exact fun h => h5 (h k (by omega))
    · refine go ?_
      refine forQ_normal (by omega) ⟨?_, he2, fun i hi => ?_⟩
      · exact hasP
      · by_cases e : i = k
        · subst e; exact Decidable.not_not.1 h5
        · exact hI i (by omega)
  · refine go ?_
    refine ret1 ⟨_, rfl, ?_, he2⟩
    simp only [true_iff]
    exact fun i hi => hI i (by omega)
set_option maxHeartbeats 400000 in
theorem isExponents_ok {w : World} {vp vx : Value} {p : Pr} {xs : List Int} {lo hi lo1 hi1 : Nat} [hp : PresP lo hi w vp p] [hx : Ints lo1 hi1 w vx xs] (hb : ∀ i, i < p.n → 2 ≤ p.o i ∧ p.o i ≤ 7) (hl : p.n ≤ 2000000) :
    Calls Try.prog 51 #[vp, vx] w (Ret fun v w' => ∃ b, v = .bool b ∧ (b = true ↔ InR p xs) ∧ Ext w w') := by
  have hol : p.ord.length = p.n := rfl
  obtain ⟨b, og, vo, vpw, vc, ps, cs, css, rfl, hb1, hb2, hc0, hc1, hc2, h1, h2, h3⟩ := hp.ex
  refine enter (args := [.pointer (some ⟨b, og, none⟩), vx]) (l := [.tmp 4]) Try.func51 rfl rfl Try.ntmps51 (by simp) ?_
  refine go ?_
  refine c_if (fun h4 => ?_) (fun h4 => ?_)
  · refine go ?_
    refine ret1 ⟨_, rfl, ?_, Ext.refl _⟩
    simp only [Bool.false_eq_true, false_iff]
    intro h
    have := h.len
    omega
  have hxl : xs.length = p.n := by omega
  refine go ?_
  refine r_for xs.length (fun k ρ w' => Has ρ [(0, .pointer (some ⟨b, og, none⟩)), (1, vx), (15, vx), (16, .int .i64 xs.length), (17, .int .i64 k)] ∧ Ext w w' ∧ ∀ i, i < k → 0 ≤ xs.getD i 0 ∧ xs.getD i 0 < p.o i) ?_ ?_
  · refine ⟨?_, Ext.refl _, fun i hi => by omega⟩
    exact hasP
  rintro k ρ w2 hk ⟨hH, he2, hI⟩
  refine rwp_has hH fun ρ0 => ?_
  refine go ?_
  refine c_if (fun h5 => ?_) (fun h5 => ?_)
  · have hbk := hb k (by omega)
    have hoe : p.ord.getD k 0 = p.o k := rfl
    refine go ?_
    refine rc inside_ok (next := fun v3 w3 h3 => ?_)
    obtain ⟨b3, rfl, hb3, he3⟩ := h3
    refine go ?_
    refine c_b (fun h6 => ?_) (fun h6 => ?_)
    · refine go ?_
      refine ret1 ⟨_, rfl, ?_, he2.trans he3⟩
      simp only [Bool.false_eq_true, false_iff]
      intro h
      have h7 := h.rng k (by omega)
      have := hb3.2 (by omega)
      rw [this] at h6; cases h6
    · have h7 := hb3.1 (by simpa using h6)
      refine go ?_
      refine forQ_normal (by omega) ⟨?_, he2.trans he3, fun i hi => ?_⟩
      · exact hasP
      · by_cases e : i = k
        · subst e; omega
        · exact hI i (by omega)
  · refine go ?_
    refine ret1 ⟨_, rfl, ?_, he2⟩
    simp only [true_iff]
    exact ⟨hxl, fun i hi => hI i (by omega)⟩
set_option maxHeartbeats 400000 in
theorem tailVector_ok {w : World} {vp vx : Value} {p : Pr} {xs : List Int} {i : Nat} {ki : Int} {lo hi lo1 hi1 : Nat} [hp : PresP lo hi w vp p] [hx : Ints lo1 hi1 w vx xs] (hki : ki = i) (hi' : i < p.n) (hb : ∀ i, i < p.n → 2 ≤ p.o i ∧ p.o i ≤ 7) (hl : p.n ≤ 2000000) :
    Calls Try.prog 117 #[vp, .int .i64 ki, vx] w (Ret fun v w' => ∃ b, v = .bool b ∧ (b = true ↔ InR p xs ∧ ZU (i + 1) xs) ∧ Ext w w') := by
  subst hki
  refine enter (args := [vp, .int .i64 i, vx]) (l := [.tmp 6]) Try.func117 rfl rfl Try.ntmps117 (by simp) ?_
  refine go ?_
  refine rc (isExponents_ok (xs := xs) hb hl) (next := fun v3 w3 h3 => ?_)
  obtain ⟨b3, rfl, hb3, he3⟩ := h3
  refine go ?_
  refine sp (fun e3 => ?_) (fun e3 => ?_)
  · have hr := hb3.1 e3
    have hxl := hr.len
    refine go ?_
    have hcut : Ints lo1 hi1 w (cutTo vx (i + 1)) (xs.take (i + 1)) := hx.cutTo (by omega)
    refine rc (isZero_ok (xs := xs.take (i + 1)) ?_) (next := fun v4 w4 h4 => ?_)
    · rw [List.length_take]; omega
    obtain ⟨b4, rfl, hb4, he4⟩ := h4
    refine go ?_
    refine ret1 ⟨_, rfl, hb4.trans ?_, he3.trans he4⟩
    constructor
    · intro h
      refine ⟨hr, fun k hk => ?_⟩
      have := h k (by rw [List.length_take]; omega)
      simpa [List.getElem?_take, hk] using this
    · rintro ⟨_, h⟩ k hk
      rw [List.length_take] at hk
      have := h k (by omega)
      simpa [List.getElem?_take, show k < i + 1 by omega] using this
  · refine go ?_
    refine ret1 ⟨_, rfl, ?_, he3⟩
    simp only [Bool.false_eq_true, false_iff]
    rintro ⟨h, _⟩
    have := hb3.2 h
    rw [e3] at this; cases this
end Go.Proofs.Ytnphljflkpekmaa

/-
  Walks: the program's residues and inverses modulo a group prime (residue, inverseMod).
  Conditions: stated at each theorem.
-/
namespace Go.Proofs.Ytnphljflkpekmaa
open Go Go.Pc
theorem tmod_bd (a m : Int) (hm : 1 ≤ m) : -m < a.tmod m ∧ a.tmod m < m := by
  have h1 := Int.tmod_lt_of_pos a (show 0 < m by omega)
  have h2 := Int.lt_tmod_of_pos a (show 0 < m by omega)
  exact ⟨h2, h1⟩
theorem tmod_emod (a m : Int) : (a.tmod m + m) % m = a % m := by
  have h := Int.tmod_add_mul_tdiv a m
  rw [Int.add_emod_right]
  conv => rhs; rw [← h]
  rw [Int.add_mul_emod_self_left]
theorem residue_ok {a m : Int} {w : World} (hm : 1 ≤ m ∧ m ≤ 1000000000000) : Calls Try.prog 135 #[.int .i64 a, .int .i64 m] w (Ret fun v w' => v = .int .i64 (a % m) ∧ Ext w w') := by
  have h1 := tmod_bd a m hm.1
  refine enter (args := [.int .i64 a, .int .i64 m]) (l := [.tmp 4]) Try.func135 rfl rfl Try.ntmps135 (by simp) ?_
  refine go ?_
  refine ra (h := rd_trem (by ((try simp only [ev_tmp, ev_const, ev_func, get_put, get_args, get_putL, get_putL_nil, Nat.reduceEqDiff, reduceIte, List.getD_cons_zero, List.getD_cons_succ, List.getD_nil]); first | done | with_reducible rfl)) (by ((try simp only [ev_tmp, ev_const, ev_func, get_put, get_args, get_putL, get_putL_nil, Nat.reduceEqDiff, reduceIte, List.getD_cons_zero, List.getD_cons_succ, List.getD_nil]); first | done | with_reducible rfl)) (by omega)) (next := ?_)
  refine go ?_
  exact ret1 (v := .int .i64 ((a.tmod m + m) % m)) ⟨by rw [tmod_emod], Ext.refl _⟩
/-- The state of the Euclidean algorithm. -/
def euc (m a : Int) : Nat → Int × Int × Int × Int
  | 0 => (m, a, 0, 1)
  | k + 1 => let s := euc m a k; if s.2.1 = 0 then s else (s.2.1, s.1 - s.1 / s.2.1 * s.2.1, s.2.2.2, s.2.2.1 - s.1 / s.2.1 * s.2.2.2)
def eucOk (m a : Int) (k : Nat) : Bool :=
  let s := euc m a k
  decide (0 ≤ s.1 ∧ s.1 ≤ 7 ∧ 0 ≤ s.2.1 ∧ s.2.1 ≤ 7 ∧ -7 ≤ s.2.2.1 ∧ s.2.2.1 ≤ 7 ∧ -7 ≤ s.2.2.2 ∧ s.2.2.2 ≤ 7 ∧ s.1 / s.2.1 ≤ 7 ∧ 0 ≤ s.1 / s.2.1 ∧ s.1 / s.2.1 * s.2.1 ≤ 49 ∧ 0 ≤ s.1 / s.2.1 * s.2.1 ∧ s.1 / s.2.1 * s.2.2.2 ≤ 49 ∧ -49 ≤ s.1 / s.2.1 * s.2.2.2 ∧ (k = 5 → s.2.1 = 0) ∧ (s.2.1 = 0 → s.1 = 1 ∧ 1 ≤ s.2.2.1 % m ∧ s.2.2.1 % m < m ∧ (a * (s.2.2.1 % m)) % m = 1))
theorem euc_all : ∀ m : Fin 8, ∀ a : Fin 8, ∀ k : Fin 6, (m.val = 2 ∨ m.val = 3 ∨ m.val = 5 ∨ m.val = 7) → 1 ≤ a.val → a.val < m.val → eucOk (m.val : Int) (a.val : Int) k.val = true := by decide +kernel
theorem euc_ok {m a : Int} (hm : m = 2 ∨ m = 3 ∨ m = 5 ∨ m = 7) (ha : 1 ≤ a ∧ a < m) {k : Nat} (hk : k ≤ 5) : eucOk m a k = true := by
  have h := euc_all ⟨m.toNat, by omega⟩ ⟨a.toNat, by omega⟩ ⟨k, by omega⟩ (by show m.toNat = 2 ∨ m.toNat = 3 ∨ m.toNat = 5 ∨ m.toNat = 7; omega) (by show 1 ≤ a.toNat; omega) (by show a.toNat < m.toNat; omega)
  have e1 : ((m.toNat : Nat) : Int) = m := by omega
  have e2 : ((a.toNat : Nat) : Int) = a := by omega
  simpa only [e1, e2] using h
set_option maxHeartbeats 1000000 in
theorem inverseMod_ok {w : World} {a m : Int} (hm : m = 2 ∨ m = 3 ∨ m = 5 ∨ m = 7) (ha : 1 ≤ a ∧ a < m) :
    Calls Try.prog 122 #[.int .i64 a, .int .i64 m] w (Ret fun v w' => ∃ x, v = .tuple #[.int .i64 x, .bool true] ∧ 1 ≤ x ∧ x < m ∧ (a * x) % m = 1 ∧ Ext w w') := by
  refine enter (args := [.int .i64 a, .int .i64 m]) (l := [.tmp 4, .tmp 5]) Try.func122 rfl rfl Try.ntmps122 (by simp) ?_
  refine go ?_
  refine r_for 5 (fun k ρ w' => Has ρ [(0, .int .i64 a), (1, .int .i64 m), (6, .int .i64 (euc m a k).1), (7, .int .i64 (euc m a k).2.1), (8, .int .i64 (euc m a k).2.2.1), (9, .int .i64 (euc m a k).2.2.2)] ∧ Ext w w') ?_ ?_
  · refine ⟨?_, Ext.refl _⟩
    exact hasP
  rintro k ρ w2 hk ⟨hH, he2⟩
  refine rwp_has hH fun ρ0 => ?_
  have hok := euc_ok hm ha hk
  have hs1 : (euc m a (k + 1)) = if (euc m a k).2.1 = 0 then euc m a k else ((euc m a k).2.1, (euc m a k).1 - (euc m a k).1 / (euc m a k).2.1 * (euc m a k).2.1, (euc m a k).2.2.2, (euc m a k).2.2.1 - (euc m a k).1 / (euc m a k).2.1 * (euc m a k).2.2.2) := rfl
  unfold eucOk at hok
  simp only [decide_eq_true_eq] at hok
  generalize euc m a k = s at hok hs1
  obtain ⟨r, n, x, y⟩ := s
  simp only at hok hs1
  obtain ⟨b1, b2, b3, b4, b5, b6, b7, b8, b9, b10, b11, b12, b13, b14, b15, b16⟩ := hok
  refine go ?_
  refine c_if (fun h4 => ?_) (fun h4 => ?_)
  · rw [if_neg h4] at hs1
    have hn1 : 1 ≤ n := by omega
    have hk5 : k < 5 := by
      by_cases h : k < 5
      · exact h
      · exact absurd (b15 (by omega)) h4
    refine go ?_
    refine ra (h := rd_mul (by ((try simp only [ev_tmp, ev_const, ev_func, get_put, get_args, get_putL, get_putL_nil, Nat.reduceEqDiff, reduceIte, List.getD_cons_zero, List.getD_cons_succ, List.getD_nil]); first | done | with_reducible rfl)) (by ((try simp only [ev_tmp, ev_const, ev_func, get_put, get_args, get_putL, get_putL_nil, Nat.reduceEqDiff, reduceIte, List.getD_cons_zero, List.getD_cons_succ, List.getD_nil]); first | done | with_reducible rfl)) (by omega)) (next := ?_)
    refine go ?_
    refine ra (h := rd_mul (by ((try simp only [ev_tmp, ev_const, ev_func, get_put, get_args, get_putL, get_putL_nil, Nat.reduceEqDiff, reduceIte, List.getD_cons_zero, List.getD_cons_succ, List.getD_nil]); first | done | with_reducible rfl)) (by ((try simp only [ev_tmp, ev_const, ev_func, get_put, get_args, get_putL, get_putL_nil, Nat.reduceEqDiff, reduceIte, List.getD_cons_zero, List.getD_cons_succ, List.getD_nil]); first | done | with_reducible rfl)) (by omega)) (next := ?_)
    refine go ?_
    refine forQ_normal hk5 ⟨?_, he2⟩
    rw [hs1]
    exact hasP
  · have hn0 : n = 0 := Decidable.not_not.1 h4
    obtain ⟨h5, h6, h7, h8⟩ := b16 hn0
    subst h5
    refine go ?_
    refine rc (residue_ok (a := x) (m := m) (by omega)) (next := fun v3 w3 h9 => ?_)
    obtain ⟨rfl, he3⟩ := h9
    refine go ?_
    refine ret2 ⟨x % m, ?_, h6, h7, h8, he2.trans he3⟩
    simp
end Go.Proofs.Ytnphljflkpekmaa

/-
  The first place of a list that is not zero.
  Conditions: none; nothing of the program stands here.
-/
namespace Go.Pc
/-- The first place that is not zero, or the length. -/
def lead : List Int → Nat
  | [] => 0
  | x :: l => if x = 0 then lead l + 1 else 0
theorem lead_le : ∀ v : List Int, lead v ≤ v.length
  | [] => Nat.le_refl _
  | x :: l => by unfold lead; split <;> simp [lead_le l]
theorem lead_zero : ∀ (v : List Int) (i : Nat), i < lead v → v.getD i 0 = 0
  | [], i, h => absurd h (Nat.not_lt_zero _)
  | x :: l, i, h => by
    unfold lead at h
    split at h
    · rename_i hx
      cases i with
      | zero => simpa using hx
      | succ i => simpa using lead_zero l i (by omega)
    · omega
theorem lead_ne : ∀ v : List Int, lead v < v.length → v.getD (lead v) 0 ≠ 0
  | [], h => absurd h (Nat.not_lt_zero _)
  | x :: l, h => by
    unfold lead at h ⊢
    split
    · rename_i hx
      rw [if_pos hx] at h
      simpa using lead_ne l (by simpa using h)
    · rename_i hx; simpa using hx
theorem lead_eq {v : List Int} {k : Nat} (h : ∀ i, i < k → v.getD i 0 = 0) (h0 : v.getD k 0 ≠ 0) : lead v = k := by
  have hk : k < v.length := by
    by_cases hk : k < v.length
    · exact hk
    · exact absurd (by rw [List.getD_eq_getElem?_getD, List.getElem?_eq_none (by omega)]; rfl) h0
  by_cases h1 : lead v < k
  · exact absurd (h _ h1) (lead_ne v (by omega))
  · by_cases h2 : k < lead v
    · exact absurd (lead_zero v k h2) h0
    · omega
theorem lead_len {v : List Int} (h : ∀ i, i < v.length → v.getD i 0 = 0) : lead v = v.length := by
  have := lead_le v
  by_cases h1 : lead v < v.length
  · exact absurd (h _ h1) (lead_ne v h1)
  · omega
end Go.Pc

/-
  Walks: copies and comparisons of lists, depths (slices.Clone, slices.Equal, slices.EqualFunc, slices.IndexFunc, sameRows, depthOf, pivots).
  Conditions: stated at each theorem: what the arguments read as, and that lists are short.
-/
namespace Go.Proofs.Ytnphljflkpekmaa
open Go Go.Pc
theorem sl_nil {lo hi : Nat} {w : World} {v : Value} {us : List Value} (h : Sl lo hi w v us) : NilB v true ∧ us = [] ∨ NilB v false := by
  obtain ⟨A, c, rfl, hc, hm, hcell⟩ := h.ex
  cases A with
  | some a => exact .inr ⟨_, _, _, rfl, rfl⟩
  | none =>
    refine .inl ⟨⟨_, _, _, rfl, rfl⟩, ?_⟩
    cases us with
    | nil => rfl
    | cons u l => obtain ⟨a, h, _⟩ := hcell 0 u rfl; cases h
set_option maxHeartbeats 400000 in
theorem cloneI_ok {w : World} {v : Value} {xs : List Int} {lo hi : Nat} [hx : Ints lo hi w v xs] (hl : xs.length ≤ 2000000) :
    Calls Try.prog 70 #[v] w (Ret fun v' w' => Ext w w' ∧ Fr w.heap.size w' v' xs) := by
  refine enter (args := [v]) (l := [.tmp 2]) Try.func70 rfl rfl Try.ntmps70 (by simp) ?_
  rcases sl_nil hx.sl with ⟨hn, h0⟩ | hn
  · have h0 : xs = [] := by simpa using h0
    subst h0
    refine go ?_
    exact ret1 ⟨Ext.refl _, (Lst.nil 2 w.heap.size w (av := fun _ => False) (fun _ h => h.elim)).own.toFr (xs := [])⟩
  · refine go ?_
    refine st_slice0 (by first | exact True.intro | exact ⟨_, rfl, by ((try simp only [ev_tmp, ev_const, ev_func, get_put, get_args, get_putL, get_putL_nil, Nat.reduceEqDiff, reduceIte, List.getD_cons_zero, List.getD_cons_succ, List.getD_nil, Bool.not_true, Bool.not_false]); first | done | with_reducible rfl)⟩) fun w1 v1 he1 hs1 ho1 => ?_
    refine go ?_
    have hN := ho1.toN
    have hsl : Sl lo hi w1 v _ := Sl.ext (h := hx.sl)
    refine st_append (hv := hN) (hy := hsl) (by ((try simp only [ev_tmp, ev_const, ev_func, get_put, get_args, get_putL, get_putL_nil, Nat.reduceEqDiff, reduceIte, List.getD_cons_zero, List.getD_cons_succ, List.getD_nil]); first | done | with_reducible rfl)) (by ((try simp only [ev_tmp, ev_const, ev_func, get_put, get_args, get_putL, get_putL_nil, Nat.reduceEqDiff, reduceIte, List.getD_cons_zero, List.getD_cons_succ, List.getD_nil]); first | done | with_reducible rfl)) rfl (oneCells xs) (by simp; omega) (by simp [maxLen]; omega) (by omega) (by first | exact True.intro | exact ⟨_, rfl, by ((try simp only [ev_tmp, ev_const, ev_func, get_put, get_args, get_putL, get_putL_nil, Nat.reduceEqDiff, reduceIte, List.getD_cons_zero, List.getD_cons_succ, List.getD_nil, Bool.not_true, Bool.not_false]); first | done | with_reducible rfl)⟩) fun v2 w2 ho2 hg2 ha2 => ?_
    refine go ?_
    have hN2 : OwnN 2 w.heap.size w2 v2 (xs.map (Value.int .i64)) := by simpa using ho2
    refine ret1 ⟨?_, hN2.toFr⟩
    obtain ⟨cap, cur, hv1, _⟩ := ho1.ex
    exact ⟨he1.below.grown hg2 (by omega) (fun k hk => by rw [hv1] at hk; simp [Value.ownBlock] at hk; omega)⟩
set_option maxHeartbeats 400000 in
theorem cloneR_ok {w : World} {v : Value} {us : List Value} {lo hi : Nat} [hx : Sl lo hi w v us] (h1 : ∀ u ∈ us, u.oneCell' = true) (hl : us.length ≤ 2000000) :
    Calls Try.prog 119 #[v] w (Ret fun v' w' => Ext w w' ∧ OwnN 22 w.heap.size w' v' us) := by
  refine enter (args := [v]) (l := [.tmp 2]) Try.func119 rfl rfl Try.ntmps119 (by simp) ?_
  rcases sl_nil hx with ⟨hn, h0⟩ | hn
  · subst h0
    refine go ?_
    exact ret1 ⟨Ext.refl _, OwnN.nil _ _ _⟩
  · refine go ?_
    refine st_slice0 (by first | exact True.intro | exact ⟨_, rfl, by ((try simp only [ev_tmp, ev_const, ev_func, get_put, get_args, get_putL, get_putL_nil, Nat.reduceEqDiff, reduceIte, List.getD_cons_zero, List.getD_cons_succ, List.getD_nil, Bool.not_true, Bool.not_false]); first | done | with_reducible rfl)⟩) fun w1 v1 he1 hs1 ho1 => ?_
    refine go ?_
    have hN := ho1.toN
    have hsl : Sl lo hi w1 v _ := Sl.ext (h := hx)
    refine st_append (hv := hN) (hy := hsl) (by ((try simp only [ev_tmp, ev_const, ev_func, get_put, get_args, get_putL, get_putL_nil, Nat.reduceEqDiff, reduceIte, List.getD_cons_zero, List.getD_cons_succ, List.getD_nil]); first | done | with_reducible rfl)) (by ((try simp only [ev_tmp, ev_const, ev_func, get_put, get_args, get_putL, get_putL_nil, Nat.reduceEqDiff, reduceIte, List.getD_cons_zero, List.getD_cons_succ, List.getD_nil]); first | done | with_reducible rfl)) rfl h1 (by simp; omega) (by simp [maxLen]; omega) (by omega) (by first | exact True.intro | exact ⟨_, rfl, by ((try simp only [ev_tmp, ev_const, ev_func, get_put, get_args, get_putL, get_putL_nil, Nat.reduceEqDiff, reduceIte, List.getD_cons_zero, List.getD_cons_succ, List.getD_nil, Bool.not_true, Bool.not_false]); first | done | with_reducible rfl)⟩) fun v2 w2 ho2 hg2 ha2 => ?_
    refine go ?_
    have hN2 : OwnN 22 w.heap.size w2 v2 us := by simpa using ho2
    refine ret1 ⟨?_, hN2⟩
    obtain ⟨cap, cur, hv1, _⟩ := ho1.ex
    exact ⟨he1.below.grown hg2 (by omega) (fun k hk => by rw [hv1] at hk; simp [Value.ownBlock] at hk; omega)⟩
set_option maxHeartbeats 400000 in
theorem equalI_ok {w : World} {va vb : Value} {xs ys : List Int} {lo hi lo' hi' : Nat} [hx : Ints lo hi w va xs] [hy : Ints lo' hi' w vb ys] (hm : xs.length ≤ 2000000) :
    Calls Try.prog 85 #[va, vb] w (Ret fun v w' => ∃ b, v = .bool b ∧ (b = true ↔ xs = ys) ∧ Ext w w') := by
  refine enter (args := [va, vb]) (l := [.tmp 4]) Try.func85 rfl rfl Try.ntmps85 (by simp) ?_
  refine go ?_
  refine c_if (fun h1 => ?_) (fun h1 => ?_)
  · refine go ?_
    refine ret1 ⟨_, rfl, ?_, Ext.refl _⟩
    simp only [Bool.false_eq_true, false_iff]
    rintro rfl
    simp at h1
  · refine go ?_
    refine r_for xs.length (fun k ρ w' => Has ρ [(0, va), (1, vb), (12, .int .i64 xs.length), (13, .int .i64 k)] ∧ Ext w w' ∧ xs.take k = ys.take k) ?_ ?_
    · refine ⟨?_, Ext.refl _, rfl⟩
      exact hasP
    · rintro k ρ w1 hk ⟨hH, he, ht⟩
      refine rwp_has hH fun ρ0 => ?_
      refine go ?_
      refine c_if (fun h2 => ?_) (fun h2 => ?_)
      · refine go ?_
        refine d_region fun w2 he2 _ => ?_
        refine dgo ?_
        refine d_end (h := ?_)
        refine go ?_
        refine c_if (fun h3 => ?_) (fun h3 => ?_)
        · refine go ?_
          refine ret1 ⟨_, rfl, ?_, he.trans he2⟩
          simp only [Bool.false_eq_true, false_iff]
          rintro rfl
          exact h3 rfl
        · refine go ?_
          refine forQ_normal (by omega) ⟨?_, he.trans he2, take_succ_eq ht (by omega) (by omega) ?_⟩
          · exact hasP
          · exact Decidable.not_not.1 h3
      · refine go ?_
        refine ret1 ⟨_, rfl, ?_, he⟩
        have : k = xs.length := by omega
        subst this
        simp only [true_iff]
        rw [List.take_of_length_le (Nat.le_refl _), List.take_of_length_le (by omega)] at ht
        exact ht
set_option maxHeartbeats 400000 in
theorem equalR_ok {w : World} {va vb : Value} {us vs : List Value} {xss yss : List (List Int)} {lo hi lo1 hi1 : Nat} [hx : Pc.Rows lo hi w va us xss] [hy : Pc.Rows lo1 hi1 w vb vs yss] (hm : ∀ i, (xss.getD i []).length ≤ 2000000) (hl : xss.length ≤ 10000000) :
    Calls Try.prog 84 #[va, vb, .func (.func 85) #[] #[]] w (Ret fun v w' => ∃ b, v = .bool b ∧ (b = true ↔ xss = yss) ∧ Ext w w') := by
  have hul := hx.vals.len
  have hvl := hy.vals.len
  refine enter (args := [va, vb, .func (.func 85) #[] #[]]) (l := [.tmp 6]) Try.func84 rfl rfl Try.ntmps84 (by simp) ?_
  refine go ?_
  refine c_if (fun h1 => ?_) (fun h1 => ?_)
  · refine go ?_
    refine ret1 ⟨_, rfl, ?_, Ext.refl _⟩
    simp only [Bool.false_eq_true, false_iff]
    rintro rfl
    omega
  · have hxy : xss.length = yss.length := by omega
    refine go ?_
    refine r_for xss.length (fun k ρ w' => Has ρ [(1, vb), (2, .func (.func 85) #[] #[]), (15, va), (16, .int .i64 xss.length), (17, .int .i64 k)] ∧ Ext w w' ∧ ∀ i, i < k → xss.getD i [] = yss.getD i []) ?_ ?_
    · refine ⟨?_, Ext.refl _, fun i hi => by omega⟩
      exact hasP
    rintro k ρ w1 hk ⟨hH, he1, hI⟩
    refine rwp_has hH fun ρ0 => ?_
    refine go ?_
    refine c_if (fun h4 => ?_) (fun h4 => ?_)
    · refine go ?_
      refine rc (equalI_ok (xs := xss.getD k []) (ys := yss.getD k []) (hm k)) (next := fun v3 w3 h3 => ?_)
      obtain ⟨b3, rfl, hb3, he3⟩ := h3
      refine go ?_
      refine c_b (fun h5 => ?_) (fun h5 => ?_)
      · refine go ?_
        refine ret1 ⟨_, rfl, ?_, he1.trans he3⟩
        simp only [Bool.false_eq_true, false_iff]
        rintro rfl
        have := hb3.2 rfl
        rw [this] at h5; cases h5
      · have h6 := hb3.1 (by simpa using h5)
        refine go ?_
        refine forQ_normal (by omega) ⟨?_, he1.trans he3, fun i hi => ?_⟩
        · exact hasP
        · by_cases e : i = k
          · subst e; exact h6
          · exact hI i (by omega)
    · refine go ?_
      refine ret1 ⟨_, rfl, ?_, he1⟩
      simp only [true_iff]
      apply List.ext_getElem hxy
      intro i h1 h2
      have := hI i (by omega)
      simpa [h1, h2] using this
theorem sameRows_ok {w : World} {va vb : Value} {us vs : List Value} {xss yss : List (List Int)} {lo hi lo1 hi1 : Nat} [hx : Pc.Rows lo hi w va us xss] [hy : Pc.Rows lo1 hi1 w vb vs yss] (hm : ∀ i, (xss.getD i []).length ≤ 2000000) (hl : xss.length ≤ 10000000) :
    Calls Try.prog 52 #[va, vb] w (Ret fun v w' => ∃ b, v = .bool b ∧ (b = true ↔ xss = yss) ∧ Ext w w') := by
  refine enter (args := [va, vb]) (l := [.tmp 4]) Try.func52 rfl rfl Try.ntmps52 (by simp) ?_
  refine go ?_
  refine rc (equalR_ok (xss := xss) (yss := yss) hm hl) (next := fun v3 w3 h3 => ?_)
  obtain ⟨b3, rfl, hb3, he3⟩ := h3
  refine go ?_
  exact ret1 ⟨_, rfl, hb3, he3⟩
set_option maxHeartbeats 400000 in
theorem depthOf_ok {w : World} {v : Value} {xs : List Int} {lo hi : Nat} [hx : Ints lo hi w v xs] (hl : xs.length ≤ 2000000) :
    Calls Try.prog 121 #[v] w (Ret fun v w' => v = .int .i64 (lead xs) ∧ Ext w w') := by
  refine enter (args := [v]) (l := [.tmp 2]) Try.func121 rfl rfl Try.ntmps121 (by simp) ?_
  refine go ?_
  refine r_for xs.length (fun k ρ w' => Has ρ [(0, v), (5, v), (6, .int .i64 xs.length), (7, .int .i64 k)] ∧ Ext w w' ∧ ∀ i, i < k → xs.getD i 0 = 0) ?_ ?_
  · refine ⟨?_, Ext.refl _, fun i hi => by omega⟩
    exact hasP
  rintro k ρ w2 hk ⟨hH, he2, hI⟩
  refine rwp_has hH fun ρ0 => ?_
  refine go ?_
  refine c_if (fun h4 => ?_) (fun h4 => ?_)
  · refine go ?_
    refine c_if (fun h5 => ?_) (fun h5 => ?_)
    · refine go ?_
      exact ret1 ⟨by rw [lead_eq hI h5], he2⟩
    · refine go ?_
      refine forQ_normal (by omega) ⟨?_, he2, fun i hi => ?_⟩
      · exact hasP
      · by_cases e : i = k
        · subst e; exact Decidable.not_not.1 h5
        · exact hI i (by omega)
  · refine go ?_
    exact ret1 ⟨by rw [lead_len fun i hi => hI i (by omega)], he2⟩
theorem nz_ok {k : Int} {w : World} : Calls Try.prog 90 #[.int .i64 k] w (Ret fun v w' => v = .bool (decide (k ≠ 0)) ∧ Ext w w') := by
  refine enter (args := [.int .i64 k]) (l := [.tmp 2]) Try.func90 rfl rfl Try.ntmps90 (by simp) ?_
  refine go ?_
  exact ret1 ⟨rfl, Ext.refl _⟩
set_option maxHeartbeats 400000 in
theorem indexNz_ok {w : World} {v : Value} {xs : List Int} {lo hi : Nat} [hx : Ints lo hi w v xs] (hl : xs.length ≤ 2000000) (h0 : lead xs < xs.length) :
    Calls Try.prog 89 #[v, .func (.func 90) #[] #[]] w (Ret fun v w' => v = .int .i64 (lead xs) ∧ Ext w w') := by
  refine enter (args := [v, .func (.func 90) #[] #[]]) (l := [.tmp 4]) Try.func89 rfl rfl Try.ntmps89 (by simp) ?_
  refine go ?_
  refine r_for xs.length (fun k ρ w' => Has ρ [(0, v), (1, .func (.func 90) #[] #[]), (7, .int .i64 xs.length), (8, .int .i64 k)] ∧ Ext w w' ∧ ∀ i, i < k → xs.getD i 0 = 0) ?_ ?_
  · refine ⟨?_, Ext.refl _, fun i hi => by omega⟩
    exact hasP
  rintro k ρ w2 hk ⟨hH, he2, hI⟩
  refine rwp_has hH fun ρ0 => ?_
  refine go ?_
  refine c_if (fun h4 => ?_) (fun h4 => ?_)
  · refine go ?_
    refine rc (nz_ok (k := xs.getD k 0)) (next := fun v3 w3 h3 => ?_)
    obtain ⟨rfl, he3⟩ := h3
    refine go ?_
    refine c_if (fun h5 => ?_) (fun h5 => ?_)
    · refine go ?_
      exact ret1 ⟨by rw [lead_eq hI h5], he2.trans he3⟩
    · refine go ?_
      refine forQ_normal (by omega) ⟨?_, he2.trans he3, fun i hi => ?_⟩
      · exact hasP
      · by_cases e : i = k
        · subst e; exact Decidable.not_not.1 h5
        · exact hI i (by omega)
  · exfalso
    exact lead_ne xs h0 (hI _ (by omega))
set_option maxHeartbeats 400000 in
theorem pivots_ok {w : World} {v : Value} {us : List Value} {xss : List (List Int)} {lo hi : Nat} [hx : Pc.Rows lo hi w v us xss] (hl : xss.length ≤ 2000000) (h0 : ∀ i, i < xss.length → lead (xss.getD i []) < (xss.getD i []).length ∧ (xss.getD i []).length ≤ 2000000) :
    Calls Try.prog 54 #[v] w (Ret fun v w' => Ext w w' ∧ Fr w.heap.size w' v (xss.map fun x => (lead x : Int))) := by
  have hul := hx.vals.len
  refine enter (args := [v]) (l := [.tmp 2]) Try.func54 rfl rfl Try.ntmps54 (by simp) ?_
  refine go ?_
  refine r_for xss.length (fun k ρ w' => ∃ vo, Has ρ [(3, vo), (6, v), (7, .int .i64 xss.length), (8, .int .i64 k)] ∧ Ext w w' ∧ OwnN 3 w.heap.size w' vo (((xss.take k).map fun x => (lead x : Int)).map (Value.int .i64))) ?_ ?_
  · refine ⟨nilv, ?_, Ext.refl _, OwnN.nil _ _ _⟩
    exact hasP
  rintro k ρ w2 hk ⟨vo, hH, he2, hO⟩
  refine rwp_has hH fun ρ0 => ?_
  refine go ?_
  refine c_if (fun h4 => ?_) (fun h4 => ?_)
  · have h0k := h0 k (by omega)
    refine go ?_
    refine rc (indexNz_ok (xs := xss.getD k []) h0k.2 h0k.1) (next := fun v3 w3 h3 => ?_)
    obtain ⟨rfl, he3⟩ := h3
    refine go ?_
    refine st_slice1 (u := .int .i64 (lead (xss.getD k []))) (by ((try simp only [ev_tmp, ev_const, ev_func, get_put, get_args, get_putL, get_putL_nil, Nat.reduceEqDiff, reduceIte, List.getD_cons_zero, List.getD_cons_succ, List.getD_nil]); first | done | with_reducible rfl)) ?_ ?_ (by first | exact True.intro | exact ⟨_, rfl, by ((try simp only [ev_tmp, ev_const, ev_func, get_put, get_args, get_putL, get_putL_nil, Nat.reduceEqDiff, reduceIte, List.getD_cons_zero, List.getD_cons_succ, List.getD_nil, Bool.not_true, Bool.not_false]); first | done | with_reducible rfl)⟩) fun w6 v6 he6 hs6 ho6 => ?_
    · rfl
    · rfl
    have hO6 : OwnN _ _ w6 vo _ := @OwnN.ext _ _ _ _ _ _ he6 (@OwnN.ext _ _ _ _ _ _ he3 hO)
    have hz2 := he2.size
    have hz3 := he3.size
    refine go ?_
    refine st_append (hv := hO6) (hy := ho6) (by ((try simp only [ev_tmp, ev_const, ev_func, get_put, get_args, get_putL, get_putL_nil, Nat.reduceEqDiff, reduceIte, List.getD_cons_zero, List.getD_cons_succ, List.getD_nil]); first | done | with_reducible rfl)) (by ((try simp only [ev_tmp, ev_const, ev_func, get_put, get_args, get_putL, get_putL_nil, Nat.reduceEqDiff, reduceIte, List.getD_cons_zero, List.getD_cons_succ, List.getD_nil]); first | done | with_reducible rfl)) rfl ?_ ?_ ?_ ?_ (by first | exact True.intro | exact ⟨_, rfl, by ((try simp only [ev_tmp, ev_const, ev_func, get_put, get_args, get_putL, get_putL_nil, Nat.reduceEqDiff, reduceIte, List.getD_cons_zero, List.getD_cons_succ, List.getD_nil, Bool.not_true, Bool.not_false]); first | done | with_reducible rfl)⟩) fun v7 w7 ho7 hg7 ha7 => ?_
    · intro u hu
      rw [List.mem_singleton.1 hu]; rfl
    · simp; omega
    · simp [maxLen]; omega
    · omega
    refine go ?_
    refine forQ_normal (by omega) ⟨v7, ?_, ((he2.trans he3).trans he6).app hg7 (fun k hk => (hO6.lt k hk).1), ?_⟩
    · exact hasP
    · rw [List.take_succ_eq_append_getElem (by omega), List.map_append, List.map_append]
      simpa [show k < xss.length by omega] using ho7
  · refine go ?_
    refine ret1 ⟨he2, ?_⟩
    rw [show k = xss.length by omega, List.take_length] at hO
    exact hO.toFr
end Go.Proofs.Ytnphljflkpekmaa

/-
  Walks: the program's products in place (timesGenerator, timesVector).
  Conditions: the tail at the level is a group; the vector written is the call's own and lies apart from what is read.
-/
namespace Go.Proofs.Ytnphljflkpekmaa
open Go Go.Pc
def TGSpec (p : Pr) (j : Nat) : Prop := ∀ {i : Nat} [Con p i] {w : World} {vp ve : Value} {te b : Nat} {kj : Int} {x : T p i} {xs : List Int} {lo hi : Nat} [PresP lo hi w vp p] [OwnI te b w ve xs] [Apart lo hi b],
  i ≤ j → j < p.n → kj = j → xs = x.v → Calls Try.prog 125 #[vp, ve, .int .i64 kj] w (Ret fun _ w' => Chg b w w' ∧ OwnI te b w' ve (x * gOf p i j).v)
def TVSpec (p : Pr) (j : Nat) : Prop := ∀ {i : Nat} [Con p i] {w : World} {vp ve vf : Value} {te b : Nat} {x y : T p i} {xs ys : List Int} {lo hi lo1 hi1 : Nat} [PresP lo hi w vp p] [OwnI te b w ve xs] [Ints lo1 hi1 w vf ys] [Apart lo hi b] [Apart lo1 hi1 b],
  i ≤ p.n → xs = x.v → ys = y.v → ZU j ys → Calls Try.prog 94 #[vp, ve, vf] w (Ret fun _ w' => Chg b w w' ∧ OwnI te b w' ve (x * y).v)
set_option maxHeartbeats 1000000 in
theorem tv_of_tg {p : Pr} {j : Nat} (htg : ∀ k, j ≤ k → TGSpec p k) : TVSpec p j := by
  intro i hcon w vp ve vf te b x y xs ys lo hi lo1 hi1 hp ho hf ha1 ha2 hin hxs hys hz
  subst hxs hys
  have hv := hcon.valid
  have hn6 := hv.n6
  have hyl := y.inr.len
  refine enter (args := [vp, ve, vf]) (l := []) Try.func94 rfl rfl Try.ntmps94 (by simp) ?_
  refine go ?_
  refine r_for p.n (fun k ρ w' => ∃ xs', Has ρ [(0, vp), (1, ve), (8, vf), (9, .int .i64 y.v.length), (10, .int .i64 k)] ∧ Chg b w w' ∧ OwnI te b w' ve xs' ∧ xs' = (x * phi (gOf p i) y.v 0 k).v) ?_ ?_
  · refine ⟨x.v, ?_, Chg.refl b w, ho, ?_⟩
    · exact hasP
    · show _ = (x * 1).v
      rw [Grp.mul_one]
  rintro k ρ w2 hk ⟨xs', hH, hc2, ho2, hx2⟩
  refine rwp_has hH fun ρ0 => ?_
  refine go ?_
  refine c_if (fun h4 => ?_) (fun h4 => ?_)
  · have hkn : k < p.n := by omega
    have hyk := y.inr.rng k hkn
    have hok := hv.opos hkn
    refine go ?_
    refine r_for (y.v.getD k 0).toNat (fun q ρ w' => ∃ xs', Has ρ [(0, vp), (1, ve), (8, vf), (9, .int .i64 y.v.length), (10, .int .i64 k), (6, .int .i64 k), (15, .int .i64 (y.v.getD k 0)), (16, .int .i64 q)] ∧ Chg b w w' ∧ OwnI te b w' ve xs' ∧ xs' = (x * phi (gOf p i) y.v 0 k * Grp.pw (gOf p i k) q).v) ?_ ?_
    · refine ⟨xs', ?_, hc2, ho2, ?_⟩
      · exact hasP
      · rw [Grp.pw_zero, Grp.mul_one]; exact hx2
    clear hc2 ho2
    rintro q ρ w3 hq ⟨xs3, hH3, hc3, ho3, hx3⟩
    refine rwp_has hH3 fun ρ1 => ?_
    refine go ?_
    refine c_if (fun h5 => ?_) (fun h5 => ?_)
    · have hik : i ≤ k := by
        by_cases h : i ≤ k
        · exact h
        · have := y.zu k (by omega); omega
      have hjk : j ≤ k := by
        by_cases h : j ≤ k
        · exact h
        · have := hz k (by omega); omega
      refine go ?_
      refine rc (htg k hjk (x := x * phi (gOf p i) y.v 0 k * Grp.pw (gOf p i k) q) hik hkn rfl hx3) (next := fun v4 w4 h4 => ?_)
      obtain ⟨hc4, ho4⟩ := h4
      refine go ?_
      refine forQ_normal (by omega) ⟨_, ?_, hc3.trans hc4, ho4, ?_⟩
      · exact hasP
      · rw [Grp.pw_succ, ← Grp.mul_assoc]
    · refine go ?_
      refine forQ_normal (by omega) ⟨xs3, ?_, hc3, ho3, ?_⟩
      · exact hasP
      · rw [hx3, phi_last, Nat.zero_add, show q = (y.v.getD k 0).toNat by omega, Grp.mul_assoc]
  · obtain rfl : k = p.n := by omega
    refine go ?_
    refine retQ_0 ⟨hc2, ?_⟩
    rw [phi_all hin] at hx2
    rw [← hx2]; exact ho2
theorem mkE {p : Pr} {i : Nat} [hc : Con p i] (x : T p i) {v : List Int} {j : Nat} (hj : i ≤ j ∧ j < p.n) (hl : v.length = p.n) (hlow : ∀ t, t < j → v.getD t 0 = x.v.getD t 0) (hjv : 0 ≤ v.getD j 0 ∧ v.getD j 0 < p.o j) (hz : ∀ t, j < t → t < p.n → v.getD t 0 = 0) : ∃ e : T p i, e.v = v := by
  refine ⟨⟨v, ⟨hl, fun t ht => ?_⟩, fun t ht => ?_⟩, rfl⟩
  · by_cases h1 : t < j
    · rw [hlow t h1]; exact x.inr.rng t ht
    · by_cases h2 : t = j
      · subst h2; exact hjv
      · rw [hz t (by omega) ht]; have := hc.valid.opos ht; omega
  · rw [hlow t (by omega)]; exact x.zu t ht
set_option maxHeartbeats 2000000 in
theorem tg_of_tv {p : Pr} {j : Nat} (htv : TVSpec p (j + 1)) : TGSpec p j := by
  intro i hcon w vp ve te b kj x xs lo hi hp ho ha hij hjn hkj hxs
  subst hxs hkj
  have hv := hcon.valid
  have hn6 := hv.n6
  have hol : p.ord.length = p.n := rfl
  have hwl : p.pow.length = p.n := hv.lenw
  have hcl : p.cnj.length = p.n := hv.lenc
  have hci := hv.lenci j hjn
  have hxl := x.inr.len
  have hxj := x.inr.rng j hjn
  have hoj := hv.opos hjn
  have hoe : p.ord.getD j 0 = p.o j := rfl
  have hbl := ho.lt
  obtain ⟨g, og, vo, vpw, vc, ps, cs, css, rfl, hg1, hg2, hc0, hc1, hc2, h1, h2, h3⟩ := hp.ex
  have hag : Apart g (g + 1) b := ⟨by have := ha.out; omega⟩
  refine enter (args := [.pointer (some ⟨g, og, none⟩), ve, .int .i64 j]) (l := []) Try.func125 rfl rfl Try.ntmps125 (by simp) ?_
  refine go ?_
  have hints : Ints b (b + 1) w ve x.v := inferInstance
  have hcut := hints.cut (l := j + 1) (k := x.v.length) (by omega) (Nat.le_refl _)
  have hdl : ((x.v.take x.v.length).drop (j + 1)).length = p.n - (j + 1) := by simp [hxl]
  have hdg : ∀ k, ((x.v.take x.v.length).drop (j + 1)).getD k 0 = x.v.getD (j + 1 + k) 0 := fun k => by simp
  refine rc (cloneI_ok (xs := (x.v.take x.v.length).drop (j + 1)) ?_) (next := fun v1 w1 h4 => ?_)
  · omega
  obtain ⟨he1, hf1⟩ := h4
  generalize (x.v.take x.v.length).drop (j + 1) = rest at hcut hdl hdg hf1
  have hfi := hf1.ints
  have ha1 : Apart w.heap.size w1.heap.size b := ⟨.inl hbl⟩
  have ho1 : OwnI te b w1 ve x.v := inferInstance
  refine go ?_
  refine r_for (p.n - (j + 1)) (fun k ρ w' => ∃ xs', Has ρ [(0, .pointer (some ⟨g, og, none⟩)), (1, ve), (2, .int .i64 j), (6, v1), (16, .int .i64 rest.length), (17, .int .i64 k)] ∧ Chg b w1 w' ∧ OwnI te b w' ve xs' ∧ xs'.length = p.n ∧
    ∀ t, xs'.getD t 0 = if j + 1 ≤ t ∧ t < j + 1 + k then 0 else x.v.getD t 0) ?_ ?_
  · refine ⟨x.v, ?_, Chg.refl b w1, ho1, hxl, fun t => by rw [if_neg (by omega)]⟩
    exact hasP
  clear ho1
  rintro k ρ w2 hk ⟨xs2, hH2, hch2, ho2, hl2, hx2⟩
  refine rwp_has hH2 fun ρ0 => ?_
  refine go ?_
  refine c_if (fun h4 => ?_) (fun h4 => ?_)
  · refine go ?_
    refine st_store_int (by ((try simp only [ev_tmp, ev_const, ev_func, get_put, get_args, get_putL, get_putL_nil, Nat.reduceEqDiff, reduceIte, List.getD_cons_zero, List.getD_cons_succ, List.getD_nil]); first | done | with_reducible rfl)) (by ((try simp only [ev_tmp, ev_const, ev_func, get_put, get_args, get_putL, get_putL_nil, Nat.reduceEqDiff, reduceIte, List.getD_cons_zero, List.getD_cons_succ, List.getD_nil]); first | done | with_reducible rfl)) ?_ (by first | exact True.intro | exact ⟨_, rfl, by ((try simp only [ev_tmp, ev_const, ev_func, get_put, get_args, get_putL, get_putL_nil, Nat.reduceEqDiff, reduceIte, List.getD_cons_zero, List.getD_cons_succ, List.getD_nil, Bool.not_true, Bool.not_false]); first | done | with_reducible rfl)⟩) fun w3 hch3 hs3 ho3 => ?_
    · omega
    refine go ?_
    refine forQ_normal (by omega) ⟨xs2.set (j + 1 + k) 0, ?_, hch2.trans hch3, ho3, by simp [hl2], fun t => ?_⟩
    · exact hasP
    · by_cases e : j + 1 + k = t
      · subst e; rw [Pc.getD_set_eq _ _ _ (by omega), if_pos (by omega)]
      · rw [Pc.getD_set_ne _ _ _ _ e, hx2 t]
        by_cases h : j + 1 ≤ t ∧ t < j + 1 + k
        · rw [if_pos h, if_pos (by omega)]
        · rw [if_neg h, if_neg (by omega)]
  · have hk' : k = p.n - (j + 1) := by omega
    subst hk'
    have hlow2 : ∀ t, t < j + 1 → xs2.getD t 0 = x.v.getD t 0 := fun t ht => by rw [hx2, if_neg (by omega)]
    have hz2 : ∀ t, j < t → t < p.n → xs2.getD t 0 = 0 := fun t h1 h2 => by rw [hx2, if_pos (by omega)]
    have hj2 := hlow2 j (by omega)
    clear hx2
    refine go ?_
    refine st_store_int (by ((try simp only [ev_tmp, ev_const, ev_func, get_put, get_args, get_putL, get_putL_nil, Nat.reduceEqDiff, reduceIte, List.getD_cons_zero, List.getD_cons_succ, List.getD_nil]); first | done | with_reducible rfl)) (by ((try simp only [ev_tmp, ev_const, ev_func, get_put, get_args, get_putL, get_putL_nil, Nat.reduceEqDiff, reduceIte, List.getD_cons_zero, List.getD_cons_succ, List.getD_nil]); first | done | with_reducible rfl)) ?_ (by first | exact True.intro | exact ⟨_, rfl, by ((try simp only [ev_tmp, ev_const, ev_func, get_put, get_args, get_putL, get_putL_nil, Nat.reduceEqDiff, reduceIte, List.getD_cons_zero, List.getD_cons_succ, List.getD_nil, Bool.not_true, Bool.not_false]); first | done | with_reducible rfl)⟩) fun w3 hch3 hs3 ho3 => ?_
    · omega
    have hch3' := hch2.trans hch3
    have hl3 : (xs2.set j (xs2.getD j 0 + 1)).length = p.n := by simp [hl2]
    have hj3 : (xs2.set j (xs2.getD j 0 + 1)).getD j 0 = x.v.getD j 0 + 1 := by rw [Pc.getD_set_eq _ _ _ (by omega), hj2]
    have hlow3 : ∀ t, t < j → (xs2.set j (xs2.getD j 0 + 1)).getD t 0 = x.v.getD t 0 := fun t ht => by rw [Pc.getD_set_ne _ _ _ _ (by omega), hlow2 t (by omega)]
    have hz3 : ∀ t, j < t → t < p.n → (xs2.set j (xs2.getD j 0 + 1)).getD t 0 = 0 := fun t h1 h2 => by rw [Pc.getD_set_ne _ _ _ _ (by omega), hz2 t h1 h2]
    generalize xs2.set j (xs2.getD j 0 + 1) = xs3 at ho3 hl3 hj3 hlow3 hz3
    clear ho2 hch2 hch3
    have hch0 : Chg b w w3 := hch3'.pre he1 hbl
    refine go ?_
    refine d_region fun w4 he4 _ => ?_
    refine dgo ?_
    refine d_end (h := ?_)
    have hch4 : Chg b w1 w4 := hch3'.grow he4
    have ho4 : OwnI te b w4 ve xs3 := inferInstance
    clear ho3
    refine go ?_
    refine rwp_mono (Q := onK fun ρ w' => ∃ xs' e, Has ρ [(0, .pointer (some ⟨g, og, none⟩)), (1, ve), (2, .int .i64 j), (6, v1)] ∧ Chg b w1 w' ∧ OwnI te b w' ve xs' ∧ xs' = T.v (p := p) (i := i) e ∧ e * phi (cIn p i j) x.v (j + 1) (p.n - (j + 1)) = x * gOf p i j) ?_ ?_
    · refine c_if (fun h5 => ?_) (fun h5 => ?_)
      · refine go ?_
        refine st_store_int (by ((try simp only [ev_tmp, ev_const, ev_func, get_put, get_args, get_putL, get_putL_nil, Nat.reduceEqDiff, reduceIte, List.getD_cons_zero, List.getD_cons_succ, List.getD_nil]); first | done | with_reducible rfl)) (by ((try simp only [ev_tmp, ev_const, ev_func, get_put, get_args, get_putL, get_putL_nil, Nat.reduceEqDiff, reduceIte, List.getD_cons_zero, List.getD_cons_succ, List.getD_nil]); first | done | with_reducible rfl)) ?_ (by first | exact True.intro | exact ⟨_, rfl, by ((try simp only [ev_tmp, ev_const, ev_func, get_put, get_args, get_putL, get_putL_nil, Nat.reduceEqDiff, reduceIte, List.getD_cons_zero, List.getD_cons_succ, List.getD_nil, Bool.not_true, Bool.not_false]); first | done | with_reducible rfl)⟩) fun w5 hch5 hs5 ho5 => ?_
        · omega
        have hj5 : (xs3.set j 0).getD j 0 = 0 := Pc.getD_set_eq _ _ _ (by omega)
        have hlow5 : ∀ t, t < j → (xs3.set j 0).getD t 0 = x.v.getD t 0 := fun t ht => by rw [Pc.getD_set_ne _ _ _ _ (by omega), hlow3 t ht]
        have hz5 : ∀ t, j < t → t < p.n → (xs3.set j 0).getD t 0 = 0 := fun t h1 h2 => by rw [Pc.getD_set_ne _ _ _ _ (by omega), hz3 t h1 h2]
        obtain ⟨e, he⟩ := mkE x (v := xs3.set j 0) ⟨hij, hjn⟩ (by simp [hl3]) hlow5 (by rw [hj5]; omega) hz5
        rw [← he] at hj5 hlow5 hz5
        have hch15 : Chg b w1 w5 := hch4.trans hch5
        have hch05 : Chg b w w5 := hch15.pre he1 hbl
        clear ho4 hch5
        refine go ?_
        refine rc (htv (x := e) (y := Tw' hv ⟨hij, hjn⟩) (by omega) he.symm rfl (hv.w_zu j hjn)) (next := fun v6 w6 h6 => ?_)
        obtain ⟨hch6, ho6⟩ := h6
        refine go ?_
        refine onK_normal ⟨_, e * Tw' hv ⟨hij, hjn⟩, ?_, hch15.trans hch6, ho6, rfl, tg_eq ⟨hij, hjn⟩ hlow5 hz5 hj5 (by omega)⟩
        exact hasP
      · refine go ?_
        obtain ⟨e, he⟩ := mkE x (v := xs3) ⟨hij, hjn⟩ hl3 hlow3 (by omega) hz3
        rw [← he] at hj3 hlow3 hz3
        refine onK_normal ⟨_, e, ?_, hch4, ho4, he.symm, tg_lt ⟨hij, hjn⟩ hlow3 hz3 hj3⟩
        exact hasP
    · intro ex ρ w5 hK
      cases ex with
      | normal =>
        obtain ⟨xs5, e, hH5, hch5, ho5, hx5, hE⟩ := hK
        clear ho4 hch4 hch3' hch0
        refine thn_normal (rwp_has hH5 fun ρ1 => ?_)
        refine go ?_
        refine r_for (p.n - (j + 1)) (fun k ρ w' => ∃ xs', Has ρ [(0, .pointer (some ⟨g, og, none⟩)), (1, ve), (2, .int .i64 j), (58, v1), (59, .int .i64 rest.length), (60, .int .i64 k)] ∧ Chg b w1 w' ∧ OwnI te b w' ve xs' ∧ xs' = (e * phi (cIn p i j) x.v (j + 1) k).v) ?_ ?_
        · refine ⟨xs5, ?_, hch5, ho5, ?_⟩
          · exact hasP
          · show _ = (e * 1).v
            rw [Grp.mul_one]; exact hx5
        clear ho5 hch5
        rintro k ρ w6 hk ⟨xs6, hH6, hch6, ho6, hx6⟩
        refine rwp_has hH6 fun ρ2 => ?_
        refine go ?_
        refine c_if (fun h6 => ?_) (fun h6 => ?_)
        · have hkn : j + 1 + k < p.n := by omega
          have hyk := x.inr.rng (j + 1 + k) hkn
          have hok := hv.opos hkn
          have hdk := hdg k
          refine go ?_
          refine r_for (x.v.getD (j + 1 + k) 0).toNat (fun q ρ w' => ∃ xs', Has ρ [(0, .pointer (some ⟨g, og, none⟩)), (1, ve), (2, .int .i64 j), (58, v1), (59, .int .i64 rest.length), (60, .int .i64 k), (8, .int .i64 k), (65, .int .i64 (x.v.getD (j + 1 + k) 0)), (66, .int .i64 q)] ∧ Chg b w1 w' ∧ OwnI te b w' ve xs' ∧
            xs' = (e * phi (cIn p i j) x.v (j + 1) k * Grp.pw (cIn p i j (j + 1 + k)) q).v) ?_ ?_
          · refine ⟨xs6, ?_, hch6, ho6, ?_⟩
            · exact hasP
            · rw [Grp.pw_zero, Grp.mul_one]; exact hx6
          clear ho6 hch6
          rintro q ρ w7 hq ⟨xs7, hH7, hch7, ho7, hx7⟩
          refine rwp_has hH7 fun ρ3 => ?_
          have hch07 : Chg b w w7 := hch7.pre he1 hbl
          have hcv : (p.cnj.getD j []).getD k [] = (cIn p i j (j + 1 + k)).v := by
            have : cIn p i j (j + 1 + k) = _ := dif_pos ⟨hij, by omega, hkn⟩
            rw [this]
            show _ = p.c j (j + 1 + k)
            unfold Pr.c
            rw [show j + 1 + k - j - 1 = k by omega]
          refine go ?_
          refine c_if (fun h7 => ?_) (fun h7 => ?_)
          · have hzc : ZU (j + 1) (cIn p i j (j + 1 + k)).v := by
              have : cIn p i j (j + 1 + k) = _ := dif_pos ⟨hij, by omega, hkn⟩
              rw [this]
              exact hv.c_zu _ _ (by omega) hkn
            refine go ?_
            refine rc (htv (x := e * phi (cIn p i j) x.v (j + 1) k * Grp.pw (cIn p i j (j + 1 + k)) q) (y := cIn p i j (j + 1 + k)) (by omega) hx7 hcv (by rw [hcv]; exact hzc)) (next := fun v8 w8 h8 => ?_)
            obtain ⟨hch8, ho8⟩ := h8
            refine go ?_
            refine forQ_normal (by omega) ⟨_, ?_, hch7.trans hch8, ho8, ?_⟩
            · exact hasP
            · rw [Grp.pw_succ, ← Grp.mul_assoc]
          · refine go ?_
            refine forQ_normal (by omega) ⟨xs7, ?_, hch7, ho7, ?_⟩
            · exact hasP
            · rw [hx7, phi_last, show q = (x.v.getD (j + 1 + k) 0).toNat by omega, Grp.mul_assoc]
        · obtain rfl : k = p.n - (j + 1) := by omega
          refine go ?_
          refine retQ_0 ⟨hch6.pre he1 hbl, ?_⟩
          rw [hE] at hx6
          rw [← hx6]; exact ho6
      | _ => exact hK.elim
theorem tgv_ok {p : Pr} : ∀ (m j : Nat), p.n - j = m → TGSpec p j ∧ TVSpec p j
  | 0, j, hm => by
    have htg : ∀ k, j ≤ k → TGSpec p k := by
      intro k hk i hcon w vp ve te b kj x xs lo hi hp ho ha hij hjn
      omega
    exact ⟨htg j (Nat.le_refl _), tv_of_tg htg⟩
  | m + 1, j, hm => by
    have ih := tgv_ok (p := p) m (j + 1) (by omega)
    have htg : ∀ k, j ≤ k → TGSpec p k := by
      intro k hk
      by_cases e : k = j
      · subst e; exact tg_of_tv ih.2
      · exact (tgv_ok (p := p) (p.n - k) k rfl).1
    exact ⟨htg j (Nat.le_refl _), tv_of_tg htg⟩
termination_by m => m
decreasing_by all_goals omega
theorem timesGenerator_ok {p : Pr} (j : Nat) : TGSpec p j := (tgv_ok _ j rfl).1
theorem timesVector_ok {p : Pr} (j : Nat) : TVSpec p j := (tgv_ok _ j rfl).2
end Go.Proofs.Ytnphljflkpekmaa

/-
  Walks: the program's products, powers, inverses, conjugates, commutators, images (multiply, power, invert, conjugate, commutator, imageBy, unitVector).
  Conditions: the tail at the level is a group.
-/
namespace Go.Proofs.Ytnphljflkpekmaa
open Go Go.Pc
set_option maxHeartbeats 400000 in
/-- Nothing is multiplied. -/
theorem timesVector0_ok {w : World} {vp ve vf : Value} {lo1 hi1 : Nat} [hf : Ints lo1 hi1 w vf []] : Calls Try.prog 94 #[vp, ve, vf] w (Ret fun _ w' => Ext w w') := by
  refine enter (args := [vp, ve, vf]) (l := []) Try.func94 rfl rfl Try.ntmps94 (by simp) ?_
  refine go ?_
  refine r_for 0 (fun k ρ w' => Has ρ [(9, .int .i64 ([] : List Int).length), (10, .int .i64 k)] ∧ Ext w w') ?_ ?_
  · refine ⟨?_, Ext.refl _⟩
    exact hasP
  rintro k ρ w2 hk ⟨hH, he2⟩
  refine rwp_has hH fun ρ0 => ?_
  refine go ?_
  refine c_if (fun h4 => ?_) (fun h4 => ?_)
  · simp at h4
    omega
  · refine go ?_
    exact retQ_0 he2
section
variable {p : Pr} {i : Nat} [hcon : Con p i]
theorem el0 (hn : p.n = 0) (x : T p i) : x.v = [] := List.eq_nil_of_length_eq_zero (by rw [x.inr.len, hn])
/-- Into a vector of the caller's own, of which the caller's memory ahead of world w0 is apart. -/
theorem timesVectorF_ok {w0 w : World} {vp ve vf : Value} {x y : T p i} {xs ys : List Int} [hp : PresP 0 w0.heap.size w0 vp p] [hf : Ints 0 w0.heap.size w0 vf ys] (he : Ext w0 w) (hx : Fr w0.heap.size w ve xs) (hi : i ≤ p.n) (hxs : xs = x.v) (hys : ys = y.v) :
    Calls Try.prog 94 #[vp, ve, vf] w (Ret fun _ w' => Ext w0 w' ∧ Fr w0.heap.size w' ve (x * y).v) := by
  by_cases hn : p.n = 0
  · have h1 : ys = [] := by rw [hys]; exact el0 hn y
    subst h1
    refine Calls.ret_mono (timesVector0_ok (vf := vf) (lo1 := 0) (hi1 := w0.heap.size)) fun v w' h => ⟨he.trans h, ?_⟩
    rw [el0 hn (x * y), ← el0 hn x, ← hxs]
    exact hx.ext' h
  · obtain ⟨te, b, hb, ho⟩ := hx.own (by intro e; have := x.inr.len; rw [← hxs, e] at this; simp at this; omega)
    have ha : Apart 0 w0.heap.size b := ⟨.inr hb⟩
    refine Calls.ret_mono (timesVector_ok 0 (x := x) (y := y) hi hxs hys (fun k hk => absurd hk (Nat.not_lt_zero _))) fun v w' h => ?_
    exact ⟨h.1.ext he hb, h.2.toFr hb⟩
set_option maxHeartbeats 1000000 in
theorem multiply_ok {w : World} {vp va vb : Value} {x y : T p i} {xs ys : List Int} {lo hi lo1 hi1 lo2 hi2 : Nat} [hp : PresP lo hi w vp p] [hx : Ints lo1 hi1 w va xs] [hy : Ints lo2 hi2 w vb ys] (hi' : i ≤ p.n) (hxs : xs = x.v) (hys : ys = y.v) :
    Calls Try.prog 91 #[vp, va, vb] w (Ret fun v w' => Ext w w' ∧ Fr w.heap.size w' v (x * y).v) := by
  have hn6 := hcon.valid.n6
  replace hp := hp.wide
  replace hy := hy.wide
  refine enter (args := [vp, va, vb]) (l := [.tmp 6]) Try.func91 rfl rfl Try.ntmps91 (by simp) ?_
  refine go ?_
  refine rc (cloneI_ok (xs := xs) ?_) (next := fun v1 w1 h4 => ?_)
  · rw [hxs, x.inr.len]; omega
  obtain ⟨he1, hf1⟩ := h4
  refine go ?_
  refine rc (timesVectorF_ok (x := x) (y := y) he1 hf1 hi' hxs hys) (next := fun v2 w2 h5 => ?_)
  obtain ⟨he2, hf2⟩ := h5
  refine go ?_
  exact ret1 ⟨he2, hf2⟩
set_option maxHeartbeats 1000000 in
theorem power_ok {w : World} {vp va : Value} {x : T p i} {xs : List Int} {k : Int} {lo hi lo1 hi1 : Nat} [hp : PresP lo hi w vp p] [hx : Ints lo1 hi1 w va xs] (hi' : i ≤ p.n) (hxs : xs = x.v) (hk : 0 ≤ k ∧ k ≤ 9223372036854775806) :
    Calls Try.prog 56 #[vp, va, .int .i64 k] w (Ret fun v w' => Ext w w' ∧ Fr w.heap.size w' v (Grp.pw x k.toNat).v) := by
  have hn6 := hcon.valid.n6
  have hxl := x.inr.len
  replace hp := hp.wide
  replace hx := hx.wide
  refine enter (args := [vp, va, .int .i64 k]) (l := [.tmp 6]) Try.func56 rfl rfl Try.ntmps56 (by simp) ?_
  refine go ?_
  refine st_make_int (by ((try simp only [ev_tmp, ev_const, ev_func, get_put, get_args, get_putL, get_putL_nil, Nat.reduceEqDiff, reduceIte, List.getD_cons_zero, List.getD_cons_succ, List.getD_nil]); first | done | with_reducible rfl)) (by ((try simp only [ev_tmp, ev_const, ev_func, get_put, get_args, get_putL, get_putL_nil, Nat.reduceEqDiff, reduceIte, List.getD_cons_zero, List.getD_cons_succ, List.getD_nil]); first | done | with_reducible rfl)) (by omega) (by rw [hxs]; omega) (by first | exact True.intro | exact ⟨_, rfl, by ((try simp only [ev_tmp, ev_const, ev_func, get_put, get_args, get_putL, get_putL_nil, Nat.reduceEqDiff, reduceIte, List.getD_cons_zero, List.getD_cons_succ, List.getD_nil, Bool.not_true, Bool.not_false]); first | done | with_reducible rfl)⟩) fun w1 v1 he1 hs1 ho1 => ?_
  have hz : Fr w.heap.size w1 v1 (zeros p.n) := by
    have := ho1.toFr (Nat.le_refl w.heap.size)
    rwa [hxs, hxl] at this
  refine go ?_
  refine r_for k.toNat (fun q ρ w' => Has ρ [(0, vp), (1, va), (7, v1), (11, .int .i64 k), (12, .int .i64 q)] ∧ Ext w w' ∧ Fr w.heap.size w' v1 (Grp.pw x q).v) ?_ ?_
  · refine ⟨?_, he1, hz⟩
    exact hasP
  rintro q ρ w2 hq ⟨hH, he2, hf2⟩
  refine rwp_has hH fun ρ0 => ?_
  refine go ?_
  refine c_if (fun h4 => ?_) (fun h4 => ?_)
  · refine go ?_
    refine rc (timesVectorF_ok (x := Grp.pw x q) (y := x) he2 hf2 hi' rfl hxs) (next := fun v3 w3 h5 => ?_)
    obtain ⟨he3, hf3⟩ := h5
    refine go ?_
    refine forQ_normal (by omega) ⟨?_, he3, hf3⟩
    exact hasP
  · obtain rfl : q = k.toNat := by omega
    refine go ?_
    exact ret1 ⟨he2, hf2⟩
theorem co_gen {l : Nat} (hl : i ≤ l ∧ l < p.n) (x : T p i) : (∀ t, t < l → (x * gOf p i l).v.getD t 0 = x.v.getD t 0) ∧ (x * gOf p i l).v.getD l 0 = (x.v.getD l 0 + 1) % p.o l := by
  have hv := hcon.valid
  have hu := unitv_in hv (j := l) (k := 1) (by omega) (fun _ => by have := hv.opos hl.2; omega)
  have h := atv_low hv hl.2 (l - i) i rfl hl.1 x.v (unitv p l 1) x.inr hu x.zu (unitv_zu p (Nat.le_refl _) 1)
  rw [gOf_eq hl]
  have e1 : (unitv p l 1).getD l 0 = 1 := Pc.getD_set_eq _ _ _ (by rw [zeros_len]; exact hl.2)
  rw [e1] at h
  exact h
end
end Go.Proofs.Ytnphljflkpekmaa

/-
  Walks: the program's inverses, conjugates, commutators, images (invert, conjugate, commutator, imageBy, unitVector).
  Conditions: the tail at the level is a group.
-/
namespace Go.Proofs.Ytnphljflkpekmaa
open Go Go.Pc
section
variable {p : Pr} {i : Nat} [hcon : Con p i]
theorem one_of_zero {x : T p i} (h : ∀ t, t < p.n → x.v.getD t 0 = 0) : x = 1 :=
  T.ext (inr_ext x.inr hcon.valid.zeros_in fun t ht => by rw [h t ht]; exact (zeros_getD _ _).symm)
set_option maxHeartbeats 2000000 in
theorem invert_ok {w : World} {vp va : Value} {x : T p i} {xs : List Int} {lo hi lo1 hi1 : Nat} [hp : PresP lo hi w vp p] [hx : Ints lo1 hi1 w va xs] (hxs : xs = x.v) :
    Calls Try.prog 92 #[vp, va] w (Ret fun v w' => Ext w w' ∧ Fr w.heap.size w' v (x⁻¹).v) := by
  subst hxs
  have hv := hcon.valid
  have hn6 := hv.n6
  have hxl := x.inr.len
  replace hp := hp.wide
  replace hx := hx.wide
  refine enter (args := [vp, va]) (l := [.tmp 4]) Try.func92 rfl rfl Try.ntmps92 (by simp) ?_
  refine go ?_
  refine rc (cloneI_ok (xs := x.v) (by omega)) (next := fun v1 w1 h4 => ?_)
  obtain ⟨he1, hf1⟩ := h4
  refine go ?_
  refine st_make_int (by ((try simp only [ev_tmp, ev_const, ev_func, get_put, get_args, get_putL, get_putL_nil, Nat.reduceEqDiff, reduceIte, List.getD_cons_zero, List.getD_cons_succ, List.getD_nil]); first | done | with_reducible rfl)) (by ((try simp only [ev_tmp, ev_const, ev_func, get_put, get_args, get_putL, get_putL_nil, Nat.reduceEqDiff, reduceIte, List.getD_cons_zero, List.getD_cons_succ, List.getD_nil]); first | done | with_reducible rfl)) (by omega) (by omega) (by first | exact True.intro | exact ⟨_, rfl, by ((try simp only [ev_tmp, ev_const, ev_func, get_put, get_args, get_putL, get_putL_nil, Nat.reduceEqDiff, reduceIte, List.getD_cons_zero, List.getD_cons_succ, List.getD_nil, Bool.not_true, Bool.not_false]); first | done | with_reducible rfl)⟩) fun w2 v2 he2 hs2 ho2 => ?_
  have hfi := hf1.ints
  by_cases hn : p.n = 0
  · have hx0 := el0 hn x
    refine go ?_
    refine r_for 0 (fun k ρ w' => Has ρ [(6, v2), (14, .int .i64 x.v.length), (15, .int .i64 k)] ∧ Ext w2 w') ?_ ?_
    · refine ⟨?_, Ext.refl _⟩
      exact hasP
    rintro k ρ w3 hk ⟨hH, he3⟩
    refine rwp_has hH fun ρ0 => ?_
    refine go ?_
    refine c_if (fun h4 => ?_) (fun h4 => ?_)
    · omega
    · refine go ?_
      refine ret1 ⟨(he1.trans he2).trans he3, ?_⟩
      have h5 := ho2.toFr (lo := w.heap.size) he1.size
      rw [el0 hn x⁻¹]
      rw [hx0] at h5
      exact h5.ext' he3
  · obtain ⟨te, b1, hb1, ho1⟩ := hf1.own (by intro e; rw [e] at hxl; simp at hxl; omega)
    have hbl := ho1.lt
    have hz1 := he1.size
    have ho2' : ∃ b2, b2 ≠ b1 ∧ w.heap.size ≤ b2 ∧ OwnI 2 b2 w2 v2 (1 : T p i).v := ⟨_, by omega, hz1, by rw [hxl] at ho2; exact ho2⟩
    clear ho2
    obtain ⟨b2, hb21, hb2, ho2⟩ := ho2'
    have ap1 : Apart 0 w.heap.size b1 := ⟨.inr hb1⟩
    have ap2 : Apart 0 w.heap.size b2 := ⟨.inr hb2⟩
    have ho1' : OwnI te b1 w2 v1 (x * 1).v := by rw [Grp.mul_one]; exact OwnI.ext (h := ho1)
    clear ho1 hfi hf1
    have hxl1 := (x * 1).inr.len
    refine go ?_
    refine r_for p.n (fun k ρ w' => ∃ z xs zs, Has ρ [(0, vp), (5, v1), (6, v2), (14, .int .i64 p.n), (15, .int .i64 k)] ∧ Ext w w' ∧ OwnI te b1 w' v1 xs ∧ OwnI 2 b2 w' v2 zs ∧ xs = (x * z).v ∧ zs = T.v (p := p) (i := i) z ∧ ∀ t, t < k → (x * z).v.getD t 0 = 0) ?_ ?_
    · refine ⟨1, _, _, ?_, he1.trans he2, ho1', ho2, rfl, rfl, fun t ht => by omega⟩
      exact hasP
    rintro k ρ w3 hk ⟨z, xs3, zs3, hH3, he3, ho13, ho23, hxs3, hzs3, hz3⟩
    refine rwp_has hH3 fun ρ0 => ?_
    clear ho1' ho2
    refine go ?_
    refine c_if (fun h4 => ?_) (fun h4 => ?_)
    · have hkn : k < p.n := by omega
      have hok := hv.opos hkn
      refine go ?_
      refine r_loop (fun m ρ w' => ∃ z xs zs, Has ρ [(0, vp), (5, v1), (6, v2), (7, .int .i64 k), (14, .int .i64 p.n), (15, .int .i64 k)] ∧ Ext w w' ∧ OwnI te b1 w' v1 xs ∧ OwnI 2 b2 w' v2 zs ∧ xs = (x * z).v ∧ zs = T.v (p := p) (i := i) z ∧ (∀ t, t < k → (x * z).v.getD t 0 = 0) ∧
        m = if xs.getD k 0 = 0 then 0 else (p.o k - xs.getD k 0).toNat) (if xs3.getD k 0 = 0 then 0 else (p.o k - xs3.getD k 0).toNat) ?_ ?_
      · refine ⟨z, xs3, zs3, ?_, he3, ho13, ho23, hxs3, hzs3, hz3, rfl⟩
        exact hasP
      clear ho13 ho23 hz3 hxs3 hzs3
      rintro m ρ w4 ⟨z, xs4, zs4, hH4, he4, ho14, ho24, hxs4, hzs4, hz4, hm⟩
      refine rwp_has hH4 fun ρ1 => ?_
      have hxr := (x * z).inr.rng k hkn
      have hxl4 : xs4.length = p.n := by rw [hxs4]; exact (x * z).inr.len
      rw [← hxs4] at hxr
      refine go ?_
      refine c_if (fun h5 => ?_) (fun h5 => ?_)
      · rw [if_neg h5] at hm
        have hik : i ≤ k := by
          by_cases h : i ≤ k
          · exact h
          · exact absurd (by rw [hxs4]; exact (x * z).zu k (by omega)) h5
        have hco := co_gen ⟨hik, hkn⟩ (x * z)
        refine go ?_
        refine rc (timesGenerator_ok k (x := x * z) hik hkn rfl hxs4) (next := fun v5 w5 h6 => ?_)
        obtain ⟨hc5, ho15⟩ := h6
        have ho25 := ho24.chg' hc5 hb21
        have he5 := hc5.ext he4 hb1
        clear ho14 ho24 hc5
        refine go ?_
        refine rc (timesGenerator_ok k (x := z) hik hkn rfl hzs4) (next := fun v6 w6 h7 => ?_)
        obtain ⟨hc6, ho26⟩ := h7
        have ho16 := ho15.chg' hc6 (fun e => hb21 e.symm)
        have he6 := hc6.ext he5 hb2
        clear ho15 ho25 hc6
        refine go ?_
        refine loopQ_normal ?_ ⟨z * gOf p i k, _, _, ?_, he6, ho16, ho26, by rw [Grp.mul_assoc], rfl, fun t ht => ?_, rfl⟩
        · rw [hco.2, ← hxs4, hm]
          by_cases h8 : xs4.getD k 0 + 1 = p.o k
          · rw [if_pos (by rw [h8, Int.emod_self])]; omega
          · rw [Int.emod_eq_of_lt (by omega) (by omega), if_neg (by omega)]; omega
        · exact hasP
        · rw [← Grp.mul_assoc, hco.1 t ht]; exact hz4 t ht
      · refine go ?_
        refine forQ_normal (by omega) ⟨z, xs4, zs4, ?_, he4, ho14, ho24, hxs4, hzs4, fun t ht => ?_⟩
        · exact hasP
        · by_cases e : t = k
          · subst e; rw [← hxs4]; exact Decidable.not_not.1 h5
          · exact hz4 t (by omega)
    · obtain rfl : k = p.n := by omega
      refine go ?_
      have h5 := Grp.eq_inv_of_mul' (one_of_zero hz3)
      refine ret1 ⟨he3, ?_⟩
      rw [← h5, ← hzs3]
      exact ho23.toFr hb2
set_option maxHeartbeats 1000000 in
theorem conjugate_ok {w : World} {vp va vb : Value} {x y : T p i} {xs ys : List Int} {lo hi lo1 hi1 lo2 hi2 : Nat} [hp : PresP lo hi w vp p] [hx : Ints lo1 hi1 w va xs] [hy : Ints lo2 hi2 w vb ys] (hi' : i ≤ p.n) (hxs : xs = x.v) (hys : ys = y.v) :
    Calls Try.prog 57 #[vp, va, vb] w (Ret fun v w' => Ext w w' ∧ Fr w.heap.size w' v (Grp.cj x y).v) := by
  refine enter (args := [vp, va, vb]) (l := [.tmp 6]) Try.func57 rfl rfl Try.ntmps57 (by simp) ?_
  refine go ?_
  refine rc (invert_ok (x := y) hys) (next := fun v1 w1 h4 => ?_)
  obtain ⟨he1, hf1⟩ := h4
  refine go ?_
  refine rc (multiply_ok (x := x) (y := y) hi' hxs hys) (next := fun v2 w2 h5 => ?_)
  obtain ⟨he2, hf2⟩ := h5
  refine go ?_
  refine rc (multiply_ok (x := y⁻¹) (y := x * y) (xs := (y⁻¹).v) (ys := (x * y).v) hi' rfl rfl) (next := fun v3 w3 h6 => ?_)
  obtain ⟨he3, hf3⟩ := h6
  refine go ?_
  have hE := he1.trans he2
  exact ret1 ⟨hE.trans he3, hf3.mono hE.size⟩
set_option maxHeartbeats 1000000 in
theorem commutator_ok {w : World} {vp va vb : Value} {x y : T p i} {xs ys : List Int} {lo hi lo1 hi1 lo2 hi2 : Nat} [hp : PresP lo hi w vp p] [hx : Ints lo1 hi1 w va xs] [hy : Ints lo2 hi2 w vb ys] (hi' : i ≤ p.n) (hxs : xs = x.v) (hys : ys = y.v) :
    Calls Try.prog 123 #[vp, va, vb] w (Ret fun v w' => Ext w w' ∧ Fr w.heap.size w' v (Grp.cm x y).v) := by
  refine enter (args := [vp, va, vb]) (l := [.tmp 6]) Try.func123 rfl rfl Try.ntmps123 (by simp) ?_
  refine go ?_
  refine rc (invert_ok (x := x) hxs) (next := fun v1 w1 h4 => ?_)
  obtain ⟨he1, hf1⟩ := h4
  refine go ?_
  refine rc (conjugate_ok (x := x) (y := y) hi' hxs hys) (next := fun v2 w2 h5 => ?_)
  obtain ⟨he2, hf2⟩ := h5
  refine go ?_
  refine rc (multiply_ok (x := x⁻¹) (y := Grp.cj x y) (xs := (x⁻¹).v) (ys := (Grp.cj x y).v) hi' rfl rfl) (next := fun v3 w3 h6 => ?_)
  obtain ⟨he3, hf3⟩ := h6
  refine go ?_
  have hE := he1.trans he2
  exact ret1 ⟨hE.trans he3, hf3.mono hE.size⟩
end
set_option maxHeartbeats 1000000 in
theorem imageBy_ok {p : Pr} {i : Nat} [hcon : Con p (i + 1)] (hi' : i < p.n) {w : World} {vp va : Value} {xs : List Int} {ki : Int} {lo hi lo1 hi1 : Nat} [hp : PresP lo hi w vp p] [hx : Ints lo1 hi1 w va xs] (hki : ki = i) (hxr : InR p xs) :
    Calls Try.prog 133 #[vp, .int .i64 ki, va] w (Ret fun v w' => Ext w w' ∧ Fr w.heap.size w' v (img p i xs)) := by
  subst hki
  have hv := hcon.valid
  have hn6 := hv.n6
  have hcl : p.cnj.length = p.n := hv.lenc
  have hci := hv.lenci i hi'
  have hxl := hxr.len
  replace hp := hp.wide
  replace hx := hx.wide
  obtain ⟨g, og, vo, vpw, vc, ps, cs, css, rfl, hg1, hg2, hc0, hc1, hc2, h1, h2, h3⟩ := hp.ex
  refine enter (args := [.pointer (some ⟨g, og, none⟩), .int .i64 i, va]) (l := [.tmp 6]) Try.func133 rfl rfl Try.ntmps133 (by simp) ?_
  refine go ?_
  refine st_make_int (by ((try simp only [ev_tmp, ev_const, ev_func, get_put, get_args, get_putL, get_putL_nil, Nat.reduceEqDiff, reduceIte, List.getD_cons_zero, List.getD_cons_succ, List.getD_nil]); first | done | with_reducible rfl)) (by ((try simp only [ev_tmp, ev_const, ev_func, get_put, get_args, get_putL, get_putL_nil, Nat.reduceEqDiff, reduceIte, List.getD_cons_zero, List.getD_cons_succ, List.getD_nil]); first | done | with_reducible rfl)) (by omega) (by omega) (by first | exact True.intro | exact ⟨_, rfl, by ((try simp only [ev_tmp, ev_const, ev_func, get_put, get_args, get_putL, get_putL_nil, Nat.reduceEqDiff, reduceIte, List.getD_cons_zero, List.getD_cons_succ, List.getD_nil, Bool.not_true, Bool.not_false]); first | done | with_reducible rfl)⟩) fun w1 v1 he1 hs1 ho1 => ?_
  have hz : Fr w.heap.size w1 v1 (1 : T p (i + 1)).v := by
    have := ho1.toFr (Nat.le_refl w.heap.size)
    rw [hxl] at this; exact this
  clear ho1
  refine go ?_
  refine r_for (p.n - (i + 1)) (fun k ρ w' => Has ρ [(0, .pointer (some ⟨g, og, none⟩)), (1, .int .i64 i), (2, va), (7, v1), (19, Pc.rowAt vc cs i), (20, .int .i64 (p.cnj.getD i []).length), (21, .int .i64 k)] ∧ Ext w w' ∧ Fr w.heap.size w' v1 (phi (cOf p i) xs (i + 1) k).v) ?_ ?_
  · refine ⟨?_, he1, hz⟩
    exact hasP
  rintro k ρ w2 hk ⟨hH2, he2, hf2⟩
  refine rwp_has hH2 fun ρ0 => ?_
  refine go ?_
  refine c_if (fun h4 => ?_) (fun h4 => ?_)
  · have hkn : i + 1 + k < p.n := by omega
    have hxk := hxr.rng (i + 1 + k) hkn
    have hok := hv.opos hkn
    refine go ?_
    refine r_for (xs.getD (i + 1 + k) 0).toNat (fun q ρ w' => Has ρ [(0, .pointer (some ⟨g, og, none⟩)), (1, .int .i64 i), (2, va), (7, v1), (9, Pc.rowAt (Pc.rowAt vc cs i) (css.getD i []) k), (19, Pc.rowAt vc cs i), (20, .int .i64 (p.cnj.getD i []).length), (21, .int .i64 k), (32, .int .i64 (xs.getD (i + 1 + k) 0)), (33, .int .i64 q)] ∧ Ext w w' ∧
      Fr w.heap.size w' v1 (phi (cOf p i) xs (i + 1) k * Grp.pw (cOf p i (i + 1 + k)) q).v) ?_ ?_
    · refine ⟨?_, he2, ?_⟩
      · exact hasP
      · rw [Grp.pw_zero, Grp.mul_one]; exact hf2
    clear he2 hf2
    rintro q ρ w3 hq ⟨hH3, he3, hf3⟩
    refine rwp_has hH3 fun ρ1 => ?_
    have hcv : (p.cnj.getD i []).getD k [] = (cOf p i (i + 1 + k)).v := by
      have : cOf p i (i + 1 + k) = _ := dif_pos ⟨by omega, hkn⟩
      rw [this]
      show _ = p.c i (i + 1 + k)
      unfold Pr.c
      rw [show i + 1 + k - i - 1 = k by omega]
    refine go ?_
    refine c_if (fun h5 => ?_) (fun h5 => ?_)
    · refine go ?_
      refine rc (timesVectorF_ok (x := phi (cOf p i) xs (i + 1) k * Grp.pw (cOf p i (i + 1 + k)) q) (y := cOf p i (i + 1 + k)) he3 hf3 (by omega) rfl hcv) (next := fun v4 w4 h6 => ?_)
      obtain ⟨he4, hf4⟩ := h6
      refine go ?_
      refine forQ_normal (by omega) ⟨?_, he4, ?_⟩
      · exact hasP
      · rw [Grp.pw_succ, ← Grp.mul_assoc]; exact hf4
    · refine go ?_
      refine forQ_normal (by omega) ⟨?_, he3, ?_⟩
      · exact hasP
      · rw [phi_last, ← show q = (xs.getD (i + 1 + k) 0).toNat by omega]; exact hf3
  · obtain rfl : k = p.n - (i + 1) := by omega
    refine go ?_
    refine ret1 ⟨he2, ?_⟩
    have hin := imgTo_in hv (atv_in hv _ (i + 1) rfl) xs (p.n - (i + 1)) (Nat.le_refl _)
    have h5 := imgTo_phi xs (p.n - (i + 1)) (Nat.le_refl _) hin.1 hin.2
    rw [← h5] at hf2
    rw [img_eq]; exact hf2
set_option maxHeartbeats 400000 in
theorem unitVector_ok {w : World} {n i : Nat} {kn ki : Int} (hkn : kn = n) (hki : ki = i) (hn : n ≤ 2000000) (hi : i < n) :
    Calls Try.prog 134 #[.int .i64 kn, .int .i64 ki] w (Ret fun v' w' => Ext w w' ∧ Fr w.heap.size w' v' ((zeros n).set i 1)) := by
  subst hkn hki
  refine enter (args := [.int .i64 n, .int .i64 i]) (l := [.tmp 4]) Try.func134 rfl rfl Try.ntmps134 (by simp) ?_
  refine go ?_
  refine st_make_int (by ((try simp only [ev_tmp, ev_const, ev_func, get_put, get_args, get_putL, get_putL_nil, Nat.reduceEqDiff, reduceIte, List.getD_cons_zero, List.getD_cons_succ, List.getD_nil]); first | done | with_reducible rfl)) (by ((try simp only [ev_tmp, ev_const, ev_func, get_put, get_args, get_putL, get_putL_nil, Nat.reduceEqDiff, reduceIte, List.getD_cons_zero, List.getD_cons_succ, List.getD_nil]); first | done | with_reducible rfl)) (by omega) (by omega) (by first | exact True.intro | exact ⟨_, rfl, by ((try simp only [ev_tmp, ev_const, ev_func, get_put, get_args, get_putL, get_putL_nil, Nat.reduceEqDiff, reduceIte, List.getD_cons_zero, List.getD_cons_succ, List.getD_nil, Bool.not_true, Bool.not_false]); first | done | with_reducible rfl)⟩) fun w1 v1 he1 hs1 ho1 => ?_
  have hlen : (List.replicate n (0 : Int)).length = n := by simp
  refine go ?_
  refine st_store_int (by ((try simp only [ev_tmp, ev_const, ev_func, get_put, get_args, get_putL, get_putL_nil, Nat.reduceEqDiff, reduceIte, List.getD_cons_zero, List.getD_cons_succ, List.getD_nil]); first | done | with_reducible rfl)) (by ((try simp only [ev_tmp, ev_const, ev_func, get_put, get_args, get_putL, get_putL_nil, Nat.reduceEqDiff, reduceIte, List.getD_cons_zero, List.getD_cons_succ, List.getD_nil]); first | done | with_reducible rfl)) ?_ (by first | exact True.intro | exact ⟨_, rfl, by ((try simp only [ev_tmp, ev_const, ev_func, get_put, get_args, get_putL, get_putL_nil, Nat.reduceEqDiff, reduceIte, List.getD_cons_zero, List.getD_cons_succ, List.getD_nil, Bool.not_true, Bool.not_false]); first | done | with_reducible rfl)⟩) fun w2 hc2 hs2 ho2 => ?_
  · omega
  refine go ?_
  exact ret1 ⟨hc2.ext he1 (Nat.le_refl _), ho2.toFr (Nat.le_refl _)⟩
end Go.Proofs.Ytnphljflkpekmaa

/-
  A list that is appended to at its end and shortened at its front: a slice of the call's own, from some place of its block on.
  Conditions: none; nothing of the program stands here.
-/
namespace Go.Pc
open Go Go.RowKit
class OwnQ (e base : outParam Nat) (w : World) (v : Value) (us : outParam (List Value)) : Prop where
  ex : (v = nilv ∧ us = []) ∨ ∃ g off cap cur, v = .slice (some ⟨g, off, none⟩) us.length cap ∧ base ≤ g ∧ w.heap[g]? = some (.cells cur e (0, 0)) ∧ us.length ≤ cap ∧ cap ≤ maxLen ∧ off + cap ≤ cur.size ∧ (cur.toList.drop off).take us.length = us
section
variable {e base lo hi : Nat} {w w' : World} {v : Value} {us : List Value} {xss : List (List Int)} {av av' : Nat → Prop}
theorem add_lit (g o n : Nat) : (Addr.mk g o none).add n = ⟨g, o + n, none⟩ := by unfold Addr.add; split <;> simp_all
theorem OwnN.toQ (h : OwnN e base w v us) : OwnQ e base w v us := by
  rcases h.own.2 with ⟨rfl, h0⟩ | ⟨g, cap, cur, hv, hb, hg, hn, hm, hs, ht⟩
  · exact ⟨.inl ⟨rfl, List.eq_nil_of_length_eq_zero h0⟩⟩
  · exact ⟨.inr ⟨g, 0, cap, cur, hv, hb, hg, hn, hm, by simp at hs; omega, by simpa using ht⟩⟩
theorem OwnQ.lt (h : OwnQ e base w v us) : ∀ k, v.ownBlock = some k → base ≤ k ∧ k < w.heap.size := by
  intro k hk
  rcases h.ex with ⟨rfl, _⟩ | ⟨g, off, cap, cur, rfl, hb, hg, _⟩
  · cases hk
  · have : g = k := by simpa [Value.ownBlock] using hk
    subst this
    exact ⟨hb, (Array.getElem?_eq_some_iff.1 hg).1⟩
theorem OwnQ.keep (h : OwnQ e base w v us) (hb : ∀ k, v.ownBlock = some k → w'.heap[k]? = w.heap[k]?) : OwnQ e base w' v us := by
  rcases h.ex with h | ⟨g, off, cap, cur, rfl, hb', hg, h1, h2, h3, h4⟩
  · exact ⟨.inl h⟩
  · exact ⟨.inr ⟨g, off, cap, cur, rfl, hb', by rw [hb g rfl]; exact hg, h1, h2, h3, h4⟩⟩
instance (priority := low) OwnQ.ext [x : Ext w w'] [h : OwnQ e base w v us] : OwnQ e base w' v us := h.keep fun k hk => x.below.block k (h.lt k hk).2
theorem OwnQ.other {b : Nat} (h : OwnQ e base w v us) (c : Chg b w w') (hb : v.ownBlock ≠ some b) : OwnQ e base w' v us :=
  h.keep fun k hk => c.by_.block k (h.lt k hk).2 (fun e => hb (by rw [hk, e]))
theorem OwnQ.toSl (h : OwnQ e base w v us) : Sl base w.heap.size w v us := by
  rcases h.ex with ⟨rfl, rfl⟩ | ⟨g, off, cap, cur, rfl, hb, hg, h1, h2, h3, h4⟩
  · exact ⟨⟨none, 0, rfl, Nat.le_refl _, by omega, fun k u hu => by simp at hu⟩⟩
  · have hlt : g < w.heap.size := (Array.getElem?_eq_some_iff.1 hg).1
    refine ⟨⟨some ⟨g, off, none⟩, cap, rfl, h1, by simp only [maxLen] at h2; omega, fun k u hu => ⟨_, rfl, hb, hlt, ?_⟩⟩⟩
    rw [add_lit, cell_of_row w g (off + k) cur e (0, 0) hg]
    rw [← h4, List.getElem?_take, List.getElem?_drop] at hu
    split at hu
    · simpa using hu
    · cases hu
theorem cut_block (v : Value) (l h : Nat) : (cut v l h).ownBlock = v.ownBlock := by
  unfold cut
  split
  · rename_i a _ c
    unfold sliced
    split
    · cases a <;> rfl
    · cases a <;> simp [Value.ownBlock, add_block]
  · rfl
/-- The front is cut off. -/
theorem OwnQ.tail {u : Value} (h : OwnQ e base w v (u :: us)) : OwnQ e base w (cut v 1 (us.length + 1)) us := by
  rcases h.ex with ⟨_, h⟩ | ⟨g, off, cap, cur, rfl, hb, hg, h1, h2, h3, h4⟩
  · cases h
  · simp only [List.length_cons] at h1 h4
    have h5 : (cur.toList.drop (off + 1)).take us.length = us := by
      have e1 : cur.toList.drop (off + 1) = (cur.toList.drop off).drop 1 := by rw [List.drop_drop]
      have e2 : ((cur.toList.drop off).drop 1).take us.length = ((cur.toList.drop off).take (us.length + 1)).drop 1 := by rw [List.drop_take]; simp
      rw [e1, e2, h4]; rfl
    refine ⟨.inr ?_⟩
    by_cases hc : cap = 1
    · have hz : us = [] := List.eq_nil_of_length_eq_zero (by omega)
      subst hz
      refine ⟨g, off, 0, cur, ?_, hb, hg, Nat.le_refl _, by simp [maxLen], by omega, by simp⟩
      simp [cut, sliced, hc]
    · refine ⟨g, off + 1, cap - 1, cur, ?_, hb, hg, by omega, by omega, by omega, h5⟩
      simp [cut, sliced, hc, add_lit]
variable {P : Program} {ty : TypeId}
theorem run_appendQ {t bytes : Nat} {z y u : Value} (ht : P.underlying t = some (.slice e)) (he : ElT P e 1 bytes z) (hz : z.cells.size = 1) (hv : OwnQ e base w v us) (hy : Sl lo hi w y [u])
    (h1 : u.oneCell' = true) (hb : (us.length + 1) * bytes ≤ 140737488355328) (hl : us.length + 1 ≤ maxLen) (hbase : base ≤ w.heap.size) :
    ∃ v' w', (Builtin.append_ #[t, t] ty #[v, y]).run P w = .ok v' w' ∧ OwnQ e base w' v' (us ++ [u]) ∧ w.grownBy w' v.ownBlock ∧ (v'.ownBlock = v.ownBlock ∨ v'.ownBlock = some w.heap.size) := by
  rcases hv.ex with ⟨rfl, rfl⟩ | ⟨g, off, cap, cur, rfl, hb', hg, hn, hm, hs, hk⟩
  · obtain ⟨v', w', h2, h3, h4, h5⟩ := run_append (P := P) (ty := ty) ht he hz (OwnN.nil e base w) hy (fun a ha => by rw [List.mem_singleton.1 ha]; exact h1) (by simpa using hb) (by simpa using hl) hbase
    exact ⟨v', w', h2, h3.toQ, h4, h5⟩
  · obtain ⟨i, hi', hsz, hby, hz'⟩ := he.ex
    obtain ⟨A, c, rfl, hc, hmx, hcell⟩ := hy.ex
    obtain ⟨ad, rfl, _, _, hcu⟩ := hcell 0 u rfl
    have hlt : g < w.heap.size := (Array.getElem?_eq_some_iff.1 hg).1
    have hsrc : Src P i.size t (.slice (some ad) 1 c) 1 [u] w := Src.ofSlice w ht ad 1 c [u] (by simp [hsz]) (fun j x hx => by
      cases j with
      | zero => simp at hx; subst hx; exact hcu
      | succ j => simp at hx) (fun a ha => by rw [List.mem_singleton.1 ha]; exact h1)
    have holds : ∀ j x, us[j]? = some x → cur[off + j]? = some x := fun j x hx => by
      rw [← hk, List.getElem?_take, List.getElem?_drop] at hx
      split at hx
      · simpa using hx
      · cases hx
    by_cases hfit : us.length + 1 ≤ cap
    · have hidx : off + us.length < cur.size := by omega
      have hr := run_append_room_src (P := P) w t t ty e i ht hi' g off us.length cap _ 1 [u] hsrc hfit
        (fun j hj => by
          have : j = 0 := by simpa using hj
          subst this
          rw [hsz, Nat.mul_one, Nat.add_zero, cell_of_row w g _ cur e (0, 0) hg]; simp [hidx])
        (fun j hj => by simp [World.frozen?, hg])
      refine ⟨_, _, hr, ⟨.inr ⟨g, off, cap, cur.setIfInBounds (off + us.length) u, by simp, hb', ?_, by simpa using hfit, hm, by simpa using hs, ?_⟩⟩, ?_, .inl rfl⟩
      · rw [hsz, Nat.mul_one]
        show (w.setCell ⟨g, off + us.length, none⟩ u).heap[g]? = _
        simp [World.setCell, Array.getElem?_modify, hg]
      · rw [Array.toList_setIfInBounds]
        apply List.ext_getElem?
        intro j
        rw [List.getElem?_take, List.getElem?_drop, List.length_append, List.length_singleton]
        by_cases hj : j < us.length
        · rw [if_pos (by omega), List.getElem?_set_ne (by omega), List.getElem?_append_left hj]
          have := holds j us[j] (List.getElem?_eq_getElem hj)
          rw [List.getElem?_eq_getElem hj]
          simpa using this
        · by_cases hj2 : j = us.length
          · subst hj2
            simp [hidx]
          · rw [if_neg (by omega)]
            symm
            exact List.getElem?_eq_none (by simp; omega)
      · rw [hsz, Nat.mul_one]
        show w.grownBy (w.setCell ⟨g, off + us.length, none⟩ u) (some g)
        exact ⟨rfl, rfl, rfl, by simp [World.setCell], fun k hk hne => Below.heap_setCell _ _ _ _ (by intro e; subst e; exact hne rfl)⟩
    · have hold : (Builtin.firstCells i.size us.length (.slice (some ⟨g, off, none⟩) us.length cap)).run P w.drew = .ok us.toArray w.drew :=
        run_firstCells_some w.drew i.size us.length ⟨g, off, none⟩ us.length cap us (by simp [hsz]) (fun j x hx => by
          rw [add_lit]
          have h6 := holds j x hx
          have := cell_of_row w g (off + j) cur e (0, 0) hg
          rw [h6] at this
          simpa using this)
      have hr := run_append_grow_src (P := P) w t t ty e i z ht hi' hz' (some ⟨g, off, none⟩) us.length cap us hold _ 1 [u] hsrc (by omega) (by simp only [maxLen] at hl; omega)
        (growslice_fits (by omega) (by rw [hby]; exact hb))
      have hge := grownCap_ge w (us.length + 1) cap e
      have hcm := grownCap_le_maxLen w (us.length + 1) cap e hl
      refine ⟨_, _, hr, ⟨.inr ⟨w.heap.size, 0, _, _, by simp, hbase, heap_alloc_new w.drew _, ?_, hcm, ?_, ?_⟩⟩, ?_, .inr rfl⟩
      · simpa using hge
      · simp [size_zeroCells, hz]; omega
      · rw [Array.toList_append, List.drop_zero, List.take_append_of_le_length (by simp)]
        exact List.take_of_length_le (by simp)
      · have hx : Ext w (w.drew.alloc (.cells ((us ++ [u]).toArray ++ Builtin.zeroCells z.cells (grownCap w (us.length + 1) cap e - (us.length + 1))) e)) := (Ext.drew w).trans (Ext.alloc _ _)
        exact ⟨hx.below.os, hx.below.tape, hx.below.output, hx.below.size, fun k hk _ => hx.below.block k hk⟩
structure QLst (e base : Nat) (av : Nat → Prop) (w : World) (v : Value) (us : List Value) (xss : List (List Int)) : Prop where
  own : OwnQ e base w v us
  rows : RowsAp (fun g => av g ∨ v.ownBlock = some g) w us xss
  free : ∀ g, v.ownBlock = some g → ¬ av g
  bd : ∀ g, av g → g < w.heap.size
theorem QLst.len (h : QLst e base av w v us xss) : us.length = xss.length := h.rows.len
theorem QLst.lt (h : QLst e base av w v us xss) {g : Nat} (hg : v.ownBlock = some g) : base ≤ g ∧ g < w.heap.size := h.own.lt g hg
theorem QLst.ext (h : QLst e base av w v us xss) (x : Ext w w') : QLst e base av w' v us xss := by
  have := h.own
  exact ⟨inferInstance, h.rows.ext x, h.free, fun g hg => Nat.lt_of_lt_of_le (h.bd g hg) x.size⟩
theorem QLst.chg {g : Nat} (h : QLst e base av w v us xss) (c : Chg g w w') (hg : av g) : QLst e base av w' v us xss :=
  ⟨h.own.other c (fun e => h.free g e hg), h.rows.chg c (.inl hg), h.free, fun g hg => Nat.lt_of_lt_of_le (h.bd g hg) c.size⟩
theorem QLst.toRows (h : QLst e base av w v us xss) : Rows 0 w.heap.size w v us xss := h.rows.rows h.own.toSl
theorem QLst.tail {u : Value} {xs : List Int} (h : QLst e base av w v (u :: us) (xs :: xss)) : QLst e base av w (cut v 1 (us.length + 1)) us xss :=
  ⟨h.own.tail, by rw [cut_block]; exact h.rows.tail, by rw [cut_block]; exact h.free, h.bd⟩
theorem QLst.push {v' u : Value} {xs : List Int} (h : QLst e base av w v us xss) (hu : IntsAp (fun g => av g ∨ v.ownBlock = some g) w u xs)
    (ho : OwnQ e base w' v' (us ++ [u])) (hg : w.grownBy w' v.ownBlock) (hv : v'.ownBlock = v.ownBlock ∨ v'.ownBlock = some w.heap.size) : QLst e base av w' v' (us ++ [u]) (xss ++ [xs]) := by
  refine ⟨ho, ?_, fun g hg' => ?_, fun g hg' => Nat.lt_of_lt_of_le (h.bd g hg') hg.size⟩
  · have h1 : RowsAp (fun g => (av g ∨ v.ownBlock = some g) ∨ v'.ownBlock = some g) w (us ++ [u]) (xss ++ [xs]) := by
      refine (h.rows.push hu).weak fun g hg' => ?_
      rcases hg' with hg' | hg'
      · exact .inl hg'
      · rcases hv with e | e
        · exact .inl (.inr (by rw [← e]; exact hg'))
        · rw [e] at hg'; injection hg' with hg'; exact .inr (by omega)
    refine (h1.grown hg (fun g e => .inl (.inr e))).weak fun g hg' => .inl ?_
    exact hg'.imp .inl id
  · rcases hv with e | e
    · exact h.free g (by rw [← e]; exact hg')
    · rw [e] at hg'; injection hg' with hg'
      intro ha
      have := h.bd g ha
      omega
end
section
variable {P : Program} {N : Nat} {ops : Array Oper} {π : List Nat} {K : Env → World → Prop} {ρ : Env} {w w0 : World} {l : List Oper}
variable {i : Nat} {ty : TypeId} {pos : String} {after : Array Edge} {g : Option (Nat × Bool)} {d : Nat}
theorem st_appendQ {s x : Operand} {t e bytes lo hi base : Nat} {z v y u : Value} {us : List Value} [ht : SlT P t e] [he : ElT P e 1 bytes z] [hv : OwnQ e base w v us] [hy : Sl lo hi w y [u]]
    (hs : ev ρ s = v) (hx : ev ρ x = y) (hz : z.cells.size = 1) (h1 : u.oneCell' = true) (hb : (us.length + 1) * bytes ≤ 140737488355328) (hl : us.length + 1 ≤ maxLen) (hbase : base ≤ w.heap.size) (hg : Wants ops ρ g)
    (next : ∀ v' w', OwnQ e base w' v' (us ++ [u]) → w.grownBy w' v.ownBlock → (v'.ownBlock = v.ownBlock ∨ v'.ownBlock = some w.heap.size) → rops P N ops K l (put ρ d v') w') :
    rops P N ops K (⟨some d, .call { callee := .builtin .append, args := #[s, x], argTypes := #[t, t] }, ty, pos, after, g⟩ :: l) ρ w := by
  obtain ⟨v', w', hrun, h2, h3, h4⟩ := run_appendQ (P := P) (ty := ty) ht.eq he hz hv hy h1 hb hl hbase
  exact st_ex (v := v') (w' := w') hg ⟨fun _ _ _ _ => by simp [execOp, resolve, invoke, builtin, hs, hx, hrun]⟩ (next v' w' h2 h3 h4)
theorem z_appendQ {s x : Operand} {b t e bytes lo hi' base : Nat} {z v y u : Value} {us : List Value} [ht : SlT P t e] [he : ElT P e 1 bytes z] [hv : OwnQ e base w v us] [hy : Sl lo hi' w y [u]] (hi : opAt ops π i = some ⟨some d, .call { callee := .builtin .append, args := #[s, x], argTypes := #[t, t] }, ty, pos, after, g⟩ := by exact rfl)
    (hs : ev ρ s = v) (hx : ev ρ x = y) (hz : z.cells.size = 1) (h1 : u.oneCell' = true) (hb : (us.length + 1) * bytes ≤ 140737488355328) (hl : us.length + 1 ≤ maxLen) (hbase : base ≤ w.heap.size) (hvb : ∀ g, v.ownBlock = some g → g = b)
    (next : ∀ v' w', OwnQ e base w' v' (us ++ [u]) → w.grownBy w' v.ownBlock → (v'.ownBlock = v.ownBlock ∨ v'.ownBlock = some w.heap.size) → dops P N ops π (Chg b w0) K (i + 1) (put ρ d v') w')
    (hn : nextOk ops π i = true := by decide +kernel) (hd : d < N := by decide) (hg : Wants ops ρ g := by first | exact True.intro | exact ⟨_, rfl, by ((try simp only [ev_tmp, ev_const, ev_func, get_put, get_args, get_putL, get_putL_nil, Nat.reduceEqDiff, reduceIte, List.getD_cons_zero, List.getD_cons_succ, List.getD_nil, Bool.not_true, Bool.not_false]); first | done | with_reducible rfl)⟩) :
    dops P N ops π (Chg b w0) K i ρ w := by
  obtain ⟨v', w', hrun, h2, h3, h4⟩ := run_appendQ (P := P) (ty := ty) ht.eq he hz hv hy h1 hb hl hbase
  have hex : Ex P (.call { callee := .builtin .append, args := #[s, x], argTypes := #[t, t] }) ty ρ w v' w' := by
    constructor; intro _ _ _ _
    simp [execOp, resolve, invoke, builtin, hs, hx, hrun]
  refine dt_ex hi hn hd hg hex (fun hS => hS.trans ⟨?_⟩) (next v' w' h2 h3 h4)
  obtain ⟨a1, a2, a3, a4, a5⟩ := h3
  exact ⟨a1, a2, a3, a4, fun j hj hne => a5 j hj (fun e => hne (by rw [hvb j e.symm]))⟩
/-- A slice of one value, the call's own. -/
theorem st_slice1o {t e bytes : Nat} {x : Operand} {u z : Value} [ht : SlT P t e] [he : ElT P e 1 bytes z] (h : ev ρ x = u) (hu : u.cells = #[u]) (hz : z.cells = #[z]) (hg : Wants ops ρ g)
    (next : ∀ w' v, Ext w w' → w'.heap.size = w.heap.size + 1 → Own e w.heap.size w' v [u] → rops P N ops K l (put ρ d v) w') : rops P N ops K (⟨some d, .buildSlice t 1 #[(0, x)], ty, pos, after, g⟩ :: l) ρ w := by
  obtain ⟨i, hi, hs, hby, hz'⟩ := he.ex
  refine st_ex (v := .slice (some ⟨w.heap.size, 0, none⟩) 1 1) (w' := w.alloc (.cells #[u] e)) hg ⟨fun _ _ _ _ => ?_⟩ (next _ _ (Ext.alloc _ _) (by simp) ?_)
  · simp [execOp, h, Instr.buildSlice, run_underlying ht.eq, sizeOf, typeInfo, hi, hs, zeroValue, hz', hz, Instr.fill, hu, newRow]
    refine congrArg (fun a => w.alloc (Obj.cells a e)) (Array.ext (by simp) fun j h1 h2 => ?_)
    have : j = 0 := by simp at h2; omega
    subst this
    simp
  · have := own_alloc w [u] e (by simp [maxLen])
    simpa using this
end
end Go.Pc

/-
  Tables as lists of lists: what the programs keep of a table, and the canonical list out of it.
  Conditions: the tails at all levels are groups; nothing of the program stands here.
-/
namespace Go.Pc
open Grp
section
variable {p : Pr}
/-- A row of a table: the element, or nothing. -/
def rowOf (t : Tab p) (d : Nat) : List Int := match t d with | none => [] | some y => y.v
def tabL (t : Tab p) : List (List Int) := (List.range p.n).map (rowOf t)
theorem tabL_len (t : Tab p) : (tabL t).length = p.n := by simp [tabL]
theorem tabL_at (t : Tab p) {d : Nat} (hd : d < p.n) : (tabL t).getD d [] = rowOf t d := by simp [tabL, hd]
theorem rowOf_some {t : Tab p} {d : Nat} {y : El p} (h : t d = some y) : rowOf t d = y.v := by unfold rowOf; rw [h]
theorem rowOf_len {t : Tab p} {d : Nat} (hd : d < p.n) : (rowOf t d).length = 0 ↔ t d = none := by
  unfold rowOf
  split
  · rename_i h; simp [h]
  · rename_i y h; rw [y.inr.len]; simp [h]; omega
theorem tabL_none : tabL (fun _ => none : Tab p) = List.replicate p.n [] := by
  unfold tabL rowOf
  apply List.ext_getElem
  · simp
  · intro i h1 h2; simp
theorem tabL_set (t : Tab p) (d : Nat) (y : El p) : tabL (Tab.set t d y) = (tabL t).set d y.v := by
  apply List.ext_getElem
  · simp [tabL]
  · intro i h1 h2
    simp only [tabL, List.getElem_map, List.getElem_range, List.getElem_set]
    by_cases e : d = i
    · subst e; simp [rowOf, Tab.set]
    · have : ¬ i = d := fun h => e h.symm
      simp [e, rowOf, Tab.set, this]
theorem Tl.pwz [hc : ConAll p] {x : El p} {d : Nat} (hd : d ≤ p.n) (hx : Tl d x) (k : Int) : Tl d (Grp.pwz x k) := by
  unfold Grp.pwz
  split
  · exact hx.inv.pw hd _
  · exact hx.pw hd _
theorem co_pwz [hc : ConAll p] {x : El p} {d : Nat} (hd : d < p.n) (hx : Tl d x) (k : Int) : co (Grp.pwz x k) d = (k * co x d) % p.o d := by
  unfold Grp.pwz
  split
  · rename_i h
    rw [co_pw hd hx.inv, Int.toNat_of_nonneg (by omega), Int.emod_eq_emod_iff_emod_sub_eq_zero]
    have h1 := co_inv hd hx
    have e : -k * co x⁻¹ d - k * co x d = (co x⁻¹ d + co x d) * -k := by
      rw [Int.add_mul, Int.mul_comm (co x⁻¹ d), Int.mul_neg (co x d), Int.mul_comm (co x d)]; omega
    rw [e, Int.mul_emod, h1, Int.zero_mul, Int.zero_emod]
  · rw [co_pw hd hx, Int.toNat_of_nonneg (by omega)]
theorem strip_step [hc : ConAll p] {r y : El p} {d : Nat} (hd : d < p.n) (hr : Tl d r) (hy : Tl d y) (hl : co y d = 1) : Tl (d + 1) (r * Grp.pwz y (-(co r d))) := by
  have hz := hy.pwz (by omega) (-(co r d))
  refine (hr.mul (by omega) hz).succ ?_
  rw [co_at _ hd hz, co_pwz hd hy, hl, Int.mul_one, Int.add_emod_emod, Int.add_right_neg, Int.zero_emod]
end
end Go.Pc

/-
  The canonical sequence out of a full table, from the last depth to the first; the number of empty places of a table.
  Conditions: the tails at all levels are groups; nothing of the program stands here.
-/
namespace Go.Pc
open Grp
section
variable {p : Pr} [hc : ConAll p]
open Classical in
noncomputable def canT (H : El p → Prop) : Tab p := fun d => if h : ∃ x, CanAt H d x then some (Classical.choose h) else none
theorem canT_some {H : El p → Prop} {d : Nat} {x : El p} (h : canT H d = some x) : CanAt H d x := by
  unfold canT at h
  split at h
  · rename_i hx; injection h with h; subst h; exact Classical.choose_spec hx
  · cases h
theorem canT_eq {H : El p → Prop} (hH : Sub H) {d : Nat} {x : El p} (h : CanAt H d x) : canT H d = some x := by
  have he : ∃ x, CanAt H d x := ⟨x, h⟩
  unfold canT
  rw [dif_pos he, (Classical.choose_spec he).unique hH h]
theorem canT_none {H : El p → Prop} {d : Nat} (h : ¬ Dep H d) : canT H d = none := by
  unfold canT
  rw [dif_neg]
  rintro ⟨x, hx⟩
  exact h hx.dep
theorem canF_map (H : El p → Prop) (d : Nat) : canF H d = (canT H d).map (·.v) := by
  unfold canF canT
  split <;> rfl
theorem Dep.lt {H : El p → Prop} {d : Nat} (h : Dep H d) : d < p.n := by
  obtain ⟨x, _, _, h0⟩ := h
  by_cases hd : d < p.n
  · exact hd
  · exact absurd (by unfold co; rw [List.getD_eq_getElem?_getD, List.getElem?_eq_none (by rw [x.inr.len]; omega)]; rfl) h0
theorem CanAt.lt {H : El p → Prop} {d : Nat} {x : El p} (h : CanAt H d x) : d < p.n := h.dep.lt
theorem Full.dep {t : Tab p} (hf : Full t) {d : Nat} : Dep (Gen (Ents t)) d ↔ t d ≠ none := by
  constructor
  · rintro ⟨x, h1, h2, h3⟩ e
    obtain ⟨y, hy⟩ := hf.some_of h1 h2 h3
    rw [e] at hy; cases hy
  · intro h
    cases e : t d with
    | none => exact absurd e h
    | some y => exact ⟨y, .of _ ⟨d, e⟩, hf.ok.tl d y e, by rw [hf.ok.lead d y e]; omega⟩
/-- A table from a depth on. -/
def Tab.fr (t : Tab p) (d : Nat) : Tab p := fun e => if d ≤ e then t e else none
theorem fr_zero (t : Tab p) : Tab.fr t 0 = t := by funext e; simp [Tab.fr]
theorem fr_end (t : Tab p) : tabL (Tab.fr t p.n) = List.replicate p.n [] := by
  apply List.ext_getElem
  · simp [tabL]
  · intro i h1 h2
    simp only [tabL, List.length_map, List.length_range] at h1
    have : ¬ p.n ≤ i := by omega
    simp [tabL, rowOf, Tab.fr, this]
theorem fr_none {t : Tab p} {d : Nat} (h : t d = none) : Tab.fr t d = Tab.fr t (d + 1) := by
  funext e
  unfold Tab.fr
  by_cases e1 : d = e
  · subst e1; simp [h]
  · by_cases h2 : d ≤ e
    · rw [if_pos h2, if_pos (by omega)]
    · rw [if_neg h2, if_neg (by omega)]
theorem fr_some {t : Tab p} {d : Nat} {y : El p} (h : t d = some y) : Tab.fr t d = Tab.set (Tab.fr t (d + 1)) d y := by
  funext e
  unfold Tab.fr Tab.set
  by_cases e1 : d = e
  · subst e1; simp [h]
  · have e2 : ¬ e = d := fun h => e1 h.symm
    rw [if_neg e2]
    show _ = if d + 1 ≤ e then t e else none
    by_cases h2 : d ≤ e
    · rw [if_pos h2, if_pos (by omega)]
    · rw [if_neg h2, if_neg (by omega)]
theorem fr_at (t : Tab p) {d e : Nat} (h : d ≤ e) : Tab.fr t d e = t e := by unfold Tab.fr; rw [if_pos h]
/-- x lies in H, has depth d and leading exponent 1, and its coordinates behind d and ahead of e are zero at the depths of H. -/
structure CanTo (H : El p → Prop) (d e : Nat) (x : El p) : Prop where
  mem : H x
  tl : Tl d x
  lead : co x d = 1
  zero : ∀ k, d < k → k < e → Dep H k → co x k = 0
variable {H : El p → Prop} {d e : Nat} {x z : El p}
theorem CanTo.skip (h : CanTo H d e x) (h0 : co x e = 0 ∨ ¬ Dep H e) : CanTo H d (e + 1) x :=
  ⟨h.mem, h.tl, h.lead, fun k h1 h2 h3 => by
    by_cases ek : k = e
    · subst ek; exact h0.resolve_right fun h => h h3
    · exact h.zero k h1 (by omega) h3⟩
theorem CanTo.step (hH : Sub H) (h : CanTo H d e x) (hde : d < e) (he : e < p.n) (hz : H z) (hzt : Tl e z) (hz1 : co z e = 1) : CanTo H d (e + 1) (x * pwz z (-(co x e))) := by
  have hp := hzt.pwz (by omega) (-(co x e))
  refine ⟨hH.mul _ _ h.mem (hH.pwz hz _), h.tl.mul (by omega) (hp.mono (by omega)), ?_, fun k h1 h2 h3 => ?_⟩
  · rw [co_low _ he hp hde]; exact h.lead
  · by_cases ek : k = e
    · subst ek
      rw [co_at _ he hp, co_pwz he hzt, hz1, Int.mul_one, Int.add_emod_emod, Int.add_right_neg, Int.zero_emod]
    · rw [co_low _ he hp (by omega)]; exact h.zero k h1 (by omega) h3
theorem CanTo.can (h : CanTo H d p.n x) : CanAt H d x :=
  ⟨h.mem, h.tl, h.lead, fun e he hne => by
    by_cases h1 : e < d
    · exact h.tl e h1
    · exact h.zero e (by omega) he.lt he⟩
theorem Full.canTo {t : Tab p} (hf : Full t) {y : El p} (h : t d = some y) : CanTo (Gen (Ents t)) d (d + 1) y :=
  ⟨.of _ ⟨d, h⟩, hf.ok.tl d y h, hf.ok.lead d y h, fun k h1 h2 => by omega⟩
theorem Full.canT_none {t : Tab p} (hf : Full t) (h : t d = none) : canT (Gen (Ents t)) d = none := Pc.canT_none fun hd => hf.dep.1 hd h
/-- The canonical sequence ahead of a depth. -/
noncomputable def canTo (H : El p → Prop) (d : Nat) : List (List Int) := (List.range d).filterMap (canF H)
theorem canTo_end (H : El p → Prop) : canTo H p.n = canon H := rfl
theorem canTo_none (h : canT H d = none) : canTo H (d + 1) = canTo H d := by
  unfold canTo; rw [List.range_succ, List.filterMap_append]; simp [canF_map, h]
theorem canTo_some (h : canT H d = some x) : canTo H (d + 1) = canTo H d ++ [x.v] := by
  unfold canTo; rw [List.range_succ, List.filterMap_append]; simp [canF_map, h]
theorem canTo_len (H : El p → Prop) (d : Nat) : (canTo H d).length ≤ d := by
  unfold canTo; exact Nat.le_trans (List.length_filterMap_le _ _) (by simp)
/-! the number of empty places -/
theorem countP_one {f g : Nat → Bool} {d : Nat} (hf : f d = true) (hg : g d = false) (h : ∀ e, e ≠ d → f e = g e) : ∀ n, d < n → (List.range n).countP f = (List.range n).countP g + 1
  | 0, hd => by omega
  | n + 1, hd => by
    rw [List.range_succ, List.countP_append, List.countP_append]
    by_cases e : d = n
    · subst e
      have : (List.range d).countP f = (List.range d).countP g := by
        apply List.countP_congr
        intro k hk
        rw [List.mem_range] at hk
        rw [h k (by omega)]
      rw [this]; simp [hf, hg]
    · rw [countP_one hf hg h n (by omega)]
      have : f n = g n := h n (fun h => e h.symm)
      simp only [List.countP_cons, List.countP_nil, this]
      omega
def empt (t : Tab p) : Nat := (List.range p.n).countP fun d => (t d).isNone
theorem empt_le (t : Tab p) : empt t ≤ p.n := by unfold empt; exact Nat.le_trans List.countP_le_length (by simp)
theorem empt_set {t : Tab p} {y : El p} (hd : d < p.n) (h : t d = none) : empt t = empt (Tab.set t d y) + 1 :=
  countP_one (by simp [h]) (by simp [Tab.set]) (fun e he => by simp [Tab.set, he]) _ hd
end
end Go.Pc

/-
  Lists of vectors that are canonical sequences of subgroups.
  Conditions: the tails at all levels are groups; nothing of the program stands here.
-/
namespace Go.Pc
open Grp
section
variable {p : Pr}
abbrev vecs (ys : List (El p)) : List (List Int) := ys.map (T.v (p := p) (i := 0))
theorem els_of {xss : List (List Int)} (h : ∀ i, i < xss.length → InR p (xss.getD i [])) : ∃ ys : List (El p), xss = vecs ys := by
  induction xss with
  | nil => exact ⟨[], rfl⟩
  | cons x l ih =>
    obtain ⟨ys, hy⟩ := ih fun i hi => by simpa using h (i + 1) (by simpa using hi)
    have hx : InR p x := by simpa using h 0 (by simp)
    exact ⟨⟨x, hx, fun k hk => absurd hk (Nat.not_lt_zero _)⟩ :: ys, by rw [hy]; rfl⟩
theorem vecs_in {ys : List (El p)} {i : Nat} (h : i < (vecs ys).length) : InR p ((vecs ys).getD i []) := by
  have h' : i < ys.length := by simpa using h
  have e : (vecs ys).getD i [] = (ys[i]).v := by simp [vecs, h']
  rw [e]; exact (ys[i]).inr
theorem vecs_inj {ys zs : List (El p)} (h : vecs ys = vecs zs) : ys = zs :=
  (List.map_inj_right fun a b h => T.ext h).1 h
variable [hc : ConAll p]
noncomputable def canEls (H : El p → Prop) : List (El p) := (List.range p.n).filterMap (canT H)
theorem canon_vecs (H : El p → Prop) : canon H = vecs (canEls H) := by
  unfold canon canEls vecs
  rw [List.map_filterMap]
  congr 1
  funext d
  exact canF_map H d
theorem vecs_len (ys : List (El p)) (i : Nat) : ((vecs ys).getD i []).length ≤ p.n := by
  by_cases h : i < (vecs ys).length
  · rw [(vecs_in h).len]; omega
  · rw [List.getD_eq_getElem?_getD, List.getElem?_eq_none (by omega)]; simp
theorem canon_row (H : El p → Prop) (i : Nat) : ((canon H).getD i []).length ≤ p.n := by rw [canon_vecs]; exact vecs_len _ i
/-- The canonical sequence from a depth on. -/
noncomputable def canElsF (H : El p → Prop) (d : Nat) : List (El p) := (List.range' d (p.n - d)).filterMap (canT H)
theorem canElsF_zero (H : El p → Prop) : canElsF H 0 = canEls H := by unfold canElsF canEls; rw [Nat.sub_zero, List.range_eq_range']
theorem canElsF_end (H : El p → Prop) : canElsF H p.n = [] := by unfold canElsF; simp
theorem canElsF_none {H : El p → Prop} {d : Nat} (hd : d < p.n) (h : canT H d = none) : canElsF H d = canElsF H (d + 1) := by
  unfold canElsF
  rw [show p.n - d = (p.n - (d + 1)) + 1 by omega, List.range'_succ]
  simp [h]
theorem canElsF_some {H : El p → Prop} {d : Nat} {x : El p} (hd : d < p.n) (h : canT H d = some x) : canElsF H d = x :: canElsF H (d + 1) := by
  unfold canElsF
  rw [show p.n - d = (p.n - (d + 1)) + 1 by omega, List.range'_succ]
  simp [h]
theorem canElsF_mem {H : El p → Prop} {d : Nat} {x : El p} : x ∈ canElsF H d ↔ ∃ e, d ≤ e ∧ e < p.n ∧ canT H e = some x := by
  unfold canElsF
  rw [List.mem_filterMap]
  constructor
  · rintro ⟨e, h1, h2⟩
    rw [List.mem_range'_1] at h1
    exact ⟨e, h1.1, by omega, h2⟩
  · rintro ⟨e, h1, h2, h3⟩
    exact ⟨e, List.mem_range'_1.2 ⟨h1, by omega⟩, h3⟩
theorem canElsF_len (H : El p → Prop) (d : Nat) : (canElsF H d).length ≤ p.n - d := by
  unfold canElsF; exact Nat.le_trans (List.length_filterMap_le _ _) (by simp)
/-- A canonical sequence of a subgroup. -/
def IsSeq (p : Pr) [ConAll p] (xss : List (List Int)) : Prop := ∃ ys : List (El p), xss = vecs ys ∧ canon (Gen (fun a : El p => a ∈ ys)) = xss
theorem IsSeq.len {xss : List (List Int)} (h : IsSeq p xss) : xss.length ≤ p.n := by
  obtain ⟨ys, _, h⟩ := h
  rw [← h]; exact canTo_len _ _
end
end Go.Pc

/-
  Walk: the reference's IsPresentation.
  Conditions: the presentation reads as three lists, the first of at most a million entries.
-/
namespace Go.Proofs.Ytnphljflkpekmaa
open Go Go.Pc
theorem exp_iff {p : Pr} {v : List Int} {i : Nat} : ExpP p.ord v (i : Int) ↔ InR p v ∧ ZU (i + 1) v := by
  constructor
  · rintro ⟨h1, h2⟩
    refine ⟨⟨h1, fun k hk => ?_⟩, fun k hk => ?_⟩
    · have := (h2 k (by rw [h1]; exact hk)).1
      unfold Pr.o; omega
    · by_cases hl : k < v.length
      · exact (h2 k hl).2 (by omega)
      · rw [List.getD_eq_getElem?_getD, List.getElem?_eq_none (by omega)]; rfl
  · rintro ⟨h1, h2⟩
    refine ⟨h1.len, fun k hk => ⟨?_, fun h => h2 k (by omega)⟩⟩
    have := h1.rng k (by rw [← h1.len]; exact hk)
    unfold Pr.o at this; omega
/-- What is asked of one generator's row. -/
def RowOk (p : Pr) (q : Nat) : Prop := ExpP p.ord (p.pow.getD q []) q ∧ ((p.cnj.getD q []).length : Int) = p.n - 1 - q ∧ ∀ j, j < (p.cnj.getD q []).length → ExpP p.ord ((p.cnj.getD q []).getD j []) q
theorem valid_iff {p : Pr} : Valid p ↔ p.n ≤ 6 ∧ p.pow.length = p.n ∧ p.cnj.length = p.n ∧ (∀ i, i < p.n → p.ord.getD i 0 = 2 ∨ p.ord.getD i 0 = 3 ∨ p.ord.getD i 0 = 5 ∨ p.ord.getD i 0 = 7) ∧ p.ord.foldl (· * ·) 1 ≤ 729 ∧ ∀ q, q < p.n → RowOk p q := by
  constructor
  · intro h
    refine ⟨h.n6, h.lenw, h.lenc, h.prime, h.prod, fun q hq => ⟨exp_iff.2 ⟨h.w_in q hq, h.w_zu q hq⟩, ?_, fun j hj => ?_⟩⟩
    · have := h.lenci q hq; omega
    · have hl := h.lenci q hq
      have h1 := h.c_in q (q + 1 + j) (by omega) (by omega)
      have h2 := h.c_zu q (q + 1 + j) (by omega) (by omega)
      unfold Pr.c at h1 h2
      rw [show q + 1 + j - q - 1 = j by omega] at h1 h2
      exact exp_iff.2 ⟨h1, h2⟩
  · rintro ⟨h1, h2, h3, h4, h5, h6⟩
    have hc : ∀ i j, i < j → j < p.n → InR p (p.c i j) ∧ ZU (i + 1) (p.c i j) := fun i j hij hj => by
      have := h6 i (by omega)
      exact exp_iff.1 (this.2.2 (j - i - 1) (by have := this.2.1; omega))
    refine ⟨h1, h2, h3, fun i hi => by have := (h6 i hi).2.1; omega, h4, h5, fun i hi => (exp_iff.1 (h6 i hi).1).1, fun i hi => (exp_iff.1 (h6 i hi).1).2, fun i j a b => (hc i j a b).1, fun i j a b => (hc i j a b).2⟩
theorem primes_bd {p : Pr} (h4 : ∀ i, i < p.n → p.ord.getD i 0 = 2 ∨ p.ord.getD i 0 = 3 ∨ p.ord.getD i 0 = 5 ∨ p.ord.getD i 0 = 7) : ∀ o ∈ p.ord, 1 ≤ o ∧ o ≤ 7 := by
  intro o ho
  obtain ⟨i, hi, rfl⟩ := List.getElem_of_mem ho
  have := h4 i hi
  simp [List.getD_eq_getElem?_getD, hi] at this
  omega
set_option maxHeartbeats 2000000 in
theorem spec_IsPresentation_ok {w : World} {v : Value} {p : Pr} {lo hi : Nat} [hp : Pres lo hi w v p] (hl : p.ord.length ≤ 2000000) :
    Calls Try.prog 72 #[v] w (Ret fun v' w' => ∃ b, v' = .bool b ∧ (b = true ↔ Valid p) ∧ Ext w w') := by
  have hol : p.ord.length = p.n := rfl
  obtain ⟨vo, vpw, vc, ps, cs, css, rfl, h1, h2, h3⟩ := hp.ex
  refine enter (args := [.agg #[vo, vpw, vc]]) (l := [.tmp 2]) Try.func72 rfl rfl Try.ntmps72 (by simp) ?_
  refine go ?_
  refine st_box3 (by ((try simp only [ev_tmp, ev_const, ev_func, get_put, get_args, get_putL, get_putL_nil, Nat.reduceEqDiff, reduceIte, List.getD_cons_zero, List.getD_cons_succ, List.getD_nil]); first | done | with_reducible rfl)) (by first | exact True.intro | exact ⟨_, rfl, by ((try simp only [ev_tmp, ev_const, ev_func, get_put, get_args, get_putL, get_putL_nil, Nat.reduceEqDiff, reduceIte, List.getD_cons_zero, List.getD_cons_succ, List.getD_nil, Bool.not_true, Bool.not_false]); first | done | with_reducible rfl)⟩) fun w1 b he1 hb1 hs1 hc0 hc1 hc2 => ?_
  have no : ∀ {w' : World}, ¬ Valid p → Ext w w' → ∃ b, Value.bool false = .bool b ∧ (b = true ↔ Valid p) ∧ Ext w w' := fun h he => ⟨_, rfl, by simp [h], he⟩
  refine go ?_
  refine spd (fun hn => ?_) (fun hn => ?_)
  · refine go ?_
    exact ret1 (no (fun h => by have := h.n6; omega) he1)
  refine go ?_
  refine spd (fun hn2 => ?_) (fun hn2 => ?_)
  · refine go ?_
    exact ret1 (no (fun h => by have := h.lenw; omega) he1)
  refine go ?_
  refine c_if (fun hn3 => ?_) (fun hn3 => ?_)
  · refine go ?_
    exact ret1 (no (fun h => by have := h.lenc; omega) he1)
  refine go ?_
  refine r_for p.n (fun k ρ w' => Has ρ [(1, .pointer (some ⟨b, 0, none⟩)), (3, .int .i64 p.n), (4, .int .i64 k)] ∧ Ext w1 w' ∧ ∀ i, i < k → p.ord.getD i 0 = 2 ∨ p.ord.getD i 0 = 3 ∨ p.ord.getD i 0 = 5 ∨ p.ord.getD i 0 = 7) ?_ ?_
  · refine ⟨?_, Ext.refl _, fun i hi => by omega⟩
    exact hasP
  · rintro k ρ w2 hk ⟨hH, he2, hpre⟩
    refine rwp_has hH fun ρ0 => ?_
    refine go ?_
    refine c_if (fun hk1 => ?_) (fun hk1 => ?_)
    · refine go ?_
      refine rc l01Prime_ok (next := fun v3 w3 h3 => ?_)
      obtain ⟨b3, rfl, hb3, he3⟩ := h3
      refine go ?_
      refine c_b (fun h4 => ?_) (fun h4 => ?_)
      · refine go ?_
        refine ret1 (no (fun h => ?_) ((he1.trans he2).trans he3))
        have := hb3.2 (h.prime k (by omega))
        rw [this] at h4; cases h4
      · refine go ?_
        have h5 := hb3.1 (by simpa using h4)
        refine forQ_normal (by omega) ⟨?_, he2.trans he3, fun i hi => ?_⟩
        · exact hasP
        · by_cases e : i = k
          · subst e; exact h5
          · exact hpre i (by omega)
    · refine go ?_
      have hkn : k = p.n := by omega
      subst hkn
      have hbd := primes_bd hpre
      refine rc (l07Product_ok (xs := p.ord) hbd hl) (next := fun v3 w3 h3 => ?_)
      obtain ⟨rfl, he3⟩ := h3
      have hcap := capMul_foldl p.ord 1 (fun o ho => (hbd o ho).1) (by omega)
      have hcb := capMul_bd p.ord 1 hbd (by omega) (by omega)
      refine go ?_
      refine c_if (fun h4 => ?_) (fun h4 => ?_)
      · refine go ?_
        refine ret1 (no (fun h => ?_) ((he1.trans he2).trans he3))
        have := hcap.1.2 h.prod
        omega
      · have hprod := hcap.1.1 (by omega)
        have hbd' : ∀ i, i < p.ord.length → 0 ≤ p.ord.getD i 0 ∧ p.ord.getD i 0 ≤ 2000000 := fun i hi => by have := hpre i hi; omega
        clear hcap hcb
        refine go ?_
        have he13 : Ext w1 w3 := he2.trans he3
        refine r_for p.n (fun k ρ w' => Has ρ [(1, .pointer (some ⟨b, 0, none⟩)), (3, .int .i64 p.n), (5, .int .i64 k)] ∧ Ext w1 w' ∧ ∀ q, q < k → RowOk p q) ?_ ?_
        · refine ⟨?_, he13, fun i hi => by omega⟩
          exact hasP
        · clear he3 he13
          rintro k ρ w4 hk ⟨hH, he4, hrow⟩
          refine rwp_has hH fun ρ1 => ?_
          refine go ?_
          refine c_if (fun hk2 => ?_) (fun hk2 => ?_)
          · refine go ?_
            refine d_region fun w5 he5 _ => ?_
            refine dgo ?_
            refine dc (l07Exponents_ok (xs := p.pow.getD k []) hbd' hl) (next := fun v6 w6 h6 => ?_)
            obtain ⟨b6, rfl, hb6, he6⟩ := h6
            refine ⟨fun h => h.trans he6, ?_⟩
            have he16 := (he4.trans he5).trans he6
            refine da (next := ?_)
            refine da (next := ?_)
            refine dsp (fun h7 => ?_) (fun h7 => ?_)
            · refine dgo ?_
              refine d_end (h := ?_)
              refine go ?_
              refine ret1 (no (fun h => ?_) (he1.trans he16))
              have := hb6.2 ((valid_iff.1 h).2.2.2.2.2 k (by omega)).1
              rw [this] at h7; cases h7
            · have h8 := hb6.1 (by simpa using h7)
              refine dgo ?_
              refine d_end (h := ?_)
              refine go ?_
              refine c_if (fun h9 => ?_) (fun h9 => ?_)
              · refine go ?_
                refine ret1 (no (fun h => ?_) (he1.trans he16))
                have := ((valid_iff.1 h).2.2.2.2.2 k (by omega)).2.1
                omega
              · refine go ?_
                refine r_for (p.cnj.getD k []).length (fun m ρ w' => Has ρ [(1, .pointer (some ⟨b, 0, none⟩)), (3, .int .i64 p.n), (5, .int .i64 k), (6, .int .i64 m)] ∧ Ext w1 w' ∧ ∀ j, j < m → ExpP p.ord ((p.cnj.getD k []).getD j []) k) ?_ ?_
                · refine ⟨?_, he16, fun i hi => by omega⟩
                  exact hasP
                · clear he4 he5 he6 he16
                  rintro m ρ w7 hm ⟨hH, he7, hin⟩
                  refine rwp_has hH fun ρ2 => ?_
                  refine go ?_
                  refine c_if (fun hm2 => ?_) (fun hm2 => ?_)
                  · refine go ?_
                    refine d_region fun w8 he8 _ => ?_
                    refine dgo ?_
                    refine dc (l07Exponents_ok (xs := (p.cnj.getD k []).getD m []) hbd' hl) (next := fun v9 w9 h9 => ?_)
                    obtain ⟨b9, rfl, hb9, he9⟩ := h9
                    refine ⟨fun h => h.trans he9, ?_⟩
                    refine dgo ?_
                    refine d_end (h := ?_)
                    refine go ?_
                    refine c_b (fun h10 => ?_) (fun h10 => ?_)
                    · refine go ?_
                      refine ret1 (no (fun h => ?_) (he1.trans ((he7.trans he8).trans he9)))
                      have := hb9.2 (((valid_iff.1 h).2.2.2.2.2 k (by omega)).2.2 m (by omega))
                      rw [this] at h10; cases h10
                    · have h11 := hb9.1 (by simpa using h10)
                      refine go ?_
                      refine forQ_normal (by omega) ⟨?_, (he7.trans he8).trans he9, fun j hj => ?_⟩
                      · exact hasP
                      · by_cases e : j = m
                        · subst e; exact h11
                        · exact hin j (by omega)
                  · refine go ?_
                    refine forQ_normal (by omega) ⟨?_, he7, fun q hq => ?_⟩
                    · exact hasP
                    · by_cases e : q = k
                      · subst e
                        exact ⟨h8, by omega, fun j hj => hin j (by omega)⟩
                      · exact hrow q (by omega)
          · refine go ?_
            refine ret1 ⟨_, rfl, ?_, he1.trans he4⟩
            simp only [true_iff]
            exact valid_iff.2 ⟨by omega, by omega, by omega, hpre, hprod, fun q hq => hrow q (by omega)⟩
end Go.Proofs.Ytnphljflkpekmaa

/-
  Walks: the reference's product by descent (l08Image, l08At).
  Conditions: the presentation is valid, the vectors are exponent vectors with zeros ahead of the level.
-/
namespace Go.Proofs.Ytnphljflkpekmaa
open Go Go.Pc
def AtSpec (p : Pr) (i : Nat) : Prop := ∀ {w : World} {vp va vb : Value} {k : Int} {x y : List Int} {lo hi lo1 hi1 lo2 hi2 : Nat} [Pres lo hi w vp p] [Ints lo1 hi1 w va x] [Ints lo2 hi2 w vb y],
  k = i → InR p x → InR p y → ZU i x → ZU i y →
  Calls Try.prog 114 #[vp, .int .i64 k, va, vb] w (Ret fun v w' => Ext w w' ∧ Fr w.heap.size w' v (atv p i x y))
def ImgSpec (p : Pr) (i : Nat) : Prop := ∀ {w : World} {vp va : Value} {k : Int} {x : List Int} {lo hi lo1 hi1 : Nat} [Pres lo hi w vp p] [Ints lo1 hi1 w va x],
  k = i → InR p x →
  Calls Try.prog 132 #[vp, .int .i64 k, va] w (Ret fun v w' => Ext w w' ∧ Fr w.heap.size w' v (img p i x))
set_option maxHeartbeats 1000000 in
theorem img_of_at {p : Pr} (hv : Valid p) {i : Nat} (hi : i < p.n) (hat : AtSpec p (i + 1)) : ImgSpec p i := by
  intro w vp va k0 x lo hi' lo1 hi1 hp hx hk0 hxr
  subst hk0
  have hn6 := hv.n6
  have hol : p.ord.length = p.n := rfl
  have hcl : p.cnj.length = p.n := hv.lenc
  have hci := hv.lenci i hi
  obtain ⟨vo, vpw, vc, ps, cs, css, rfl, h1, h2, h3⟩ := hp.ex
  refine enter (args := [.agg #[vo, vpw, vc], .int .i64 i, va]) (l := [.tmp 6]) Try.func132 rfl rfl Try.ntmps132 (by simp) ?_
  refine go ?_
  refine st_box3 (by ((try simp only [ev_tmp, ev_const, ev_func, get_put, get_args, get_putL, get_putL_nil, Nat.reduceEqDiff, reduceIte, List.getD_cons_zero, List.getD_cons_succ, List.getD_nil]); first | done | with_reducible rfl)) (by first | exact True.intro | exact ⟨_, rfl, by ((try simp only [ev_tmp, ev_const, ev_func, get_put, get_args, get_putL, get_putL_nil, Nat.reduceEqDiff, reduceIte, List.getD_cons_zero, List.getD_cons_succ, List.getD_nil, Bool.not_true, Bool.not_false]); first | done | with_reducible rfl)⟩) fun w1 b he1 hb1 hs1 hc0 hc1 hc2 => ?_
  refine go ?_
  refine st_make_int (by ((try simp only [ev_tmp, ev_const, ev_func, get_put, get_args, get_putL, get_putL_nil, Nat.reduceEqDiff, reduceIte, List.getD_cons_zero, List.getD_cons_succ, List.getD_nil]); first | done | with_reducible rfl)) (by ((try simp only [ev_tmp, ev_const, ev_func, get_put, get_args, get_putL, get_putL_nil, Nat.reduceEqDiff, reduceIte, List.getD_cons_zero, List.getD_cons_succ, List.getD_nil]); first | done | with_reducible rfl)) (by omega) (by omega) (by first | exact True.intro | exact ⟨_, rfl, by ((try simp only [ev_tmp, ev_const, ev_func, get_put, get_args, get_putL, get_putL_nil, Nat.reduceEqDiff, reduceIte, List.getD_cons_zero, List.getD_cons_succ, List.getD_nil, Bool.not_true, Bool.not_false]); first | done | with_reducible rfl)⟩) fun w2 v2 he2 hs2 ho2 => ?_
  have hz : Fr w.heap.size w2 v2 (zeros p.n) := ho2.toFr (by omega)
  refine go ?_
  refine r_for (p.n - (i + 1)) (fun k ρ w' => ∃ vo', Has ρ [(1, .int .i64 i), (2, va), (3, .pointer (some ⟨b, 0, none⟩)), (7, .int .i64 p.n), (8, vo'), (9, .int .i64 (i + 1 + k : Nat))] ∧ Ext w1 w' ∧ Fr w.heap.size w' vo' (imgTo p i x k)) ?_ ?_
  · refine ⟨v2, ?_, he2, hz⟩
    exact hasP
  · rintro k ρ w3 hk ⟨vo', hH, he3, hf3⟩
    refine rwp_has hH fun ρ0 => ?_
    refine go ?_
    refine c_if (fun h4 => ?_) (fun h4 => ?_)
    · refine go ?_
      have hxj := hxr.rng (i + 1 + k) (by omega)
      have hoj := hv.opos (i := i + 1 + k) (by omega)
      have hxl := hxr.len
      refine r_for (x.getD (i + 1 + k) 0).toNat (fun q ρ w' => ∃ vo', Has ρ [(1, .int .i64 i), (2, va), (3, .pointer (some ⟨b, 0, none⟩)), (7, .int .i64 p.n), (8, vo'), (9, .int .i64 (i + 1 + k : Nat)), (10, .int .i64 q)] ∧ Ext w1 w' ∧
        Fr w.heap.size w' vo' (rep q (fun o => atv p (i + 1) o (p.c i (i + 1 + k))) (imgTo p i x k))) ?_ ?_
      · refine ⟨vo', ?_, he3, hf3⟩
        exact hasP
      · rintro q ρ w4 hq ⟨vo2, hH2, he4, hf4⟩
        refine rwp_has hH2 fun ρ1 => ?_
        refine go ?_
        refine c_if (fun h5 => ?_) (fun h5 => ?_)
        · refine go ?_
          refine d_region fun w5 he5 _ => ?_
          refine dgo ?_
          have hin := rep_inv (fun v => InR p v ∧ ZU (i + 1) v) (f := fun o => atv p (i + 1) o (p.c i (i + 1 + k))) (fun o ho => atv_in hv _ _ rfl _ _ ho.1 (hv.c_in _ _ (by omega) (by omega)) ho.2 (hv.c_zu _ _ (by omega) (by omega))) (imgTo_in hv (atv_in hv _ (i + 1) rfl) x k hk) q
          have hcin : InR p (p.c i (i + 1 + k)) := hv.c_in _ _ (by omega) (by omega)
          have hczu : ZU (i + 1) (p.c i (i + 1 + k)) := hv.c_zu _ _ (by omega) (by omega)
          refine dc (hat ?_ hin.1 hcin hin.2 hczu) (next := fun v6 w6 ⟨he6, hf6⟩ => ⟨fun h => h.trans he6, ?_⟩)
          · omega
          refine dgo ?_
          refine d_end (h := ?_)
          refine go ?_
          refine forQ_normal (by omega) ⟨v6, ?_, (he4.trans he5).trans he6, hf6.mono ?_⟩
          · exact hasP
          · have := he4.size; have := he5.size; omega
        · refine go ?_
          refine forQ_normal (by omega) ⟨vo2, ?_, he4, ?_⟩
          · exact hasP
          · rw [imgTo_succ]
            have : q = (x.getD (i + 1 + k) 0).toNat := by omega
            rw [← this]; exact hf4
    · refine go ?_
      have : k = p.n - (i + 1) := by omega
      subst this
      exact ret1 ⟨he1.trans he3, hf3⟩
set_option maxHeartbeats 2000000 in
theorem at_of_img {p : Pr} (hv : Valid p) {i : Nat} (himg : i < p.n → ImgSpec p i) (hat : i < p.n → AtSpec p (i + 1)) : AtSpec p i := by
  intro w vp va vb k0 x y lo hi lo1 hi1 lo2 hi2 hp hx hy hk0 hxr hyr zx zy
  subst hk0
  have hn6 := hv.n6
  have hol : p.ord.length = p.n := rfl
  have hwl : p.pow.length = p.n := hv.lenw
  replace hp := hp.wide
  replace hx := hx.wide
  replace hy := hy.wide
  obtain ⟨vo, vpw, vc, ps, cs, css, rfl, h1, h2, h3⟩ := hp.ex
  refine enter (args := [.agg #[vo, vpw, vc], .int .i64 i, va, vb]) (l := [.tmp 8]) Try.func114 rfl rfl Try.ntmps114 (by simp) ?_
  refine go ?_
  refine st_box3 (by ((try simp only [ev_tmp, ev_const, ev_func, get_put, get_args, get_putL, get_putL_nil, Nat.reduceEqDiff, reduceIte, List.getD_cons_zero, List.getD_cons_succ, List.getD_nil]); first | done | with_reducible rfl)) (by first | exact True.intro | exact ⟨_, rfl, by ((try simp only [ev_tmp, ev_const, ev_func, get_put, get_args, get_putL, get_putL_nil, Nat.reduceEqDiff, reduceIte, List.getD_cons_zero, List.getD_cons_succ, List.getD_nil, Bool.not_true, Bool.not_false]); first | done | with_reducible rfl)⟩) fun w1 b he1 hb1 hs1 hc0 hc1 hc2 => ?_
  refine go ?_
  refine c_if (fun h4 => ?_) (fun h4 => ?_)
  · refine go ?_
    refine st_make_int (by ((try simp only [ev_tmp, ev_const, ev_func, get_put, get_args, get_putL, get_putL_nil, Nat.reduceEqDiff, reduceIte, List.getD_cons_zero, List.getD_cons_succ, List.getD_nil]); first | done | with_reducible rfl)) (by ((try simp only [ev_tmp, ev_const, ev_func, get_put, get_args, get_putL, get_putL_nil, Nat.reduceEqDiff, reduceIte, List.getD_cons_zero, List.getD_cons_succ, List.getD_nil]); first | done | with_reducible rfl)) (by omega) (by omega) (by first | exact True.intro | exact ⟨_, rfl, by ((try simp only [ev_tmp, ev_const, ev_func, get_put, get_args, get_putL, get_putL_nil, Nat.reduceEqDiff, reduceIte, List.getD_cons_zero, List.getD_cons_succ, List.getD_nil, Bool.not_true, Bool.not_false]); first | done | with_reducible rfl)⟩) fun w2 v2 he2 hs2 ho2 => ?_
    refine go ?_
    refine ret1 ⟨he1.trans he2, ?_⟩
    rw [atv_end _ _ _ _ (by omega)]
    exact ho2.toFr (by omega)
  · have hin : i < p.n := by omega
    have hxl := hxr.len
    have hyl := hyr.len
    have hxi := hxr.rng i hin
    have hyi := hyr.rng i hin
    have hoi := hv.opos hin
    refine go ?_
    refine rc (l01Own_ok (xs := x) (by omega)) (next := fun v2 w2 ⟨he2, hf2⟩ => ?_)
    refine go ?_
    refine rc (l01Own_ok (xs := y) (by omega)) (next := fun v3 w3 ⟨he3, hf3⟩ => ?_)
    refine go ?_
    obtain ⟨e2, b2, hb2, ho2⟩ := hf2.own (by intro e; rw [e] at hxl; simp at hxl; omega)
    obtain ⟨e3, b3, hb3, ho3⟩ := hf3.own (by intro e; rw [e] at hyl; simp at hyl; omega)
    have hl2 := ho2.lt
    have hl3 := ho3.lt
    have hz1 := he1.size
    have hz2 := he2.size
    have hz3 := he3.size
    have ap1 : Apart 0 w.heap.size b2 := ⟨.inr (by omega)⟩
    have ap2 : Apart 0 w.heap.size b3 := ⟨.inr (by omega)⟩
    have ap3 : Apart b (b + 1) b2 := ⟨.inr (by omega)⟩
    have ap4 : Apart b (b + 1) b3 := ⟨.inr (by omega)⟩
    have ho2' : OwnI e2 b2 w3 v2 x := OwnI.ext (h := ho2)
    clear hf2 hf3 ho2
    refine st_store_int (by ((try simp only [ev_tmp, ev_const, ev_func, get_put, get_args, get_putL, get_putL_nil, Nat.reduceEqDiff, reduceIte, List.getD_cons_zero, List.getD_cons_succ, List.getD_nil]); first | done | with_reducible rfl)) (by ((try simp only [ev_tmp, ev_const, ev_func, get_put, get_args, get_putL, get_putL_nil, Nat.reduceEqDiff, reduceIte, List.getD_cons_zero, List.getD_cons_succ, List.getD_nil]); first | done | with_reducible rfl)) ?_ (by first | exact True.intro | exact ⟨_, rfl, by ((try simp only [ev_tmp, ev_const, ev_func, get_put, get_args, get_putL, get_putL_nil, Nat.reduceEqDiff, reduceIte, List.getD_cons_zero, List.getD_cons_succ, List.getD_nil, Bool.not_true, Bool.not_false]); first | done | with_reducible rfl)⟩) fun w4 hc4 hs4 ho4 => ?_
    · omega
    have ho3' := ho3.chg' hc4 (by omega)
    refine go ?_
    refine st_store_int (by ((try simp only [ev_tmp, ev_const, ev_func, get_put, get_args, get_putL, get_putL_nil, Nat.reduceEqDiff, reduceIte, List.getD_cons_zero, List.getD_cons_succ, List.getD_nil]); first | done | with_reducible rfl)) (by ((try simp only [ev_tmp, ev_const, ev_func, get_put, get_args, get_putL, get_putL_nil, Nat.reduceEqDiff, reduceIte, List.getD_cons_zero, List.getD_cons_succ, List.getD_nil]); first | done | with_reducible rfl)) ?_ (by first | exact True.intro | exact ⟨_, rfl, by ((try simp only [ev_tmp, ev_const, ev_func, get_put, get_args, get_putL, get_putL_nil, Nat.reduceEqDiff, reduceIte, List.getD_cons_zero, List.getD_cons_succ, List.getD_nil, Bool.not_true, Bool.not_false]); first | done | with_reducible rfl)⟩) fun w5 hc5 hs5 ho5 => ?_
    · omega
    have ho4' := ho4.chg' hc5 (by omega)
    have hE5 : Ext w w5 := hc5.ext (hc4.ext ((he1.trans he2).trans he3) (by omega)) (by omega)
    clear ho2' ho3' ho3 ho4
    refine go ?_
    have hx0 : InR p (x.set i 0) ∧ ZU (i + 1) (x.set i 0) := ⟨hxr.set (by omega) (fun _ => by omega), zx.set0⟩
    have hy0 : InR p (y.set i 0) ∧ ZU (i + 1) (y.set i 0) := ⟨hyr.set (by omega) (fun _ => by omega), zy.set0⟩
    have hrin : ∀ q, InR p (rep q (img p i) (x.set i 0)) ∧ ZU (i + 1) (rep q (img p i) (x.set i 0)) := fun q => rep_inv (fun v => InR p v ∧ ZU (i + 1) v) (fun u _ => img_in hv i u) hx0 q
    refine r_for (y.getD i 0).toNat (fun q ρ w' => ∃ vl lo hi, Has ρ [(1, .int .i64 i), (2, va), (3, vb), (4, .pointer (some ⟨b, 0, none⟩)), (9, .int .i64 p.n), (10, vl), (11, v3), (12, .int .i64 q)] ∧ Ext w5 w' ∧ Ints lo hi w' vl (rep q (img p i) (x.set i 0))) ?_ ?_
    · refine ⟨v2, _, _, ?_, Ext.refl _, inferInstance⟩
      exact hasP
    · rintro q ρ w6 hq ⟨vl, lo', hi', hH, he6, hl6⟩
      refine rwp_has hH fun ρ0 => ?_
      refine go ?_
      refine c_if (fun h7 => ?_) (fun h7 => ?_)
      · refine go ?_
        refine rc (himg hin ?_ (hrin q).1) (next := fun v7 w7 ⟨he7, hf7⟩ => ?_)
        · omega
        refine go ?_
        refine forQ_normal (by omega) ⟨v7, _, _, ?_, he6.trans he7, inferInstance⟩
        exact hasP
      · have hqe : q = (y.getD i 0).toNat := by omega
        refine go ?_
        have hrr := hrin q
        refine rc (hat hin ?_ hrr.1 hy0.1 hrr.2 hy0.2) (next := fun v7 w7 ⟨he7, hf7⟩ => ?_)
        · omega
        refine go ?_
        refine d_region fun w8 he8 _ => ?_
        refine dgo ?_
        refine d_end (h := ?_)
        have hE8 := (he6.trans he7).trans he8
        have hz8 := hE8.size
        have hor : p.ord.getD i 0 = p.o i := rfl
        have hat7 := atv_in hv _ (i + 1) rfl _ _ hrr.1 hy0.1 hrr.2 hy0.2
        have hwi := hv.w_in i hin
        have hwz := hv.w_zu i hin
        have hveq := atv_eq p i x y hin
        rw [← hqe] at hveq
        have hlen7 := hat7.1.len
        clear hl6 ho5 ho4'
        refine go ?_
        refine c_if (fun h9 => ?_) (fun h9 => ?_)
        · have h9' : p.o i ≤ x.getD i 0 + y.getD i 0 := h9
          rw [if_pos h9'] at hveq
          refine go ?_
          refine d_region fun w9 he9 _ => ?_
          refine dgo ?_
          refine dc (hat hin (x := p.w i) (y := atv p (i + 1) (rep q (img p i) (x.set i 0)) (y.set i 0)) ?_ hwi hat7.1 hwz hat7.2) (next := fun v10 w10 ⟨he10, hf10⟩ => ⟨fun h => h.trans he10, ?_⟩)
          · omega
          refine dgo ?_
          refine d_end (h := ?_)
          have hat10 := atv_in hv _ (i + 1) rfl _ _ hwi hat7.1 hwz hat7.2
          have hlen10 := hat10.1.len
          refine go ?_
          refine rc (l01Own_ok (xs := atv p (i + 1) (p.w i) (atv p (i + 1) (rep q (img p i) (x.set i 0)) (y.set i 0))) (by omega)) (next := fun v11 w11 ⟨he11, hf11⟩ => ?_)
          refine go ?_
          obtain ⟨e11, b11, hb11, ho11⟩ := hf11.own (by intro e; rw [e] at hlen10; simp at hlen10; omega)
          clear hf11
          refine st_store_int (by ((try simp only [ev_tmp, ev_const, ev_func, get_put, get_args, get_putL, get_putL_nil, Nat.reduceEqDiff, reduceIte, List.getD_cons_zero, List.getD_cons_succ, List.getD_nil]); first | done | with_reducible rfl)) (by ((try simp only [ev_tmp, ev_const, ev_func, get_put, get_args, get_putL, get_putL_nil, Nat.reduceEqDiff, reduceIte, List.getD_cons_zero, List.getD_cons_succ, List.getD_nil]); first | done | with_reducible rfl)) ?_ (by first | exact True.intro | exact ⟨_, rfl, by ((try simp only [ev_tmp, ev_const, ev_func, get_put, get_args, get_putL, get_putL_nil, Nat.reduceEqDiff, reduceIte, List.getD_cons_zero, List.getD_cons_succ, List.getD_nil, Bool.not_true, Bool.not_false]); first | done | with_reducible rfl)⟩) fun w12 hc12 hs12 ho12 => ?_
          · omega
          refine go ?_
          have h9s := he9.size
          have h10s := he10.size
          refine ret1 ⟨hc12.ext ((((hE5.trans hE8).trans he9).trans he10).trans he11) (by omega), ?_⟩
          rw [hveq]
          exact ho12.toFr (by omega)
        · have h9' : ¬ p.o i ≤ x.getD i 0 + y.getD i 0 := h9
          rw [if_neg h9'] at hveq
          refine go ?_
          refine rc (l01Own_ok (xs := atv p (i + 1) (rep q (img p i) (x.set i 0)) (y.set i 0)) (by omega)) (next := fun v11 w11 ⟨he11, hf11⟩ => ?_)
          refine go ?_
          obtain ⟨e11, b11, hb11, ho11⟩ := hf11.own (by intro e; rw [e] at hlen7; simp at hlen7; omega)
          clear hf11
          refine st_store_int (by ((try simp only [ev_tmp, ev_const, ev_func, get_put, get_args, get_putL, get_putL_nil, Nat.reduceEqDiff, reduceIte, List.getD_cons_zero, List.getD_cons_succ, List.getD_nil]); first | done | with_reducible rfl)) (by ((try simp only [ev_tmp, ev_const, ev_func, get_put, get_args, get_putL, get_putL_nil, Nat.reduceEqDiff, reduceIte, List.getD_cons_zero, List.getD_cons_succ, List.getD_nil]); first | done | with_reducible rfl)) ?_ (by first | exact True.intro | exact ⟨_, rfl, by ((try simp only [ev_tmp, ev_const, ev_func, get_put, get_args, get_putL, get_putL_nil, Nat.reduceEqDiff, reduceIte, List.getD_cons_zero, List.getD_cons_succ, List.getD_nil, Bool.not_true, Bool.not_false]); first | done | with_reducible rfl)⟩) fun w12 hc12 hs12 ho12 => ?_
          · omega
          refine go ?_
          refine ret1 ⟨hc12.ext ((hE5.trans hE8).trans he11) (by omega), ?_⟩
          rw [hveq]
          exact ho12.toFr (by omega)
theorem at_ok {p : Pr} (hv : Valid p) : ∀ (m i : Nat), p.n - i = m → AtSpec p i
  | 0, i, hm => at_of_img hv (fun h => by omega) (fun h => by omega)
  | m + 1, i, hm => at_of_img hv (fun h => img_of_at hv h (at_ok hv m (i + 1) (by omega))) (fun _ => at_ok hv m (i + 1) (by omega))
theorem l08At_ok {p : Pr} (hv : Valid p) (i : Nat) : AtSpec p i := at_ok hv _ i rfl
theorem l08Image_ok {p : Pr} (hv : Valid p) {i : Nat} (hi : i < p.n) : ImgSpec p i := img_of_at hv hi (l08At_ok hv (i + 1))
end Go.Proofs.Ytnphljflkpekmaa

/-
  Walks: the reference's powers and the conditions of a level (l08Repeat, l08Level).
  Conditions: the presentation is valid and its tail behind the level is a group.
-/
namespace Go.Proofs.Ytnphljflkpekmaa
open Go Go.Pc
/-- Of whatever footprint. -/
def IntsE (w : World) (v : Value) (xs : List Int) : Prop := ∃ lo hi, Ints lo hi w v xs
theorem IntsE.of {lo hi : Nat} {w : World} {v : Value} {xs : List Int} [h : Ints lo hi w v xs] : IntsE w v xs := ⟨lo, hi, h⟩
theorem l08AtT_ok {p : Pr} {i : Nat} [hc : Con p i] {w : World} {vp va vb : Value} {k : Int} {x y : T p i} {lo hi lo1 hi1 lo2 hi2 : Nat} [hp : Pres lo hi w vp p] [hx : Ints lo1 hi1 w va x.v] [hy : Ints lo2 hi2 w vb y.v] (hk : k = i) :
    Calls Try.prog 114 #[vp, .int .i64 k, va, vb] w (Ret fun v w' => Ext w w' ∧ Fr w.heap.size w' v (x * y).v) :=
  l08At_ok hc.valid i hk x.inr y.inr x.zu y.zu
set_option maxHeartbeats 1000000 in
theorem l08Repeat_ok {p : Pr} {i : Nat} [hc : Con p i] {w : World} {vp vx : Value} {ki k : Int} {x : T p i} {xs : List Int} {lo hi lo1 hi1 : Nat} [hp : Pres lo hi w vp p] [hx : Ints lo1 hi1 w vx xs] (hxe : xs = x.v) (hki : ki = i) (hk0 : 0 ≤ k) (hk1 : k ≤ 9223372036854775807) :
    Calls Try.prog 79 #[vp, .int .i64 ki, vx, .int .i64 k] w (Ret fun v w' => Ext w w' ∧ Fr w.heap.size w' v (Grp.pw x k.toNat).v) := by
  subst hki hxe
  have hv := hc.valid
  have hn6 := hv.n6
  have hol : p.ord.length = p.n := rfl
  obtain ⟨vo, vpw, vc, ps, cs, css, rfl, h1, h2, h3⟩ := hp.ex
  refine enter (args := [.agg #[vo, vpw, vc], .int .i64 i, vx, .int .i64 k]) (l := [.tmp 8]) Try.func79 rfl rfl Try.ntmps79 (by simp) ?_
  refine go ?_
  refine st_box3 (by ((try simp only [ev_tmp, ev_const, ev_func, get_put, get_args, get_putL, get_putL_nil, Nat.reduceEqDiff, reduceIte, List.getD_cons_zero, List.getD_cons_succ, List.getD_nil]); first | done | with_reducible rfl)) (by first | exact True.intro | exact ⟨_, rfl, by ((try simp only [ev_tmp, ev_const, ev_func, get_put, get_args, get_putL, get_putL_nil, Nat.reduceEqDiff, reduceIte, List.getD_cons_zero, List.getD_cons_succ, List.getD_nil, Bool.not_true, Bool.not_false]); first | done | with_reducible rfl)⟩) fun w1 b he1 hb1 hs1 hc0 hc1 hc2 => ?_
  refine go ?_
  refine st_make_int (by ((try simp only [ev_tmp, ev_const, ev_func, get_put, get_args, get_putL, get_putL_nil, Nat.reduceEqDiff, reduceIte, List.getD_cons_zero, List.getD_cons_succ, List.getD_nil]); first | done | with_reducible rfl)) (by ((try simp only [ev_tmp, ev_const, ev_func, get_put, get_args, get_putL, get_putL_nil, Nat.reduceEqDiff, reduceIte, List.getD_cons_zero, List.getD_cons_succ, List.getD_nil]); first | done | with_reducible rfl)) (by omega) (by omega) (by first | exact True.intro | exact ⟨_, rfl, by ((try simp only [ev_tmp, ev_const, ev_func, get_put, get_args, get_putL, get_putL_nil, Nat.reduceEqDiff, reduceIte, List.getD_cons_zero, List.getD_cons_succ, List.getD_nil, Bool.not_true, Bool.not_false]); first | done | with_reducible rfl)⟩) fun w2 v2 he2 hs2 ho2 => ?_
  refine go ?_
  refine r_loop (fun m ρ w' => ∃ (vo' vb' : Value) (a c : Nat), Has ρ [(1, .int .i64 i), (3, .int .i64 m), (4, .pointer (some ⟨b, 0, none⟩)), (9, vo'), (10, vb')] ∧ Ext w1 w' ∧ (m : Int) ≤ k ∧ a + c * m = k.toNat ∧
    Fr w.heap.size w' vo' (Grp.pw x a).v ∧ IntsE w' vb' (Grp.pw x c).v) k.toNat ?_ ?_
  · refine ⟨v2, vx, 0, 1, ?_, he2, by omega, by omega, ho2.toFr (by omega), ?_⟩
    · exact hasP
    · rw [Grp.pw_one]; exact IntsE.of
  · rintro m ρ w3 ⟨vo', vb', a, c, hH, he3, hm, hac, hf3, lo2, hi2, hi3⟩
    refine rwp_has hH fun ρ0 => ?_
    refine go ?_
    refine c_if (fun h4 => ?_) (fun h4 => ?_)
    · have hz := he1.size
      have hz3 := he3.size
      have hdiv : m = 2 * (m / 2) + m % 2 := by omega
      have hcm : c * m = (c + c) * (m / 2) + c * (m % 2) := by
        conv => lhs; rw [hdiv]
        rw [Nat.mul_add, ← Nat.mul_assoc, Nat.mul_two]
      refine go ?_
      refine c_if (fun h5 => ?_) (fun h5 => ?_)
      · refine go ?_
        refine rc (l08AtT_ok (x := Grp.pw x a) (y := Grp.pw x c) ?_) (next := fun v4 w4 h6 => ?_)
        · rfl
        obtain ⟨he4, hf4⟩ := h6
        refine go ?_
        refine rc (l08AtT_ok (x := Grp.pw x c) (y := Grp.pw x c) ?_) (next := fun v5 w5 h6 => ?_)
        · rfl
        obtain ⟨he5, hf5⟩ := h6
        refine go ?_
        have hm2 : m % 2 = 1 := by omega
        rw [hm2, Nat.mul_one] at hcm
        refine loopQ_normal (m := m / 2) (by omega) ⟨v4, v5, a + c, c + c, ?_, (he3.trans he4).trans he5, by omega, by omega, ?_, ?_⟩
        rotate_left
        · rw [Grp.pw_add]; exact (hf4.mono (by omega)).ext' he5
        · rw [Grp.pw_add]; exact IntsE.of (h := hf5.ints)
        · exact hasP
      · refine go ?_
        refine rc (l08AtT_ok (x := Grp.pw x c) (y := Grp.pw x c) ?_) (next := fun v5 w5 h6 => ?_)
        · rfl
        obtain ⟨he5, hf5⟩ := h6
        refine go ?_
        have hm2 : m % 2 = 0 := by omega
        rw [hm2, Nat.mul_zero] at hcm
        refine loopQ_normal (m := m / 2) (by omega) ⟨vo', v5, a, c + c, ?_, he3.trans he5, by omega, by omega, hf3.ext' he5, ?_⟩
        rotate_left
        · rw [Grp.pw_add]; exact IntsE.of (h := hf5.ints)
        · exact hasP
    · refine go ?_
      have hm0 : m = 0 := by omega
      subst hm0
      refine ret1 ⟨he1.trans he3, ?_⟩
      have : a = k.toNat := by omega
      rw [← this]; exact hf3
end Go.Proofs.Ytnphljflkpekmaa

/-
  Walk: the reference's look at one level (l08Level).
  Conditions: the presentation is valid, the tail behind the level is a group.
-/
namespace Go.Proofs.Ytnphljflkpekmaa
open Go Go.Pc
@[reducible] def faultV (k l f s : Int) : Value := .agg #[.int .i64 k, .int .i64 l, .int .i64 f, .int .i64 s]
/-- The conditions of a level, one generator (or pair) at a time. -/
def LP (p : Pr) (i : Nat) [h : Con p (i + 1)] (j : Nat) : Prop := ∀ hj : i < j ∧ j < p.n, (Grp.pw (Tc h.valid hj) (p.o j).toNat).v = img p i (p.w j)
def LC (p : Pr) (i : Nat) (j k : Nat) : Prop := i < j → j < k → k < p.n → atv p (i + 1) (p.c i k) (p.c i j) = atv p (i + 1) (p.c i j) (img p i (p.c j k))
def LI (p : Pr) (i : Nat) (j : Nat) : Prop := i + 1 ≤ j → j < p.n → atv p (i + 1) (p.w i) (rep (p.o i).toNat (img p i) (unitv p j 1)) = atv p (i + 1) (unitv p j 1) (p.w i)
theorem rep_Timg {p : Pr} {i : Nat} (hv : Valid p) (q : Nat) (u : T p (i + 1)) : (rep q (Timg hv) u).v = rep q (img p i) u.v := by
  induction q with
  | zero => rfl
  | succ q ih => rw [rep_succ, rep_succ, ← ih]; rfl
theorem chk_iff {p : Pr} {i : Nat} [h : Con p (i + 1)] (hi : i < p.n) : Chk p i hi ↔ (∀ j, LP p i j) ∧ (∀ j k, LC p i j k) ∧ img p i (p.w i) = p.w i ∧ ∀ j, LI p i j := by
  constructor
  · intro hc
    refine ⟨fun j hj => congrArg T.v (hc.P j hj), fun j k hj hjk hk => ?_, congrArg T.v hc.F, fun j hj hjn => ?_⟩
    · have h2 := congrArg (Tc h.valid (i := i) (j := j) ⟨hj, by omega⟩ * ·) (hc.C j k ⟨hj, by omega⟩ ⟨by omega, hk⟩ hjk)
      simp only [Grp.mul_cj] at h2
      exact congrArg T.v h2
    · have := hc.I j ⟨hj, hjn⟩
      have h2 : Tw h.valid hi * rep (p.o i).toNat (Timg h.valid) (gen h.valid (i + 1) j ⟨hj, hjn⟩) = gen h.valid (i + 1) j ⟨hj, hjn⟩ * Tw h.valid hi := by rw [this, Grp.mul_cj]
      have h3 := congrArg T.v h2
      rw [T.mul_val, rep_Timg, T.mul_val] at h3
      exact h3
  · rintro ⟨h1, h2, h3, h4⟩
    refine ⟨fun j hj => T.ext (h1 j hj), fun j k hj hk hjk => ?_, T.ext h3, fun j hj => ?_⟩
    · apply Grp.mul_left_cancel (a := Tc h.valid hj)
      rw [Grp.mul_cj]
      exact T.ext (h2 j k hj.1 hjk hk.2)
    · apply Grp.mul_left_cancel (a := Tw h.valid hi)
      rw [Grp.mul_cj]
      apply T.ext
      rw [T.mul_val, rep_Timg, T.mul_val]
      exact h4 j hj.1 hj.2
set_option maxHeartbeats 4000000 in
theorem l08Level_ok {p : Pr} {i : Nat} [hc : Con p (i + 1)] (hi : i < p.n) {w : World} {vp : Value} {ki : Int} {lo hi' : Nat} [hp : Pres lo hi' w vp p] (hki : ki = i) :
    Calls Try.prog 130 #[vp, .int .i64 ki] w (Ret fun v w' => ∃ k l f s : Int, v = faultV k l f s ∧ (k = 0 ↔ Chk p i hi) ∧ (k ≠ 0 → l = i) ∧ (k = 0 → l = 0 ∧ f = 0 ∧ s = 0) ∧ Ext w w') := by
  subst hki
  have hv := hc.valid
  have hn6 := hv.n6
  have hol : p.ord.length = p.n := rfl
  have hwl : p.pow.length = p.n := hv.lenw
  have hcl : p.cnj.length = p.n := hv.lenc
  have hci : (p.cnj.getD i []).length = p.n - 1 - i := hv.lenci i hi
  have hoi := hv.opos hi
  have hoe : p.o i = p.ord.getD i 0 := rfl
  obtain ⟨vo, vpw, vc, ps, cs, css, rfl, h1, h2, h3⟩ := hp.ex
  refine enter (args := [.agg #[vo, vpw, vc], .int .i64 i]) (l := [.cell 4 112]) Try.func130 rfl rfl Try.ntmps130 (by simp) ?_
  refine go ?_
  refine st_box3 (by ((try simp only [ev_tmp, ev_const, ev_func, get_put, get_args, get_putL, get_putL_nil, Nat.reduceEqDiff, reduceIte, List.getD_cons_zero, List.getD_cons_succ, List.getD_nil]); first | done | with_reducible rfl)) (by first | exact True.intro | exact ⟨_, rfl, by ((try simp only [ev_tmp, ev_const, ev_func, get_put, get_args, get_putL, get_putL_nil, Nat.reduceEqDiff, reduceIte, List.getD_cons_zero, List.getD_cons_succ, List.getD_nil, Bool.not_true, Bool.not_false]); first | done | with_reducible rfl)⟩) fun w1 b he1 hb1 hs1 hc0 hc1 hc2 => ?_
  refine go ?_
  refine st_alloc (by first | exact True.intro | exact ⟨_, rfl, by ((try simp only [ev_tmp, ev_const, ev_func, get_put, get_args, get_putL, get_putL_nil, Nat.reduceEqDiff, reduceIte, List.getD_cons_zero, List.getD_cons_succ, List.getD_nil, Bool.not_true, Bool.not_false]); first | done | with_reducible rfl)⟩) fun w2 bf he2 hbf hs2 hbk => ?_
  have hE2 : Ext w w2 := he1.trans he2
  have bad : ∀ {w3 : World} {k f s : Int}, Ext w w3 → k ≠ 0 → ¬ Chk p i hi → ∃ k' l' f' s' : Int, faultV k i f s = faultV k' l' f' s' ∧ (k' = 0 ↔ Chk p i hi) ∧ (k' ≠ 0 → l' = i) ∧ (k' = 0 → l' = 0 ∧ f' = 0 ∧ s' = 0) ∧ Ext w w3 :=
    fun he hk hn => ⟨_, _, _, _, rfl, ⟨fun h => absurd h hk, fun h => absurd h hn⟩, fun _ => rfl, fun h => absurd h hk, he⟩
  refine go ?_
  refine r_for (p.n - (i + 1)) (fun k ρ w' => Has ρ [(1, .int .i64 i), (2, .pointer (some ⟨b, 0, none⟩)), (4, .pointer (some ⟨bf, 0, none⟩)), (5, .int .i64 p.n), (6, .int .i64 i), (7, .int .i64 (i + 1 + k : Nat))] ∧ Ext w2 w' ∧ ∀ j, j < i + 1 + k → LP p i j) ?_ ?_
  · refine ⟨?_, Ext.refl _, fun j hj hj' => by omega⟩
    exact hasP
  · rintro k ρ w3 hk ⟨hH, he3, hP⟩
    refine rwp_has hH fun ρ0 => ?_
    refine go ?_
    refine c_if (fun hj => ?_) (fun hj => ?_)
    · have hjn : i < i + 1 + k ∧ i + 1 + k < p.n := ⟨by omega, by omega⟩
      have hoj : 2 ≤ p.ord.getD (i + 1 + k) 0 ∧ p.ord.getD (i + 1 + k) 0 ≤ 7 := hv.opos hjn.2
      refine go ?_
      refine d_region fun w4 he4 _ => ?_
      refine dgo ?_
      refine dc (l08Repeat_ok (x := Tc hv hjn) rfl ?_ ?_ ?_) (next := fun v5 w5 h5 => ?_)
      · omega
      · omega
      · omega
      obtain ⟨he5, hf5⟩ := h5
      refine ⟨fun h => h.trans he5, ?_⟩
      refine dgo ?_
      refine d_end (h := ?_)
      refine go ?_
      refine d_region fun w6 he6 _ => ?_
      refine dgo ?_
      refine dc (l08Image_ok hv hi (x := p.w (i + 1 + k)) ?_ (hv.w_in _ hjn.2)) (next := fun v7 w7 h7 => ?_)
      · rfl
      obtain ⟨he7, hf7⟩ := h7
      refine ⟨fun h => h.trans he7, ?_⟩
      have hlen := (Grp.pw (Tc hv hjn) (p.o (i + 1 + k)).toNat).inr.len
      refine dc (l01Same_ok (xs := (Grp.pw (Tc hv hjn) (p.o (i + 1 + k)).toNat).v) (ys := img p i (p.w (i + 1 + k))) ?_) (next := fun v8 w8 h8 => ?_)
      · omega
      obtain ⟨b8, rfl, hb8, he8⟩ := h8
      refine ⟨fun h => h.trans he8, ?_⟩
      have hE8 : Ext w2 w8 := ((((he3.trans he4).trans he5).trans he6).trans he7).trans he8
      refine dgo ?_
      refine d_end (h := ?_)
      refine go ?_
      refine c_b (fun h9 => ?_) (fun h9 => ?_)
      · refine go ?_
        refine ra (v := faultV 1 i (i + 1 + k : Nat) 0) (h := rd_build (by simp only [ev_tmp, ev_const, ev_func, get_put, get_args, get_putL, get_putL_nil, Nat.reduceEqDiff, reduceIte, List.getD_cons_zero, List.getD_cons_succ, List.getD_nil, List.map_toArray, List.map_cons, List.map_nil]; rfl) (fun _ => by kernel_rfl)) (next := ?_)
        refine st_store_agg (vs := [.int .i64 1, .int .i64 i, .int .i64 (i + 1 + k : Nat), .int .i64 0]) (cs := _) (by ((try simp only [ev_tmp, ev_const, ev_func, get_put, get_args, get_putL, get_putL_nil, Nat.reduceEqDiff, reduceIte, List.getD_cons_zero, List.getD_cons_succ, List.getD_nil]); first | done | with_reducible rfl)) (by ((try simp only [ev_tmp, ev_const, ev_func, get_put, get_args, get_putL, get_putL_nil, Nat.reduceEqDiff, reduceIte, List.getD_cons_zero, List.getD_cons_succ, List.getD_nil]); first | done | with_reducible rfl)) rfl ?_ rfl (by first | exact True.intro | exact ⟨_, rfl, by ((try simp only [ev_tmp, ev_const, ev_func, get_put, get_args, get_putL, get_putL_nil, Nat.reduceEqDiff, reduceIte, List.getD_cons_zero, List.getD_cons_succ, List.getD_nil, Bool.not_true, Bool.not_false]); first | done | with_reducible rfl)⟩) fun w9 hc9 hs9 hb9 => ?_
        · rfl
        refine go ?_
        refine retc (bad (k := 1) (f := (i + 1 + k : Nat)) (s := 0) (hc9.ext (hE2.trans hE8) ?_) (by decide) fun h => ?_) rfl
        · have := hE2.size; have := he1.size; omega
        · have := hb8.2 (((chk_iff hi).1 h).1 _ hjn)
          rw [this] at h9; cases h9
      · have h10 := hb8.1 (by simpa using h9)
        refine go ?_
        refine forQ_normal (by omega) ⟨?_, hE8, fun j hj => ?_⟩
        · exact hasP
        · by_cases e : j = i + 1 + k
          · subst e; exact fun _ => h10
          · exact hP j (by omega)
    · refine go ?_
      have hP' : ∀ j, LP p i j := fun j => by
        by_cases e : j < i + 1 + k
        · exact hP j e
        · exact fun h => by omega
      have hE3 := hE2.trans he3
      clear hP hH hk
      refine r_for (p.n - (i + 1)) (fun k ρ w' => Has ρ [(1, .int .i64 i), (2, .pointer (some ⟨b, 0, none⟩)), (4, .pointer (some ⟨bf, 0, none⟩)), (5, .int .i64 p.n), (6, .int .i64 i), (9, .int .i64 (i + 1 + k : Nat))] ∧ Ext w2 w' ∧ ∀ j k', j < i + 1 + k → LC p i j k') ?_ ?_
      · refine ⟨?_, he3, fun j k' hj hj' => by omega⟩
        exact hasP
      rintro k ρ w4 hk ⟨hH, he4, hC⟩
      refine rwp_has hH fun ρ1 => ?_
      refine go ?_
      refine c_if (fun hj => ?_) (fun hj => ?_)
      · have hjn : i < i + 1 + k ∧ i + 1 + k < p.n := ⟨by omega, by omega⟩
        refine go ?_
        refine r_for (p.n - (i + 1 + k + 1)) (fun l ρ w' => Has ρ [(1, .int .i64 i), (2, .pointer (some ⟨b, 0, none⟩)), (4, .pointer (some ⟨bf, 0, none⟩)), (5, .int .i64 p.n), (6, .int .i64 i), (9, .int .i64 (i + 1 + k : Nat)), (10, .int .i64 (i + 1 + k + 1 + l : Nat))] ∧ Ext w2 w' ∧ ∀ k', k' < i + 1 + k + 1 + l → LC p i (i + 1 + k) k') ?_ ?_
        · refine ⟨?_, he4, fun k' hk' _ h' _ => by omega⟩
          exact hasP
        rintro l ρ w5 hl ⟨hH, he5, hC2⟩
        refine rwp_has hH fun ρ2 => ?_
        refine go ?_
        refine c_if (fun hkk => ?_) (fun hkk => ?_)
        · have hkn : i < i + 1 + k + 1 + l ∧ i + 1 + k + 1 + l < p.n := ⟨by omega, by omega⟩
          have hcj := hv.lenci (i + 1 + k) hjn.2
          refine go ?_
          refine d_region fun w6 he6 _ => ?_
          refine dgo ?_
          refine d_end (h := ?_)
          refine go ?_
          refine d_region fun w7 he7 _ => ?_
          refine dgo ?_
          refine dc (l08Image_ok hv hi (x := p.c (i + 1 + k) (i + 1 + k + 1 + l)) ?_ (hv.c_in _ _ (by omega) hkn.2)) (next := fun v8 w8 h8 => ?_)
          · rfl
          obtain ⟨he8, hf8⟩ := h8
          refine ⟨fun h => h.trans he8, ?_⟩
          refine dgo ?_
          refine d_end (h := ?_)
          refine go ?_
          refine d_order [0, 1, 2, 3, 4, 6, 7, 8, 9, 10, 5, 11, 12, 13] (h := fun w9 he9 _ => ?_)
          refine dgo ?_
          refine dc (l08At_ok hv (i + 1) (x := p.c i (i + 1 + k + 1 + l)) (y := p.c i (i + 1 + k)) ?_ (hv.c_in _ _ hkn.1 hkn.2) (hv.c_in _ _ hjn.1 hjn.2) (hv.c_zu _ _ hkn.1 hkn.2) (hv.c_zu _ _ hjn.1 hjn.2)) (next := fun v10 w10 h10 => ?_)
          · rfl
          obtain ⟨he10, hf10⟩ := h10
          refine ⟨fun h => h.trans he10, ?_⟩
          refine dgo ?_
          refine dc (l08At_ok hv (i + 1) (x := p.c i (i + 1 + k)) (y := img p i (p.c (i + 1 + k) (i + 1 + k + 1 + l))) ?_ (hv.c_in _ _ hjn.1 hjn.2) (img_in hv _ _).1 (hv.c_zu _ _ hjn.1 hjn.2) (img_in hv _ _).2) (next := fun v11 w11 h11 => ?_)
          · rfl
          obtain ⟨he11, hf11⟩ := h11
          refine ⟨fun h => h.trans he11, ?_⟩
          have hlen := (atv_in hv _ (i + 1) rfl _ _ (hv.c_in _ _ hkn.1 hkn.2) (hv.c_in _ _ hjn.1 hjn.2) (hv.c_zu _ _ hkn.1 hkn.2) (hv.c_zu _ _ hjn.1 hjn.2)).1.len
          refine dgo ?_
          refine dc (l01Same_ok (xs := atv p (i + 1) (p.c i (i + 1 + k + 1 + l)) (p.c i (i + 1 + k))) (ys := atv p (i + 1) (p.c i (i + 1 + k)) (img p i (p.c (i + 1 + k) (i + 1 + k + 1 + l)))) ?_) (next := fun v12 w12 h12 => ?_)
          · omega
          obtain ⟨b12, rfl, hb12, he12⟩ := h12
          refine ⟨fun h => h.trans he12, ?_⟩
          have hE12 : Ext w2 w12 := ((((((he5.trans he6).trans he7).trans he8).trans he9).trans he10).trans he11).trans he12
          refine dgo ?_
          refine d_end (h := ?_)
          refine go ?_
          refine c_b (fun h13 => ?_) (fun h13 => ?_)
          · refine go ?_
            refine ra (v := faultV 2 i (i + 1 + k : Nat) (i + 1 + k + 1 + l : Nat)) (h := rd_build (by simp only [ev_tmp, ev_const, ev_func, get_put, get_args, get_putL, get_putL_nil, Nat.reduceEqDiff, reduceIte, List.getD_cons_zero, List.getD_cons_succ, List.getD_nil, List.map_toArray, List.map_cons, List.map_nil]; rfl) (fun _ => by kernel_rfl)) (next := ?_)
            refine st_store_agg (vs := [.int .i64 2, .int .i64 i, .int .i64 (i + 1 + k : Nat), .int .i64 (i + 1 + k + 1 + l : Nat)]) (cs := _) (by ((try simp only [ev_tmp, ev_const, ev_func, get_put, get_args, get_putL, get_putL_nil, Nat.reduceEqDiff, reduceIte, List.getD_cons_zero, List.getD_cons_succ, List.getD_nil]); first | done | with_reducible rfl)) (by ((try simp only [ev_tmp, ev_const, ev_func, get_put, get_args, get_putL, get_putL_nil, Nat.reduceEqDiff, reduceIte, List.getD_cons_zero, List.getD_cons_succ, List.getD_nil]); first | done | with_reducible rfl)) rfl ?_ rfl (by first | exact True.intro | exact ⟨_, rfl, by ((try simp only [ev_tmp, ev_const, ev_func, get_put, get_args, get_putL, get_putL_nil, Nat.reduceEqDiff, reduceIte, List.getD_cons_zero, List.getD_cons_succ, List.getD_nil, Bool.not_true, Bool.not_false]); first | done | with_reducible rfl)⟩) fun w13 hc13 hs13 hb13 => ?_
            · rfl
            refine go ?_
            refine retc (bad (k := 2) (f := (i + 1 + k : Nat)) (s := (i + 1 + k + 1 + l : Nat)) (hc13.ext (hE2.trans hE12) ?_) (by decide) fun h => ?_) rfl
            · have := hE2.size; have := he1.size; omega
            · have := hb12.2 (((chk_iff hi).1 h).2.1 _ _ hjn.1 (by omega) hkn.2)
              rw [this] at h13; cases h13
          · have h14 := hb12.1 (by simpa using h13)
            refine go ?_
            refine forQ_normal (by omega) ⟨?_, hE12, fun k' hk' => ?_⟩
            · exact hasP
            · by_cases e : k' = i + 1 + k + 1 + l
              · subst e; exact fun _ _ _ => h14
              · exact hC2 k' (by omega)
        · refine go ?_
          refine forQ_normal (by omega) ⟨?_, he5, fun j k' hj' => ?_⟩
          · exact hasP
          · by_cases e : j = i + 1 + k
            · subst e
              exact fun h1 h2 h3 => hC2 k' (by omega) h1 h2 h3
            · exact hC j k' (by omega)
      · refine go ?_
        have hC' : ∀ j k', LC p i j k' := fun j k' h1 h2 h3 => hC j k' (by omega) h1 h2 h3
        clear hC hk
        refine rc (l08Image_ok hv hi (x := p.w i) ?_ (hv.w_in _ hi)) (next := fun v6 w6 h6 => ?_)
        · rfl
        obtain ⟨he6, hf6⟩ := h6
        have hlen := (img_in hv i (p.w i)).1.len
        refine go ?_
        refine rc (l01Same_ok (xs := img p i (p.w i)) (ys := p.w i) ?_) (next := fun v7 w7 h7 => ?_)
        · omega
        obtain ⟨b7, rfl, hb7, he7⟩ := h7
        have hE7 : Ext w2 w7 := (he4.trans he6).trans he7
        refine go ?_
        refine c_b (fun h8 => ?_) (fun h8 => ?_)
        · refine go ?_
          refine ra (v := faultV 3 i 0 0) (h := rd_build (by simp only [ev_tmp, ev_const, ev_func, get_put, get_args, get_putL, get_putL_nil, Nat.reduceEqDiff, reduceIte, List.getD_cons_zero, List.getD_cons_succ, List.getD_nil, List.map_toArray, List.map_cons, List.map_nil]; rfl) (fun _ => by kernel_rfl)) (next := ?_)
          refine st_store_agg (vs := [.int .i64 3, .int .i64 i, .int .i64 0, .int .i64 0]) (cs := _) (by ((try simp only [ev_tmp, ev_const, ev_func, get_put, get_args, get_putL, get_putL_nil, Nat.reduceEqDiff, reduceIte, List.getD_cons_zero, List.getD_cons_succ, List.getD_nil]); first | done | with_reducible rfl)) (by ((try simp only [ev_tmp, ev_const, ev_func, get_put, get_args, get_putL, get_putL_nil, Nat.reduceEqDiff, reduceIte, List.getD_cons_zero, List.getD_cons_succ, List.getD_nil]); first | done | with_reducible rfl)) rfl ?_ rfl (by first | exact True.intro | exact ⟨_, rfl, by ((try simp only [ev_tmp, ev_const, ev_func, get_put, get_args, get_putL, get_putL_nil, Nat.reduceEqDiff, reduceIte, List.getD_cons_zero, List.getD_cons_succ, List.getD_nil, Bool.not_true, Bool.not_false]); first | done | with_reducible rfl)⟩) fun w9 hc9 hs9 hb9 => ?_
          · rfl
          refine go ?_
          refine retc (bad (k := 3) (f := 0) (s := 0) (hc9.ext (hE2.trans hE7) ?_) (by decide) fun h => ?_) rfl
          · have := hE2.size; have := he1.size; omega
          · have := hb7.2 ((chk_iff hi).1 h).2.2.1
            rw [this] at h8; cases h8
        · have hF := hb7.1 (by simpa using h8)
          refine go ?_
          clear h8
          refine r_for (p.n - (i + 1)) (fun k ρ w' => Has ρ [(1, .int .i64 i), (2, .pointer (some ⟨b, 0, none⟩)), (4, .pointer (some ⟨bf, 0, none⟩)), (5, .int .i64 p.n), (6, .int .i64 i), (14, Pc.rowAt vpw ps i), (15, .int .i64 (i + 1 + k : Nat))] ∧ Ext w2 w' ∧ ∀ j, j < i + 1 + k → LI p i j) ?_ ?_
          · refine ⟨?_, hE7, fun j hj h1 h2 => by omega⟩
            exact hasP
          rintro k ρ w8 hk ⟨hH, he8, hI⟩
          refine rwp_has hH fun ρ2 => ?_
          refine go ?_
          refine c_if (fun hj => ?_) (fun hj => ?_)
          · have hjn : i + 1 ≤ i + 1 + k ∧ i + 1 + k < p.n := ⟨by omega, by omega⟩
            refine go ?_
            refine rc (l07Unit_ok (n := p.n) (i := i + 1 + k) ?_ ?_ ?_ hjn.2) (next := fun v9 w9 h9 => ?_)
            · rfl
            · rfl
            · omega
            obtain ⟨he9, hf9⟩ := h9
            have hg0 : (zeros p.n).set (i + 1 + k) 1 = unitv p (i + 1 + k) 1 := rfl
            rw [hg0] at hf9
            have hsz8 := he8.size
            have hsz1 := hE2.size
            refine go ?_
            refine r_for (p.o i).toNat (fun q ρ w' => ∃ vx, Has ρ [(1, .int .i64 i), (2, .pointer (some ⟨b, 0, none⟩)), (4, .pointer (some ⟨bf, 0, none⟩)), (5, .int .i64 p.n), (6, .int .i64 i), (14, Pc.rowAt vpw ps i), (15, .int .i64 (i + 1 + k : Nat)), (16, v9), (17, vx), (18, .int .i64 q)] ∧ Ext w9 w' ∧ Fr w.heap.size w' vx (rep q (img p i) (unitv p (i + 1 + k) 1))) ?_ ?_
            · refine ⟨v9, ?_, Ext.refl _, hf9.mono (by omega)⟩
              exact hasP
            rintro q ρ w10 hq ⟨vx, hH, he10, hf10⟩
            refine rwp_has hH fun ρ3 => ?_
            have hin : InR p (rep q (img p i) (unitv p (i + 1 + k) 1)) ∧ ZU (i + 1) (rep q (img p i) (unitv p (i + 1 + k) 1)) := by
              refine rep_inv (fun v => InR p v ∧ ZU (i + 1) v) (fun x _ => img_in hv i x) ⟨?_, unitv_zu p hjn.1 1⟩ q
              exact unitv_in hv (by omega) (fun h => by have := hv.opos h; omega)
            refine go ?_
            refine c_if (fun hq2 => ?_) (fun hq2 => ?_)
            · refine go ?_
              refine rc (l08Image_ok hv hi (x := rep q (img p i) (unitv p (i + 1 + k) 1)) ?_ hin.1) (next := fun v11 w11 h11 => ?_)
              · rfl
              obtain ⟨he11, hf11⟩ := h11
              have hsz10 := he10.size
              have hsz9 := he9.size
              refine go ?_
              refine forQ_normal (by omega) ⟨v11, ?_, he10.trans he11, hf11.mono (by omega)⟩
              exact hasP
            · have hqe : (p.o i).toNat = q := by omega
              have hu9 : InR p (unitv p (i + 1 + k) 1) := unitv_in hv (by omega) (fun h => by have := hv.opos h; omega)
              refine go ?_
              refine d_order [0, 1, 2, 3, 4, 6, 7, 8, 9, 10, 5, 11, 12, 13] (h := fun w11 he11 _ => ?_)
              refine dgo ?_
              refine dc (l08At_ok hv (i + 1) (x := p.w i) (y := rep q (img p i) (unitv p (i + 1 + k) 1)) ?_ (hv.w_in _ hi) hin.1 (hv.w_zu _ hi) hin.2) (next := fun v12 w12 h12 => ?_)
              · rfl
              obtain ⟨he12, hf12⟩ := h12
              refine ⟨fun h => h.trans he12, ?_⟩
              refine dgo ?_
              refine dc (l08At_ok hv (i + 1) (x := unitv p (i + 1 + k) 1) (y := p.w i) ?_ hu9 (hv.w_in _ hi) (unitv_zu p hjn.1 1) (hv.w_zu _ hi)) (next := fun v13 w13 h13 => ?_)
              · rfl
              obtain ⟨he13, hf13⟩ := h13
              refine ⟨fun h => h.trans he13, ?_⟩
              have hlen2 := (atv_in hv _ (i + 1) rfl _ _ (hv.w_in _ hi) hin.1 (hv.w_zu _ hi) hin.2).1.len
              refine dgo ?_
              refine dc (l01Same_ok (xs := atv p (i + 1) (p.w i) (rep q (img p i) (unitv p (i + 1 + k) 1))) (ys := atv p (i + 1) (unitv p (i + 1 + k) 1) (p.w i)) ?_) (next := fun v14 w14 h14 => ?_)
              · omega
              obtain ⟨b14, rfl, hb14, he14⟩ := h14
              refine ⟨fun h => h.trans he14, ?_⟩
              have hE14 : Ext w2 w14 := ((((((he8.trans he9).trans he10).trans he11).trans he12).trans he13)).trans he14
              refine dgo ?_
              refine d_end (h := ?_)
              refine go ?_
              refine c_b (fun h15 => ?_) (fun h15 => ?_)
              · refine go ?_
                refine ra (v := faultV 4 i (i + 1 + k : Nat) 0) (h := rd_build (by simp only [ev_tmp, ev_const, ev_func, get_put, get_args, get_putL, get_putL_nil, Nat.reduceEqDiff, reduceIte, List.getD_cons_zero, List.getD_cons_succ, List.getD_nil, List.map_toArray, List.map_cons, List.map_nil]; rfl) (fun _ => by kernel_rfl)) (next := ?_)
                refine st_store_agg (vs := [.int .i64 4, .int .i64 i, .int .i64 (i + 1 + k : Nat), .int .i64 0]) (cs := _) (by ((try simp only [ev_tmp, ev_const, ev_func, get_put, get_args, get_putL, get_putL_nil, Nat.reduceEqDiff, reduceIte, List.getD_cons_zero, List.getD_cons_succ, List.getD_nil]); first | done | with_reducible rfl)) (by ((try simp only [ev_tmp, ev_const, ev_func, get_put, get_args, get_putL, get_putL_nil, Nat.reduceEqDiff, reduceIte, List.getD_cons_zero, List.getD_cons_succ, List.getD_nil]); first | done | with_reducible rfl)) rfl ?_ rfl (by first | exact True.intro | exact ⟨_, rfl, by ((try simp only [ev_tmp, ev_const, ev_func, get_put, get_args, get_putL, get_putL_nil, Nat.reduceEqDiff, reduceIte, List.getD_cons_zero, List.getD_cons_succ, List.getD_nil, Bool.not_true, Bool.not_false]); first | done | with_reducible rfl)⟩) fun w15 hc15 hs15 hb15 => ?_
                · rfl
                refine go ?_
                refine retc (bad (k := 4) (f := (i + 1 + k : Nat)) (s := 0) (hc15.ext (hE2.trans hE14) ?_) (by decide) fun h => ?_) rfl
                · have := hE2.size; have := he1.size; omega
                · have := ((chk_iff hi).1 h).2.2.2 (i + 1 + k) hjn.1 hjn.2
                  rw [hqe] at this
                  have := hb14.2 this
                  rw [this] at h15; cases h15
              · have h16 := hb14.1 (by simpa using h15)
                refine go ?_
                refine forQ_normal (by omega) ⟨?_, hE14, fun j hj2 => ?_⟩
                · exact hasP
                · by_cases e : j = i + 1 + k
                  · subst e
                    intro _ _
                    rw [hqe]
                    exact h16
                  · exact hI j (by omega)
          · refine go ?_
            refine ra (v := faultV 0 0 0 0) (h := rd_build (by rfl) (fun _ => by kernel_rfl)) (next := ?_)
            refine st_store_agg (vs := [.int .i64 0, .int .i64 0, .int .i64 0, .int .i64 0]) (cs := _) (by ((try simp only [ev_tmp, ev_const, ev_func, get_put, get_args, get_putL, get_putL_nil, Nat.reduceEqDiff, reduceIte, List.getD_cons_zero, List.getD_cons_succ, List.getD_nil]); first | done | with_reducible rfl)) (by ((try simp only [ev_tmp, ev_const, ev_func, get_put, get_args, get_putL, get_putL_nil, Nat.reduceEqDiff, reduceIte, List.getD_cons_zero, List.getD_cons_succ, List.getD_nil]); first | done | with_reducible rfl)) rfl ?_ rfl (by first | exact True.intro | exact ⟨_, rfl, by ((try simp only [ev_tmp, ev_const, ev_func, get_put, get_args, get_putL, get_putL_nil, Nat.reduceEqDiff, reduceIte, List.getD_cons_zero, List.getD_cons_succ, List.getD_nil, Bool.not_true, Bool.not_false]); first | done | with_reducible rfl)⟩) fun w15 hc15 hs15 hb15 => ?_
            · rfl
            refine go ?_
            refine retc ⟨0, 0, 0, 0, rfl, ⟨fun _ => (chk_iff hi).2 ⟨hP', hC', hF, fun j h1 h2 => hI j (by omega) h1 h2⟩, fun _ => rfl⟩, fun h => absurd rfl h, fun _ => ⟨rfl, rfl, rfl⟩, hc15.ext (hE2.trans he8) ?_⟩ rfl
            have := hE2.size; have := he1.size; omega
end Go.Proofs.Ytnphljflkpekmaa

/-
  Walks: the reference's fault, its consistency and its question whether a presentation is a group's (l08Fault, l08Consistent, l08Group).
  Conditions: the presentation is valid (l08Group: its list of orders is short).
-/
namespace Go.Proofs.Ytnphljflkpekmaa
open Go Go.Pc
/-- The level i of a presentation passes, the tail behind it being a group. -/
def Lev (p : Pr) (i : Nat) : Prop := ∃ (_ : Con p (i + 1)) (hi : i < p.n), Chk p i hi
/-- All levels from i on pass. -/
def Levs (p : Pr) (i : Nat) : Prop := ∀ j, i ≤ j → j < p.n → Lev p j
/-- The presentation is a group's. -/
structure IsGrp (p : Pr) : Prop where
  valid : Valid p
  levs : Levs p 0
theorem Levs.con {p : Pr} (hv : Valid p) {i : Nat} (h : Levs p i) : Con p i := by
  by_cases hi : p.n ≤ i
  · exact con_end hv hi
  · obtain ⟨h1, h2, h3⟩ := h i (Nat.le_refl _) (by omega)
    exact con_step h2 h3
theorem IsGrp.con {p : Pr} (h : IsGrp p) (i : Nat) : Con p i := Levs.con h.valid fun j _ hj => h.levs j (Nat.zero_le _) hj
/-- What a fault says. -/
def FaultIs (p : Pr) (v : Value) : Prop := (v = faultV 0 0 0 0 ∧ Levs p 0) ∨ ∃ (k f s : Int) (i : Nat) (_ : Con p (i + 1)) (hi : i < p.n), k ≠ 0 ∧ v = faultV k i f s ∧ ¬ Chk p i hi ∧ Levs p (i + 1)
set_option maxHeartbeats 1000000 in
theorem l08Fault_ok {p : Pr} (hv : Valid p) {w : World} {vp : Value} {lo hi' : Nat} [hp : Pres lo hi' w vp p] :
    Calls Try.prog 106 #[vp] w (Ret fun v w' => FaultIs p v ∧ Ext w w') := by
  have hn6 := hv.n6
  have hol : p.ord.length = p.n := rfl
  obtain ⟨vo, vpw, vc, ps, cs, css, rfl, h1, h2, h3⟩ := hp.ex
  refine enter (args := [.agg #[vo, vpw, vc]]) (l := [.cell 2 112]) Try.func106 rfl rfl Try.ntmps106 (by simp) ?_
  refine go ?_
  refine st_box3 (by ((try simp only [ev_tmp, ev_const, ev_func, get_put, get_args, get_putL, get_putL_nil, Nat.reduceEqDiff, reduceIte, List.getD_cons_zero, List.getD_cons_succ, List.getD_nil]); first | done | with_reducible rfl)) (by first | exact True.intro | exact ⟨_, rfl, by ((try simp only [ev_tmp, ev_const, ev_func, get_put, get_args, get_putL, get_putL_nil, Nat.reduceEqDiff, reduceIte, List.getD_cons_zero, List.getD_cons_succ, List.getD_nil, Bool.not_true, Bool.not_false]); first | done | with_reducible rfl)⟩) fun w1 b he1 hb1 hs1 hc0 hc1 hc2 => ?_
  refine go ?_
  refine st_alloc (by first | exact True.intro | exact ⟨_, rfl, by ((try simp only [ev_tmp, ev_const, ev_func, get_put, get_args, get_putL, get_putL_nil, Nat.reduceEqDiff, reduceIte, List.getD_cons_zero, List.getD_cons_succ, List.getD_nil, Bool.not_true, Bool.not_false]); first | done | with_reducible rfl)⟩) fun w2 bf he2 hbf hs2 hbk => ?_
  have hE2 : Ext w w2 := he1.trans he2
  refine go ?_
  refine r_for p.n (fun k ρ w' => Has ρ [(1, .pointer (some ⟨b, 0, none⟩)), (2, .pointer (some ⟨bf, 0, none⟩)), (3, .int .i64 ((p.n : Int) - 1 - k))] ∧ Ext w2 w' ∧ Levs p (p.n - k)) ?_ ?_
  · refine ⟨?_, Ext.refl _, fun j h h' => by omega⟩
    exact hasP
  rintro k ρ w3 hk ⟨hH, he3, hL⟩
  refine rwp_has hH fun ρ0 => ?_
  refine go ?_
  refine c_if (fun h4 => ?_) (fun h4 => ?_)
  · obtain ⟨i, hie⟩ : ∃ i : Nat, (p.n : Int) - 1 - k = i := ⟨p.n - 1 - k, by omega⟩
    have hi : i < p.n := by omega
    rw [show p.n - k = i + 1 by omega] at hL
    have hc : Con p (i + 1) := Levs.con hv hL
    refine go ?_
    refine rc (l08Level_ok (p := p) (i := i) hi hie) (next := fun v5 w5 h5 => ?_)
    obtain ⟨k5, l5, f5, s5, rfl, hz, hl5, h05, he5⟩ := h5
    refine go ?_
    refine st_alloc (by first | exact True.intro | exact ⟨_, rfl, by ((try simp only [ev_tmp, ev_const, ev_func, get_put, get_args, get_putL, get_putL_nil, Nat.reduceEqDiff, reduceIte, List.getD_cons_zero, List.getD_cons_succ, List.getD_nil, Bool.not_true, Bool.not_false]); first | done | with_reducible rfl)⟩) fun w6 b6 he6 hb6 hs6 hbk6 => ?_
    refine go ?_
    refine st_store_agg (vs := [.int .i64 k5, .int .i64 l5, .int .i64 f5, .int .i64 s5]) (cs := _) (by ((try simp only [ev_tmp, ev_const, ev_func, get_put, get_args, get_putL, get_putL_nil, Nat.reduceEqDiff, reduceIte, List.getD_cons_zero, List.getD_cons_succ, List.getD_nil]); first | done | with_reducible rfl)) (by ((try simp only [ev_tmp, ev_const, ev_func, get_put, get_args, get_putL, get_putL_nil, Nat.reduceEqDiff, reduceIte, List.getD_cons_zero, List.getD_cons_succ, List.getD_nil]); first | done | with_reducible rfl)) rfl ?_ rfl (by first | exact True.intro | exact ⟨_, rfl, by ((try simp only [ev_tmp, ev_const, ev_func, get_put, get_args, get_putL, get_putL_nil, Nat.reduceEqDiff, reduceIte, List.getD_cons_zero, List.getD_cons_succ, List.getD_nil, Bool.not_true, Bool.not_false]); first | done | with_reducible rfl)⟩) fun w7 hc7 hs7 hb7 => ?_
    · rfl
    have hs2 := he2.size
    have hs3 := he3.size
    have hs5 := he5.size
    have hE7 : Ext w2 w7 := hc7.ext ((he3.trans he5).trans he6) (by omega)
    have hcell : Cell w7 b6 0 (.int .i64 k5) := hb7.cell rfl
    refine go ?_
    refine c_if (fun h8 => ?_) (fun h8 => ?_)
    · refine go ?_
      refine ra (v := faultV k5 l5 f5 s5) (h := rd_load_blk (hb := hb7) (by ((try simp only [ev_tmp, ev_const, ev_func, get_put, get_args, get_putL, get_putL_nil, Nat.reduceEqDiff, reduceIte, List.getD_cons_zero, List.getD_cons_succ, List.getD_nil]); first | done | with_reducible rfl)) rfl) (next := ?_)
      refine st_store_agg (vs := [.int .i64 k5, .int .i64 l5, .int .i64 f5, .int .i64 s5]) (cs := _) (hb := Blk.ext (x := hE7) (h := hbk)) (by ((try simp only [ev_tmp, ev_const, ev_func, get_put, get_args, get_putL, get_putL_nil, Nat.reduceEqDiff, reduceIte, List.getD_cons_zero, List.getD_cons_succ, List.getD_nil]); first | done | with_reducible rfl)) (by ((try simp only [ev_tmp, ev_const, ev_func, get_put, get_args, get_putL, get_putL_nil, Nat.reduceEqDiff, reduceIte, List.getD_cons_zero, List.getD_cons_succ, List.getD_nil]); first | done | with_reducible rfl)) rfl ?_ rfl (by first | exact True.intro | exact ⟨_, rfl, by ((try simp only [ev_tmp, ev_const, ev_func, get_put, get_args, get_putL, get_putL_nil, Nat.reduceEqDiff, reduceIte, List.getD_cons_zero, List.getD_cons_succ, List.getD_nil, Bool.not_true, Bool.not_false]); first | done | with_reducible rfl)⟩) fun w9 hc9 hs9 hb9 => ?_
      · rfl
      refine go ?_
      refine retc (b := bf) ⟨.inr ⟨k5, f5, s5, i, hc, hi, by simpa using h8, ?_, fun h => absurd (hz.2 h) (by simpa using h8), hL⟩, hc9.ext (hE2.trans hE7) (by omega)⟩ rfl
      rw [hl5 (by simpa using h8)]
    · have hk5 : k5 = 0 := by simpa using h8
      refine go ?_
      refine forQ_normal (by omega) ⟨?_, hE7, fun j hj hjn => ?_⟩
      · exact hasP
      · by_cases e : j = i
        · subst e; exact ⟨hc, hi, hz.1 hk5⟩
        · exact hL j (by omega) hjn
  · refine go ?_
    refine ra (v := faultV 0 0 0 0) (h := rd_build (by rfl) (fun _ => by kernel_rfl)) (next := ?_)
    refine st_store_agg (vs := [.int .i64 0, .int .i64 0, .int .i64 0, .int .i64 0]) (cs := _) (by ((try simp only [ev_tmp, ev_const, ev_func, get_put, get_args, get_putL, get_putL_nil, Nat.reduceEqDiff, reduceIte, List.getD_cons_zero, List.getD_cons_succ, List.getD_nil]); first | done | with_reducible rfl)) (by ((try simp only [ev_tmp, ev_const, ev_func, get_put, get_args, get_putL, get_putL_nil, Nat.reduceEqDiff, reduceIte, List.getD_cons_zero, List.getD_cons_succ, List.getD_nil]); first | done | with_reducible rfl)) rfl ?_ rfl (by first | exact True.intro | exact ⟨_, rfl, by ((try simp only [ev_tmp, ev_const, ev_func, get_put, get_args, get_putL, get_putL_nil, Nat.reduceEqDiff, reduceIte, List.getD_cons_zero, List.getD_cons_succ, List.getD_nil, Bool.not_true, Bool.not_false]); first | done | with_reducible rfl)⟩) fun w9 hc9 hs9 hb9 => ?_
    · rfl
    have hs2 := he2.size
    refine go ?_
    refine retc ⟨.inl ⟨rfl, fun j _ hj => hL j (by omega) hj⟩, hc9.ext (hE2.trans he3) (by omega)⟩ rfl
set_option maxHeartbeats 1000000 in
theorem l08Consistent_ok {p : Pr} (hv : Valid p) {w : World} {vp : Value} {lo hi' : Nat} [hp : Pres lo hi' w vp p] :
    Calls Try.prog 73 #[vp] w (Ret fun v w' => ∃ b, v = .bool b ∧ (b = true ↔ Levs p 0) ∧ Ext w w') := by
  obtain ⟨vo, vpw, vc, ps, cs, css, rfl, h1, h2, h3⟩ := hp.ex
  refine enter (args := [.agg #[vo, vpw, vc]]) (l := [.tmp 2]) Try.func73 rfl rfl Try.ntmps73 (by simp) ?_
  refine go ?_
  refine st_box3 (by ((try simp only [ev_tmp, ev_const, ev_func, get_put, get_args, get_putL, get_putL_nil, Nat.reduceEqDiff, reduceIte, List.getD_cons_zero, List.getD_cons_succ, List.getD_nil]); first | done | with_reducible rfl)) (by first | exact True.intro | exact ⟨_, rfl, by ((try simp only [ev_tmp, ev_const, ev_func, get_put, get_args, get_putL, get_putL_nil, Nat.reduceEqDiff, reduceIte, List.getD_cons_zero, List.getD_cons_succ, List.getD_nil, Bool.not_true, Bool.not_false]); first | done | with_reducible rfl)⟩) fun w1 b he1 hb1 hs1 hc0 hc1 hc2 => ?_
  refine go ?_
  refine rc (l08Fault_ok hv) (next := fun v5 w5 h5 => ?_)
  obtain ⟨h5, he5⟩ := h5
  rcases h5 with ⟨rfl, hL⟩ | ⟨k, f, s, i, hc, hi, hk, rfl, hn, hL⟩
  · refine go ?_
    refine ra (v := .int .i64 0) (h := rd_fieldv (by ((try simp only [ev_tmp, ev_const, ev_func, get_put, get_args, get_putL, get_putL_nil, Nat.reduceEqDiff, reduceIte, List.getD_cons_zero, List.getD_cons_succ, List.getD_nil]); first | done | with_reducible rfl)) (fun _ => by kernel_rfl)) (next := ?_)
    refine go ?_
    refine ret1 ⟨_, rfl, ?_, he1.trans he5⟩
    simpa using hL
  · refine go ?_
    refine ra (v := .int .i64 k) (h := rd_fieldv (by ((try simp only [ev_tmp, ev_const, ev_func, get_put, get_args, get_putL, get_putL_nil, Nat.reduceEqDiff, reduceIte, List.getD_cons_zero, List.getD_cons_succ, List.getD_nil]); first | done | with_reducible rfl)) (fun _ => by kernel_rfl)) (next := ?_)
    refine go ?_
    refine ret1 ⟨_, rfl, ?_, he1.trans he5⟩
    simp only [decide_eq_true_eq]
    refine ⟨fun h => absurd h hk, fun h => absurd ?_ hn⟩
    exact (h i (Nat.zero_le _) hi).2.2
set_option maxHeartbeats 1000000 in
theorem l08Group_ok {w : World} {vp : Value} {p : Pr} {lo hi' : Nat} [hp : Pres lo hi' w vp p] (hl : p.ord.length ≤ 2000000) :
    Calls Try.prog 44 #[vp] w (Ret fun v w' => ∃ b, v = .bool b ∧ (b = true ↔ IsGrp p) ∧ Ext w w') := by
  obtain ⟨vo, vpw, vc, ps, cs, css, rfl, h1, h2, h3⟩ := hp.ex
  refine enter (args := [.agg #[vo, vpw, vc]]) (l := [.tmp 2]) Try.func44 rfl rfl Try.ntmps44 (by simp) ?_
  refine go ?_
  refine st_box3 (by ((try simp only [ev_tmp, ev_const, ev_func, get_put, get_args, get_putL, get_putL_nil, Nat.reduceEqDiff, reduceIte, List.getD_cons_zero, List.getD_cons_succ, List.getD_nil]); first | done | with_reducible rfl)) (by first | exact True.intro | exact ⟨_, rfl, by ((try simp only [ev_tmp, ev_const, ev_func, get_put, get_args, get_putL, get_putL_nil, Nat.reduceEqDiff, reduceIte, List.getD_cons_zero, List.getD_cons_succ, List.getD_nil, Bool.not_true, Bool.not_false]); first | done | with_reducible rfl)⟩) fun w1 b he1 hb1 hs1 hc0 hc1 hc2 => ?_
  refine go ?_
  refine rc (spec_IsPresentation_ok hl) (next := fun v5 w5 h5 => ?_)
  obtain ⟨b5, rfl, hb5, he5⟩ := h5
  refine go ?_
  refine sp (fun e5 => ?_) (fun e5 => ?_)
  · have hv := hb5.1 e5
    refine go ?_
    refine rc (l08Consistent_ok hv) (next := fun v6 w6 h6 => ?_)
    obtain ⟨b6, rfl, hb6, he6⟩ := h6
    refine go ?_
    exact ret1 ⟨_, rfl, hb6.trans ⟨fun h => ⟨hv, h⟩, fun h => h.levs⟩, (he1.trans he5).trans he6⟩
  · refine go ?_
    refine ret1 ⟨_, rfl, ?_, he1.trans he5⟩
    simp only [Bool.false_eq_true, false_iff]
    intro h
    have := hb5.2 h.valid
    rw [e5] at this; cases this
end Go.Proofs.Ytnphljflkpekmaa

/-
  Walks: the reference's elements and products (l10Element, l10Elements, l08Mul).
  Conditions: stated at each theorem.
-/
namespace Go.Proofs.Ytnphljflkpekmaa
open Go Go.Pc
/-- Readings of a list of integers as an element. -/
theorem el_iff {p : Pr} {v : List Int} : ExpP p.ord v (-1) ↔ InR p v := by
  constructor
  · rintro ⟨h1, h2⟩
    refine ⟨h1, fun i hi => ?_⟩
    have := (h2 i (by rw [h1]; exact hi)).1
    exact ⟨this.1, by show v.getD i 0 < p.ord.getD i 0; omega⟩
  · intro h
    refine ⟨h.len, fun i hi => ?_⟩
    have := h.rng i (by have := h.len; omega)
    have h2 : v.getD i 0 < p.ord.getD i 0 := this.2
    exact ⟨⟨this.1, by omega⟩, fun h => by omega⟩
set_option maxHeartbeats 1000000 in
theorem l10Element_ok {p : Pr} (hv : Valid p) {w : World} {vp vx : Value} {xs : List Int} {lo hi lo1 hi1 : Nat} [hp : Pres lo hi w vp p] [hx : Ints lo1 hi1 w vx xs] :
    Calls Try.prog 107 #[vp, vx] w (Ret fun v w' => ∃ b, v = .bool b ∧ (b = true ↔ InR p xs) ∧ Ext w w') := by
  have hn6 := hv.n6
  have hol : p.ord.length = p.n := rfl
  obtain ⟨vo, vpw, vc, ps, cs, css, rfl, h1, h2, h3⟩ := hp.ex
  refine enter (args := [.agg #[vo, vpw, vc], vx]) (l := [.tmp 4]) Try.func107 rfl rfl Try.ntmps107 (by simp) ?_
  refine go ?_
  refine st_box3 (by ((try simp only [ev_tmp, ev_const, ev_func, get_put, get_args, get_putL, get_putL_nil, Nat.reduceEqDiff, reduceIte, List.getD_cons_zero, List.getD_cons_succ, List.getD_nil]); first | done | with_reducible rfl)) (by first | exact True.intro | exact ⟨_, rfl, by ((try simp only [ev_tmp, ev_const, ev_func, get_put, get_args, get_putL, get_putL_nil, Nat.reduceEqDiff, reduceIte, List.getD_cons_zero, List.getD_cons_succ, List.getD_nil, Bool.not_true, Bool.not_false]); first | done | with_reducible rfl)⟩) fun w1 b he1 hb1 hs1 hc0 hc1 hc2 => ?_
  refine go ?_
  refine rc (l07Exponents_ok (os := p.ord) (xs := xs) (z := -1) (fun i hi => ?_) ?_) (next := fun v2 w2 h2 => ?_)
  · have : 2 ≤ p.ord.getD i 0 ∧ p.ord.getD i 0 ≤ 7 := hv.opos hi
    omega
  · omega
  obtain ⟨b2, rfl, hb2, he2⟩ := h2
  refine go ?_
  exact ret1 ⟨_, rfl, hb2.trans el_iff, he1.trans he2⟩
set_option maxHeartbeats 1000000 in
theorem l10Elements_ok {p : Pr} (hv : Valid p) {w : World} {vp vx : Value} {us : List Value} {xss : List (List Int)} {lo hi lo1 hi1 : Nat} [hp : Pres lo hi w vp p] [hx : Pc.Rows lo1 hi1 w vx us xss] (hl : xss.length ≤ 10000000) :
    Calls Try.prog 74 #[vp, vx] w (Ret fun v w' => ∃ b, v = .bool b ∧ (b = true ↔ ∀ i, i < xss.length → InR p (xss.getD i [])) ∧ Ext w w') := by
  have hul := hx.vals.len
  obtain ⟨vo, vpw, vc, ps, cs, css, rfl, h1, h2, h3⟩ := hp.ex
  refine enter (args := [.agg #[vo, vpw, vc], vx]) (l := [.tmp 4]) Try.func74 rfl rfl Try.ntmps74 (by simp) ?_
  refine go ?_
  refine st_box3 (by ((try simp only [ev_tmp, ev_const, ev_func, get_put, get_args, get_putL, get_putL_nil, Nat.reduceEqDiff, reduceIte, List.getD_cons_zero, List.getD_cons_succ, List.getD_nil]); first | done | with_reducible rfl)) (by first | exact True.intro | exact ⟨_, rfl, by ((try simp only [ev_tmp, ev_const, ev_func, get_put, get_args, get_putL, get_putL_nil, Nat.reduceEqDiff, reduceIte, List.getD_cons_zero, List.getD_cons_succ, List.getD_nil, Bool.not_true, Bool.not_false]); first | done | with_reducible rfl)⟩) fun w1 b he1 hb1 hs1 hc0 hc1 hc2 => ?_
  refine go ?_
  refine r_for xss.length (fun k ρ w' => Has ρ [(1, vx), (2, .pointer (some ⟨b, 0, none⟩)), (5, .int .i64 k)] ∧ Ext w1 w' ∧ ∀ i, i < k → InR p (xss.getD i [])) ?_ ?_
  · refine ⟨?_, Ext.refl _, fun i hi => by omega⟩
    exact hasP
  rintro k ρ w2 hk ⟨hH, he2, hI⟩
  refine rwp_has hH fun ρ0 => ?_
  refine go ?_
  refine c_if (fun h4 => ?_) (fun h4 => ?_)
  · refine go ?_
    refine d_region fun w3 he3 _ => ?_
    refine dgo ?_
    refine dc (l10Element_ok hv (xs := xss.getD k [])) (next := fun v4 w4 h4 => ?_)
    obtain ⟨b4, rfl, hb4, he4⟩ := h4
    refine ⟨fun h => h.trans he4, ?_⟩
    refine dgo ?_
    refine d_end (h := ?_)
    refine go ?_
    refine c_b (fun h5 => ?_) (fun h5 => ?_)
    · refine go ?_
      refine ret1 ⟨_, rfl, ?_, ((he1.trans he2).trans he3).trans he4⟩
      simp only [Bool.false_eq_true, false_iff]
      intro h
      have := hb4.2 (h k (by omega))
      rw [this] at h5; cases h5
    · have h6 := hb4.1 (by simpa using h5)
      refine go ?_
      refine forQ_normal (by omega) ⟨?_, (he2.trans he3).trans he4, fun i hi => ?_⟩
      · exact hasP
      · by_cases e : i = k
        · subst e; exact h6
        · exact hI i (by omega)
  · refine go ?_
    refine ret1 ⟨_, rfl, ?_, he1.trans he2⟩
    simp only [true_iff]
    exact fun i hi => hI i (by omega)
set_option maxHeartbeats 1000000 in
theorem l08Mul_ok {p : Pr} [hc : ConAll p] {w : World} {vp va vb : Value} {x y : El p} {xs ys : List Int} {lo hi lo1 hi1 lo2 hi2 : Nat} [hp : Pres lo hi w vp p] [hx : Ints lo1 hi1 w va xs] [hy : Ints lo2 hi2 w vb ys] (hxe : xs = x.v) (hye : ys = y.v) :
    Calls Try.prog 78 #[vp, va, vb] w (Ret fun v w' => Ext w w' ∧ Fr w.heap.size w' v (x * y).v) := by
  subst hxe hye
  obtain ⟨vo, vpw, vc, ps, cs, css, rfl, h1, h2, h3⟩ := hp.ex
  refine enter (args := [.agg #[vo, vpw, vc], va, vb]) (l := [.tmp 6]) Try.func78 rfl rfl Try.ntmps78 (by simp) ?_
  refine go ?_
  refine st_box3 (by ((try simp only [ev_tmp, ev_const, ev_func, get_put, get_args, get_putL, get_putL_nil, Nat.reduceEqDiff, reduceIte, List.getD_cons_zero, List.getD_cons_succ, List.getD_nil]); first | done | with_reducible rfl)) (by first | exact True.intro | exact ⟨_, rfl, by ((try simp only [ev_tmp, ev_const, ev_func, get_put, get_args, get_putL, get_putL_nil, Nat.reduceEqDiff, reduceIte, List.getD_cons_zero, List.getD_cons_succ, List.getD_nil, Bool.not_true, Bool.not_false]); first | done | with_reducible rfl)⟩) fun w1 b he1 hb1 hs1 hc0 hc1 hc2 => ?_
  refine go ?_
  refine rc (l08AtT_ok (p := p) (i := 0) (x := x) (y := y) rfl) (next := fun v2 w2 h2 => ?_)
  obtain ⟨he2, hf2⟩ := h2
  refine go ?_
  exact ret1 ⟨he1.trans he2, hf2.mono he1.size⟩
end Go.Proofs.Ytnphljflkpekmaa

/-
  Walks: the reference's inverse and power (l10From, l10Inv, l10Pow) and its commutator (l10Comm).
  Conditions: the tails at all levels are groups.
-/
namespace Go.Proofs.Ytnphljflkpekmaa
open Go Go.Pc
def FromSpec (p : Pr) [ConAll p] (i : Nat) : Prop := ∀ {w : World} {vp vx : Value} {ki : Int} {x : T p i} {xs : List Int} {lo hi lo1 hi1 : Nat} [Pres lo hi w vp p] [Ints lo1 hi1 w vx xs],
  ki = i → xs = x.v → Calls Try.prog 115 #[vp, .int .i64 ki, vx] w (Ret fun v w' => Ext w w' ∧ Fr w.heap.size w' v (x⁻¹).v)
set_option maxHeartbeats 2000000 in
theorem from_step {p : Pr} [hc : ConAll p] {i : Nat} (ih : i < p.n → FromSpec p (i + 1)) : FromSpec p i := by
  intro w vp vx ki x xs lo hi lo1 hi1 hp hx hki hxe
  subst hki hxe
  have hv := hc.valid
  have hn6 := hv.n6
  have hol : p.ord.length = p.n := rfl
  have hwl : p.pow.length = p.n := hv.lenw
  replace hp := hp.wide
  replace hx := hx.wide
  obtain ⟨vo, vpw, vc, ps, cs, css, rfl, h1, h2, h3⟩ := hp.ex
  refine enter (args := [.agg #[vo, vpw, vc], .int .i64 i, vx]) (l := [.tmp 6]) Try.func115 rfl rfl Try.ntmps115 (by simp) ?_
  refine go ?_
  refine st_box3 (by ((try simp only [ev_tmp, ev_const, ev_func, get_put, get_args, get_putL, get_putL_nil, Nat.reduceEqDiff, reduceIte, List.getD_cons_zero, List.getD_cons_succ, List.getD_nil]); first | done | with_reducible rfl)) (by first | exact True.intro | exact ⟨_, rfl, by ((try simp only [ev_tmp, ev_const, ev_func, get_put, get_args, get_putL, get_putL_nil, Nat.reduceEqDiff, reduceIte, List.getD_cons_zero, List.getD_cons_succ, List.getD_nil, Bool.not_true, Bool.not_false]); first | done | with_reducible rfl)⟩) fun w1 b he1 hb1 hs1 hc0 hc1 hc2 => ?_
  refine go ?_
  refine c_if (fun h4 => ?_) (fun h4 => ?_)
  · refine go ?_
    refine st_make_int (by ((try simp only [ev_tmp, ev_const, ev_func, get_put, get_args, get_putL, get_putL_nil, Nat.reduceEqDiff, reduceIte, List.getD_cons_zero, List.getD_cons_succ, List.getD_nil]); first | done | with_reducible rfl)) (by ((try simp only [ev_tmp, ev_const, ev_func, get_put, get_args, get_putL, get_putL_nil, Nat.reduceEqDiff, reduceIte, List.getD_cons_zero, List.getD_cons_succ, List.getD_nil]); first | done | with_reducible rfl)) (by omega) (by omega) (by first | exact True.intro | exact ⟨_, rfl, by ((try simp only [ev_tmp, ev_const, ev_func, get_put, get_args, get_putL, get_putL_nil, Nat.reduceEqDiff, reduceIte, List.getD_cons_zero, List.getD_cons_succ, List.getD_nil, Bool.not_true, Bool.not_false]); first | done | with_reducible rfl)⟩) fun w2 v2 he2 hs2 ho2 => ?_
    refine go ?_
    refine ret1 ⟨he1.trans he2, ?_⟩
    have hz : ∀ y : T p i, y.v = zeros p.n := fun y => inr_ext y.inr hv.zeros_in fun k hk => by rw [y.zu k (by omega), zeros_getD]
    rw [hz]
    exact ho2.toFr (by omega)
  · have hin : i < p.n := by omega
    have ih1 : FromSpec p (i + 1) := ih hin
    have hxl := x.inr.len
    have hxi := x.inr.rng i hin
    have hoi := hv.opos hin
    have hoe : p.o i = p.ord.getD i 0 := rfl
    refine go ?_
    refine rc (l01Own_ok (xs := x.v) ?_) (next := fun v2 w2 h2 => ?_)
    · omega
    obtain ⟨he2, hf2⟩ := h2
    refine go ?_
    obtain ⟨e2, b2, hb2, ho2⟩ := hf2.own (by intro e; rw [e] at hxl; simp at hxl; omega)
    have hl2 := ho2.lt
    have hz1 := he1.size
    have hz2 := he2.size
    have ap1 : Apart 0 w.heap.size b2 := ⟨.inr (by omega)⟩
    have ap3 : Apart b (b + 1) b2 := ⟨.inr (by omega)⟩
    clear hf2
    refine st_store_int (by ((try simp only [ev_tmp, ev_const, ev_func, get_put, get_args, get_putL, get_putL_nil, Nat.reduceEqDiff, reduceIte, List.getD_cons_zero, List.getD_cons_succ, List.getD_nil]); first | done | with_reducible rfl)) (by ((try simp only [ev_tmp, ev_const, ev_func, get_put, get_args, get_putL, get_putL_nil, Nat.reduceEqDiff, reduceIte, List.getD_cons_zero, List.getD_cons_succ, List.getD_nil]); first | done | with_reducible rfl)) ?_ (by first | exact True.intro | exact ⟨_, rfl, by ((try simp only [ev_tmp, ev_const, ev_func, get_put, get_args, get_putL, get_putL_nil, Nat.reduceEqDiff, reduceIte, List.getD_cons_zero, List.getD_cons_succ, List.getD_nil, Bool.not_true, Bool.not_false]); first | done | with_reducible rfl)⟩) fun w3 hc3 hs3 ho3 => ?_
    · omega
    have hE3 : Ext w w3 := hc3.ext (he1.trans he2) (by omega)
    have hE13 : Ext w1 w3 := hc3.ext he2 (by omega)
    clear ho2
    refine go ?_
    have hr : (tl hv x).v = x.v.set i 0 := rfl
    refine rc (ih1 (x := tl hv x) (xs := x.v.set i 0) ?_ ?_) (next := fun v4 w4 h4 => ?_)
    · rfl
    · rfl
    obtain ⟨he4, hf4⟩ := h4
    have hz3 := hE13.size
    have hz4 := he4.size
    refine go ?_
    refine c_if (fun h5 => ?_) (fun h5 => ?_)
    · refine go ?_
      refine ret1 ⟨hE3.trans he4, ?_⟩
      rw [inv_zero hin x h5 (tl hv x) hr]
      exact hf4.mono (by omega)
    · refine go ?_
      refine st_make_int (by ((try simp only [ev_tmp, ev_const, ev_func, get_put, get_args, get_putL, get_putL_nil, Nat.reduceEqDiff, reduceIte, List.getD_cons_zero, List.getD_cons_succ, List.getD_nil]); first | done | with_reducible rfl)) (by ((try simp only [ev_tmp, ev_const, ev_func, get_put, get_args, get_putL, get_putL_nil, Nat.reduceEqDiff, reduceIte, List.getD_cons_zero, List.getD_cons_succ, List.getD_nil]); first | done | with_reducible rfl)) (by omega) (by omega) (by first | exact True.intro | exact ⟨_, rfl, by ((try simp only [ev_tmp, ev_const, ev_func, get_put, get_args, get_putL, get_putL_nil, Nat.reduceEqDiff, reduceIte, List.getD_cons_zero, List.getD_cons_succ, List.getD_nil, Bool.not_true, Bool.not_false]); first | done | with_reducible rfl)⟩) fun w5 v5 he5 hs5 ho5 => ?_
      have hb5 : ∃ e5 b5, w4.heap.size ≤ b5 ∧ OwnI e5 b5 w5 v5 (zeros p.n) := ⟨_, _, Nat.le_refl _, ho5⟩
      clear ho5
      obtain ⟨e5, b5, hb5, ho5⟩ := hb5
      have hlz := zeros_len p.n
      have ap5 : Apart 0 w.heap.size b5 := ⟨.inr (by omega)⟩
      have ap6 : Apart b (b + 1) b5 := ⟨.inr (by omega)⟩
      refine go ?_
      refine z_order b5 (List.range 14) (h := fun w6 he6 _ => ?_)
      refine zgo ?_
      have ho6 : OwnI e5 b5 w6 v5 (zeros p.n) := OwnI.ext (h := ho5)
      refine z_store_int (h := ho6) (hx := (by ((try simp only [ev_tmp, ev_const, ev_func, get_put, get_args, get_putL, get_putL_nil, Nat.reduceEqDiff, reduceIte, List.getD_cons_zero, List.getD_cons_succ, List.getD_nil]); first | done | with_reducible rfl))) (hy := (by ((try simp only [ev_tmp, ev_const, ev_func, get_put, get_args, get_putL, get_putL_nil, Nat.reduceEqDiff, reduceIte, List.getD_cons_zero, List.getD_cons_succ, List.getD_nil]); first | done | with_reducible rfl))) (hm := ?_) (next := fun w7 hc7 hs7 ho7 => ?_)
      · omega
      refine z_end ?_
      have hE47 : Ext w4 w7 := hc7.ext (he5.trans he6) hb5
      have hE7 : Ext w w7 := (hE3.trans he4).trans hE47
      have ho7' : OwnI e5 b5 w7 v5 (unitv p i (p.o i - x.v.getD i 0)) := ho7
      clear ho5 ho6 ho7 ap5 ap6 hc7 hc3
      have hu := unitv_in hv (j := i) (k := p.o i - x.v.getD i 0) (by omega) (fun _ => by omega)
      have hr1 := (tl hv x)⁻¹.inr
      have hr2 : ZU i (tl hv x)⁻¹.v := (tl hv x)⁻¹.zu.mono (by omega)
      have hw1 := (Tw hv hin)⁻¹.inr
      have hw2 : ZU i (Tw hv hin)⁻¹.v := (Tw hv hin)⁻¹.zu.mono (by omega)
      have ha := atv_in hv _ i rfl _ _ hr1 hu hr2 (unitv_zu p (Nat.le_refl _) _)
      refine go ?_
      refine d_order [0, 1, 2, 3, 4, 5, 7, 8, 9, 10, 11, 12, 13, 14, 6, 15, 16, 17] (h := fun w8 he8 _ => ?_)
      refine dgo ?_
      refine dc (l08At_ok hv i (x := (tl hv x)⁻¹.v) (y := unitv p i (p.o i - x.v.getD i 0)) ?_ hr1 hu hr2 (unitv_zu p (Nat.le_refl _) _)) (next := fun v9 w9 h9 => ?_)
      · rfl
      obtain ⟨he9, hf9⟩ := h9
      refine ⟨fun h => h.trans he9, ?_⟩
      refine dc (ih1 (x := Tw hv hin) (xs := p.w i) ?_ ?_) (next := fun v10 w10 h10 => ?_)
      · rfl
      · rfl
      obtain ⟨he10, hf10⟩ := h10
      refine ⟨fun h => h.trans he10, ?_⟩
      refine dc (l08At_ok hv i (x := atv p i (tl hv x)⁻¹.v (unitv p i (p.o i - x.v.getD i 0))) (y := (Tw hv hin)⁻¹.v) ?_ ha.1 hw1 ha.2 hw2) (next := fun v11 w11 h11 => ?_)
      · rfl
      obtain ⟨he11, hf11⟩ := h11
      refine ⟨fun h => h.trans he11, ?_⟩
      refine dgo ?_
      refine d_end (h := ?_)
      have hE11 := (((hE7.trans he8).trans he9).trans he10)
      refine go ?_
      refine ret1 ⟨hE11.trans he11, ?_⟩
      rw [inv_split hin x h5 (tl hv x) (Tw hv hin) hr rfl]
      exact hf11.mono hE11.size
theorem l10From_ok {p : Pr} [hc : ConAll p] : ∀ (m i : Nat), p.n - i = m → FromSpec p i
  | 0, i, hm => from_step fun h => absurd h (by omega)
  | m + 1, i, hm => from_step fun h => l10From_ok m (i + 1) (by omega)
set_option maxHeartbeats 1000000 in
theorem l10Inv_ok {p : Pr} [hc : ConAll p] {w : World} {vp vx : Value} {x : El p} {xs : List Int} {lo hi lo1 hi1 : Nat} [hp : Pres lo hi w vp p] [hx : Ints lo1 hi1 w vx xs] (hxe : xs = x.v) :
    Calls Try.prog 80 #[vp, vx] w (Ret fun v w' => Ext w w' ∧ Fr w.heap.size w' v (x⁻¹).v) := by
  obtain ⟨vo, vpw, vc, ps, cs, css, rfl, h1, h2, h3⟩ := hp.ex
  refine enter (args := [.agg #[vo, vpw, vc], vx]) (l := [.tmp 4]) Try.func80 rfl rfl Try.ntmps80 (by simp) ?_
  refine go ?_
  refine st_box3 (by ((try simp only [ev_tmp, ev_const, ev_func, get_put, get_args, get_putL, get_putL_nil, Nat.reduceEqDiff, reduceIte, List.getD_cons_zero, List.getD_cons_succ, List.getD_nil]); first | done | with_reducible rfl)) (by first | exact True.intro | exact ⟨_, rfl, by ((try simp only [ev_tmp, ev_const, ev_func, get_put, get_args, get_putL, get_putL_nil, Nat.reduceEqDiff, reduceIte, List.getD_cons_zero, List.getD_cons_succ, List.getD_nil, Bool.not_true, Bool.not_false]); first | done | with_reducible rfl)⟩) fun w1 b he1 hb1 hs1 hc0 hc1 hc2 => ?_
  refine go ?_
  refine rc (l10From_ok (p := p) _ 0 rfl (x := x) rfl hxe) (next := fun v2 w2 h2 => ?_)
  obtain ⟨he2, hf2⟩ := h2
  refine go ?_
  exact ret1 ⟨he1.trans he2, hf2.mono he1.size⟩
end Go.Proofs.Ytnphljflkpekmaa

/-
  Walks: the reference's power (l10Pow) and commutator (l10Comm).
  Conditions: the tails at all levels are groups.
-/
namespace Go.Proofs.Ytnphljflkpekmaa
open Go Go.Pc
set_option maxHeartbeats 1000000 in
theorem l10Pow_ok {p : Pr} [hc : ConAll p] {w : World} {vp vx : Value} {k : Int} {x : El p} {xs : List Int} {lo hi lo1 hi1 : Nat} [hp : Pres lo hi w vp p] [hx : Ints lo1 hi1 w vx xs] (hxe : xs = x.v) (hk : -9223372036854775807 ≤ k ∧ k ≤ 9223372036854775807) :
    Calls Try.prog 48 #[vp, vx, .int .i64 k] w (Ret fun v w' => Ext w w' ∧ Fr w.heap.size w' v (Grp.pwz x k).v) := by
  obtain ⟨vo, vpw, vc, ps, cs, css, rfl, h1, h2, h3⟩ := hp.ex
  refine enter (args := [.agg #[vo, vpw, vc], vx, .int .i64 k]) (l := [.tmp 6]) Try.func48 rfl rfl Try.ntmps48 (by simp) ?_
  refine go ?_
  refine st_box3 (by ((try simp only [ev_tmp, ev_const, ev_func, get_put, get_args, get_putL, get_putL_nil, Nat.reduceEqDiff, reduceIte, List.getD_cons_zero, List.getD_cons_succ, List.getD_nil]); first | done | with_reducible rfl)) (by first | exact True.intro | exact ⟨_, rfl, by ((try simp only [ev_tmp, ev_const, ev_func, get_put, get_args, get_putL, get_putL_nil, Nat.reduceEqDiff, reduceIte, List.getD_cons_zero, List.getD_cons_succ, List.getD_nil, Bool.not_true, Bool.not_false]); first | done | with_reducible rfl)⟩) fun w1 b he1 hb1 hs1 hc0 hc1 hc2 => ?_
  refine go ?_
  refine c_if (fun h4 => ?_) (fun h4 => ?_)
  · refine go ?_
    refine d_order [0, 1, 2, 4, 5, 3, 6, 7] (h := fun w2 he2 _ => ?_)
    refine dgo ?_
    refine dc (l10Inv_ok (p := p) (x := x) hxe) (next := fun v3 w3 h3 => ?_)
    obtain ⟨he3, hf3⟩ := h3
    refine ⟨fun h => h.trans he3, ?_⟩
    refine dc (l08Repeat_ok (p := p) (i := 0) (x := x⁻¹) (xs := (x⁻¹).v) rfl rfl ?_ ?_) (next := fun v4 w4 h5 => ?_)
    · omega
    · omega
    obtain ⟨he4, hf4⟩ := h5
    refine ⟨fun h => h.trans he4, ?_⟩
    refine dgo ?_
    refine d_end (h := ?_)
    refine go ?_
    have hE := (he1.trans he2).trans he3
    refine ret1 ⟨hE.trans he4, ?_⟩
    unfold Grp.pwz
    rw [if_pos h4]
    exact hf4.mono hE.size
  · refine go ?_
    refine rc (l08Repeat_ok (p := p) (i := 0) (x := x) (xs := xs) hxe rfl ?_ ?_) (next := fun v4 w4 h5 => ?_)
    · omega
    · omega
    obtain ⟨he4, hf4⟩ := h5
    refine go ?_
    refine ret1 ⟨he1.trans he4, ?_⟩
    unfold Grp.pwz
    rw [if_neg h4]
    exact hf4.mono he1.size
set_option maxHeartbeats 1000000 in
theorem l10Comm_ok {p : Pr} [hc : ConAll p] {w : World} {vp vx vy : Value} {x y : El p} {xs ys : List Int} {lo hi lo1 hi1 lo2 hi2 : Nat} [hp : Pres lo hi w vp p] [hx : Ints lo1 hi1 w vx xs] [hy : Ints lo2 hi2 w vy ys] (hxe : xs = x.v) (hye : ys = y.v) :
    Calls Try.prog 111 #[vp, vx, vy] w (Ret fun v w' => Ext w w' ∧ Fr w.heap.size w' v (Grp.cm x y).v) := by
  obtain ⟨vo, vpw, vc, ps, cs, css, rfl, h1, h2, h3⟩ := hp.ex
  refine enter (args := [.agg #[vo, vpw, vc], vx, vy]) (l := [.tmp 6]) Try.func111 rfl rfl Try.ntmps111 (by simp) ?_
  refine go ?_
  refine st_box3 (by ((try simp only [ev_tmp, ev_const, ev_func, get_put, get_args, get_putL, get_putL_nil, Nat.reduceEqDiff, reduceIte, List.getD_cons_zero, List.getD_cons_succ, List.getD_nil]); first | done | with_reducible rfl)) (by first | exact True.intro | exact ⟨_, rfl, by ((try simp only [ev_tmp, ev_const, ev_func, get_put, get_args, get_putL, get_putL_nil, Nat.reduceEqDiff, reduceIte, List.getD_cons_zero, List.getD_cons_succ, List.getD_nil, Bool.not_true, Bool.not_false]); first | done | with_reducible rfl)⟩) fun w1 b he1 hb1 hs1 hc0 hc1 hc2 => ?_
  refine go ?_
  refine d_order [0, 1, 2, 3, 4, 7, 8, 9, 5, 6, 10, 11, 12] (h := fun w2 he2 _ => ?_)
  refine dgo ?_
  refine dc (l08Mul_ok (p := p) hye hxe) (next := fun v3 w3 h3 => ?_)
  obtain ⟨he3, hf3⟩ := h3
  refine ⟨fun h => h.trans he3, ?_⟩
  refine dc (l10Inv_ok (p := p) (x := y * x) (xs := (y * x).v) rfl) (next := fun v4 w4 h4 => ?_)
  obtain ⟨he4, hf4⟩ := h4
  refine ⟨fun h => h.trans he4, ?_⟩
  refine dc (l08Mul_ok (p := p) hxe hye) (next := fun v5 w5 h5 => ?_)
  obtain ⟨he5, hf5⟩ := h5
  refine ⟨fun h => h.trans he5, ?_⟩
  refine dc (l08Mul_ok (p := p) (x := (y * x)⁻¹) (y := x * y) (xs := ((y * x)⁻¹).v) (ys := (x * y).v) rfl rfl) (next := fun v6 w6 h6 => ?_)
  obtain ⟨he6, hf6⟩ := h6
  refine ⟨fun h => h.trans he6, ?_⟩
  refine dgo ?_
  refine d_end (h := ?_)
  refine go ?_
  have hE := (((he1.trans he2).trans he3).trans he4).trans he5
  refine ret1 ⟨hE.trans he6, ?_⟩
  rw [Grp.cm_eq]
  exact hf6.mono hE.size
end Go.Proofs.Ytnphljflkpekmaa

/-
  Walk: the reference's strip of an element by a table (l12Strip).
  Conditions: the tails at all levels are groups, the table holds elements with the leading exponent 1.
-/
namespace Go.Proofs.Ytnphljflkpekmaa
open Go Go.Pc
/-- What a strip leaves. -/
structure Left {p : Pr} [ConAll p] (t : Tab p) (x r : El p) (d : Nat) : Prop where
  stp : Stp t x r
  tl : Tl d r
  le : d ≤ p.n
  some : d < p.n → t d = none ∧ co r d ≠ 0
set_option maxHeartbeats 1000000 in
theorem l12Strip_ok {p : Pr} [hc : ConAll p] {t : Tab p} (hT : TabOk t) {w : World} {vp vt vx : Value} {us : List Value} {x : El p} {xs : List Int} {lo hi lo1 hi1 lo2 hi2 : Nat} [hp : Pres lo hi w vp p] [ht : Pc.Rows lo1 hi1 w vt us (tabL t)] [hx : Ints lo2 hi2 w vx xs] (hxe : xs = x.v) :
    Calls Try.prog 109 #[vp, vt, vx] w (Ret fun v w' => ∃ (d : Nat) (vr : Value) (r : El p), v = .tuple #[.int .i64 d, vr] ∧ Ext w w' ∧ Fr w.heap.size w' vr r.v ∧ Left t x r d) := by
  subst hxe
  have hv := hc.valid
  have hn6 := hv.n6
  have htl := tabL_len t
  have hxl := x.inr.len
  obtain ⟨vo, vpw, vc, ps, cs, css, rfl, h1, h2, h3⟩ := hp.ex
  refine enter (args := [.agg #[vo, vpw, vc], vt, vx]) (l := [.tmp 6, .tmp 7]) Try.func109 rfl rfl Try.ntmps109 (by simp) ?_
  refine go ?_
  refine st_box3 (by ((try simp only [ev_tmp, ev_const, ev_func, get_put, get_args, get_putL, get_putL_nil, Nat.reduceEqDiff, reduceIte, List.getD_cons_zero, List.getD_cons_succ, List.getD_nil]); first | done | with_reducible rfl)) (by first | exact True.intro | exact ⟨_, rfl, by ((try simp only [ev_tmp, ev_const, ev_func, get_put, get_args, get_putL, get_putL_nil, Nat.reduceEqDiff, reduceIte, List.getD_cons_zero, List.getD_cons_succ, List.getD_nil, Bool.not_true, Bool.not_false]); first | done | with_reducible rfl)⟩) fun w1 b he1 hb1 hs1 hc0 hc1 hc2 => ?_
  refine go ?_
  refine rc (l01Own_ok (xs := x.v) ?_) (next := fun v2 w2 h2 => ?_)
  · omega
  obtain ⟨he2, hf2⟩ := h2
  refine go ?_
  refine r_for p.n (fun k ρ w' => ∃ vr r, Has ρ [(1, vt), (3, .pointer (some ⟨b, 0, none⟩)), (8, vr), (9, .int .i64 k)] ∧ Ext w1 w' ∧ Fr w.heap.size w' vr (T.v (p := p) (i := 0) r) ∧ Stp t x r ∧ Tl k r) ?_ ?_
  · refine ⟨v2, x, ?_, he2, hf2.mono he1.size, .refl x, Tl.zero x⟩
    exact hasP
  rintro k ρ w3 hk ⟨vr, r, hH, he3, hf3, hst, hr⟩
  refine rwp_has hH fun ρ0 => ?_
  have hrl := r.inr.len
  refine go ?_
  refine c_if (fun h4 => ?_) (fun h4 => ?_)
  · have hkn : k < p.n := by omega
    have hrk := r.inr.rng k hkn
    have hok := hv.opos hkn
    refine go ?_
    refine c_if (fun h5 => ?_) (fun h5 => ?_)
    · refine go ?_
      refine forQ_normal (by omega) ⟨vr, r, ?_, he3, hf3, hst, hr.succ h5⟩
      exact hasP
    · refine go ?_
      refine c_if (fun h6 => ?_) (fun h6 => ?_)
      · refine go ?_
        rw [tabL_at t hkn] at h6
        refine ret2 ⟨k, vr, r, rfl, he1.trans he3, hf3, hst, hr, by omega, fun _ => ⟨(rowOf_len hkn).1 (by omega), h5⟩⟩
      · rw [tabL_at t hkn] at h6
        obtain ⟨y, hy⟩ : ∃ y, t k = some y := by
          cases e : t k with
          | none => exact absurd ((rowOf_len hkn).2 e) (by omega)
          | some y => exact ⟨y, rfl⟩
        have hye : (tabL t).getD k [] = y.v := by rw [tabL_at t hkn, rowOf_some hy]
        refine go ?_
        refine d_region fun w4 he4 _ => ?_
        refine dgo ?_
        refine dc (l10Pow_ok (p := p) (x := y) hye ?_) (next := fun v5 w5 h7 => ?_)
        · omega
        obtain ⟨he5, hf5⟩ := h7
        refine ⟨fun h => h.trans he5, ?_⟩
        refine dc (l08Mul_ok (p := p) (x := r) (y := Grp.pwz y (-(r.v.getD k 0))) rfl rfl) (next := fun v6 w6 h8 => ?_)
        obtain ⟨he6, hf6⟩ := h8
        refine ⟨fun h => h.trans he6, ?_⟩
        refine dgo ?_
        refine d_end (h := ?_)
        refine go ?_
        have hyt := hT.tl k y hy
        have hyl := hT.lead k y hy
        have hE := (he3.trans he4).trans he5
        have hsz := he1.size
        have hsz2 := hE.size
        have hst2 := strip_step hkn hr hyt hyl
        refine forQ_normal (by omega) ⟨v6, r * Grp.pwz y (-(co r k)), ?_, hE.trans he6, hf6.mono (by omega), hst.trans (.right k y r _ _ hy hr h5 hst2 (.refl _)), hst2⟩
        exact hasP
  · refine go ?_
    obtain rfl : k = p.n := by omega
    rw [htl]
    exact ret2 ⟨p.n, vr, r, rfl, he1.trans he3, hf3, hst, hr, Nat.le_refl _, fun h => by omega⟩
end Go.Proofs.Ytnphljflkpekmaa

/-
  Walks: the program's sifting of an element by a sequence (newSequence, sift), and representatives of cosets (representative).
  Conditions: the tails at all levels are groups; stated at each theorem.
-/
namespace Go.Proofs.Ytnphljflkpekmaa
open Go Go.Pc
theorem lead_tl {p : Pr} (x : El p) : Tl (lead x.v) x := fun k hk => lead_zero x.v k hk
theorem lead_of {p : Pr} {x : El p} {d : Nat} (h : Tl d x) (h0 : co x d ≠ 0) : lead x.v = d := lead_eq (fun i hi => h i hi) h0
theorem tl_lead {p : Pr} {x : El p} {d : Nat} (hd : d ≤ p.n) (h : Tl d x) : d ≤ lead x.v := by
  have hl := lead_le x.v
  have hxl := x.inr.len
  by_cases h1 : lead x.v < x.v.length
  · have := lead_ne x.v h1
    by_cases h2 : d ≤ lead x.v
    · exact h2
    · exact absurd (h _ (by omega)) this
  · omega
set_option maxHeartbeats 1000000 in
theorem newSequence_ok {p : Pr} {w : World} {vp : Value} {lo hi : Nat} [hp : PresP lo hi w vp p] (hn6 : p.n ≤ 6) :
    Calls Try.prog 86 #[vp] w (Ret fun v w' => ∃ b vb, v = .pointer (some ⟨b, 0, none⟩) ∧ Ext w w' ∧ Cell w' b 0 vp ∧ Cell w' b 1 vb ∧ w.heap.size < b ∧ vb.ownBlock = some w.heap.size ∧ Own 22 w.heap.size w' vb (List.replicate p.n nilv)) := by
  have hol : p.ord.length = p.n := rfl
  obtain ⟨g, og, vo, vpw, vc, ps, cs, css, rfl, hg1, hg2, hc0, hc1, hc2, h1, h2, h3⟩ := hp.ex
  refine enter (args := [.pointer (some ⟨g, og, none⟩)]) (l := [.tmp 2]) Try.func86 rfl rfl Try.ntmps86 (by simp) ?_
  refine go ?_
  refine st_make_nil (by ((try simp only [ev_tmp, ev_const, ev_func, get_put, get_args, get_putL, get_putL_nil, Nat.reduceEqDiff, reduceIte, List.getD_cons_zero, List.getD_cons_succ, List.getD_nil]); first | done | with_reducible rfl)) (by ((try simp only [ev_tmp, ev_const, ev_func, get_put, get_args, get_putL, get_putL_nil, Nat.reduceEqDiff, reduceIte, List.getD_cons_zero, List.getD_cons_succ, List.getD_nil]); first | done | with_reducible rfl)) (by omega) (by omega) (by first | exact True.intro | exact ⟨_, rfl, by ((try simp only [ev_tmp, ev_const, ev_func, get_put, get_args, get_putL, get_putL_nil, Nat.reduceEqDiff, reduceIte, List.getD_cons_zero, List.getD_cons_succ, List.getD_nil, Bool.not_true, Bool.not_false]); first | done | with_reducible rfl)⟩) fun w2 v2 he2 hs2 ho2 => ?_
  rw [hol] at ho2
  refine go ?_
  refine ra (v := .agg #[.pointer (some ⟨g, og, none⟩), v2]) (h := rd_build (by simp only [ev_tmp, ev_const, ev_func, get_put, get_args, get_putL, get_putL_nil, Nat.reduceEqDiff, reduceIte, List.getD_cons_zero, List.getD_cons_succ, List.getD_nil, List.map_toArray, List.map_cons, List.map_nil]; rfl) (fun _ => ?_)) (next := ?_)
  · obtain ⟨cap, cur, rfl, _⟩ := ho2.ex
    kernel_rfl
  refine st_box (vs := [.pointer (some ⟨g, og, none⟩), v2]) (by ((try simp only [ev_tmp, ev_const, ev_func, get_put, get_args, get_putL, get_putL_nil, Nat.reduceEqDiff, reduceIte, List.getD_cons_zero, List.getD_cons_succ, List.getD_nil]); first | done | with_reducible rfl)) (by first | exact True.intro | exact ⟨_, rfl, by ((try simp only [ev_tmp, ev_const, ev_func, get_put, get_args, get_putL, get_putL_nil, Nat.reduceEqDiff, reduceIte, List.getD_cons_zero, List.getD_cons_succ, List.getD_nil, Bool.not_true, Bool.not_false]); first | done | with_reducible rfl)⟩) fun w3 b he3 hb3 hs3 hbk => ?_
  refine go ?_
  refine ret1 ⟨b, v2, rfl, he2.trans he3, hbk.cell rfl, hbk.cell rfl, by omega, ho2.toN_block, Own.ext (h := ho2)⟩
set_option maxHeartbeats 2000000 in
theorem sift_ok {p : Pr} [hcon : ConAll p] {t : Tab p} (hT : TabOk t) {av : Nat → Prop} {w : World} {bs : Nat} {vp vb vx : Value} {us : List Value} {x : El p} {lo hi lo1 hi1 : Nat} [hp : PresP lo hi w vp p] [hs0 : Cell w bs 0 vp] [hs1 : Cell w bs 1 vb] [ht : Pc.Rows lo1 hi1 w vb us (tabL t)]
    (hnil : ∀ d, d < p.n → t d = none → us.getD d nilv = nilv) (hx : IntsAp av w vx x.v) (hbd : ∀ g, av g → g < w.heap.size) :
    Calls Try.prog 120 #[.pointer (some ⟨bs, 0, none⟩), vx] w (Ret fun v w' => Ext w w' ∧ ∃ r : El p, IntsAp av w' v r.v ∧ Left t x r (lead r.v)) := by
  have hv := hcon.valid
  have hn6 := hv.n6
  have hol : p.ord.length = p.n := rfl
  have htl := tabL_len t
  obtain ⟨g, og, vo, vpw, vc, ps, cs, css, rfl, hg1, hg2, hc0, hc1, hc2, h1, h2, h3⟩ := hp.ex
  have hxi := hx.ints
  have hxl := x.inr.len
  refine enter (args := [.pointer (some ⟨bs, 0, none⟩), vx]) (l := [.tmp 4]) Try.func120 rfl rfl Try.ntmps120 (by simp) ?_
  refine go ?_
  refine rc (depthOf_ok (xs := x.v) ?_) (next := fun v1 w1 h4 => ?_)
  · omega
  obtain ⟨rfl, he1⟩ := h4
  refine go ?_
  refine r_loop (fun m ρ w' => ∃ vx x', Has ρ [(0, .pointer (some ⟨bs, 0, none⟩)), (1, vx), (5, .int .i64 (lead (T.v (p := p) (i := 0) x')))] ∧ Ext w w' ∧ IntsAp av w' vx x'.v ∧ Stp t x x' ∧ m = p.n - lead x'.v) (p.n - lead x.v) ?_ ?_
  · refine ⟨vx, x, ?_, he1, hx.ext he1, .refl x, rfl⟩
    exact hasP
  rintro m ρ w2 ⟨vx2, x2, hH, he2, hx2, hst, rfl⟩
  refine rwp_has hH fun ρ0 => ?_
  have hxi2 := hx2.ints
  have hxl2 := x2.inr.len
  have hll := lead_le x2.v
  have hlt2 := lead_tl x2
  generalize hd : lead x2.v = d at *
  refine go ?_
  refine spd (fun h4 => ?_) (fun h4 => ?_)
  · have hdn : d < p.n := by omega
    have hne : co x2 d ≠ 0 := by have := lead_ne x2.v (by omega); rw [hd] at this; exact this
    have hxr := x2.inr.rng d hdn
    have hod := hv.opos hdn
    have hoe : p.ord.getD d 0 = p.o d := rfl
    cases htd : t d with
    | none =>
      have hn2 : Pc.rowAt vb us d = nilv := hnil d hdn htd
      have hnb : NilB (Pc.rowAt vb us d) true := by rw [hn2]; infer_instance
      refine go ?_
      refine ret1 ⟨he2, x2, hx2, hst, ?_, ?_, ?_⟩
      · rw [hd]; exact hlt2
      · omega
      · rw [hd]; exact fun _ => ⟨htd, hne⟩
    | some y =>
      have hye : (tabL t).getD d [] = y.v := by rw [tabL_at t hdn, rowOf_some htd]
      have hyt := hT.tl d y htd
      have hyl := hT.lead d y htd
      have hnb : NilB (Pc.rowAt vb us d) false := by
        have hrow : Ints lo1 hi1 w (Pc.rowAt vb us d) ((tabL t).getD d []) := by infer_instance
        exact hrow.nn (by rw [hye, y.inr.len]; omega)
      refine go ?_
      refine d_order [0, 1, 2, 3, 4, 5, 6, 7, 8, 9, 10, 11, 12, 13, 14, 15, 16, 17, 18, 19, 20, 21, 22, 23, 24, 25, 26, 27, 28, 29, 31, 30, 32, 33] (h := fun w3 he3 _ => ?_)
      refine dgo ?_
      refine dce (power_ok (p := p) (x := y) (Nat.zero_le _) hye ?_) (next := fun v4 w4 h5 => ?_)
      · omega
      obtain ⟨he4, hf4⟩ := h5
      refine dce (multiply_ok (p := p) (x := Grp.pw y (p.ord.getD d 0 - x2.v.getD d 0).toNat) (y := x2) (Nat.zero_le _) rfl rfl) (next := fun v5 w5 h6 => ?_)
      obtain ⟨he5, hf5⟩ := h6
      refine dgo ?_
      refine d_end (h := ?_)
      have hpw := hyt.pw (by omega) (p.ord.getD d 0 - x2.v.getD d 0).toNat
      have hco : co (Grp.pw y (p.ord.getD d 0 - x2.v.getD d 0).toNat * x2) d = 0 := by
        rw [co_at _ hdn hlt2, co_pw hdn hyt, hyl, Int.mul_one, Int.emod_add_emod, Int.toNat_of_nonneg (by omega)]
        rw [show p.ord.getD d 0 - x2.v.getD d 0 + co x2 d = p.o d by unfold co; omega, Int.emod_self]
      have htl6 : Tl (d + 1) (Grp.pw y (p.ord.getD d 0 - x2.v.getD d 0).toNat * x2) := (hpw.mul (by omega) hlt2).succ hco
      have hst6 : Stp t x (Grp.pw y (p.ord.getD d 0 - x2.v.getD d 0).toNat * x2) := by
        refine hst.trans ?_
        have e : Grp.pw y (p.ord.getD d 0 - x2.v.getD d 0).toNat = Grp.pwz y (p.ord.getD d 0 - x2.v.getD d 0) := (Grp.pwz_of y (by omega)).symm
        rw [e] at htl6 ⊢
        exact .left d y x2 _ _ htd hlt2 hne htl6 (.refl _)
      generalize Grp.pw y (p.ord.getD d 0 - x2.v.getD d 0).toNat * x2 = x6 at hf5 hco htl6 hst6
      have hxl6 := x6.inr.len
      have hfi := hf5.ints
      have hz : x6.v.getD d 0 = 0 := hco
      refine go ?_
      refine c_if (fun h7 => ?_) (fun h7 => ?_)
      · exact absurd hz h7
      refine go ?_
      refine rc (depthOf_ok (xs := x6.v) ?_) (next := fun v7 w7 h8 => ?_)
      · omega
      obtain ⟨rfl, he7⟩ := h8
      refine go ?_
      have hE := (he3.trans he4)
      have hz2 := he2.size
      have hz4 := hE.size
      have hge := tl_lead (by omega) htl6
      refine loopQ_normal ?_ ⟨v5, x6, ?_, ((he2.trans hE).trans he5).trans he7, ?_, hst6, rfl⟩
      · omega
      · exact hasP
      · exact (IntsAp.ofFr hf5 (fun g hg => by have := hbd g hg; omega)).ext he7
  · refine go ?_
    refine ret1 ⟨he2, x2, hx2, hst, ?_, ?_, ?_⟩
    · rw [hd]; exact hlt2
    · omega
    · rw [hd]; intro h; omega
end Go.Proofs.Ytnphljflkpekmaa

/-
  The work on a sequence that grows by several additions; commutators with the entries of a table.
  Conditions: the tails at all levels are groups; nothing of the program stands here.
-/
namespace Go.Pc
open Grp
section
variable {p : Pr} [hc : ConAll p] {S S' W W' : El p → Prop} {t : Tab p}
theorem Gen.mono {G : Type} [Grp G] {A B : G → Prop} (h : ∀ a, A a → B a) : ∀ a, Gen A a → Gen B a := Gen.le (Gen.sub B) fun a ha => .of a (h a ha)
theorem Cov.mono {x : El p} (h : Cov t W x) (hw : ∀ a, W a → W' a) : Cov t W' x := by
  obtain ⟨r, hr, h⟩ := h
  exact ⟨r, hr.imp id (hw r), h⟩
/-- More elements are given, and wait. -/
theorem Wk.more (h : Wk S t (fun _ => False)) : Wk (fun a => S a ∨ W a) t W where
  ok := h.ok
  tmem d y e := Gen.mono (fun _ h => .inl h) _ (h.tmem d y e)
  wmem x hx := .of x (.inr hx)
  need x hx := by
    rcases hx with hx | hx
    · exact (h.need x hx).mono (fun _ h => h.elim)
    · exact ⟨x, .inr hx, fun _ _ h => h⟩
  top d y e := (h.top d y e).mono (fun _ h => h.elim)
  pair d e y z h1 h2 h3 := (h.pair d e y z h1 h2 h3).imp (·.mono (fun _ h => h.elim)) (·.mono (fun _ h => h.elim))
theorem Wk.none : Wk (fun _ : El p => False) (fun _ => none) (fun _ => False) := (Wk.start (S := fun _ : El p => False))
/-- Whether the subgroup has grown. -/
theorem Wk.grown {t0 : Tab p} (h0 : Wk S t0 (fun _ => False)) (h : Wk (fun a => S a ∨ W a) t (fun _ => False)) {d : Nat} (hd : t0 d = Option.none) (hd' : t d ≠ Option.none) : ∃ a, W a ∧ ¬ Gen S a := by
  apply Classical.byContradiction
  intro hn
  have hs : ∀ a, W a → Gen S a := fun a ha => Classical.byContradiction fun hg => hn ⟨a, ha, hg⟩
  have hle : ∀ a, Gen (fun a => S a ∨ W a) a → Gen S a := Gen.le (Gen.sub S) fun a ha => ha.elim (.of a) (hs a)
  have f0 := h0.full (fun _ h => h)
  have f := h.full (fun _ h => h)
  have g0 := h0.gen (fun _ h => h)
  have g := h.gen (fun _ h => h)
  obtain ⟨x, h1, h2, h3⟩ := f.dep.2 hd'
  rw [g] at h1
  have h4 := hle x h1
  rw [← g0] at h4
  exact f0.dep.1 ⟨x, h4, h2, h3⟩ hd
theorem Wk.same (h0 : Wk S t (fun _ => False)) (h : Wk (fun a => S a ∨ W a) t (fun _ => False)) : ∀ a, W a → Gen S a := by
  intro a ha
  have g0 := h0.gen (fun _ h => h)
  have g := h.gen (fun _ h => h)
  rw [← g0, g]
  exact .of a (.inr ha)
/-- The commutators of the entries ahead of a depth with an element. -/
noncomputable def commsL (t : Tab p) (y : El p) (e : Nat) : List (El p) := (List.range e).filterMap fun k => (t k).map fun z => Grp.cm z y
variable {y z : El p} {e : Nat}
theorem commsL_skip (h : t e = Option.none) : commsL t y (e + 1) = commsL t y e := by
  unfold commsL; rw [List.range_succ, List.filterMap_append]; simp [h]
theorem commsL_some (h : t e = some z) : commsL t y (e + 1) = commsL t y e ++ [Grp.cm z y] := by
  unfold commsL; rw [List.range_succ, List.filterMap_append]; simp [h]
theorem commsL_len : (commsL t y e).length ≤ e := by unfold commsL; exact Nat.le_trans (List.length_filterMap_le _ _) (by simp)
theorem commsL_mem {a : El p} : a ∈ commsL t y e ↔ ∃ k z, k < e ∧ t k = some z ∧ a = Grp.cm z y := by
  unfold commsL
  rw [List.mem_filterMap]
  constructor
  · rintro ⟨k, hk, h⟩
    cases htk : t k with
    | none => rw [htk] at h; cases h
    | some z => rw [htk] at h; exact ⟨k, z, List.mem_range.1 hk, htk, (Option.some.inj h).symm⟩
  · rintro ⟨k, z, hk, htk, rfl⟩
    exact ⟨k, List.mem_range.2 hk, by simp [htk]⟩
end
end Go.Pc

/-
  Walk: the reference's copy of a list of lists (l01Own2).
  Conditions: the lists are short.
-/
namespace Go.Proofs.Ytnphljflkpekmaa
open Go Go.Pc
set_option maxHeartbeats 1000000 in
theorem l01Own2_ok {w : World} {va : Value} {us : List Value} {xss : List (List Int)} {lo hi : Nat} [hx : Pc.Rows lo hi w va us xss] (hm : ∀ i, (xss.getD i []).length ≤ 2000000) (hl : xss.length ≤ 2000000) :
    Calls Try.prog 65 #[va] w (Ret fun v w' => Ext w w' ∧ ∃ us', Lst 22 w.heap.size (· < w.heap.size) w' v us' xss) := by
  have hul := hx.vals.len
  refine enter (args := [va]) (l := [.tmp 2]) Try.func65 rfl rfl Try.ntmps65 (by simp) ?_
  refine go ?_
  refine st_slice0 (by first | exact True.intro | exact ⟨_, rfl, by ((try simp only [ev_tmp, ev_const, ev_func, get_put, get_args, get_putL, get_putL_nil, Nat.reduceEqDiff, reduceIte, List.getD_cons_zero, List.getD_cons_succ, List.getD_nil, Bool.not_true, Bool.not_false]); first | done | with_reducible rfl)⟩) fun w1 v1 he1 hs1 ho1 => ?_
  refine go ?_
  refine r_for xss.length (fun k ρ w' => ∃ v' us', Has ρ [(0, va), (3, v'), (4, .int .i64 k)] ∧ Ext w w' ∧ Lst 22 w.heap.size (· < w.heap.size) w' v' us' (xss.take k)) ?_ ?_
  · refine ⟨v1, [], ?_, he1, ?_⟩
    · exact hasP
    · simpa using Lst.start ho1 (Nat.le_refl _) (by omega) (fun g hg => by have := he1.size; omega)
  rintro k ρ w2 hk ⟨v2, us2, hH, he2, hL⟩
  refine rwp_has hH fun ρ0 => ?_
  refine go ?_
  refine c_if (fun h4 => ?_) (fun h4 => ?_)
  · refine go ?_
    refine rc (l01Own_ok (xs := xss.getD k []) (hm k)) (next := fun v3 w3 h3 => ?_)
    obtain ⟨he3, hf3⟩ := h3
    refine go ?_
    refine st_slice1 (u := v3) (by ((try simp only [ev_tmp, ev_const, ev_func, get_put, get_args, get_putL, get_putL_nil, Nat.reduceEqDiff, reduceIte, List.getD_cons_zero, List.getD_cons_succ, List.getD_nil]); first | done | with_reducible rfl)) ?_ ?_ (by first | exact True.intro | exact ⟨_, rfl, by ((try simp only [ev_tmp, ev_const, ev_func, get_put, get_args, get_putL, get_putL_nil, Nat.reduceEqDiff, reduceIte, List.getD_cons_zero, List.getD_cons_succ, List.getD_nil, Bool.not_true, Bool.not_false]); first | done | with_reducible rfl)⟩) fun w4 v4 he4 hs4 ho4 => ?_
    · exact hf3.ints.sl.cells
    · rfl
    refine go ?_
    have hL4 := (hL.ext he3).ext he4
    have hO4 := hL4.own
    have hl2 : us2.length ≤ 2000000 := by rw [hL.len, List.length_take]; omega
    have hz2 := he2.size
    have hz3 := he3.size
    refine st_append (hv := hO4) (hy := ho4) (by ((try simp only [ev_tmp, ev_const, ev_func, get_put, get_args, get_putL, get_putL_nil, Nat.reduceEqDiff, reduceIte, List.getD_cons_zero, List.getD_cons_succ, List.getD_nil]); first | done | with_reducible rfl)) (by ((try simp only [ev_tmp, ev_const, ev_func, get_put, get_args, get_putL, get_putL_nil, Nat.reduceEqDiff, reduceIte, List.getD_cons_zero, List.getD_cons_succ, List.getD_nil]); first | done | with_reducible rfl)) rfl ?_ ?_ ?_ ?_ (by first | exact True.intro | exact ⟨_, rfl, by ((try simp only [ev_tmp, ev_const, ev_func, get_put, get_args, get_putL, get_putL_nil, Nat.reduceEqDiff, reduceIte, List.getD_cons_zero, List.getD_cons_succ, List.getD_nil, Bool.not_true, Bool.not_false]); first | done | with_reducible rfl)⟩) fun v5 w5 ho5 hg5 ha5 => ?_
    · intro u hu
      rw [List.mem_singleton.1 hu]
      exact hf3.ints.sl.one
    · simp; omega
    · simp [maxLen]; omega
    · omega
    have hr4 : Ints w2.heap.size w3.heap.size w4 v3 (xss.getD k []) := inferInstance
    have hL5 := hL4.push ⟨_, _, hr4, he4.size, fun g hg => .inl (hg.elim (fun hg => by omega) (fun hg => (hL.own.lt g hg).2))⟩ ho5 hg5 ha5
    refine go ?_
    refine forQ_normal (by omega) ⟨v5, us2 ++ [v3], ?_, ?_, ?_⟩
    · exact hasP
    · exact ⟨((he2.trans he3).trans he4).below.grown hg5 (by omega) (fun k hk => (hL.own.lt k hk).1)⟩
    · rw [List.take_succ_eq_append_getElem (by omega)]
      simpa [show k < xss.length by omega] using hL5
  · refine go ?_
    refine ret1 ⟨he2, us2, ?_⟩
    rw [show k = xss.length by omega, List.take_length] at hL
    exact hL
end Go.Proofs.Ytnphljflkpekmaa
