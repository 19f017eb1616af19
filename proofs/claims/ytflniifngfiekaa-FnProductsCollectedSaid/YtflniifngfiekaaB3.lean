/-
  Texts of one proof, put together by program: Coll, Lead, I02, I08, I08b, I08c, Tab, Can, Seq, W07b, W08, W08b, W08c, W08d, W10, W10b, W10c, W12, I12, More, W01b, W01c, W12b, W12c, I12b, I12c, I12d, Seq2, W12d, Ans, Ans2, Clo, W13, W01d, W13b, W13c, W16, Ans3, Ans4, Dig, Enum, Rel, Iso, Hom, L01, L02, L03, L04, L05, Prj, Spq, SpqS, Hoa, Ans5, Ser, Ser2, L06, Stk.
  Conditions: those told at each part.
-/
import Derived.Test.YtflniifngfiekaaB2
set_option linter.unusedVariables false
set_option linter.unusedSimpArgs false
set_option linter.unusedSectionVars false
set_option linter.constructorNameAsVariable false
set_option linter.unnecessarySimpa false
set_option linter.deprecated false
/-
  Collection in the tails: what it is to multiply by one generator in place.
  Conditions: the tail is a group; nothing of the program stands here.
-/
namespace Go.Pc
open Grp
section
variable {H : Type} [Grp H]
theorem phi_split (c : Nat → H) (x : List Int) : ∀ a l b, phi c x l (a + b) = phi c x l a * phi c x (l + a) b
  | 0, l, b => by rw [Nat.zero_add, phi, Grp.one_mul]; rfl
  | a + 1, l, b => by rw [show a + 1 + b = (a + b) + 1 by omega, phi, phi_split c x a (l + 1) b, phi, Grp.mul_assoc, show l + 1 + a = l + (a + 1) by omega]
theorem phi_none (c : Nat → H) {x : List Int} : ∀ k l, (∀ j, l ≤ j → j < l + k → x.getD j 0 = 0 ∨ c j = 1) → phi c x l k = 1
  | 0, _, _ => rfl
  | k + 1, l, h => by
    rw [phi, phi_none c k (l + 1) (fun j h1 h2 => h j (by omega) (by omega)), Grp.mul_one]
    rcases h l (Nat.le_refl _) (by omega) with h | h
    · rw [h]; rfl
    · rw [h, one_pw]
theorem phi_cong2 (c c' : Nat → H) {x y : List Int} : ∀ k l, (∀ j, l ≤ j → j < l + k → x.getD j 0 = y.getD j 0 ∧ c j = c' j) → phi c x l k = phi c' y l k
  | 0, _, _ => rfl
  | k + 1, l, h => by
    rw [phi, phi, phi_cong2 c c' k (l + 1) (fun j h1 h2 => h j (by omega) (by omega)), (h l (Nat.le_refl _) (by omega)).1, (h l (Nat.le_refl _) (by omega)).2]
theorem phi_map {K : Type} [Grp K] (f : H → K) (hf : ∀ x y, f (x * y) = f x * f y) (c : Nat → H) (x : List Int) : ∀ k l, f (phi c x l k) = phi (fun j => f (c j)) x l k := by
  have f1 : f 1 = 1 := Grp.mul_left_cancel (a := f 1) (by rw [← hf, Grp.one_mul, Grp.mul_one])
  have fp : ∀ a q, f (pw a q) = pw (f a) q := by
    intro a q
    induction q with
    | zero => exact f1
    | succ q ih => rw [pw_succ, hf, ih, pw_succ]
  intro k
  induction k with
  | zero => intro l; exact f1
  | succ k ih => intro l; rw [phi, hf, fp, ih, phi]
end
section
variable {p : Pr} {i : Nat}
theorem img_unit (hv : Valid p) {j k : Nat} (hjk : j < k) (hk : k < p.n) : img p j (unitv p k 1) = p.c j k := by
  have key : ∀ m, m ≤ p.n - (j + 1) → imgTo p j (unitv p k 1) m = if j + 1 + m ≤ k then zeros p.n else p.c j k := by
    intro m
    induction m with
    | zero => intro _; rw [imgTo_zero, if_pos (by omega)]
    | succ m ih =>
      intro hm
      rw [imgTo_succ, ih (by omega)]
      by_cases e : j + 1 + m = k
      · rw [if_pos (by omega), if_neg (by omega), e]
        have e1 : (unitv p k 1).getD k 0 = 1 := getD_set_eq _ _ _ (by rw [zeros_len]; exact hk)
        rw [e1]
        show atv p (j + 1) (zeros p.n) (p.c j k) = p.c j k
        exact one_at hv _ (j + 1) rfl _ (hv.c_in _ _ hjk hk) (hv.c_zu _ _ hjk hk)
      · have e1 : (unitv p k 1).getD (j + 1 + m) 0 = 0 := by unfold unitv; rw [getD_set_ne _ _ _ _ (fun h => e h.symm), zeros_getD]
        rw [e1]
        show (if j + 1 + m ≤ k then zeros p.n else p.c j k) = _
        by_cases h : j + 1 + m ≤ k
        · rw [if_pos h, if_pos (by omega)]
        · rw [if_neg h, if_neg (by omega)]
  rw [img_eq, key _ (Nat.le_refl _), if_neg (by omega)]
def Tw' (hv : Valid p) {j : Nat} (hj : i ≤ j ∧ j < p.n) : T p i := ⟨p.w j, hv.w_in _ hj.2, (hv.w_zu _ hj.2).mono (by omega)⟩
variable [h : Con p i]
/-- The conjugate of generator k by generator j, in the tail at i. -/
noncomputable def cIn (p : Pr) (i : Nat) [h : Con p i] (j k : Nat) : T p i :=
  open Classical in if hk : i ≤ j ∧ j < k ∧ k < p.n then ⟨p.c j k, h.valid.c_in _ _ hk.2.1 hk.2.2, (h.valid.c_zu _ _ hk.2.1 hk.2.2).mono (by omega)⟩ else 1
theorem gOf_eq {j : Nat} (hj : i ≤ j ∧ j < p.n) : gOf p i j = gen h.valid i j hj := dif_pos hj
theorem rel_pow {j : Nat} (hj : i ≤ j ∧ j < p.n) : pw (gOf p i j) (p.o j).toNat = Tw' h.valid hj := by
  have hv := h.valid
  have ho := hv.opos hj.2
  obtain ⟨q, hq⟩ : ∃ q : Nat, (p.o j).toNat = q + 1 := ⟨(p.o j).toNat - 1, by omega⟩
  rw [gOf_eq hj, hq, pw_succ]
  apply T.ext
  rw [T.mul_val, gen_pw hj q (by omega)]
  show atv p i (unitv p j q) (unitv p j 1) = p.w j
  have hk := unitv_in hv (j := j) (k := (q : Int)) (by omega) (fun _ => by omega)
  have h1' := unitv_in hv (j := j) (k := 1) (by omega) (fun _ => by omega)
  have e1 : ∀ k, (unitv p j k).getD j 0 = k := fun k => getD_set_eq _ _ _ (by rw [zeros_len]; exact hj.2)
  have hz : (zeros p.n).set j 0 = zeros p.n := by
    have := set_self (v := zeros p.n) (i := j) (by rw [zeros_len]; exact hj.2)
    rw [zeros_getD] at this; exact this
  have e2 : ∀ k, (unitv p j k).set j 0 = zeros p.n := fun k => by unfold unitv; rw [set_set, hz]
  rw [at_restrict' hv hj.1 hk h1' (unitv_zu p (Nat.le_refl _) q) (unitv_zu p (Nat.le_refl _) 1), atv_eq _ _ _ _ hj.2, e1, e1, if_pos (by omega), e2, e2,
    rep_id (img_zeros j), one_at hv _ (j + 1) rfl _ hv.zeros_in (zeros_zu _ _), at_one hv _ (j + 1) rfl _ (hv.w_in j hj.2) (hv.w_zu j hj.2), show (q : Int) + 1 - p.o j = 0 by omega]
  have := set_self (v := p.w j) (i := j) (by rw [(hv.w_in j hj.2).len]; exact hj.2)
  rw [hv.w_zu j hj.2 j (by omega)] at this
  exact this
theorem rel_conj {j k : Nat} (hj : i ≤ j) (hjk : j < k) (hk : k < p.n) : gOf p i k * gOf p i j = gOf p i j * cIn p i j k := by
  have hv := h.valid
  have ho := hv.opos (show j < p.n by omega)
  have hok := hv.opos hk
  have hc : cIn p i j k = ⟨p.c j k, hv.c_in _ _ hjk hk, (hv.c_zu _ _ hjk hk).mono (by omega)⟩ := dif_pos ⟨hj, hjk, hk⟩
  rw [gOf_eq ⟨by omega, hk⟩, gOf_eq ⟨hj, by omega⟩, hc]
  apply T.ext
  rw [T.mul_val, T.mul_val]
  show atv p i (unitv p k 1) (unitv p j 1) = atv p i (unitv p j 1) (p.c j k)
  have hk1 := unitv_in hv (j := k) (k := 1) (by omega) (fun _ => by omega)
  have hj1 := unitv_in hv (j := j) (k := 1) (by omega) (fun _ => by omega)
  rw [unit_at hv hj (by omega) (by omega) (by omega) (hv.c_in _ _ hjk hk) (hv.c_zu _ _ hjk hk)]
  have e1 : (unitv p j 1).getD j 0 = 1 := getD_set_eq _ _ _ (by rw [zeros_len]; omega)
  have e0 : (unitv p k 1).getD j 0 = 0 := by unfold unitv; rw [getD_set_ne _ _ _ _ (by omega), zeros_getD]
  have hz : (zeros p.n).set j 0 = zeros p.n := by
    have := set_self (v := zeros p.n) (i := j) (by rw [zeros_len]; omega)
    rw [zeros_getD] at this; exact this
  have e2 : (unitv p j 1).set j 0 = zeros p.n := by unfold unitv; rw [set_set, hz]
  have e3 : (unitv p k 1).set j 0 = unitv p k 1 := by
    have := set_self (v := unitv p k 1) (i := j) (by rw [hk1.len]; omega)
    rw [e0] at this; exact this
  rw [at_restrict' hv hj hk1 hj1 (unitv_zu p (by omega) 1) (unitv_zu p (Nat.le_refl _) 1), atv_eq _ _ _ _ (show j < p.n by omega), e0, e1, if_neg (by omega), e2, e3]
  have hci := hv.c_in _ _ hjk hk
  have hcz := hv.c_zu _ _ hjk hk
  show (atv p (j + 1) (img p j (unitv p k 1)) (zeros p.n)).set j (0 + 1) = _
  rw [img_unit hv hjk hk, at_one hv _ (j + 1) rfl _ hci hcz]
  rfl
theorem phi_conj {j : Nat} (hj : i ≤ j) (x : List Int) : phi (gOf p i) x (j + 1) (p.n - (j + 1)) * gOf p i j = gOf p i j * phi (cIn p i j) x (j + 1) (p.n - (j + 1)) := by
  have h1 := phi_map (fun a : T p i => cj a (gOf p i j)) (fun a b => cj_mul a b _) (gOf p i) x (p.n - (j + 1)) (j + 1)
  have h2 : phi (fun t => cj (gOf p i t) (gOf p i j)) x (j + 1) (p.n - (j + 1)) = phi (cIn p i j) x (j + 1) (p.n - (j + 1)) := by
    refine phi_cong2 _ _ _ _ fun t h1 h2 => ⟨rfl, ?_⟩
    show cj (gOf p i t) (gOf p i j) = _
    unfold cj
    rw [rel_conj hj (by omega) (by omega), inv_mul_cancel_left]
  rw [← h2, ← h1, mul_cj]
/-- An element, cut at generator j. -/
theorem form_at {j : Nat} (hj : i ≤ j ∧ j < p.n) (x : T p i) : x = phi (gOf p i) x.v i (j - i) * (pw (gOf p i j) (x.v.getD j 0).toNat * phi (gOf p i) x.v (j + 1) (p.n - (j + 1))) := by
  have h1 := norm_form (p.n - i) i rfl (Nat.le_refl _) (by omega) x x.zu
  rw [show p.n - i = (j - i) + ((p.n - (j + 1)) + 1) by omega, phi_split, show i + (j - i) = j by omega, phi] at h1
  exact h1
section
variable {x e : T p i} {j : Nat} (hj : i ≤ j ∧ j < p.n) (hlow : ∀ t, t < j → e.v.getD t 0 = x.v.getD t 0) (hz : ∀ t, j < t → t < p.n → e.v.getD t 0 = 0)
include hj hlow hz
theorem tg_lt (hjv : e.v.getD j 0 = x.v.getD j 0 + 1) : e * phi (cIn p i j) x.v (j + 1) (p.n - (j + 1)) = x * gOf p i j := by
  have hx := x.inr.rng j hj.2
  have h1 : phi (gOf p i) e.v (j + 1) (p.n - (j + 1)) = 1 := phi_none _ _ _ fun t h1 h2 => .inl (hz t (by omega) (by omega))
  have h2 : phi (gOf p i) e.v i (j - i) = phi (gOf p i) x.v i (j - i) := phi_cong2 _ _ _ _ fun t h1 h2 => ⟨hlow t (by omega), rfl⟩
  have h3 := form_at hj e
  have h4 := form_at hj x
  rw [h1, h2, hjv, Grp.mul_one, show (x.v.getD j 0 + 1).toNat = (x.v.getD j 0).toNat + 1 by omega, pw_succ] at h3
  have h5 : x * gOf p i j = phi (gOf p i) x.v i (j - i) * (pw (gOf p i j) (x.v.getD j 0).toNat * (phi (gOf p i) x.v (j + 1) (p.n - (j + 1)) * gOf p i j)) := by
    conv => lhs; rw [h4]
    simp only [Grp.mul_assoc]
  rw [h5, phi_conj hj.1, h3]
  simp only [Grp.mul_assoc]
theorem tg_eq (hjv : e.v.getD j 0 = 0) (hxo : x.v.getD j 0 + 1 = p.o j) : e * Tw' h.valid hj * phi (cIn p i j) x.v (j + 1) (p.n - (j + 1)) = x * gOf p i j := by
  have hx := x.inr.rng j hj.2
  have h1 : phi (gOf p i) e.v (j + 1) (p.n - (j + 1)) = 1 := phi_none _ _ _ fun t h1 h2 => .inl (hz t (by omega) (by omega))
  have h2 : phi (gOf p i) e.v i (j - i) = phi (gOf p i) x.v i (j - i) := phi_cong2 _ _ _ _ fun t h1 h2 => ⟨hlow t (by omega), rfl⟩
  have h3 := form_at hj e
  have h4 := form_at hj x
  rw [h1, h2, hjv, Grp.mul_one] at h3
  have h6 : phi (gOf p i) x.v i (j - i) * pw (gOf p i j) (0 : Int).toNat = phi (gOf p i) x.v i (j - i) := Grp.mul_one _
  rw [h6] at h3
  have h5 : x * gOf p i j = phi (gOf p i) x.v i (j - i) * (pw (gOf p i j) (x.v.getD j 0).toNat * (phi (gOf p i) x.v (j + 1) (p.n - (j + 1)) * gOf p i j)) := by
    conv => lhs; rw [h4]
    simp only [Grp.mul_assoc]
  rw [h5, phi_conj hj.1, h3, ← rel_pow hj, show (p.o j).toNat = (x.v.getD j 0).toNat + 1 by omega, pw_succ]
  simp only [Grp.mul_assoc]
end
theorem phi_all (hi : i ≤ p.n) (y : T p i) : phi (gOf p i) y.v 0 p.n = y := by
  have h1 := norm_form (p.n - i) i rfl (Nat.le_refl _) hi y y.zu
  rw [show phi (gOf p i) y.v 0 p.n = phi (gOf p i) y.v 0 (i + (p.n - i)) by rw [show i + (p.n - i) = p.n by omega], phi_split, Nat.zero_add, ← h1,
    phi_none _ _ _ (fun t h1 h2 => .inl (y.zu t (by omega))), Grp.one_mul]
end
end Go.Pc

/-
  The first place of a list that is not zero.
  Conditions: none; nothing of the program stands here.
-/
namespace Go.Pc
/-- The first place that is not zero, or the length. -/
def lead : List Int → Nat
  | [] => 0
  | x :: l => if x = 0 then lead l + 1 else 0
theorem lead_zero : ∀ (v : List Int) (i : Nat), i < lead v → v.getD i 0 = 0
  | [], i, h => absurd h (Nat.not_lt_zero _)
  | x :: l, i, h => by
    unfold lead at h
    split at h
    · rename_i hx
      cases i with
      | zero => simpa using hx
      | succ i => simpa using lead_zero l i (by omega)
    · omega
theorem lead_ne : ∀ v : List Int, lead v < v.length → v.getD (lead v) 0 ≠ 0
  | [], h => absurd h (Nat.not_lt_zero _)
  | x :: l, h => by
    unfold lead at h ⊢
    split
    · rename_i hx
      rw [if_pos hx] at h
      simpa using lead_ne l (by simpa using h)
    · rename_i hx; simpa using hx
theorem lead_eq {v : List Int} {k : Nat} (h : ∀ i, i < k → v.getD i 0 = 0) (h0 : v.getD k 0 ≠ 0) : lead v = k := by
  have hk : k < v.length := by
    by_cases hk : k < v.length
    · exact hk
    · exact absurd (by rw [List.getD_eq_getElem?_getD, List.getElem?_eq_none (by omega)]; rfl) h0
  by_cases h1 : lead v < k
  · exact absurd (h _ h1) (lead_ne v (by omega))
  · by_cases h2 : k < lead v
    · exact absurd (lead_zero v k h2) h0
    · omega
end Go.Pc

/-
  Walks: copies and comparisons of lists, depths (slices.Clone, slices.Equal, slices.EqualFunc, slices.IndexFunc, sameRows, depthOf, pivots).
  Conditions: stated at each theorem: what the arguments read as, and that lists are short.
-/
namespace Go.Proofs.Ytflniifngfiekaa
open Go Go.Pc
theorem sl_nil {lo hi : Nat} {w : World} {v : Value} {us : List Value} (h : Sl lo hi w v us) : NilB v true ∧ us = [] ∨ NilB v false := by
  obtain ⟨A, c, rfl, hc, hm, hcell⟩ := h.ex
  cases A with
  | some a => exact .inr ⟨_, _, _, rfl, rfl⟩
  | none =>
    refine .inl ⟨⟨_, _, _, rfl, rfl⟩, ?_⟩
    cases us with
    | nil => rfl
    | cons u l => obtain ⟨a, h, _⟩ := hcell 0 u rfl; cases h
set_option maxHeartbeats 400000 in
theorem cloneI_ok {w : World} {v : Value} {xs : List Int} {lo hi : Nat} [hx : Ints lo hi w v xs] (hl : xs.length ≤ 2000000) :
    Calls Try.prog 54 #[v] w (Ret fun v' w' => Ext w w' ∧ Fr w.heap.size w' v' xs) := by
  refine enter (args := [v]) (l := [.tmp 2]) Try.func54 rfl rfl Try.ntmps54 (by simp) ?_
  rcases sl_nil hx.sl with ⟨hn, h0⟩ | hn
  · have h0 : xs = [] := by simpa using h0
    subst h0
    refine go ?_
    exact ret1 ⟨Ext.refl _, (Lst.nil 2 w.heap.size w (av := fun _ => False) (fun _ h => h.elim)).own.toFr (xs := [])⟩
  · refine go ?_
    refine st_slice0 (by first | exact True.intro | exact ⟨_, rfl, by ((try simp only [ev_tmp, ev_const, ev_func, get_put, get_args, get_putL, get_putL_nil, Nat.reduceEqDiff, reduceIte, List.getD_cons_zero, List.getD_cons_succ, List.getD_nil, Bool.not_true, Bool.not_false]); first | done | with_reducible rfl)⟩) fun w1 v1 he1 hs1 ho1 => ?_
    refine go ?_
    have hN := ho1.toN
    have hsl : Sl lo hi w1 v _ := Sl.ext (h := hx.sl)
    refine st_append (hv := hN) (hy := hsl) (by ((try simp only [ev_tmp, ev_const, ev_func, get_put, get_args, get_putL, get_putL_nil, Nat.reduceEqDiff, reduceIte, List.getD_cons_zero, List.getD_cons_succ, List.getD_nil]); first | done | with_reducible rfl)) (by ((try simp only [ev_tmp, ev_const, ev_func, get_put, get_args, get_putL, get_putL_nil, Nat.reduceEqDiff, reduceIte, List.getD_cons_zero, List.getD_cons_succ, List.getD_nil]); first | done | with_reducible rfl)) rfl (oneCells xs) (by simp; omega) (by simp [maxLen]; omega) (by omega) (by first | exact True.intro | exact ⟨_, rfl, by ((try simp only [ev_tmp, ev_const, ev_func, get_put, get_args, get_putL, get_putL_nil, Nat.reduceEqDiff, reduceIte, List.getD_cons_zero, List.getD_cons_succ, List.getD_nil, Bool.not_true, Bool.not_false]); first | done | with_reducible rfl)⟩) fun v2 w2 ho2 hg2 ha2 => ?_
    refine go ?_
    have hN2 : OwnN 2 w.heap.size w2 v2 (xs.map (Value.int .i64)) := by simpa using ho2
    refine ret1 ⟨?_, hN2.toFr⟩
    obtain ⟨cap, cur, hv1, _⟩ := ho1.ex
    exact ⟨he1.below.grown hg2 (by omega) (fun k hk => by rw [hv1] at hk; simp [Value.ownBlock] at hk; omega)⟩
set_option maxHeartbeats 400000 in
theorem equalI_ok {w : World} {va vb : Value} {xs ys : List Int} {lo hi lo' hi' : Nat} [hx : Ints lo hi w va xs] [hy : Ints lo' hi' w vb ys] (hm : xs.length ≤ 2000000) :
    Calls Try.prog 82 #[va, vb] w (Ret fun v w' => ∃ b, v = .bool b ∧ (b = true ↔ xs = ys) ∧ Ext w w') := by
  refine enter (args := [va, vb]) (l := [.tmp 4]) Try.func82 rfl rfl Try.ntmps82 (by simp) ?_
  refine go ?_
  refine c_if (fun h1 => ?_) (fun h1 => ?_)
  · refine go ?_
    refine ret1 ⟨_, rfl, ?_, Ext.refl _⟩
    simp only [Bool.false_eq_true, false_iff]
    rintro rfl
    simp at h1
  · refine go ?_
    refine r_for xs.length (fun k ρ w' => Has ρ [(0, va), (1, vb), (12, .int .i64 xs.length), (13, .int .i64 k)] ∧ Ext w w' ∧ xs.take k = ys.take k) ?_ ?_
    · refine ⟨?_, Ext.refl _, rfl⟩
      exact hasP
    · rintro k ρ w1 hk ⟨hH, he, ht⟩
      refine rwp_has hH fun ρ0 => ?_
      refine go ?_
      refine c_if (fun h2 => ?_) (fun h2 => ?_)
      · refine go ?_
        refine d_region fun w2 he2 _ => ?_
        refine dgo ?_
        refine d_end (h := ?_)
        refine go ?_
        refine c_if (fun h3 => ?_) (fun h3 => ?_)
        · refine go ?_
          refine ret1 ⟨_, rfl, ?_, he.trans he2⟩
          simp only [Bool.false_eq_true, false_iff]
          rintro rfl
          exact h3 rfl
        · refine go ?_
          refine forQ_normal (by omega) ⟨?_, he.trans he2, take_succ_eq ht (by omega) (by omega) ?_⟩
          · exact hasP
          · exact Decidable.not_not.1 h3
      · refine go ?_
        refine ret1 ⟨_, rfl, ?_, he⟩
        have : k = xs.length := by omega
        subst this
        simp only [true_iff]
        rw [List.take_of_length_le (Nat.le_refl _), List.take_of_length_le (by omega)] at ht
        exact ht
end Go.Proofs.Ytflniifngfiekaa

/-
  Walks: the program's products in place (timesGenerator, timesVector).
  Conditions: the tail at the level is a group; the vector written is the call's own and lies apart from what is read.
-/
namespace Go.Proofs.Ytflniifngfiekaa
open Go Go.Pc
def TGSpec (p : Pr) (j : Nat) : Prop := ∀ {i : Nat} [Con p i] {w : World} {vp ve : Value} {te b : Nat} {kj : Int} {x : T p i} {xs : List Int} {lo hi : Nat} [PresP lo hi w vp p] [OwnI te b w ve xs] [Apart lo hi b],
  i ≤ j → j < p.n → kj = j → xs = x.v → Calls Try.prog 64 #[vp, ve, .int .i64 kj] w (Ret fun _ w' => Chg b w w' ∧ OwnI te b w' ve (x * gOf p i j).v)
def TVSpec (p : Pr) (j : Nat) : Prop := ∀ {i : Nat} [Con p i] {w : World} {vp ve vf : Value} {te b : Nat} {x y : T p i} {xs ys : List Int} {lo hi lo1 hi1 : Nat} [PresP lo hi w vp p] [OwnI te b w ve xs] [Ints lo1 hi1 w vf ys] [Apart lo hi b] [Apart lo1 hi1 b],
  i ≤ p.n → xs = x.v → ys = y.v → ZU j ys → Calls Try.prog 55 #[vp, ve, vf] w (Ret fun _ w' => Chg b w w' ∧ OwnI te b w' ve (x * y).v)
set_option maxHeartbeats 1000000 in
theorem tv_of_tg {p : Pr} {j : Nat} (htg : ∀ k, j ≤ k → TGSpec p k) : TVSpec p j := by
  intro i hcon w vp ve vf te b x y xs ys lo hi lo1 hi1 hp ho hf ha1 ha2 hin hxs hys hz
  subst hxs hys
  have hv := hcon.valid
  have hn6 := hv.n6
  have hyl := y.inr.len
  refine enter (args := [vp, ve, vf]) (l := []) Try.func55 rfl rfl Try.ntmps55 (by simp) ?_
  refine go ?_
  refine r_for p.n (fun k ρ w' => ∃ xs', Has ρ [(0, vp), (1, ve), (8, vf), (9, .int .i64 y.v.length), (10, .int .i64 k)] ∧ Chg b w w' ∧ OwnI te b w' ve xs' ∧ xs' = (x * phi (gOf p i) y.v 0 k).v) ?_ ?_
  · refine ⟨x.v, ?_, Chg.refl b w, ho, ?_⟩
    · exact hasP
    · show _ = (x * 1).v
      rw [Grp.mul_one]
  rintro k ρ w2 hk ⟨xs', hH, hc2, ho2, hx2⟩
  refine rwp_has hH fun ρ0 => ?_
  refine go ?_
  refine c_if (fun h4 => ?_) (fun h4 => ?_)
  · have hkn : k < p.n := by omega
    have hyk := y.inr.rng k hkn
    have hok := hv.opos hkn
    refine go ?_
    refine r_for (y.v.getD k 0).toNat (fun q ρ w' => ∃ xs', Has ρ [(0, vp), (1, ve), (8, vf), (9, .int .i64 y.v.length), (10, .int .i64 k), (6, .int .i64 k), (15, .int .i64 (y.v.getD k 0)), (16, .int .i64 q)] ∧ Chg b w w' ∧ OwnI te b w' ve xs' ∧ xs' = (x * phi (gOf p i) y.v 0 k * Grp.pw (gOf p i k) q).v) ?_ ?_
    · refine ⟨xs', ?_, hc2, ho2, ?_⟩
      · exact hasP
      · rw [Grp.pw_zero, Grp.mul_one]; exact hx2
    clear hc2 ho2
    rintro q ρ w3 hq ⟨xs3, hH3, hc3, ho3, hx3⟩
    refine rwp_has hH3 fun ρ1 => ?_
    refine go ?_
    refine c_if (fun h5 => ?_) (fun h5 => ?_)
    · have hik : i ≤ k := by
        by_cases h : i ≤ k
        · exact h
        · have := y.zu k (by omega); omega
      have hjk : j ≤ k := by
        by_cases h : j ≤ k
        · exact h
        · have := hz k (by omega); omega
      refine go ?_
      refine rc (htg k hjk (x := x * phi (gOf p i) y.v 0 k * Grp.pw (gOf p i k) q) hik hkn rfl hx3) (next := fun v4 w4 h4 => ?_)
      obtain ⟨hc4, ho4⟩ := h4
      refine go ?_
      refine forQ_normal (by omega) ⟨_, ?_, hc3.trans hc4, ho4, ?_⟩
      · exact hasP
      · rw [Grp.pw_succ, ← Grp.mul_assoc]
    · refine go ?_
      refine forQ_normal (by omega) ⟨xs3, ?_, hc3, ho3, ?_⟩
      · exact hasP
      · rw [hx3, phi_last, Nat.zero_add, show q = (y.v.getD k 0).toNat by omega, Grp.mul_assoc]
  · obtain rfl : k = p.n := by omega
    refine go ?_
    refine retQ_0 ⟨hc2, ?_⟩
    rw [phi_all hin] at hx2
    rw [← hx2]; exact ho2
theorem mkE {p : Pr} {i : Nat} [hc : Con p i] (x : T p i) {v : List Int} {j : Nat} (hj : i ≤ j ∧ j < p.n) (hl : v.length = p.n) (hlow : ∀ t, t < j → v.getD t 0 = x.v.getD t 0) (hjv : 0 ≤ v.getD j 0 ∧ v.getD j 0 < p.o j) (hz : ∀ t, j < t → t < p.n → v.getD t 0 = 0) : ∃ e : T p i, e.v = v := by
  refine ⟨⟨v, ⟨hl, fun t ht => ?_⟩, fun t ht => ?_⟩, rfl⟩
  · by_cases h1 : t < j
    · rw [hlow t h1]; exact x.inr.rng t ht
    · by_cases h2 : t = j
      · subst h2; exact hjv
      · rw [hz t (by omega) ht]; have := hc.valid.opos ht; omega
  · rw [hlow t (by omega)]; exact x.zu t ht
set_option maxHeartbeats 2000000 in
theorem tg_of_tv {p : Pr} {j : Nat} (htv : TVSpec p (j + 1)) : TGSpec p j := by
  intro i hcon w vp ve te b kj x xs lo hi hp ho ha hij hjn hkj hxs
  subst hxs hkj
  have hv := hcon.valid
  have hn6 := hv.n6
  have hol : p.ord.length = p.n := rfl
  have hwl : p.pow.length = p.n := hv.lenw
  have hcl : p.cnj.length = p.n := hv.lenc
  have hci := hv.lenci j hjn
  have hxl := x.inr.len
  have hxj := x.inr.rng j hjn
  have hoj := hv.opos hjn
  have hoe : p.ord.getD j 0 = p.o j := rfl
  have hbl := ho.lt
  obtain ⟨g, og, vo, vpw, vc, ps, cs, css, rfl, hg1, hg2, hc0, hc1, hc2, h1, h2, h3⟩ := hp.ex
  have hag : Apart g (g + 1) b := ⟨by have := ha.out; omega⟩
  refine enter (args := [.pointer (some ⟨g, og, none⟩), ve, .int .i64 j]) (l := []) Try.func64 rfl rfl Try.ntmps64 (by simp) ?_
  refine go ?_
  have hints : Ints b (b + 1) w ve x.v := inferInstance
  have hcut := hints.cut (l := j + 1) (k := x.v.length) (by omega) (Nat.le_refl _)
  have hdl : ((x.v.take x.v.length).drop (j + 1)).length = p.n - (j + 1) := by simp [hxl]
  have hdg : ∀ k, ((x.v.take x.v.length).drop (j + 1)).getD k 0 = x.v.getD (j + 1 + k) 0 := fun k => by simp
  refine rc (cloneI_ok (xs := (x.v.take x.v.length).drop (j + 1)) ?_) (next := fun v1 w1 h4 => ?_)
  · omega
  obtain ⟨he1, hf1⟩ := h4
  generalize (x.v.take x.v.length).drop (j + 1) = rest at hcut hdl hdg hf1
  have hfi := hf1.ints
  have ha1 : Apart w.heap.size w1.heap.size b := ⟨.inl hbl⟩
  have ho1 : OwnI te b w1 ve x.v := inferInstance
  refine go ?_
  refine r_for (p.n - (j + 1)) (fun k ρ w' => ∃ xs', Has ρ [(0, .pointer (some ⟨g, og, none⟩)), (1, ve), (2, .int .i64 j), (6, v1), (16, .int .i64 rest.length), (17, .int .i64 k)] ∧ Chg b w1 w' ∧ OwnI te b w' ve xs' ∧ xs'.length = p.n ∧
    ∀ t, xs'.getD t 0 = if j + 1 ≤ t ∧ t < j + 1 + k then 0 else x.v.getD t 0) ?_ ?_
  · refine ⟨x.v, ?_, Chg.refl b w1, ho1, hxl, fun t => by rw [if_neg (by omega)]⟩
    exact hasP
  clear ho1
  rintro k ρ w2 hk ⟨xs2, hH2, hch2, ho2, hl2, hx2⟩
  refine rwp_has hH2 fun ρ0 => ?_
  refine go ?_
  refine c_if (fun h4 => ?_) (fun h4 => ?_)
  · refine go ?_
    refine st_store_int (by ((try simp only [ev_tmp, ev_const, ev_func, get_put, get_args, get_putL, get_putL_nil, Nat.reduceEqDiff, reduceIte, List.getD_cons_zero, List.getD_cons_succ, List.getD_nil]); first | done | with_reducible rfl)) (by ((try simp only [ev_tmp, ev_const, ev_func, get_put, get_args, get_putL, get_putL_nil, Nat.reduceEqDiff, reduceIte, List.getD_cons_zero, List.getD_cons_succ, List.getD_nil]); first | done | with_reducible rfl)) ?_ (by first | exact True.intro | exact ⟨_, rfl, by ((try simp only [ev_tmp, ev_const, ev_func, get_put, get_args, get_putL, get_putL_nil, Nat.reduceEqDiff, reduceIte, List.getD_cons_zero, List.getD_cons_succ, List.getD_nil, Bool.not_true, Bool.not_false]); first | done | with_reducible rfl)⟩) fun w3 hch3 hs3 ho3 => ?_
    · omega
    refine go ?_
    refine forQ_normal (by omega) ⟨xs2.set (j + 1 + k) 0, ?_, hch2.trans hch3, ho3, by simp [hl2], fun t => ?_⟩
    · exact hasP
    · by_cases e : j + 1 + k = t
      · subst e; rw [Pc.getD_set_eq _ _ _ (by omega), if_pos (by omega)]
      · rw [Pc.getD_set_ne _ _ _ _ e, hx2 t]
        by_cases h : j + 1 ≤ t ∧ t < j + 1 + k
        · rw [if_pos h, if_pos (by omega)]
        · rw [if_neg h, if_neg (by omega)]
  · have hk' : k = p.n - (j + 1) := by omega
    subst hk'
    have hlow2 : ∀ t, t < j + 1 → xs2.getD t 0 = x.v.getD t 0 := fun t ht => by rw [hx2, if_neg (by omega)]
    have hz2 : ∀ t, j < t → t < p.n → xs2.getD t 0 = 0 := fun t h1 h2 => by rw [hx2, if_pos (by omega)]
    have hj2 := hlow2 j (by omega)
    clear hx2
    refine go ?_
    refine st_store_int (by ((try simp only [ev_tmp, ev_const, ev_func, get_put, get_args, get_putL, get_putL_nil, Nat.reduceEqDiff, reduceIte, List.getD_cons_zero, List.getD_cons_succ, List.getD_nil]); first | done | with_reducible rfl)) (by ((try simp only [ev_tmp, ev_const, ev_func, get_put, get_args, get_putL, get_putL_nil, Nat.reduceEqDiff, reduceIte, List.getD_cons_zero, List.getD_cons_succ, List.getD_nil]); first | done | with_reducible rfl)) ?_ (by first | exact True.intro | exact ⟨_, rfl, by ((try simp only [ev_tmp, ev_const, ev_func, get_put, get_args, get_putL, get_putL_nil, Nat.reduceEqDiff, reduceIte, List.getD_cons_zero, List.getD_cons_succ, List.getD_nil, Bool.not_true, Bool.not_false]); first | done | with_reducible rfl)⟩) fun w3 hch3 hs3 ho3 => ?_
    · omega
    have hch3' := hch2.trans hch3
    have hl3 : (xs2.set j (xs2.getD j 0 + 1)).length = p.n := by simp [hl2]
    have hj3 : (xs2.set j (xs2.getD j 0 + 1)).getD j 0 = x.v.getD j 0 + 1 := by rw [Pc.getD_set_eq _ _ _ (by omega), hj2]
    have hlow3 : ∀ t, t < j → (xs2.set j (xs2.getD j 0 + 1)).getD t 0 = x.v.getD t 0 := fun t ht => by rw [Pc.getD_set_ne _ _ _ _ (by omega), hlow2 t (by omega)]
    have hz3 : ∀ t, j < t → t < p.n → (xs2.set j (xs2.getD j 0 + 1)).getD t 0 = 0 := fun t h1 h2 => by rw [Pc.getD_set_ne _ _ _ _ (by omega), hz2 t h1 h2]
    generalize xs2.set j (xs2.getD j 0 + 1) = xs3 at ho3 hl3 hj3 hlow3 hz3
    clear ho2 hch2 hch3
    have hch0 : Chg b w w3 := hch3'.pre he1 hbl
    refine go ?_
    refine d_region fun w4 he4 _ => ?_
    refine dgo ?_
    refine d_end (h := ?_)
    have hch4 : Chg b w1 w4 := hch3'.grow he4
    have ho4 : OwnI te b w4 ve xs3 := inferInstance
    clear ho3
    refine go ?_
    refine rwp_mono (Q := onK fun ρ w' => ∃ xs' e, Has ρ [(0, .pointer (some ⟨g, og, none⟩)), (1, ve), (2, .int .i64 j), (6, v1)] ∧ Chg b w1 w' ∧ OwnI te b w' ve xs' ∧ xs' = T.v (p := p) (i := i) e ∧ e * phi (cIn p i j) x.v (j + 1) (p.n - (j + 1)) = x * gOf p i j) ?_ ?_
    · refine c_if (fun h5 => ?_) (fun h5 => ?_)
      · refine go ?_
        refine st_store_int (by ((try simp only [ev_tmp, ev_const, ev_func, get_put, get_args, get_putL, get_putL_nil, Nat.reduceEqDiff, reduceIte, List.getD_cons_zero, List.getD_cons_succ, List.getD_nil]); first | done | with_reducible rfl)) (by ((try simp only [ev_tmp, ev_const, ev_func, get_put, get_args, get_putL, get_putL_nil, Nat.reduceEqDiff, reduceIte, List.getD_cons_zero, List.getD_cons_succ, List.getD_nil]); first | done | with_reducible rfl)) ?_ (by first | exact True.intro | exact ⟨_, rfl, by ((try simp only [ev_tmp, ev_const, ev_func, get_put, get_args, get_putL, get_putL_nil, Nat.reduceEqDiff, reduceIte, List.getD_cons_zero, List.getD_cons_succ, List.getD_nil, Bool.not_true, Bool.not_false]); first | done | with_reducible rfl)⟩) fun w5 hch5 hs5 ho5 => ?_
        · omega
        have hj5 : (xs3.set j 0).getD j 0 = 0 := Pc.getD_set_eq _ _ _ (by omega)
        have hlow5 : ∀ t, t < j → (xs3.set j 0).getD t 0 = x.v.getD t 0 := fun t ht => by rw [Pc.getD_set_ne _ _ _ _ (by omega), hlow3 t ht]
        have hz5 : ∀ t, j < t → t < p.n → (xs3.set j 0).getD t 0 = 0 := fun t h1 h2 => by rw [Pc.getD_set_ne _ _ _ _ (by omega), hz3 t h1 h2]
        obtain ⟨e, he⟩ := mkE x (v := xs3.set j 0) ⟨hij, hjn⟩ (by simp [hl3]) hlow5 (by rw [hj5]; omega) hz5
        rw [← he] at hj5 hlow5 hz5
        have hch15 : Chg b w1 w5 := hch4.trans hch5
        have hch05 : Chg b w w5 := hch15.pre he1 hbl
        clear ho4 hch5
        refine go ?_
        refine rc (htv (x := e) (y := Tw' hv ⟨hij, hjn⟩) (by omega) he.symm rfl (hv.w_zu j hjn)) (next := fun v6 w6 h6 => ?_)
        obtain ⟨hch6, ho6⟩ := h6
        refine go ?_
        refine onK_normal ⟨_, e * Tw' hv ⟨hij, hjn⟩, ?_, hch15.trans hch6, ho6, rfl, tg_eq ⟨hij, hjn⟩ hlow5 hz5 hj5 (by omega)⟩
        exact hasP
      · refine go ?_
        obtain ⟨e, he⟩ := mkE x (v := xs3) ⟨hij, hjn⟩ hl3 hlow3 (by omega) hz3
        rw [← he] at hj3 hlow3 hz3
        refine onK_normal ⟨_, e, ?_, hch4, ho4, he.symm, tg_lt ⟨hij, hjn⟩ hlow3 hz3 hj3⟩
        exact hasP
    · intro ex ρ w5 hK
      cases ex with
      | normal =>
        obtain ⟨xs5, e, hH5, hch5, ho5, hx5, hE⟩ := hK
        clear ho4 hch4 hch3' hch0
        refine thn_normal (rwp_has hH5 fun ρ1 => ?_)
        refine go ?_
        refine r_for (p.n - (j + 1)) (fun k ρ w' => ∃ xs', Has ρ [(0, .pointer (some ⟨g, og, none⟩)), (1, ve), (2, .int .i64 j), (58, v1), (59, .int .i64 rest.length), (60, .int .i64 k)] ∧ Chg b w1 w' ∧ OwnI te b w' ve xs' ∧ xs' = (e * phi (cIn p i j) x.v (j + 1) k).v) ?_ ?_
        · refine ⟨xs5, ?_, hch5, ho5, ?_⟩
          · exact hasP
          · show _ = (e * 1).v
            rw [Grp.mul_one]; exact hx5
        clear ho5 hch5
        rintro k ρ w6 hk ⟨xs6, hH6, hch6, ho6, hx6⟩
        refine rwp_has hH6 fun ρ2 => ?_
        refine go ?_
        refine c_if (fun h6 => ?_) (fun h6 => ?_)
        · have hkn : j + 1 + k < p.n := by omega
          have hyk := x.inr.rng (j + 1 + k) hkn
          have hok := hv.opos hkn
          have hdk := hdg k
          refine go ?_
          refine r_for (x.v.getD (j + 1 + k) 0).toNat (fun q ρ w' => ∃ xs', Has ρ [(0, .pointer (some ⟨g, og, none⟩)), (1, ve), (2, .int .i64 j), (58, v1), (59, .int .i64 rest.length), (60, .int .i64 k), (8, .int .i64 k), (65, .int .i64 (x.v.getD (j + 1 + k) 0)), (66, .int .i64 q)] ∧ Chg b w1 w' ∧ OwnI te b w' ve xs' ∧
            xs' = (e * phi (cIn p i j) x.v (j + 1) k * Grp.pw (cIn p i j (j + 1 + k)) q).v) ?_ ?_
          · refine ⟨xs6, ?_, hch6, ho6, ?_⟩
            · exact hasP
            · rw [Grp.pw_zero, Grp.mul_one]; exact hx6
          clear ho6 hch6
          rintro q ρ w7 hq ⟨xs7, hH7, hch7, ho7, hx7⟩
          refine rwp_has hH7 fun ρ3 => ?_
          have hch07 : Chg b w w7 := hch7.pre he1 hbl
          have hcv : (p.cnj.getD j []).getD k [] = (cIn p i j (j + 1 + k)).v := by
            have : cIn p i j (j + 1 + k) = _ := dif_pos ⟨hij, by omega, hkn⟩
            rw [this]
            show _ = p.c j (j + 1 + k)
            unfold Pr.c
            rw [show j + 1 + k - j - 1 = k by omega]
          refine go ?_
          refine c_if (fun h7 => ?_) (fun h7 => ?_)
          · have hzc : ZU (j + 1) (cIn p i j (j + 1 + k)).v := by
              have : cIn p i j (j + 1 + k) = _ := dif_pos ⟨hij, by omega, hkn⟩
              rw [this]
              exact hv.c_zu _ _ (by omega) hkn
            refine go ?_
            refine rc (htv (x := e * phi (cIn p i j) x.v (j + 1) k * Grp.pw (cIn p i j (j + 1 + k)) q) (y := cIn p i j (j + 1 + k)) (by omega) hx7 hcv (by rw [hcv]; exact hzc)) (next := fun v8 w8 h8 => ?_)
            obtain ⟨hch8, ho8⟩ := h8
            refine go ?_
            refine forQ_normal (by omega) ⟨_, ?_, hch7.trans hch8, ho8, ?_⟩
            · exact hasP
            · rw [Grp.pw_succ, ← Grp.mul_assoc]
          · refine go ?_
            refine forQ_normal (by omega) ⟨xs7, ?_, hch7, ho7, ?_⟩
            · exact hasP
            · rw [hx7, phi_last, show q = (x.v.getD (j + 1 + k) 0).toNat by omega, Grp.mul_assoc]
        · obtain rfl : k = p.n - (j + 1) := by omega
          refine go ?_
          refine retQ_0 ⟨hch6.pre he1 hbl, ?_⟩
          rw [hE] at hx6
          rw [← hx6]; exact ho6
      | _ => exact hK.elim
theorem tgv_ok {p : Pr} : ∀ (m j : Nat), p.n - j = m → TGSpec p j ∧ TVSpec p j
  | 0, j, hm => by
    have htg : ∀ k, j ≤ k → TGSpec p k := by
      intro k hk i hcon w vp ve te b kj x xs lo hi hp ho ha hij hjn
      omega
    exact ⟨htg j (Nat.le_refl _), tv_of_tg htg⟩
  | m + 1, j, hm => by
    have ih := tgv_ok (p := p) m (j + 1) (by omega)
    have htg : ∀ k, j ≤ k → TGSpec p k := by
      intro k hk
      by_cases e : k = j
      · subst e; exact tg_of_tv ih.2
      · exact (tgv_ok (p := p) (p.n - k) k rfl).1
    exact ⟨htg j (Nat.le_refl _), tv_of_tg htg⟩
termination_by m => m
decreasing_by all_goals omega
theorem timesGenerator_ok {p : Pr} (j : Nat) : TGSpec p j := (tgv_ok _ j rfl).1
theorem timesVector_ok {p : Pr} (j : Nat) : TVSpec p j := (tgv_ok _ j rfl).2
end Go.Proofs.Ytflniifngfiekaa

/-
  Walks: the program's products, powers, inverses, conjugates, commutators, images (multiply, power, invert, conjugate, commutator, imageBy, unitVector).
  Conditions: the tail at the level is a group.
-/
namespace Go.Proofs.Ytflniifngfiekaa
open Go Go.Pc
set_option maxHeartbeats 400000 in
/-- Nothing is multiplied. -/
theorem timesVector0_ok {w : World} {vp ve vf : Value} {lo1 hi1 : Nat} [hf : Ints lo1 hi1 w vf []] : Calls Try.prog 55 #[vp, ve, vf] w (Ret fun _ w' => Ext w w') := by
  refine enter (args := [vp, ve, vf]) (l := []) Try.func55 rfl rfl Try.ntmps55 (by simp) ?_
  refine go ?_
  refine r_for 0 (fun k ρ w' => Has ρ [(9, .int .i64 ([] : List Int).length), (10, .int .i64 k)] ∧ Ext w w') ?_ ?_
  · refine ⟨?_, Ext.refl _⟩
    exact hasP
  rintro k ρ w2 hk ⟨hH, he2⟩
  refine rwp_has hH fun ρ0 => ?_
  refine go ?_
  refine c_if (fun h4 => ?_) (fun h4 => ?_)
  · simp at h4
    omega
  · refine go ?_
    exact retQ_0 he2
section
variable {p : Pr} {i : Nat} [hcon : Con p i]
theorem el0 (hn : p.n = 0) (x : T p i) : x.v = [] := List.eq_nil_of_length_eq_zero (by rw [x.inr.len, hn])
/-- Into a vector of the caller's own, of which the caller's memory ahead of world w0 is apart. -/
theorem timesVectorF_ok {w0 w : World} {vp ve vf : Value} {x y : T p i} {xs ys : List Int} [hp : PresP 0 w0.heap.size w0 vp p] [hf : Ints 0 w0.heap.size w0 vf ys] (he : Ext w0 w) (hx : Fr w0.heap.size w ve xs) (hi : i ≤ p.n) (hxs : xs = x.v) (hys : ys = y.v) :
    Calls Try.prog 55 #[vp, ve, vf] w (Ret fun _ w' => Ext w0 w' ∧ Fr w0.heap.size w' ve (x * y).v) := by
  by_cases hn : p.n = 0
  · have h1 : ys = [] := by rw [hys]; exact el0 hn y
    subst h1
    refine Calls.ret_mono (timesVector0_ok (vf := vf) (lo1 := 0) (hi1 := w0.heap.size)) fun v w' h => ⟨he.trans h, ?_⟩
    rw [el0 hn (x * y), ← el0 hn x, ← hxs]
    exact hx.ext' h
  · obtain ⟨te, b, hb, ho⟩ := hx.own (by intro e; have := x.inr.len; rw [← hxs, e] at this; simp at this; omega)
    have ha : Apart 0 w0.heap.size b := ⟨.inr hb⟩
    refine Calls.ret_mono (timesVector_ok 0 (x := x) (y := y) hi hxs hys (fun k hk => absurd hk (Nat.not_lt_zero _))) fun v w' h => ?_
    exact ⟨h.1.ext he hb, h.2.toFr hb⟩
set_option maxHeartbeats 1000000 in
theorem multiply_ok {w : World} {vp va vb : Value} {x y : T p i} {xs ys : List Int} {lo hi lo1 hi1 lo2 hi2 : Nat} [hp : PresP lo hi w vp p] [hx : Ints lo1 hi1 w va xs] [hy : Ints lo2 hi2 w vb ys] (hi' : i ≤ p.n) (hxs : xs = x.v) (hys : ys = y.v) :
    Calls Try.prog 42 #[vp, va, vb] w (Ret fun v w' => Ext w w' ∧ Fr w.heap.size w' v (x * y).v) := by
  have hn6 := hcon.valid.n6
  replace hp := hp.wide
  replace hy := hy.wide
  refine enter (args := [vp, va, vb]) (l := [.tmp 6]) Try.func42 rfl rfl Try.ntmps42 (by simp) ?_
  refine go ?_
  refine rc (cloneI_ok (xs := xs) ?_) (next := fun v1 w1 h4 => ?_)
  · rw [hxs, x.inr.len]; omega
  obtain ⟨he1, hf1⟩ := h4
  refine go ?_
  refine rc (timesVectorF_ok (x := x) (y := y) he1 hf1 hi' hxs hys) (next := fun v2 w2 h5 => ?_)
  obtain ⟨he2, hf2⟩ := h5
  refine go ?_
  exact ret1 ⟨he2, hf2⟩
set_option maxHeartbeats 1000000 in
theorem power_ok {w : World} {vp va : Value} {x : T p i} {xs : List Int} {k : Int} {lo hi lo1 hi1 : Nat} [hp : PresP lo hi w vp p] [hx : Ints lo1 hi1 w va xs] (hi' : i ≤ p.n) (hxs : xs = x.v) (hk : 0 ≤ k ∧ k ≤ 9223372036854775806) :
    Calls Try.prog 83 #[vp, va, .int .i64 k] w (Ret fun v w' => Ext w w' ∧ Fr w.heap.size w' v (Grp.pw x k.toNat).v) := by
  have hn6 := hcon.valid.n6
  have hxl := x.inr.len
  replace hp := hp.wide
  replace hx := hx.wide
  refine enter (args := [vp, va, .int .i64 k]) (l := [.tmp 6]) Try.func83 rfl rfl Try.ntmps83 (by simp) ?_
  refine go ?_
  refine st_make_int (by ((try simp only [ev_tmp, ev_const, ev_func, get_put, get_args, get_putL, get_putL_nil, Nat.reduceEqDiff, reduceIte, List.getD_cons_zero, List.getD_cons_succ, List.getD_nil]); first | done | with_reducible rfl)) (by ((try simp only [ev_tmp, ev_const, ev_func, get_put, get_args, get_putL, get_putL_nil, Nat.reduceEqDiff, reduceIte, List.getD_cons_zero, List.getD_cons_succ, List.getD_nil]); first | done | with_reducible rfl)) (by omega) (by rw [hxs]; omega) (by first | exact True.intro | exact ⟨_, rfl, by ((try simp only [ev_tmp, ev_const, ev_func, get_put, get_args, get_putL, get_putL_nil, Nat.reduceEqDiff, reduceIte, List.getD_cons_zero, List.getD_cons_succ, List.getD_nil, Bool.not_true, Bool.not_false]); first | done | with_reducible rfl)⟩) fun w1 v1 he1 hs1 ho1 => ?_
  have hz : Fr w.heap.size w1 v1 (zeros p.n) := by
    have := ho1.toFr (Nat.le_refl w.heap.size)
    rwa [hxs, hxl] at this
  refine go ?_
  refine r_for k.toNat (fun q ρ w' => Has ρ [(0, vp), (1, va), (7, v1), (11, .int .i64 k), (12, .int .i64 q)] ∧ Ext w w' ∧ Fr w.heap.size w' v1 (Grp.pw x q).v) ?_ ?_
  · refine ⟨?_, he1, hz⟩
    exact hasP
  rintro q ρ w2 hq ⟨hH, he2, hf2⟩
  refine rwp_has hH fun ρ0 => ?_
  refine go ?_
  refine c_if (fun h4 => ?_) (fun h4 => ?_)
  · refine go ?_
    refine rc (timesVectorF_ok (x := Grp.pw x q) (y := x) he2 hf2 hi' rfl hxs) (next := fun v3 w3 h5 => ?_)
    obtain ⟨he3, hf3⟩ := h5
    refine go ?_
    refine forQ_normal (by omega) ⟨?_, he3, hf3⟩
    exact hasP
  · obtain rfl : q = k.toNat := by omega
    refine go ?_
    exact ret1 ⟨he2, hf2⟩
theorem co_gen {l : Nat} (hl : i ≤ l ∧ l < p.n) (x : T p i) : (∀ t, t < l → (x * gOf p i l).v.getD t 0 = x.v.getD t 0) ∧ (x * gOf p i l).v.getD l 0 = (x.v.getD l 0 + 1) % p.o l := by
  have hv := hcon.valid
  have hu := unitv_in hv (j := l) (k := 1) (by omega) (fun _ => by have := hv.opos hl.2; omega)
  have h := atv_low hv hl.2 (l - i) i rfl hl.1 x.v (unitv p l 1) x.inr hu x.zu (unitv_zu p (Nat.le_refl _) 1)
  rw [gOf_eq hl]
  have e1 : (unitv p l 1).getD l 0 = 1 := Pc.getD_set_eq _ _ _ (by rw [zeros_len]; exact hl.2)
  rw [e1] at h
  exact h
end
end Go.Proofs.Ytflniifngfiekaa

/-
  Walks: the program's inverses, conjugates, commutators, images (invert, conjugate, commutator, imageBy, unitVector).
  Conditions: the tail at the level is a group.
-/
namespace Go.Proofs.Ytflniifngfiekaa
open Go Go.Pc
section
variable {p : Pr} {i : Nat} [hcon : Con p i]
theorem one_of_zero {x : T p i} (h : ∀ t, t < p.n → x.v.getD t 0 = 0) : x = 1 :=
  T.ext (inr_ext x.inr hcon.valid.zeros_in fun t ht => by rw [h t ht]; exact (zeros_getD _ _).symm)
set_option maxHeartbeats 2000000 in
theorem invert_ok {w : World} {vp va : Value} {x : T p i} {xs : List Int} {lo hi lo1 hi1 : Nat} [hp : PresP lo hi w vp p] [hx : Ints lo1 hi1 w va xs] (hxs : xs = x.v) :
    Calls Try.prog 92 #[vp, va] w (Ret fun v w' => Ext w w' ∧ Fr w.heap.size w' v (x⁻¹).v) := by
  subst hxs
  have hv := hcon.valid
  have hn6 := hv.n6
  have hxl := x.inr.len
  replace hp := hp.wide
  replace hx := hx.wide
  refine enter (args := [vp, va]) (l := [.tmp 4]) Try.func92 rfl rfl Try.ntmps92 (by simp) ?_
  refine go ?_
  refine rc (cloneI_ok (xs := x.v) (by omega)) (next := fun v1 w1 h4 => ?_)
  obtain ⟨he1, hf1⟩ := h4
  refine go ?_
  refine st_make_int (by ((try simp only [ev_tmp, ev_const, ev_func, get_put, get_args, get_putL, get_putL_nil, Nat.reduceEqDiff, reduceIte, List.getD_cons_zero, List.getD_cons_succ, List.getD_nil]); first | done | with_reducible rfl)) (by ((try simp only [ev_tmp, ev_const, ev_func, get_put, get_args, get_putL, get_putL_nil, Nat.reduceEqDiff, reduceIte, List.getD_cons_zero, List.getD_cons_succ, List.getD_nil]); first | done | with_reducible rfl)) (by omega) (by omega) (by first | exact True.intro | exact ⟨_, rfl, by ((try simp only [ev_tmp, ev_const, ev_func, get_put, get_args, get_putL, get_putL_nil, Nat.reduceEqDiff, reduceIte, List.getD_cons_zero, List.getD_cons_succ, List.getD_nil, Bool.not_true, Bool.not_false]); first | done | with_reducible rfl)⟩) fun w2 v2 he2 hs2 ho2 => ?_
  have hfi := hf1.ints
  by_cases hn : p.n = 0
  · have hx0 := el0 hn x
    refine go ?_
    refine r_for 0 (fun k ρ w' => Has ρ [(6, v2), (14, .int .i64 x.v.length), (15, .int .i64 k)] ∧ Ext w2 w') ?_ ?_
    · refine ⟨?_, Ext.refl _⟩
      exact hasP
    rintro k ρ w3 hk ⟨hH, he3⟩
    refine rwp_has hH fun ρ0 => ?_
    refine go ?_
    refine c_if (fun h4 => ?_) (fun h4 => ?_)
    · omega
    · refine go ?_
      refine ret1 ⟨(he1.trans he2).trans he3, ?_⟩
      have h5 := ho2.toFr (lo := w.heap.size) he1.size
      rw [el0 hn x⁻¹]
      rw [hx0] at h5
      exact h5.ext' he3
  · obtain ⟨te, b1, hb1, ho1⟩ := hf1.own (by intro e; rw [e] at hxl; simp at hxl; omega)
    have hbl := ho1.lt
    have hz1 := he1.size
    have ho2' : ∃ b2, b2 ≠ b1 ∧ w.heap.size ≤ b2 ∧ OwnI 2 b2 w2 v2 (1 : T p i).v := ⟨_, by omega, hz1, by rw [hxl] at ho2; exact ho2⟩
    clear ho2
    obtain ⟨b2, hb21, hb2, ho2⟩ := ho2'
    have ap1 : Apart 0 w.heap.size b1 := ⟨.inr hb1⟩
    have ap2 : Apart 0 w.heap.size b2 := ⟨.inr hb2⟩
    have ho1' : OwnI te b1 w2 v1 (x * 1).v := by rw [Grp.mul_one]; exact OwnI.ext (h := ho1)
    clear ho1 hfi hf1
    have hxl1 := (x * 1).inr.len
    refine go ?_
    refine r_for p.n (fun k ρ w' => ∃ z xs zs, Has ρ [(0, vp), (5, v1), (6, v2), (14, .int .i64 p.n), (15, .int .i64 k)] ∧ Ext w w' ∧ OwnI te b1 w' v1 xs ∧ OwnI 2 b2 w' v2 zs ∧ xs = (x * z).v ∧ zs = T.v (p := p) (i := i) z ∧ ∀ t, t < k → (x * z).v.getD t 0 = 0) ?_ ?_
    · refine ⟨1, _, _, ?_, he1.trans he2, ho1', ho2, rfl, rfl, fun t ht => by omega⟩
      exact hasP
    rintro k ρ w3 hk ⟨z, xs3, zs3, hH3, he3, ho13, ho23, hxs3, hzs3, hz3⟩
    refine rwp_has hH3 fun ρ0 => ?_
    clear ho1' ho2
    refine go ?_
    refine c_if (fun h4 => ?_) (fun h4 => ?_)
    · have hkn : k < p.n := by omega
      have hok := hv.opos hkn
      refine go ?_
      refine r_loop (fun m ρ w' => ∃ z xs zs, Has ρ [(0, vp), (5, v1), (6, v2), (7, .int .i64 k), (14, .int .i64 p.n), (15, .int .i64 k)] ∧ Ext w w' ∧ OwnI te b1 w' v1 xs ∧ OwnI 2 b2 w' v2 zs ∧ xs = (x * z).v ∧ zs = T.v (p := p) (i := i) z ∧ (∀ t, t < k → (x * z).v.getD t 0 = 0) ∧
        m = if xs.getD k 0 = 0 then 0 else (p.o k - xs.getD k 0).toNat) (if xs3.getD k 0 = 0 then 0 else (p.o k - xs3.getD k 0).toNat) ?_ ?_
      · refine ⟨z, xs3, zs3, ?_, he3, ho13, ho23, hxs3, hzs3, hz3, rfl⟩
        exact hasP
      clear ho13 ho23 hz3 hxs3 hzs3
      rintro m ρ w4 ⟨z, xs4, zs4, hH4, he4, ho14, ho24, hxs4, hzs4, hz4, hm⟩
      refine rwp_has hH4 fun ρ1 => ?_
      have hxr := (x * z).inr.rng k hkn
      have hxl4 : xs4.length = p.n := by rw [hxs4]; exact (x * z).inr.len
      rw [← hxs4] at hxr
      refine go ?_
      refine c_if (fun h5 => ?_) (fun h5 => ?_)
      · rw [if_neg h5] at hm
        have hik : i ≤ k := by
          by_cases h : i ≤ k
          · exact h
          · exact absurd (by rw [hxs4]; exact (x * z).zu k (by omega)) h5
        have hco := co_gen ⟨hik, hkn⟩ (x * z)
        refine go ?_
        refine rc (timesGenerator_ok k (x := x * z) hik hkn rfl hxs4) (next := fun v5 w5 h6 => ?_)
        obtain ⟨hc5, ho15⟩ := h6
        have ho25 := ho24.chg' hc5 hb21
        have he5 := hc5.ext he4 hb1
        clear ho14 ho24 hc5
        refine go ?_
        refine rc (timesGenerator_ok k (x := z) hik hkn rfl hzs4) (next := fun v6 w6 h7 => ?_)
        obtain ⟨hc6, ho26⟩ := h7
        have ho16 := ho15.chg' hc6 (fun e => hb21 e.symm)
        have he6 := hc6.ext he5 hb2
        clear ho15 ho25 hc6
        refine go ?_
        refine loopQ_normal ?_ ⟨z * gOf p i k, _, _, ?_, he6, ho16, ho26, by rw [Grp.mul_assoc], rfl, fun t ht => ?_, rfl⟩
        · rw [hco.2, ← hxs4, hm]
          by_cases h8 : xs4.getD k 0 + 1 = p.o k
          · rw [if_pos (by rw [h8, Int.emod_self])]; omega
          · rw [Int.emod_eq_of_lt (by omega) (by omega), if_neg (by omega)]; omega
        · exact hasP
        · rw [← Grp.mul_assoc, hco.1 t ht]; exact hz4 t ht
      · refine go ?_
        refine forQ_normal (by omega) ⟨z, xs4, zs4, ?_, he4, ho14, ho24, hxs4, hzs4, fun t ht => ?_⟩
        · exact hasP
        · by_cases e : t = k
          · subst e; rw [← hxs4]; exact Decidable.not_not.1 h5
          · exact hz4 t (by omega)
    · obtain rfl : k = p.n := by omega
      refine go ?_
      have h5 := Grp.eq_inv_of_mul' (one_of_zero hz3)
      refine ret1 ⟨he3, ?_⟩
      rw [← h5, ← hzs3]
      exact ho23.toFr hb2
set_option maxHeartbeats 1000000 in
theorem conjugate_ok {w : World} {vp va vb : Value} {x y : T p i} {xs ys : List Int} {lo hi lo1 hi1 lo2 hi2 : Nat} [hp : PresP lo hi w vp p] [hx : Ints lo1 hi1 w va xs] [hy : Ints lo2 hi2 w vb ys] (hi' : i ≤ p.n) (hxs : xs = x.v) (hys : ys = y.v) :
    Calls Try.prog 85 #[vp, va, vb] w (Ret fun v w' => Ext w w' ∧ Fr w.heap.size w' v (Grp.cj x y).v) := by
  refine enter (args := [vp, va, vb]) (l := [.tmp 6]) Try.func85 rfl rfl Try.ntmps85 (by simp) ?_
  refine go ?_
  refine rc (invert_ok (x := y) hys) (next := fun v1 w1 h4 => ?_)
  obtain ⟨he1, hf1⟩ := h4
  refine go ?_
  refine rc (multiply_ok (x := x) (y := y) hi' hxs hys) (next := fun v2 w2 h5 => ?_)
  obtain ⟨he2, hf2⟩ := h5
  refine go ?_
  refine rc (multiply_ok (x := y⁻¹) (y := x * y) (xs := (y⁻¹).v) (ys := (x * y).v) hi' rfl rfl) (next := fun v3 w3 h6 => ?_)
  obtain ⟨he3, hf3⟩ := h6
  refine go ?_
  have hE := he1.trans he2
  exact ret1 ⟨hE.trans he3, hf3.mono hE.size⟩
end
set_option maxHeartbeats 1000000 in
theorem imageBy_ok {p : Pr} {i : Nat} [hcon : Con p (i + 1)] (hi' : i < p.n) {w : World} {vp va : Value} {xs : List Int} {ki : Int} {lo hi lo1 hi1 : Nat} [hp : PresP lo hi w vp p] [hx : Ints lo1 hi1 w va xs] (hki : ki = i) (hxr : InR p xs) :
    Calls Try.prog 84 #[vp, .int .i64 ki, va] w (Ret fun v w' => Ext w w' ∧ Fr w.heap.size w' v (img p i xs)) := by
  subst hki
  have hv := hcon.valid
  have hn6 := hv.n6
  have hcl : p.cnj.length = p.n := hv.lenc
  have hci := hv.lenci i hi'
  have hxl := hxr.len
  replace hp := hp.wide
  replace hx := hx.wide
  obtain ⟨g, og, vo, vpw, vc, ps, cs, css, rfl, hg1, hg2, hc0, hc1, hc2, h1, h2, h3⟩ := hp.ex
  refine enter (args := [.pointer (some ⟨g, og, none⟩), .int .i64 i, va]) (l := [.tmp 6]) Try.func84 rfl rfl Try.ntmps84 (by simp) ?_
  refine go ?_
  refine st_make_int (by ((try simp only [ev_tmp, ev_const, ev_func, get_put, get_args, get_putL, get_putL_nil, Nat.reduceEqDiff, reduceIte, List.getD_cons_zero, List.getD_cons_succ, List.getD_nil]); first | done | with_reducible rfl)) (by ((try simp only [ev_tmp, ev_const, ev_func, get_put, get_args, get_putL, get_putL_nil, Nat.reduceEqDiff, reduceIte, List.getD_cons_zero, List.getD_cons_succ, List.getD_nil]); first | done | with_reducible rfl)) (by omega) (by omega) (by first | exact True.intro | exact ⟨_, rfl, by ((try simp only [ev_tmp, ev_const, ev_func, get_put, get_args, get_putL, get_putL_nil, Nat.reduceEqDiff, reduceIte, List.getD_cons_zero, List.getD_cons_succ, List.getD_nil, Bool.not_true, Bool.not_false]); first | done | with_reducible rfl)⟩) fun w1 v1 he1 hs1 ho1 => ?_
  have hz : Fr w.heap.size w1 v1 (1 : T p (i + 1)).v := by
    have := ho1.toFr (Nat.le_refl w.heap.size)
    rw [hxl] at this; exact this
  clear ho1
  refine go ?_
  refine r_for (p.n - (i + 1)) (fun k ρ w' => Has ρ [(0, .pointer (some ⟨g, og, none⟩)), (1, .int .i64 i), (2, va), (7, v1), (19, Pc.rowAt vc cs i), (20, .int .i64 (p.cnj.getD i []).length), (21, .int .i64 k)] ∧ Ext w w' ∧ Fr w.heap.size w' v1 (phi (cOf p i) xs (i + 1) k).v) ?_ ?_
  · refine ⟨?_, he1, hz⟩
    exact hasP
  rintro k ρ w2 hk ⟨hH2, he2, hf2⟩
  refine rwp_has hH2 fun ρ0 => ?_
  refine go ?_
  refine c_if (fun h4 => ?_) (fun h4 => ?_)
  · have hkn : i + 1 + k < p.n := by omega
    have hxk := hxr.rng (i + 1 + k) hkn
    have hok := hv.opos hkn
    refine go ?_
    refine r_for (xs.getD (i + 1 + k) 0).toNat (fun q ρ w' => Has ρ [(0, .pointer (some ⟨g, og, none⟩)), (1, .int .i64 i), (2, va), (7, v1), (9, Pc.rowAt (Pc.rowAt vc cs i) (css.getD i []) k), (19, Pc.rowAt vc cs i), (20, .int .i64 (p.cnj.getD i []).length), (21, .int .i64 k), (32, .int .i64 (xs.getD (i + 1 + k) 0)), (33, .int .i64 q)] ∧ Ext w w' ∧
      Fr w.heap.size w' v1 (phi (cOf p i) xs (i + 1) k * Grp.pw (cOf p i (i + 1 + k)) q).v) ?_ ?_
    · refine ⟨?_, he2, ?_⟩
      · exact hasP
      · rw [Grp.pw_zero, Grp.mul_one]; exact hf2
    clear he2 hf2
    rintro q ρ w3 hq ⟨hH3, he3, hf3⟩
    refine rwp_has hH3 fun ρ1 => ?_
    have hcv : (p.cnj.getD i []).getD k [] = (cOf p i (i + 1 + k)).v := by
      have : cOf p i (i + 1 + k) = _ := dif_pos ⟨by omega, hkn⟩
      rw [this]
      show _ = p.c i (i + 1 + k)
      unfold Pr.c
      rw [show i + 1 + k - i - 1 = k by omega]
    refine go ?_
    refine c_if (fun h5 => ?_) (fun h5 => ?_)
    · refine go ?_
      refine rc (timesVectorF_ok (x := phi (cOf p i) xs (i + 1) k * Grp.pw (cOf p i (i + 1 + k)) q) (y := cOf p i (i + 1 + k)) he3 hf3 (by omega) rfl hcv) (next := fun v4 w4 h6 => ?_)
      obtain ⟨he4, hf4⟩ := h6
      refine go ?_
      refine forQ_normal (by omega) ⟨?_, he4, ?_⟩
      · exact hasP
      · rw [Grp.pw_succ, ← Grp.mul_assoc]; exact hf4
    · refine go ?_
      refine forQ_normal (by omega) ⟨?_, he3, ?_⟩
      · exact hasP
      · rw [phi_last, ← show q = (xs.getD (i + 1 + k) 0).toNat by omega]; exact hf3
  · obtain rfl : k = p.n - (i + 1) := by omega
    refine go ?_
    refine ret1 ⟨he2, ?_⟩
    have hin := imgTo_in hv (atv_in hv _ (i + 1) rfl) xs (p.n - (i + 1)) (Nat.le_refl _)
    have h5 := imgTo_phi xs (p.n - (i + 1)) (Nat.le_refl _) hin.1 hin.2
    rw [← h5] at hf2
    rw [img_eq]; exact hf2
set_option maxHeartbeats 400000 in
theorem unitVector_ok {w : World} {n i : Nat} {kn ki : Int} (hkn : kn = n) (hki : ki = i) (hn : n ≤ 2000000) (hi : i < n) :
    Calls Try.prog 86 #[.int .i64 kn, .int .i64 ki] w (Ret fun v' w' => Ext w w' ∧ Fr w.heap.size w' v' ((zeros n).set i 1)) := by
  subst hkn hki
  refine enter (args := [.int .i64 n, .int .i64 i]) (l := [.tmp 4]) Try.func86 rfl rfl Try.ntmps86 (by simp) ?_
  refine go ?_
  refine st_make_int (by ((try simp only [ev_tmp, ev_const, ev_func, get_put, get_args, get_putL, get_putL_nil, Nat.reduceEqDiff, reduceIte, List.getD_cons_zero, List.getD_cons_succ, List.getD_nil]); first | done | with_reducible rfl)) (by ((try simp only [ev_tmp, ev_const, ev_func, get_put, get_args, get_putL, get_putL_nil, Nat.reduceEqDiff, reduceIte, List.getD_cons_zero, List.getD_cons_succ, List.getD_nil]); first | done | with_reducible rfl)) (by omega) (by omega) (by first | exact True.intro | exact ⟨_, rfl, by ((try simp only [ev_tmp, ev_const, ev_func, get_put, get_args, get_putL, get_putL_nil, Nat.reduceEqDiff, reduceIte, List.getD_cons_zero, List.getD_cons_succ, List.getD_nil, Bool.not_true, Bool.not_false]); first | done | with_reducible rfl)⟩) fun w1 v1 he1 hs1 ho1 => ?_
  have hlen : (List.replicate n (0 : Int)).length = n := by simp
  refine go ?_
  refine st_store_int (by ((try simp only [ev_tmp, ev_const, ev_func, get_put, get_args, get_putL, get_putL_nil, Nat.reduceEqDiff, reduceIte, List.getD_cons_zero, List.getD_cons_succ, List.getD_nil]); first | done | with_reducible rfl)) (by ((try simp only [ev_tmp, ev_const, ev_func, get_put, get_args, get_putL, get_putL_nil, Nat.reduceEqDiff, reduceIte, List.getD_cons_zero, List.getD_cons_succ, List.getD_nil]); first | done | with_reducible rfl)) ?_ (by first | exact True.intro | exact ⟨_, rfl, by ((try simp only [ev_tmp, ev_const, ev_func, get_put, get_args, get_putL, get_putL_nil, Nat.reduceEqDiff, reduceIte, List.getD_cons_zero, List.getD_cons_succ, List.getD_nil, Bool.not_true, Bool.not_false]); first | done | with_reducible rfl)⟩) fun w2 hc2 hs2 ho2 => ?_
  · omega
  refine go ?_
  exact ret1 ⟨hc2.ext he1 (Nat.le_refl _), ho2.toFr (Nat.le_refl _)⟩
end Go.Proofs.Ytflniifngfiekaa

/-
  Tables as lists of lists: what the programs keep of a table, and the canonical list out of it.
  Conditions: the tails at all levels are groups; nothing of the program stands here.
-/
namespace Go.Pc
open Grp
section
variable {p : Pr}
/-- A row of a table: the element, or nothing. -/
def rowOf (t : Tab p) (d : Nat) : List Int := match t d with | none => [] | some y => y.v
def tabL (t : Tab p) : List (List Int) := (List.range p.n).map (rowOf t)
theorem Tl.pwz [hc : ConAll p] {x : El p} {d : Nat} (hd : d ≤ p.n) (hx : Tl d x) (k : Int) : Tl d (Grp.pwz x k) := by
  unfold Grp.pwz
  split
  · exact hx.inv.pw hd _
  · exact hx.pw hd _
theorem co_pwz [hc : ConAll p] {x : El p} {d : Nat} (hd : d < p.n) (hx : Tl d x) (k : Int) : co (Grp.pwz x k) d = (k * co x d) % p.o d := by
  unfold Grp.pwz
  split
  · rename_i h
    rw [co_pw hd hx.inv, Int.toNat_of_nonneg (by omega), Int.emod_eq_emod_iff_emod_sub_eq_zero]
    have h1 := co_inv hd hx
    have e : -k * co x⁻¹ d - k * co x d = (co x⁻¹ d + co x d) * -k := by
      rw [Int.add_mul, Int.mul_comm (co x⁻¹ d), Int.mul_neg (co x d), Int.mul_comm (co x d)]; omega
    rw [e, Int.mul_emod, h1, Int.zero_mul, Int.zero_emod]
  · rw [co_pw hd hx, Int.toNat_of_nonneg (by omega)]
theorem strip_step [hc : ConAll p] {r y : El p} {d : Nat} (hd : d < p.n) (hr : Tl d r) (hy : Tl d y) (hl : co y d = 1) : Tl (d + 1) (r * Grp.pwz y (-(co r d))) := by
  have hz := hy.pwz (by omega) (-(co r d))
  refine (hr.mul (by omega) hz).succ ?_
  rw [co_at _ hd hz, co_pwz hd hy, hl, Int.mul_one, Int.add_emod_emod, Int.add_right_neg, Int.zero_emod]
end
end Go.Pc

/-
  The canonical sequence out of a full table, from the last depth to the first; the number of empty places of a table.
  Conditions: the tails at all levels are groups; nothing of the program stands here.
-/
namespace Go.Pc
open Grp
section
variable {p : Pr} [hc : ConAll p]
open Classical in
noncomputable def canT (H : El p → Prop) : Tab p := fun d => if h : ∃ x, CanAt H d x then some (Classical.choose h) else none
theorem canT_some {H : El p → Prop} {d : Nat} {x : El p} (h : canT H d = some x) : CanAt H d x := by
  unfold canT at h
  split at h
  · rename_i hx; injection h with h; subst h; exact Classical.choose_spec hx
  · cases h
theorem canT_eq {H : El p → Prop} (hH : Sub H) {d : Nat} {x : El p} (h : CanAt H d x) : canT H d = some x := by
  have he : ∃ x, CanAt H d x := ⟨x, h⟩
  unfold canT
  rw [dif_pos he, (Classical.choose_spec he).unique hH h]
theorem canF_map (H : El p → Prop) (d : Nat) : canF H d = (canT H d).map (·.v) := by
  unfold canF canT
  split <;> rfl
theorem Dep.lt {H : El p → Prop} {d : Nat} (h : Dep H d) : d < p.n := by
  obtain ⟨x, _, _, h0⟩ := h
  by_cases hd : d < p.n
  · exact hd
  · exact absurd (by unfold co; rw [List.getD_eq_getElem?_getD, List.getElem?_eq_none (by rw [x.inr.len]; omega)]; rfl) h0
theorem CanAt.lt {H : El p → Prop} {d : Nat} {x : El p} (h : CanAt H d x) : d < p.n := h.dep.lt
theorem Full.dep {t : Tab p} (hf : Full t) {d : Nat} : Dep (Gen (Ents t)) d ↔ t d ≠ none := by
  constructor
  · rintro ⟨x, h1, h2, h3⟩ e
    obtain ⟨y, hy⟩ := hf.some_of h1 h2 h3
    rw [e] at hy; cases hy
  · intro h
    cases e : t d with
    | none => exact absurd e h
    | some y => exact ⟨y, .of _ ⟨d, e⟩, hf.ok.tl d y e, by rw [hf.ok.lead d y e]; omega⟩
/-- A table from a depth on. -/
def Tab.fr (t : Tab p) (d : Nat) : Tab p := fun e => if d ≤ e then t e else none
/-- x lies in H, has depth d and leading exponent 1, and its coordinates behind d and ahead of e are zero at the depths of H. -/
structure CanTo (H : El p → Prop) (d e : Nat) (x : El p) : Prop where
  mem : H x
  tl : Tl d x
  lead : co x d = 1
  zero : ∀ k, d < k → k < e → Dep H k → co x k = 0
variable {H : El p → Prop} {d e : Nat} {x z : El p}
theorem CanTo.skip (h : CanTo H d e x) (h0 : co x e = 0 ∨ ¬ Dep H e) : CanTo H d (e + 1) x :=
  ⟨h.mem, h.tl, h.lead, fun k h1 h2 h3 => by
    by_cases ek : k = e
    · subst ek; exact h0.resolve_right fun h => h h3
    · exact h.zero k h1 (by omega) h3⟩
theorem CanTo.step (hH : Sub H) (h : CanTo H d e x) (hde : d < e) (he : e < p.n) (hz : H z) (hzt : Tl e z) (hz1 : co z e = 1) : CanTo H d (e + 1) (x * pwz z (-(co x e))) := by
  have hp := hzt.pwz (by omega) (-(co x e))
  refine ⟨hH.mul _ _ h.mem (hH.pwz hz _), h.tl.mul (by omega) (hp.mono (by omega)), ?_, fun k h1 h2 h3 => ?_⟩
  · rw [co_low _ he hp hde]; exact h.lead
  · by_cases ek : k = e
    · subst ek
      rw [co_at _ he hp, co_pwz he hzt, hz1, Int.mul_one, Int.add_emod_emod, Int.add_right_neg, Int.zero_emod]
    · rw [co_low _ he hp (by omega)]; exact h.zero k h1 (by omega) h3
theorem CanTo.can (h : CanTo H d p.n x) : CanAt H d x :=
  ⟨h.mem, h.tl, h.lead, fun e he hne => by
    by_cases h1 : e < d
    · exact h.tl e h1
    · exact h.zero e (by omega) he.lt he⟩
theorem Full.canTo {t : Tab p} (hf : Full t) {y : El p} (h : t d = some y) : CanTo (Gen (Ents t)) d (d + 1) y :=
  ⟨.of _ ⟨d, h⟩, hf.ok.tl d y h, hf.ok.lead d y h, fun k h1 h2 => by omega⟩
/-- The canonical sequence ahead of a depth. -/
noncomputable def canTo (H : El p → Prop) (d : Nat) : List (List Int) := (List.range d).filterMap (canF H)
theorem canTo_len (H : El p → Prop) (d : Nat) : (canTo H d).length ≤ d := by
  unfold canTo; exact Nat.le_trans (List.length_filterMap_le _ _) (by simp)
/-! the number of empty places -/
end
end Go.Pc

/-
  Lists of vectors that are canonical sequences of subgroups.
  Conditions: the tails at all levels are groups; nothing of the program stands here.
-/
namespace Go.Pc
open Grp
section
variable {p : Pr}
abbrev vecs (ys : List (El p)) : List (List Int) := ys.map (T.v (p := p) (i := 0))
theorem vecs_inj {ys zs : List (El p)} (h : vecs ys = vecs zs) : ys = zs :=
  (List.map_inj_right fun a b h => T.ext h).1 h
variable [hc : ConAll p]
noncomputable def canEls (H : El p → Prop) : List (El p) := (List.range p.n).filterMap (canT H)
theorem canon_vecs (H : El p → Prop) : canon H = vecs (canEls H) := by
  unfold canon canEls vecs
  rw [List.map_filterMap]
  congr 1
  funext d
  exact canF_map H d
/-- The canonical sequence from a depth on. -/
noncomputable def canElsF (H : El p → Prop) (d : Nat) : List (El p) := (List.range' d (p.n - d)).filterMap (canT H)
theorem canElsF_zero (H : El p → Prop) : canElsF H 0 = canEls H := by unfold canElsF canEls; rw [Nat.sub_zero, List.range_eq_range']
theorem canElsF_mem {H : El p → Prop} {d : Nat} {x : El p} : x ∈ canElsF H d ↔ ∃ e, d ≤ e ∧ e < p.n ∧ canT H e = some x := by
  unfold canElsF
  rw [List.mem_filterMap]
  constructor
  · rintro ⟨e, h1, h2⟩
    rw [List.mem_range'_1] at h1
    exact ⟨e, h1.1, by omega, h2⟩
  · rintro ⟨e, h1, h2, h3⟩
    exact ⟨e, List.mem_range'_1.2 ⟨h1, by omega⟩, h3⟩
theorem canElsF_len (H : El p → Prop) (d : Nat) : (canElsF H d).length ≤ p.n - d := by
  unfold canElsF; exact Nat.le_trans (List.length_filterMap_le _ _) (by simp)
/-- A canonical sequence of a subgroup. -/
def IsSeq (p : Pr) [ConAll p] (xss : List (List Int)) : Prop := ∃ ys : List (El p), xss = vecs ys ∧ canon (Gen (fun a : El p => a ∈ ys)) = xss
theorem IsSeq.len {xss : List (List Int)} (h : IsSeq p xss) : xss.length ≤ p.n := by
  obtain ⟨ys, _, h⟩ := h
  rw [← h]; exact canTo_len _ _
end
end Go.Pc

/-
  Walk: the reference's IsPresentation.
  Conditions: the presentation reads as three lists, the first of at most a million entries.
-/
namespace Go.Proofs.Ytflniifngfiekaa
open Go Go.Pc
theorem exp_iff {p : Pr} {v : List Int} {i : Nat} : ExpP p.ord v (i : Int) ↔ InR p v ∧ ZU (i + 1) v := by
  constructor
  · rintro ⟨h1, h2⟩
    refine ⟨⟨h1, fun k hk => ?_⟩, fun k hk => ?_⟩
    · have := (h2 k (by rw [h1]; exact hk)).1
      unfold Pr.o; omega
    · by_cases hl : k < v.length
      · exact (h2 k hl).2 (by omega)
      · rw [List.getD_eq_getElem?_getD, List.getElem?_eq_none (by omega)]; rfl
  · rintro ⟨h1, h2⟩
    refine ⟨h1.len, fun k hk => ⟨?_, fun h => h2 k (by omega)⟩⟩
    have := h1.rng k (by rw [← h1.len]; exact hk)
    unfold Pr.o at this; omega
/-- What is asked of one generator's row. -/
def RowOk (p : Pr) (q : Nat) : Prop := ExpP p.ord (p.pow.getD q []) q ∧ ((p.cnj.getD q []).length : Int) = p.n - 1 - q ∧ ∀ j, j < (p.cnj.getD q []).length → ExpP p.ord ((p.cnj.getD q []).getD j []) q
theorem valid_iff {p : Pr} : Valid p ↔ p.n ≤ 6 ∧ p.pow.length = p.n ∧ p.cnj.length = p.n ∧ (∀ i, i < p.n → p.ord.getD i 0 = 2 ∨ p.ord.getD i 0 = 3 ∨ p.ord.getD i 0 = 5 ∨ p.ord.getD i 0 = 7) ∧ p.ord.foldl (· * ·) 1 ≤ 729 ∧ ∀ q, q < p.n → RowOk p q := by
  constructor
  · intro h
    refine ⟨h.n6, h.lenw, h.lenc, h.prime, h.prod, fun q hq => ⟨exp_iff.2 ⟨h.w_in q hq, h.w_zu q hq⟩, ?_, fun j hj => ?_⟩⟩
    · have := h.lenci q hq; omega
    · have hl := h.lenci q hq
      have h1 := h.c_in q (q + 1 + j) (by omega) (by omega)
      have h2 := h.c_zu q (q + 1 + j) (by omega) (by omega)
      unfold Pr.c at h1 h2
      rw [show q + 1 + j - q - 1 = j by omega] at h1 h2
      exact exp_iff.2 ⟨h1, h2⟩
  · rintro ⟨h1, h2, h3, h4, h5, h6⟩
    have hc : ∀ i j, i < j → j < p.n → InR p (p.c i j) ∧ ZU (i + 1) (p.c i j) := fun i j hij hj => by
      have := h6 i (by omega)
      exact exp_iff.1 (this.2.2 (j - i - 1) (by have := this.2.1; omega))
    refine ⟨h1, h2, h3, fun i hi => by have := (h6 i hi).2.1; omega, h4, h5, fun i hi => (exp_iff.1 (h6 i hi).1).1, fun i hi => (exp_iff.1 (h6 i hi).1).2, fun i j a b => (hc i j a b).1, fun i j a b => (hc i j a b).2⟩
theorem primes_bd {p : Pr} (h4 : ∀ i, i < p.n → p.ord.getD i 0 = 2 ∨ p.ord.getD i 0 = 3 ∨ p.ord.getD i 0 = 5 ∨ p.ord.getD i 0 = 7) : ∀ o ∈ p.ord, 1 ≤ o ∧ o ≤ 7 := by
  intro o ho
  obtain ⟨i, hi, rfl⟩ := List.getElem_of_mem ho
  have := h4 i hi
  simp [List.getD_eq_getElem?_getD, hi] at this
  omega
set_option maxHeartbeats 2000000 in
theorem spec_IsPresentation_ok {w : World} {v : Value} {p : Pr} {lo hi : Nat} [hp : Pres lo hi w v p] (hl : p.ord.length ≤ 2000000) :
    Calls Try.prog 28 #[v] w (Ret fun v' w' => ∃ b, v' = .bool b ∧ (b = true ↔ Valid p) ∧ Ext w w') := by
  have hol : p.ord.length = p.n := rfl
  obtain ⟨vo, vpw, vc, ps, cs, css, rfl, h1, h2, h3⟩ := hp.ex
  refine enter (args := [.agg #[vo, vpw, vc]]) (l := [.tmp 2]) Try.func28 rfl rfl Try.ntmps28 (by simp) ?_
  refine go ?_
  refine st_box3 (by ((try simp only [ev_tmp, ev_const, ev_func, get_put, get_args, get_putL, get_putL_nil, Nat.reduceEqDiff, reduceIte, List.getD_cons_zero, List.getD_cons_succ, List.getD_nil]); first | done | with_reducible rfl)) (by first | exact True.intro | exact ⟨_, rfl, by ((try simp only [ev_tmp, ev_const, ev_func, get_put, get_args, get_putL, get_putL_nil, Nat.reduceEqDiff, reduceIte, List.getD_cons_zero, List.getD_cons_succ, List.getD_nil, Bool.not_true, Bool.not_false]); first | done | with_reducible rfl)⟩) fun w1 b he1 hb1 hs1 hc0 hc1 hc2 => ?_
  have no : ∀ {w' : World}, ¬ Valid p → Ext w w' → ∃ b, Value.bool false = .bool b ∧ (b = true ↔ Valid p) ∧ Ext w w' := fun h he => ⟨_, rfl, by simp [h], he⟩
  refine go ?_
  refine spd (fun hn => ?_) (fun hn => ?_)
  · refine go ?_
    exact ret1 (no (fun h => by have := h.n6; omega) he1)
  refine go ?_
  refine spd (fun hn2 => ?_) (fun hn2 => ?_)
  · refine go ?_
    exact ret1 (no (fun h => by have := h.lenw; omega) he1)
  refine go ?_
  refine c_if (fun hn3 => ?_) (fun hn3 => ?_)
  · refine go ?_
    exact ret1 (no (fun h => by have := h.lenc; omega) he1)
  refine go ?_
  refine r_for p.n (fun k ρ w' => Has ρ [(1, .pointer (some ⟨b, 0, none⟩)), (3, .int .i64 p.n), (4, .int .i64 k)] ∧ Ext w1 w' ∧ ∀ i, i < k → p.ord.getD i 0 = 2 ∨ p.ord.getD i 0 = 3 ∨ p.ord.getD i 0 = 5 ∨ p.ord.getD i 0 = 7) ?_ ?_
  · refine ⟨?_, Ext.refl _, fun i hi => by omega⟩
    exact hasP
  · rintro k ρ w2 hk ⟨hH, he2, hpre⟩
    refine rwp_has hH fun ρ0 => ?_
    refine go ?_
    refine c_if (fun hk1 => ?_) (fun hk1 => ?_)
    · refine go ?_
      refine rc l01Prime_ok (next := fun v3 w3 h3 => ?_)
      obtain ⟨b3, rfl, hb3, he3⟩ := h3
      refine go ?_
      refine c_b (fun h4 => ?_) (fun h4 => ?_)
      · refine go ?_
        refine ret1 (no (fun h => ?_) ((he1.trans he2).trans he3))
        have := hb3.2 (h.prime k (by omega))
        rw [this] at h4; cases h4
      · refine go ?_
        have h5 := hb3.1 (by simpa using h4)
        refine forQ_normal (by omega) ⟨?_, he2.trans he3, fun i hi => ?_⟩
        · exact hasP
        · by_cases e : i = k
          · subst e; exact h5
          · exact hpre i (by omega)
    · refine go ?_
      have hkn : k = p.n := by omega
      subst hkn
      have hbd := primes_bd hpre
      refine rc (l07Product_ok (xs := p.ord) hbd hl) (next := fun v3 w3 h3 => ?_)
      obtain ⟨rfl, he3⟩ := h3
      have hcap := capMul_foldl p.ord 1 (fun o ho => (hbd o ho).1) (by omega)
      have hcb := capMul_bd p.ord 1 hbd (by omega) (by omega)
      refine go ?_
      refine c_if (fun h4 => ?_) (fun h4 => ?_)
      · refine go ?_
        refine ret1 (no (fun h => ?_) ((he1.trans he2).trans he3))
        have := hcap.1.2 h.prod
        omega
      · have hprod := hcap.1.1 (by omega)
        have hbd' : ∀ i, i < p.ord.length → 0 ≤ p.ord.getD i 0 ∧ p.ord.getD i 0 ≤ 2000000 := fun i hi => by have := hpre i hi; omega
        clear hcap hcb
        refine go ?_
        have he13 : Ext w1 w3 := he2.trans he3
        refine r_for p.n (fun k ρ w' => Has ρ [(1, .pointer (some ⟨b, 0, none⟩)), (3, .int .i64 p.n), (5, .int .i64 k)] ∧ Ext w1 w' ∧ ∀ q, q < k → RowOk p q) ?_ ?_
        · refine ⟨?_, he13, fun i hi => by omega⟩
          exact hasP
        · clear he3 he13
          rintro k ρ w4 hk ⟨hH, he4, hrow⟩
          refine rwp_has hH fun ρ1 => ?_
          refine go ?_
          refine c_if (fun hk2 => ?_) (fun hk2 => ?_)
          · refine go ?_
            refine d_region fun w5 he5 _ => ?_
            refine dgo ?_
            refine dc (l07Exponents_ok (xs := p.pow.getD k []) hbd' hl) (next := fun v6 w6 h6 => ?_)
            obtain ⟨b6, rfl, hb6, he6⟩ := h6
            refine ⟨fun h => h.trans he6, ?_⟩
            have he16 := (he4.trans he5).trans he6
            refine da (next := ?_)
            refine da (next := ?_)
            refine dsp (fun h7 => ?_) (fun h7 => ?_)
            · refine dgo ?_
              refine d_end (h := ?_)
              refine go ?_
              refine ret1 (no (fun h => ?_) (he1.trans he16))
              have := hb6.2 ((valid_iff.1 h).2.2.2.2.2 k (by omega)).1
              rw [this] at h7; cases h7
            · have h8 := hb6.1 (by simpa using h7)
              refine dgo ?_
              refine d_end (h := ?_)
              refine go ?_
              refine c_if (fun h9 => ?_) (fun h9 => ?_)
              · refine go ?_
                refine ret1 (no (fun h => ?_) (he1.trans he16))
                have := ((valid_iff.1 h).2.2.2.2.2 k (by omega)).2.1
                omega
              · refine go ?_
                refine r_for (p.cnj.getD k []).length (fun m ρ w' => Has ρ [(1, .pointer (some ⟨b, 0, none⟩)), (3, .int .i64 p.n), (5, .int .i64 k), (6, .int .i64 m)] ∧ Ext w1 w' ∧ ∀ j, j < m → ExpP p.ord ((p.cnj.getD k []).getD j []) k) ?_ ?_
                · refine ⟨?_, he16, fun i hi => by omega⟩
                  exact hasP
                · clear he4 he5 he6 he16
                  rintro m ρ w7 hm ⟨hH, he7, hin⟩
                  refine rwp_has hH fun ρ2 => ?_
                  refine go ?_
                  refine c_if (fun hm2 => ?_) (fun hm2 => ?_)
                  · refine go ?_
                    refine d_region fun w8 he8 _ => ?_
                    refine dgo ?_
                    refine dc (l07Exponents_ok (xs := (p.cnj.getD k []).getD m []) hbd' hl) (next := fun v9 w9 h9 => ?_)
                    obtain ⟨b9, rfl, hb9, he9⟩ := h9
                    refine ⟨fun h => h.trans he9, ?_⟩
                    refine dgo ?_
                    refine d_end (h := ?_)
                    refine go ?_
                    refine c_b (fun h10 => ?_) (fun h10 => ?_)
                    · refine go ?_
                      refine ret1 (no (fun h => ?_) (he1.trans ((he7.trans he8).trans he9)))
                      have := hb9.2 (((valid_iff.1 h).2.2.2.2.2 k (by omega)).2.2 m (by omega))
                      rw [this] at h10; cases h10
                    · have h11 := hb9.1 (by simpa using h10)
                      refine go ?_
                      refine forQ_normal (by omega) ⟨?_, (he7.trans he8).trans he9, fun j hj => ?_⟩
                      · exact hasP
                      · by_cases e : j = m
                        · subst e; exact h11
                        · exact hin j (by omega)
                  · refine go ?_
                    refine forQ_normal (by omega) ⟨?_, he7, fun q hq => ?_⟩
                    · exact hasP
                    · by_cases e : q = k
                      · subst e
                        exact ⟨h8, by omega, fun j hj => hin j (by omega)⟩
                      · exact hrow q (by omega)
          · refine go ?_
            refine ret1 ⟨_, rfl, ?_, he1.trans he4⟩
            simp only [true_iff]
            exact valid_iff.2 ⟨by omega, by omega, by omega, hpre, hprod, fun q hq => hrow q (by omega)⟩
end Go.Proofs.Ytflniifngfiekaa

/-
  Walks: the reference's product by descent (l08Image, l08At).
  Conditions: the presentation is valid, the vectors are exponent vectors with zeros ahead of the level.
-/
namespace Go.Proofs.Ytflniifngfiekaa
open Go Go.Pc
def AtSpec (p : Pr) (i : Nat) : Prop := ∀ {w : World} {vp va vb : Value} {k : Int} {x y : List Int} {lo hi lo1 hi1 lo2 hi2 : Nat} [Pres lo hi w vp p] [Ints lo1 hi1 w va x] [Ints lo2 hi2 w vb y],
  k = i → InR p x → InR p y → ZU i x → ZU i y →
  Calls Try.prog 75 #[vp, .int .i64 k, va, vb] w (Ret fun v w' => Ext w w' ∧ Fr w.heap.size w' v (atv p i x y))
def ImgSpec (p : Pr) (i : Nat) : Prop := ∀ {w : World} {vp va : Value} {k : Int} {x : List Int} {lo hi lo1 hi1 : Nat} [Pres lo hi w vp p] [Ints lo1 hi1 w va x],
  k = i → InR p x →
  Calls Try.prog 74 #[vp, .int .i64 k, va] w (Ret fun v w' => Ext w w' ∧ Fr w.heap.size w' v (img p i x))
set_option maxHeartbeats 1000000 in
theorem img_of_at {p : Pr} (hv : Valid p) {i : Nat} (hi : i < p.n) (hat : AtSpec p (i + 1)) : ImgSpec p i := by
  intro w vp va k0 x lo hi' lo1 hi1 hp hx hk0 hxr
  subst hk0
  have hn6 := hv.n6
  have hol : p.ord.length = p.n := rfl
  have hcl : p.cnj.length = p.n := hv.lenc
  have hci := hv.lenci i hi
  obtain ⟨vo, vpw, vc, ps, cs, css, rfl, h1, h2, h3⟩ := hp.ex
  refine enter (args := [.agg #[vo, vpw, vc], .int .i64 i, va]) (l := [.tmp 6]) Try.func74 rfl rfl Try.ntmps74 (by simp) ?_
  refine go ?_
  refine st_box3 (by ((try simp only [ev_tmp, ev_const, ev_func, get_put, get_args, get_putL, get_putL_nil, Nat.reduceEqDiff, reduceIte, List.getD_cons_zero, List.getD_cons_succ, List.getD_nil]); first | done | with_reducible rfl)) (by first | exact True.intro | exact ⟨_, rfl, by ((try simp only [ev_tmp, ev_const, ev_func, get_put, get_args, get_putL, get_putL_nil, Nat.reduceEqDiff, reduceIte, List.getD_cons_zero, List.getD_cons_succ, List.getD_nil, Bool.not_true, Bool.not_false]); first | done | with_reducible rfl)⟩) fun w1 b he1 hb1 hs1 hc0 hc1 hc2 => ?_
  refine go ?_
  refine st_make_int (by ((try simp only [ev_tmp, ev_const, ev_func, get_put, get_args, get_putL, get_putL_nil, Nat.reduceEqDiff, reduceIte, List.getD_cons_zero, List.getD_cons_succ, List.getD_nil]); first | done | with_reducible rfl)) (by ((try simp only [ev_tmp, ev_const, ev_func, get_put, get_args, get_putL, get_putL_nil, Nat.reduceEqDiff, reduceIte, List.getD_cons_zero, List.getD_cons_succ, List.getD_nil]); first | done | with_reducible rfl)) (by omega) (by omega) (by first | exact True.intro | exact ⟨_, rfl, by ((try simp only [ev_tmp, ev_const, ev_func, get_put, get_args, get_putL, get_putL_nil, Nat.reduceEqDiff, reduceIte, List.getD_cons_zero, List.getD_cons_succ, List.getD_nil, Bool.not_true, Bool.not_false]); first | done | with_reducible rfl)⟩) fun w2 v2 he2 hs2 ho2 => ?_
  have hz : Fr w.heap.size w2 v2 (zeros p.n) := ho2.toFr (by omega)
  refine go ?_
  refine r_for (p.n - (i + 1)) (fun k ρ w' => ∃ vo', Has ρ [(1, .int .i64 i), (2, va), (3, .pointer (some ⟨b, 0, none⟩)), (7, .int .i64 p.n), (8, vo'), (9, .int .i64 (i + 1 + k : Nat))] ∧ Ext w1 w' ∧ Fr w.heap.size w' vo' (imgTo p i x k)) ?_ ?_
  · refine ⟨v2, ?_, he2, hz⟩
    exact hasP
  · rintro k ρ w3 hk ⟨vo', hH, he3, hf3⟩
    refine rwp_has hH fun ρ0 => ?_
    refine go ?_
    refine c_if (fun h4 => ?_) (fun h4 => ?_)
    · refine go ?_
      have hxj := hxr.rng (i + 1 + k) (by omega)
      have hoj := hv.opos (i := i + 1 + k) (by omega)
      have hxl := hxr.len
      refine r_for (x.getD (i + 1 + k) 0).toNat (fun q ρ w' => ∃ vo', Has ρ [(1, .int .i64 i), (2, va), (3, .pointer (some ⟨b, 0, none⟩)), (7, .int .i64 p.n), (8, vo'), (9, .int .i64 (i + 1 + k : Nat)), (10, .int .i64 q)] ∧ Ext w1 w' ∧
        Fr w.heap.size w' vo' (rep q (fun o => atv p (i + 1) o (p.c i (i + 1 + k))) (imgTo p i x k))) ?_ ?_
      · refine ⟨vo', ?_, he3, hf3⟩
        exact hasP
      · rintro q ρ w4 hq ⟨vo2, hH2, he4, hf4⟩
        refine rwp_has hH2 fun ρ1 => ?_
        refine go ?_
        refine c_if (fun h5 => ?_) (fun h5 => ?_)
        · refine go ?_
          refine d_region fun w5 he5 _ => ?_
          refine dgo ?_
          have hin := rep_inv (fun v => InR p v ∧ ZU (i + 1) v) (f := fun o => atv p (i + 1) o (p.c i (i + 1 + k))) (fun o ho => atv_in hv _ _ rfl _ _ ho.1 (hv.c_in _ _ (by omega) (by omega)) ho.2 (hv.c_zu _ _ (by omega) (by omega))) (imgTo_in hv (atv_in hv _ (i + 1) rfl) x k hk) q
          have hcin : InR p (p.c i (i + 1 + k)) := hv.c_in _ _ (by omega) (by omega)
          have hczu : ZU (i + 1) (p.c i (i + 1 + k)) := hv.c_zu _ _ (by omega) (by omega)
          refine dc (hat ?_ hin.1 hcin hin.2 hczu) (next := fun v6 w6 ⟨he6, hf6⟩ => ⟨fun h => h.trans he6, ?_⟩)
          · omega
          refine dgo ?_
          refine d_end (h := ?_)
          refine go ?_
          refine forQ_normal (by omega) ⟨v6, ?_, (he4.trans he5).trans he6, hf6.mono ?_⟩
          · exact hasP
          · have := he4.size; have := he5.size; omega
        · refine go ?_
          refine forQ_normal (by omega) ⟨vo2, ?_, he4, ?_⟩
          · exact hasP
          · rw [imgTo_succ]
            have : q = (x.getD (i + 1 + k) 0).toNat := by omega
            rw [← this]; exact hf4
    · refine go ?_
      have : k = p.n - (i + 1) := by omega
      subst this
      exact ret1 ⟨he1.trans he3, hf3⟩
set_option maxHeartbeats 2000000 in
theorem at_of_img {p : Pr} (hv : Valid p) {i : Nat} (himg : i < p.n → ImgSpec p i) (hat : i < p.n → AtSpec p (i + 1)) : AtSpec p i := by
  intro w vp va vb k0 x y lo hi lo1 hi1 lo2 hi2 hp hx hy hk0 hxr hyr zx zy
  subst hk0
  have hn6 := hv.n6
  have hol : p.ord.length = p.n := rfl
  have hwl : p.pow.length = p.n := hv.lenw
  replace hp := hp.wide
  replace hx := hx.wide
  replace hy := hy.wide
  obtain ⟨vo, vpw, vc, ps, cs, css, rfl, h1, h2, h3⟩ := hp.ex
  refine enter (args := [.agg #[vo, vpw, vc], .int .i64 i, va, vb]) (l := [.tmp 8]) Try.func75 rfl rfl Try.ntmps75 (by simp) ?_
  refine go ?_
  refine st_box3 (by ((try simp only [ev_tmp, ev_const, ev_func, get_put, get_args, get_putL, get_putL_nil, Nat.reduceEqDiff, reduceIte, List.getD_cons_zero, List.getD_cons_succ, List.getD_nil]); first | done | with_reducible rfl)) (by first | exact True.intro | exact ⟨_, rfl, by ((try simp only [ev_tmp, ev_const, ev_func, get_put, get_args, get_putL, get_putL_nil, Nat.reduceEqDiff, reduceIte, List.getD_cons_zero, List.getD_cons_succ, List.getD_nil, Bool.not_true, Bool.not_false]); first | done | with_reducible rfl)⟩) fun w1 b he1 hb1 hs1 hc0 hc1 hc2 => ?_
  refine go ?_
  refine c_if (fun h4 => ?_) (fun h4 => ?_)
  · refine go ?_
    refine st_make_int (by ((try simp only [ev_tmp, ev_const, ev_func, get_put, get_args, get_putL, get_putL_nil, Nat.reduceEqDiff, reduceIte, List.getD_cons_zero, List.getD_cons_succ, List.getD_nil]); first | done | with_reducible rfl)) (by ((try simp only [ev_tmp, ev_const, ev_func, get_put, get_args, get_putL, get_putL_nil, Nat.reduceEqDiff, reduceIte, List.getD_cons_zero, List.getD_cons_succ, List.getD_nil]); first | done | with_reducible rfl)) (by omega) (by omega) (by first | exact True.intro | exact ⟨_, rfl, by ((try simp only [ev_tmp, ev_const, ev_func, get_put, get_args, get_putL, get_putL_nil, Nat.reduceEqDiff, reduceIte, List.getD_cons_zero, List.getD_cons_succ, List.getD_nil, Bool.not_true, Bool.not_false]); first | done | with_reducible rfl)⟩) fun w2 v2 he2 hs2 ho2 => ?_
    refine go ?_
    refine ret1 ⟨he1.trans he2, ?_⟩
    rw [atv_end _ _ _ _ (by omega)]
    exact ho2.toFr (by omega)
  · have hin : i < p.n := by omega
    have hxl := hxr.len
    have hyl := hyr.len
    have hxi := hxr.rng i hin
    have hyi := hyr.rng i hin
    have hoi := hv.opos hin
    refine go ?_
    refine rc (l01Own_ok (xs := x) (by omega)) (next := fun v2 w2 ⟨he2, hf2⟩ => ?_)
    refine go ?_
    refine rc (l01Own_ok (xs := y) (by omega)) (next := fun v3 w3 ⟨he3, hf3⟩ => ?_)
    refine go ?_
    obtain ⟨e2, b2, hb2, ho2⟩ := hf2.own (by intro e; rw [e] at hxl; simp at hxl; omega)
    obtain ⟨e3, b3, hb3, ho3⟩ := hf3.own (by intro e; rw [e] at hyl; simp at hyl; omega)
    have hl2 := ho2.lt
    have hl3 := ho3.lt
    have hz1 := he1.size
    have hz2 := he2.size
    have hz3 := he3.size
    have ap1 : Apart 0 w.heap.size b2 := ⟨.inr (by omega)⟩
    have ap2 : Apart 0 w.heap.size b3 := ⟨.inr (by omega)⟩
    have ap3 : Apart b (b + 1) b2 := ⟨.inr (by omega)⟩
    have ap4 : Apart b (b + 1) b3 := ⟨.inr (by omega)⟩
    have ho2' : OwnI e2 b2 w3 v2 x := OwnI.ext (h := ho2)
    clear hf2 hf3 ho2
    refine st_store_int (by ((try simp only [ev_tmp, ev_const, ev_func, get_put, get_args, get_putL, get_putL_nil, Nat.reduceEqDiff, reduceIte, List.getD_cons_zero, List.getD_cons_succ, List.getD_nil]); first | done | with_reducible rfl)) (by ((try simp only [ev_tmp, ev_const, ev_func, get_put, get_args, get_putL, get_putL_nil, Nat.reduceEqDiff, reduceIte, List.getD_cons_zero, List.getD_cons_succ, List.getD_nil]); first | done | with_reducible rfl)) ?_ (by first | exact True.intro | exact ⟨_, rfl, by ((try simp only [ev_tmp, ev_const, ev_func, get_put, get_args, get_putL, get_putL_nil, Nat.reduceEqDiff, reduceIte, List.getD_cons_zero, List.getD_cons_succ, List.getD_nil, Bool.not_true, Bool.not_false]); first | done | with_reducible rfl)⟩) fun w4 hc4 hs4 ho4 => ?_
    · omega
    have ho3' := ho3.chg' hc4 (by omega)
    refine go ?_
    refine st_store_int (by ((try simp only [ev_tmp, ev_const, ev_func, get_put, get_args, get_putL, get_putL_nil, Nat.reduceEqDiff, reduceIte, List.getD_cons_zero, List.getD_cons_succ, List.getD_nil]); first | done | with_reducible rfl)) (by ((try simp only [ev_tmp, ev_const, ev_func, get_put, get_args, get_putL, get_putL_nil, Nat.reduceEqDiff, reduceIte, List.getD_cons_zero, List.getD_cons_succ, List.getD_nil]); first | done | with_reducible rfl)) ?_ (by first | exact True.intro | exact ⟨_, rfl, by ((try simp only [ev_tmp, ev_const, ev_func, get_put, get_args, get_putL, get_putL_nil, Nat.reduceEqDiff, reduceIte, List.getD_cons_zero, List.getD_cons_succ, List.getD_nil, Bool.not_true, Bool.not_false]); first | done | with_reducible rfl)⟩) fun w5 hc5 hs5 ho5 => ?_
    · omega
    have ho4' := ho4.chg' hc5 (by omega)
    have hE5 : Ext w w5 := hc5.ext (hc4.ext ((he1.trans he2).trans he3) (by omega)) (by omega)
    clear ho2' ho3' ho3 ho4
    refine go ?_
    have hx0 : InR p (x.set i 0) ∧ ZU (i + 1) (x.set i 0) := ⟨hxr.set (by omega) (fun _ => by omega), zx.set0⟩
    have hy0 : InR p (y.set i 0) ∧ ZU (i + 1) (y.set i 0) := ⟨hyr.set (by omega) (fun _ => by omega), zy.set0⟩
    have hrin : ∀ q, InR p (rep q (img p i) (x.set i 0)) ∧ ZU (i + 1) (rep q (img p i) (x.set i 0)) := fun q => rep_inv (fun v => InR p v ∧ ZU (i + 1) v) (fun u _ => img_in hv i u) hx0 q
    refine r_for (y.getD i 0).toNat (fun q ρ w' => ∃ vl lo hi, Has ρ [(1, .int .i64 i), (2, va), (3, vb), (4, .pointer (some ⟨b, 0, none⟩)), (9, .int .i64 p.n), (10, vl), (11, v3), (12, .int .i64 q)] ∧ Ext w5 w' ∧ Ints lo hi w' vl (rep q (img p i) (x.set i 0))) ?_ ?_
    · refine ⟨v2, _, _, ?_, Ext.refl _, inferInstance⟩
      exact hasP
    · rintro q ρ w6 hq ⟨vl, lo', hi', hH, he6, hl6⟩
      refine rwp_has hH fun ρ0 => ?_
      refine go ?_
      refine c_if (fun h7 => ?_) (fun h7 => ?_)
      · refine go ?_
        refine rc (himg hin ?_ (hrin q).1) (next := fun v7 w7 ⟨he7, hf7⟩ => ?_)
        · omega
        refine go ?_
        refine forQ_normal (by omega) ⟨v7, _, _, ?_, he6.trans he7, inferInstance⟩
        exact hasP
      · have hqe : q = (y.getD i 0).toNat := by omega
        refine go ?_
        have hrr := hrin q
        refine rc (hat hin ?_ hrr.1 hy0.1 hrr.2 hy0.2) (next := fun v7 w7 ⟨he7, hf7⟩ => ?_)
        · omega
        refine go ?_
        refine d_region fun w8 he8 _ => ?_
        refine dgo ?_
        refine d_end (h := ?_)
        have hE8 := (he6.trans he7).trans he8
        have hz8 := hE8.size
        have hor : p.ord.getD i 0 = p.o i := rfl
        have hat7 := atv_in hv _ (i + 1) rfl _ _ hrr.1 hy0.1 hrr.2 hy0.2
        have hwi := hv.w_in i hin
        have hwz := hv.w_zu i hin
        have hveq := atv_eq p i x y hin
        rw [← hqe] at hveq
        have hlen7 := hat7.1.len
        clear hl6 ho5 ho4'
        refine go ?_
        refine c_if (fun h9 => ?_) (fun h9 => ?_)
        · have h9' : p.o i ≤ x.getD i 0 + y.getD i 0 := h9
          rw [if_pos h9'] at hveq
          refine go ?_
          refine d_region fun w9 he9 _ => ?_
          refine dgo ?_
          refine dc (hat hin (x := p.w i) (y := atv p (i + 1) (rep q (img p i) (x.set i 0)) (y.set i 0)) ?_ hwi hat7.1 hwz hat7.2) (next := fun v10 w10 ⟨he10, hf10⟩ => ⟨fun h => h.trans he10, ?_⟩)
          · omega
          refine dgo ?_
          refine d_end (h := ?_)
          have hat10 := atv_in hv _ (i + 1) rfl _ _ hwi hat7.1 hwz hat7.2
          have hlen10 := hat10.1.len
          refine go ?_
          refine rc (l01Own_ok (xs := atv p (i + 1) (p.w i) (atv p (i + 1) (rep q (img p i) (x.set i 0)) (y.set i 0))) (by omega)) (next := fun v11 w11 ⟨he11, hf11⟩ => ?_)
          refine go ?_
          obtain ⟨e11, b11, hb11, ho11⟩ := hf11.own (by intro e; rw [e] at hlen10; simp at hlen10; omega)
          clear hf11
          refine st_store_int (by ((try simp only [ev_tmp, ev_const, ev_func, get_put, get_args, get_putL, get_putL_nil, Nat.reduceEqDiff, reduceIte, List.getD_cons_zero, List.getD_cons_succ, List.getD_nil]); first | done | with_reducible rfl)) (by ((try simp only [ev_tmp, ev_const, ev_func, get_put, get_args, get_putL, get_putL_nil, Nat.reduceEqDiff, reduceIte, List.getD_cons_zero, List.getD_cons_succ, List.getD_nil]); first | done | with_reducible rfl)) ?_ (by first | exact True.intro | exact ⟨_, rfl, by ((try simp only [ev_tmp, ev_const, ev_func, get_put, get_args, get_putL, get_putL_nil, Nat.reduceEqDiff, reduceIte, List.getD_cons_zero, List.getD_cons_succ, List.getD_nil, Bool.not_true, Bool.not_false]); first | done | with_reducible rfl)⟩) fun w12 hc12 hs12 ho12 => ?_
          · omega
          refine go ?_
          have h9s := he9.size
          have h10s := he10.size
          refine ret1 ⟨hc12.ext ((((hE5.trans hE8).trans he9).trans he10).trans he11) (by omega), ?_⟩
          rw [hveq]
          exact ho12.toFr (by omega)
        · have h9' : ¬ p.o i ≤ x.getD i 0 + y.getD i 0 := h9
          rw [if_neg h9'] at hveq
          refine go ?_
          refine rc (l01Own_ok (xs := atv p (i + 1) (rep q (img p i) (x.set i 0)) (y.set i 0)) (by omega)) (next := fun v11 w11 ⟨he11, hf11⟩ => ?_)
          refine go ?_
          obtain ⟨e11, b11, hb11, ho11⟩ := hf11.own (by intro e; rw [e] at hlen7; simp at hlen7; omega)
          clear hf11
          refine st_store_int (by ((try simp only [ev_tmp, ev_const, ev_func, get_put, get_args, get_putL, get_putL_nil, Nat.reduceEqDiff, reduceIte, List.getD_cons_zero, List.getD_cons_succ, List.getD_nil]); first | done | with_reducible rfl)) (by ((try simp only [ev_tmp, ev_const, ev_func, get_put, get_args, get_putL, get_putL_nil, Nat.reduceEqDiff, reduceIte, List.getD_cons_zero, List.getD_cons_succ, List.getD_nil]); first | done | with_reducible rfl)) ?_ (by first | exact True.intro | exact ⟨_, rfl, by ((try simp only [ev_tmp, ev_const, ev_func, get_put, get_args, get_putL, get_putL_nil, Nat.reduceEqDiff, reduceIte, List.getD_cons_zero, List.getD_cons_succ, List.getD_nil, Bool.not_true, Bool.not_false]); first | done | with_reducible rfl)⟩) fun w12 hc12 hs12 ho12 => ?_
          · omega
          refine go ?_
          refine ret1 ⟨hc12.ext ((hE5.trans hE8).trans he11) (by omega), ?_⟩
          rw [hveq]
          exact ho12.toFr (by omega)
theorem at_ok {p : Pr} (hv : Valid p) : ∀ (m i : Nat), p.n - i = m → AtSpec p i
  | 0, i, hm => at_of_img hv (fun h => by omega) (fun h => by omega)
  | m + 1, i, hm => at_of_img hv (fun h => img_of_at hv h (at_ok hv m (i + 1) (by omega))) (fun _ => at_ok hv m (i + 1) (by omega))
theorem l08At_ok {p : Pr} (hv : Valid p) (i : Nat) : AtSpec p i := at_ok hv _ i rfl
theorem l08Image_ok {p : Pr} (hv : Valid p) {i : Nat} (hi : i < p.n) : ImgSpec p i := img_of_at hv hi (l08At_ok hv (i + 1))
end Go.Proofs.Ytflniifngfiekaa

/-
  Walks: the reference's powers and the conditions of a level (l08Repeat, l08Level).
  Conditions: the presentation is valid and its tail behind the level is a group.
-/
namespace Go.Proofs.Ytflniifngfiekaa
open Go Go.Pc
/-- Of whatever footprint. -/
def IntsE (w : World) (v : Value) (xs : List Int) : Prop := ∃ lo hi, Ints lo hi w v xs
theorem IntsE.of {lo hi : Nat} {w : World} {v : Value} {xs : List Int} [h : Ints lo hi w v xs] : IntsE w v xs := ⟨lo, hi, h⟩
theorem l08AtT_ok {p : Pr} {i : Nat} [hc : Con p i] {w : World} {vp va vb : Value} {k : Int} {x y : T p i} {lo hi lo1 hi1 lo2 hi2 : Nat} [hp : Pres lo hi w vp p] [hx : Ints lo1 hi1 w va x.v] [hy : Ints lo2 hi2 w vb y.v] (hk : k = i) :
    Calls Try.prog 75 #[vp, .int .i64 k, va, vb] w (Ret fun v w' => Ext w w' ∧ Fr w.heap.size w' v (x * y).v) :=
  l08At_ok hc.valid i hk x.inr y.inr x.zu y.zu
set_option maxHeartbeats 1000000 in
theorem l08Repeat_ok {p : Pr} {i : Nat} [hc : Con p i] {w : World} {vp vx : Value} {ki k : Int} {x : T p i} {xs : List Int} {lo hi lo1 hi1 : Nat} [hp : Pres lo hi w vp p] [hx : Ints lo1 hi1 w vx xs] (hxe : xs = x.v) (hki : ki = i) (hk0 : 0 ≤ k) (hk1 : k ≤ 9223372036854775807) :
    Calls Try.prog 72 #[vp, .int .i64 ki, vx, .int .i64 k] w (Ret fun v w' => Ext w w' ∧ Fr w.heap.size w' v (Grp.pw x k.toNat).v) := by
  subst hki hxe
  have hv := hc.valid
  have hn6 := hv.n6
  have hol : p.ord.length = p.n := rfl
  obtain ⟨vo, vpw, vc, ps, cs, css, rfl, h1, h2, h3⟩ := hp.ex
  refine enter (args := [.agg #[vo, vpw, vc], .int .i64 i, vx, .int .i64 k]) (l := [.tmp 8]) Try.func72 rfl rfl Try.ntmps72 (by simp) ?_
  refine go ?_
  refine st_box3 (by ((try simp only [ev_tmp, ev_const, ev_func, get_put, get_args, get_putL, get_putL_nil, Nat.reduceEqDiff, reduceIte, List.getD_cons_zero, List.getD_cons_succ, List.getD_nil]); first | done | with_reducible rfl)) (by first | exact True.intro | exact ⟨_, rfl, by ((try simp only [ev_tmp, ev_const, ev_func, get_put, get_args, get_putL, get_putL_nil, Nat.reduceEqDiff, reduceIte, List.getD_cons_zero, List.getD_cons_succ, List.getD_nil, Bool.not_true, Bool.not_false]); first | done | with_reducible rfl)⟩) fun w1 b he1 hb1 hs1 hc0 hc1 hc2 => ?_
  refine go ?_
  refine st_make_int (by ((try simp only [ev_tmp, ev_const, ev_func, get_put, get_args, get_putL, get_putL_nil, Nat.reduceEqDiff, reduceIte, List.getD_cons_zero, List.getD_cons_succ, List.getD_nil]); first | done | with_reducible rfl)) (by ((try simp only [ev_tmp, ev_const, ev_func, get_put, get_args, get_putL, get_putL_nil, Nat.reduceEqDiff, reduceIte, List.getD_cons_zero, List.getD_cons_succ, List.getD_nil]); first | done | with_reducible rfl)) (by omega) (by omega) (by first | exact True.intro | exact ⟨_, rfl, by ((try simp only [ev_tmp, ev_const, ev_func, get_put, get_args, get_putL, get_putL_nil, Nat.reduceEqDiff, reduceIte, List.getD_cons_zero, List.getD_cons_succ, List.getD_nil, Bool.not_true, Bool.not_false]); first | done | with_reducible rfl)⟩) fun w2 v2 he2 hs2 ho2 => ?_
  refine go ?_
  refine r_loop (fun m ρ w' => ∃ (vo' vb' : Value) (a c : Nat), Has ρ [(1, .int .i64 i), (3, .int .i64 m), (4, .pointer (some ⟨b, 0, none⟩)), (9, vo'), (10, vb')] ∧ Ext w1 w' ∧ (m : Int) ≤ k ∧ a + c * m = k.toNat ∧
    Fr w.heap.size w' vo' (Grp.pw x a).v ∧ IntsE w' vb' (Grp.pw x c).v) k.toNat ?_ ?_
  · refine ⟨v2, vx, 0, 1, ?_, he2, by omega, by omega, ho2.toFr (by omega), ?_⟩
    · exact hasP
    · rw [Grp.pw_one]; exact IntsE.of
  · rintro m ρ w3 ⟨vo', vb', a, c, hH, he3, hm, hac, hf3, lo2, hi2, hi3⟩
    refine rwp_has hH fun ρ0 => ?_
    refine go ?_
    refine c_if (fun h4 => ?_) (fun h4 => ?_)
    · have hz := he1.size
      have hz3 := he3.size
      have hdiv : m = 2 * (m / 2) + m % 2 := by omega
      have hcm : c * m = (c + c) * (m / 2) + c * (m % 2) := by
        conv => lhs; rw [hdiv]
        rw [Nat.mul_add, ← Nat.mul_assoc, Nat.mul_two]
      refine go ?_
      refine c_if (fun h5 => ?_) (fun h5 => ?_)
      · refine go ?_
        refine rc (l08AtT_ok (x := Grp.pw x a) (y := Grp.pw x c) ?_) (next := fun v4 w4 h6 => ?_)
        · rfl
        obtain ⟨he4, hf4⟩ := h6
        refine go ?_
        refine rc (l08AtT_ok (x := Grp.pw x c) (y := Grp.pw x c) ?_) (next := fun v5 w5 h6 => ?_)
        · rfl
        obtain ⟨he5, hf5⟩ := h6
        refine go ?_
        have hm2 : m % 2 = 1 := by omega
        rw [hm2, Nat.mul_one] at hcm
        refine loopQ_normal (m := m / 2) (by omega) ⟨v4, v5, a + c, c + c, ?_, (he3.trans he4).trans he5, by omega, by omega, ?_, ?_⟩
        rotate_left
        · rw [Grp.pw_add]; exact (hf4.mono (by omega)).ext' he5
        · rw [Grp.pw_add]; exact IntsE.of (h := hf5.ints)
        · exact hasP
      · refine go ?_
        refine rc (l08AtT_ok (x := Grp.pw x c) (y := Grp.pw x c) ?_) (next := fun v5 w5 h6 => ?_)
        · rfl
        obtain ⟨he5, hf5⟩ := h6
        refine go ?_
        have hm2 : m % 2 = 0 := by omega
        rw [hm2, Nat.mul_zero] at hcm
        refine loopQ_normal (m := m / 2) (by omega) ⟨vo', v5, a, c + c, ?_, he3.trans he5, by omega, by omega, hf3.ext' he5, ?_⟩
        rotate_left
        · rw [Grp.pw_add]; exact IntsE.of (h := hf5.ints)
        · exact hasP
    · refine go ?_
      have hm0 : m = 0 := by omega
      subst hm0
      refine ret1 ⟨he1.trans he3, ?_⟩
      have : a = k.toNat := by omega
      rw [← this]; exact hf3
end Go.Proofs.Ytflniifngfiekaa

/-
  Walk: the reference's look at one level (l08Level).
  Conditions: the presentation is valid, the tail behind the level is a group.
-/
namespace Go.Proofs.Ytflniifngfiekaa
open Go Go.Pc
@[reducible] def faultV (k l f s : Int) : Value := .agg #[.int .i64 k, .int .i64 l, .int .i64 f, .int .i64 s]
/-- The conditions of a level, one generator (or pair) at a time. -/
def LP (p : Pr) (i : Nat) [h : Con p (i + 1)] (j : Nat) : Prop := ∀ hj : i < j ∧ j < p.n, (Grp.pw (Tc h.valid hj) (p.o j).toNat).v = img p i (p.w j)
def LC (p : Pr) (i : Nat) (j k : Nat) : Prop := i < j → j < k → k < p.n → atv p (i + 1) (p.c i k) (p.c i j) = atv p (i + 1) (p.c i j) (img p i (p.c j k))
def LI (p : Pr) (i : Nat) (j : Nat) : Prop := i + 1 ≤ j → j < p.n → atv p (i + 1) (p.w i) (rep (p.o i).toNat (img p i) (unitv p j 1)) = atv p (i + 1) (unitv p j 1) (p.w i)
theorem rep_Timg {p : Pr} {i : Nat} (hv : Valid p) (q : Nat) (u : T p (i + 1)) : (rep q (Timg hv) u).v = rep q (img p i) u.v := by
  induction q with
  | zero => rfl
  | succ q ih => rw [rep_succ, rep_succ, ← ih]; rfl
theorem chk_iff {p : Pr} {i : Nat} [h : Con p (i + 1)] (hi : i < p.n) : Chk p i hi ↔ (∀ j, LP p i j) ∧ (∀ j k, LC p i j k) ∧ img p i (p.w i) = p.w i ∧ ∀ j, LI p i j := by
  constructor
  · intro hc
    refine ⟨fun j hj => congrArg T.v (hc.P j hj), fun j k hj hjk hk => ?_, congrArg T.v hc.F, fun j hj hjn => ?_⟩
    · have h2 := congrArg (Tc h.valid (i := i) (j := j) ⟨hj, by omega⟩ * ·) (hc.C j k ⟨hj, by omega⟩ ⟨by omega, hk⟩ hjk)
      simp only [Grp.mul_cj] at h2
      exact congrArg T.v h2
    · have := hc.I j ⟨hj, hjn⟩
      have h2 : Tw h.valid hi * rep (p.o i).toNat (Timg h.valid) (gen h.valid (i + 1) j ⟨hj, hjn⟩) = gen h.valid (i + 1) j ⟨hj, hjn⟩ * Tw h.valid hi := by rw [this, Grp.mul_cj]
      have h3 := congrArg T.v h2
      rw [T.mul_val, rep_Timg, T.mul_val] at h3
      exact h3
  · rintro ⟨h1, h2, h3, h4⟩
    refine ⟨fun j hj => T.ext (h1 j hj), fun j k hj hk hjk => ?_, T.ext h3, fun j hj => ?_⟩
    · apply Grp.mul_left_cancel (a := Tc h.valid hj)
      rw [Grp.mul_cj]
      exact T.ext (h2 j k hj.1 hjk hk.2)
    · apply Grp.mul_left_cancel (a := Tw h.valid hi)
      rw [Grp.mul_cj]
      apply T.ext
      rw [T.mul_val, rep_Timg, T.mul_val]
      exact h4 j hj.1 hj.2
/-- Which fault of a level is the first. -/
inductive Flt (p : Pr) (i : Nat) [Con p (i + 1)] (hi : i < p.n) : Int → Int → Int → Prop
  | power (j : Nat) (hj : i < j ∧ j < p.n) (h : ∀ j', j' < j → LP p i j') (n : ¬ LP p i j) : Flt p i hi 1 j 0
  | conj (j k : Nat) (hj : i < j) (hjk : j < k) (hk : k < p.n) (hP : ∀ j, LP p i j) (h : ∀ j' k', j' < j → LC p i j' k') (h2 : ∀ k', k' < k → LC p i j k') (n : ¬ LC p i j k) : Flt p i hi 2 j k
  | fixed (hP : ∀ j, LP p i j) (hC : ∀ j k, LC p i j k) (n : ¬ img p i (p.w i) = p.w i) : Flt p i hi 3 0 0
  | inner (j : Nat) (hj : i + 1 ≤ j ∧ j < p.n) (hP : ∀ j, LP p i j) (hC : ∀ j k, LC p i j k) (hF : img p i (p.w i) = p.w i) (h : ∀ j', j' < j → LI p i j') (n : ¬ LI p i j) : Flt p i hi 4 j 0
  | none (h : Chk p i hi) : Flt p i hi 0 0 0
theorem Flt.zero {p : Pr} {i : Nat} [Con p (i + 1)] {hi : i < p.n} {k f s : Int} (h : Flt p i hi k f s) : k = 0 ↔ Chk p i hi := by
  cases h with
  | power j hj h n => exact ⟨fun e => by omega, fun c => absurd (((chk_iff hi).1 c).1 j) n⟩
  | conj j k hj hjk hk hP h h2 n => exact ⟨fun e => by omega, fun c => absurd (((chk_iff hi).1 c).2.1 j k) n⟩
  | fixed hP hC n => exact ⟨fun e => by omega, fun c => absurd (((chk_iff hi).1 c).2.2.1) n⟩
  | inner j hj hP hC hF h n => exact ⟨fun e => by omega, fun c => absurd (((chk_iff hi).1 c).2.2.2 j) n⟩
  | none h => exact ⟨fun _ => h, fun _ => rfl⟩
theorem Flt.uniq {p : Pr} {i : Nat} [Con p (i + 1)] {hi : i < p.n} {k f s k' f' s' : Int} (h : Flt p i hi k f s) (h' : Flt p i hi k' f' s') : k = k' ∧ f = f' ∧ s = s' := by
  cases h with
  | none h => cases h' with
    | none h' => exact ⟨rfl, rfl, rfl⟩
    | power j' hj' g n' => exact absurd (((chk_iff hi).1 h).1 j') n'
    | conj j' k' a b c hP g g2 n' => exact absurd (((chk_iff hi).1 h).2.1 j' k') n'
    | fixed hP hC n' => exact absurd (((chk_iff hi).1 h).2.2.1) n'
    | inner j' hj' hP hC hF g n' => exact absurd (((chk_iff hi).1 h).2.2.2 j') n'
  | power j hj h n => cases h' with
    | none h' => exact absurd (((chk_iff hi).1 h').1 j) n
    | power j' hj' g n' =>
      have : j = j' := by
        rcases Nat.lt_trichotomy j j' with e | e | e
        · exact absurd (g j e) n
        · exact e
        · exact absurd (h j' e) n'
      subst this; exact ⟨rfl, rfl, rfl⟩
    | conj j' k' a b c hP g g2 n' => exact absurd (hP j) n
    | fixed hP hC n' => exact absurd (hP j) n
    | inner j' hj' hP hC hF g n' => exact absurd (hP j) n
  | conj j k hj hjk hk hP h h2 n => cases h' with
    | none h' => exact absurd (((chk_iff hi).1 h').2.1 j k) n
    | power j' hj' g n' => exact absurd (hP j') n'
    | conj j' k' a b c hP g g2 n' =>
      have : j = j' := by
        rcases Nat.lt_trichotomy j j' with e | e | e
        · exact absurd (g j k e) n
        · exact e
        · exact absurd (h j' k' e) n'
      subst this
      have : k = k' := by
        rcases Nat.lt_trichotomy k k' with e | e | e
        · exact absurd (g2 k e) n
        · exact e
        · exact absurd (h2 k' e) n'
      subst this; exact ⟨rfl, rfl, rfl⟩
    | fixed hP hC n' => exact absurd (hC j k) n
    | inner j' hj' hP hC hF g n' => exact absurd (hC j k) n
  | fixed hP hC n => cases h' with
    | none h' => exact absurd (((chk_iff hi).1 h').2.2.1) n
    | power j' hj' g n' => exact absurd (hP j') n'
    | conj j' k' a b c hP' g g2 n' => exact absurd (hC j' k') n'
    | fixed hP hC n' => exact ⟨rfl, rfl, rfl⟩
    | inner j' hj' hP hC hF g n' => exact absurd hF n
  | inner j hj hP hC hF h n => cases h' with
    | none h' => exact absurd (((chk_iff hi).1 h').2.2.2 j) n
    | power j' hj' g n' => exact absurd (hP j') n'
    | conj j' k' a b c hP' g g2 n' => exact absurd (hC j' k') n'
    | fixed hP hC n' => exact absurd hF n'
    | inner j' hj' hP hC hF g n' =>
      have : j = j' := by
        rcases Nat.lt_trichotomy j j' with e | e | e
        · exact absurd (g j e) n
        · exact e
        · exact absurd (h j' e) n'
      subst this; exact ⟨rfl, rfl, rfl⟩
set_option maxHeartbeats 4000000 in
theorem l08Level_ok {p : Pr} {i : Nat} [hc : Con p (i + 1)] (hi : i < p.n) {w : World} {vp : Value} {ki : Int} {lo hi' : Nat} [hp : Pres lo hi' w vp p] (hki : ki = i) :
    Calls Try.prog 62 #[vp, .int .i64 ki] w (Ret fun v w' => ∃ k l f s : Int, v = faultV k l f s ∧ (k = 0 ↔ Chk p i hi) ∧ (k ≠ 0 → l = i) ∧ (k = 0 → l = 0 ∧ f = 0 ∧ s = 0) ∧ Ext w w' ∧ Flt p i hi k f s) := by
  subst hki
  have hv := hc.valid
  have hn6 := hv.n6
  have hol : p.ord.length = p.n := rfl
  have hwl : p.pow.length = p.n := hv.lenw
  have hcl : p.cnj.length = p.n := hv.lenc
  have hci : (p.cnj.getD i []).length = p.n - 1 - i := hv.lenci i hi
  have hoi := hv.opos hi
  have hoe : p.o i = p.ord.getD i 0 := rfl
  obtain ⟨vo, vpw, vc, ps, cs, css, rfl, h1, h2, h3⟩ := hp.ex
  refine enter (args := [.agg #[vo, vpw, vc], .int .i64 i]) (l := [.cell 4 75]) Try.func62 rfl rfl Try.ntmps62 (by simp) ?_
  refine go ?_
  refine st_box3 (by ((try simp only [ev_tmp, ev_const, ev_func, get_put, get_args, get_putL, get_putL_nil, Nat.reduceEqDiff, reduceIte, List.getD_cons_zero, List.getD_cons_succ, List.getD_nil]); first | done | with_reducible rfl)) (by first | exact True.intro | exact ⟨_, rfl, by ((try simp only [ev_tmp, ev_const, ev_func, get_put, get_args, get_putL, get_putL_nil, Nat.reduceEqDiff, reduceIte, List.getD_cons_zero, List.getD_cons_succ, List.getD_nil, Bool.not_true, Bool.not_false]); first | done | with_reducible rfl)⟩) fun w1 b he1 hb1 hs1 hc0 hc1 hc2 => ?_
  refine go ?_
  refine st_alloc (by first | exact True.intro | exact ⟨_, rfl, by ((try simp only [ev_tmp, ev_const, ev_func, get_put, get_args, get_putL, get_putL_nil, Nat.reduceEqDiff, reduceIte, List.getD_cons_zero, List.getD_cons_succ, List.getD_nil, Bool.not_true, Bool.not_false]); first | done | with_reducible rfl)⟩) fun w2 bf he2 hbf hs2 hbk => ?_
  have hE2 : Ext w w2 := he1.trans he2
  have bad : ∀ {w3 : World} {k f s : Int}, Ext w w3 → k ≠ 0 → Flt p i hi k f s → ∃ k' l' f' s' : Int, faultV k i f s = faultV k' l' f' s' ∧ (k' = 0 ↔ Chk p i hi) ∧ (k' ≠ 0 → l' = i) ∧ (k' = 0 → l' = 0 ∧ f' = 0 ∧ s' = 0) ∧ Ext w w3 ∧ Flt p i hi k' f' s' :=
    fun he hk hn => ⟨_, _, _, _, rfl, hn.zero, fun _ => rfl, fun h => absurd h hk, he, hn⟩
  refine go ?_
  refine r_for (p.n - (i + 1)) (fun k ρ w' => Has ρ [(1, .int .i64 i), (2, .pointer (some ⟨b, 0, none⟩)), (4, .pointer (some ⟨bf, 0, none⟩)), (5, .int .i64 p.n), (6, .int .i64 i), (7, .int .i64 (i + 1 + k : Nat))] ∧ Ext w2 w' ∧ ∀ j, j < i + 1 + k → LP p i j) ?_ ?_
  · refine ⟨?_, Ext.refl _, fun j hj hj' => by omega⟩
    exact hasP
  · rintro k ρ w3 hk ⟨hH, he3, hP⟩
    refine rwp_has hH fun ρ0 => ?_
    refine go ?_
    refine c_if (fun hj => ?_) (fun hj => ?_)
    · have hjn : i < i + 1 + k ∧ i + 1 + k < p.n := ⟨by omega, by omega⟩
      have hoj : 2 ≤ p.ord.getD (i + 1 + k) 0 ∧ p.ord.getD (i + 1 + k) 0 ≤ 7 := hv.opos hjn.2
      refine go ?_
      refine d_region fun w4 he4 _ => ?_
      refine dgo ?_
      refine dc (l08Repeat_ok (x := Tc hv hjn) rfl ?_ ?_ ?_) (next := fun v5 w5 h5 => ?_)
      · omega
      · omega
      · omega
      obtain ⟨he5, hf5⟩ := h5
      refine ⟨fun h => h.trans he5, ?_⟩
      refine dgo ?_
      refine d_end (h := ?_)
      refine go ?_
      refine d_region fun w6 he6 _ => ?_
      refine dgo ?_
      refine dc (l08Image_ok hv hi (x := p.w (i + 1 + k)) ?_ (hv.w_in _ hjn.2)) (next := fun v7 w7 h7 => ?_)
      · rfl
      obtain ⟨he7, hf7⟩ := h7
      refine ⟨fun h => h.trans he7, ?_⟩
      have hlen := (Grp.pw (Tc hv hjn) (p.o (i + 1 + k)).toNat).inr.len
      refine dc (l01Same_ok (xs := (Grp.pw (Tc hv hjn) (p.o (i + 1 + k)).toNat).v) (ys := img p i (p.w (i + 1 + k))) ?_) (next := fun v8 w8 h8 => ?_)
      · omega
      obtain ⟨b8, rfl, hb8, he8⟩ := h8
      refine ⟨fun h => h.trans he8, ?_⟩
      have hE8 : Ext w2 w8 := ((((he3.trans he4).trans he5).trans he6).trans he7).trans he8
      refine dgo ?_
      refine d_end (h := ?_)
      refine go ?_
      refine c_b (fun h9 => ?_) (fun h9 => ?_)
      · refine go ?_
        refine ra (v := faultV 1 i (i + 1 + k : Nat) 0) (h := rd_build (by simp only [ev_tmp, ev_const, ev_func, get_put, get_args, get_putL, get_putL_nil, Nat.reduceEqDiff, reduceIte, List.getD_cons_zero, List.getD_cons_succ, List.getD_nil, List.map_toArray, List.map_cons, List.map_nil]; rfl) (fun _ => by kernel_rfl)) (next := ?_)
        refine st_store_agg (vs := [.int .i64 1, .int .i64 i, .int .i64 (i + 1 + k : Nat), .int .i64 0]) (cs := _) (by ((try simp only [ev_tmp, ev_const, ev_func, get_put, get_args, get_putL, get_putL_nil, Nat.reduceEqDiff, reduceIte, List.getD_cons_zero, List.getD_cons_succ, List.getD_nil]); first | done | with_reducible rfl)) (by ((try simp only [ev_tmp, ev_const, ev_func, get_put, get_args, get_putL, get_putL_nil, Nat.reduceEqDiff, reduceIte, List.getD_cons_zero, List.getD_cons_succ, List.getD_nil]); first | done | with_reducible rfl)) rfl ?_ rfl (by first | exact True.intro | exact ⟨_, rfl, by ((try simp only [ev_tmp, ev_const, ev_func, get_put, get_args, get_putL, get_putL_nil, Nat.reduceEqDiff, reduceIte, List.getD_cons_zero, List.getD_cons_succ, List.getD_nil, Bool.not_true, Bool.not_false]); first | done | with_reducible rfl)⟩) fun w9 hc9 hs9 hb9 => ?_
        · rfl
        refine go ?_
        refine retc (bad (k := 1) (f := (i + 1 + k : Nat)) (s := 0) (hc9.ext (hE2.trans hE8) ?_) (by decide) (.power (i + 1 + k) hjn hP fun h => ?_)) rfl
        · have := hE2.size; have := he1.size; omega
        · have := hb8.2 (h hjn)
          rw [this] at h9; cases h9
      · have h10 := hb8.1 (by simpa using h9)
        refine go ?_
        refine forQ_normal (by omega) ⟨?_, hE8, fun j hj => ?_⟩
        · exact hasP
        · by_cases e : j = i + 1 + k
          · subst e; exact fun _ => h10
          · exact hP j (by omega)
    · refine go ?_
      have hP' : ∀ j, LP p i j := fun j => by
        by_cases e : j < i + 1 + k
        · exact hP j e
        · exact fun h => by omega
      have hE3 := hE2.trans he3
      clear hP hH hk
      refine r_for (p.n - (i + 1)) (fun k ρ w' => Has ρ [(1, .int .i64 i), (2, .pointer (some ⟨b, 0, none⟩)), (4, .pointer (some ⟨bf, 0, none⟩)), (5, .int .i64 p.n), (6, .int .i64 i), (9, .int .i64 (i + 1 + k : Nat))] ∧ Ext w2 w' ∧ ∀ j k', j < i + 1 + k → LC p i j k') ?_ ?_
      · refine ⟨?_, he3, fun j k' hj hj' => by omega⟩
        exact hasP
      rintro k ρ w4 hk ⟨hH, he4, hC⟩
      refine rwp_has hH fun ρ1 => ?_
      refine go ?_
      refine c_if (fun hj => ?_) (fun hj => ?_)
      · have hjn : i < i + 1 + k ∧ i + 1 + k < p.n := ⟨by omega, by omega⟩
        refine go ?_
        refine r_for (p.n - (i + 1 + k + 1)) (fun l ρ w' => Has ρ [(1, .int .i64 i), (2, .pointer (some ⟨b, 0, none⟩)), (4, .pointer (some ⟨bf, 0, none⟩)), (5, .int .i64 p.n), (6, .int .i64 i), (9, .int .i64 (i + 1 + k : Nat)), (10, .int .i64 (i + 1 + k + 1 + l : Nat))] ∧ Ext w2 w' ∧ ∀ k', k' < i + 1 + k + 1 + l → LC p i (i + 1 + k) k') ?_ ?_
        · refine ⟨?_, he4, fun k' hk' _ h' _ => by omega⟩
          exact hasP
        rintro l ρ w5 hl ⟨hH, he5, hC2⟩
        refine rwp_has hH fun ρ2 => ?_
        refine go ?_
        refine c_if (fun hkk => ?_) (fun hkk => ?_)
        · have hkn : i < i + 1 + k + 1 + l ∧ i + 1 + k + 1 + l < p.n := ⟨by omega, by omega⟩
          have hcj := hv.lenci (i + 1 + k) hjn.2
          refine go ?_
          refine d_region fun w6 he6 _ => ?_
          refine dgo ?_
          refine d_end (h := ?_)
          refine go ?_
          refine d_region fun w7 he7 _ => ?_
          refine dgo ?_
          refine dc (l08Image_ok hv hi (x := p.c (i + 1 + k) (i + 1 + k + 1 + l)) ?_ (hv.c_in _ _ (by omega) hkn.2)) (next := fun v8 w8 h8 => ?_)
          · rfl
          obtain ⟨he8, hf8⟩ := h8
          refine ⟨fun h => h.trans he8, ?_⟩
          refine dgo ?_
          refine d_end (h := ?_)
          refine go ?_
          refine d_order [0, 1, 2, 3, 4, 6, 7, 8, 9, 10, 5, 11, 12, 13] (h := fun w9 he9 _ => ?_)
          refine dgo ?_
          refine dc (l08At_ok hv (i + 1) (x := p.c i (i + 1 + k + 1 + l)) (y := p.c i (i + 1 + k)) ?_ (hv.c_in _ _ hkn.1 hkn.2) (hv.c_in _ _ hjn.1 hjn.2) (hv.c_zu _ _ hkn.1 hkn.2) (hv.c_zu _ _ hjn.1 hjn.2)) (next := fun v10 w10 h10 => ?_)
          · rfl
          obtain ⟨he10, hf10⟩ := h10
          refine ⟨fun h => h.trans he10, ?_⟩
          refine dgo ?_
          refine dc (l08At_ok hv (i + 1) (x := p.c i (i + 1 + k)) (y := img p i (p.c (i + 1 + k) (i + 1 + k + 1 + l))) ?_ (hv.c_in _ _ hjn.1 hjn.2) (img_in hv _ _).1 (hv.c_zu _ _ hjn.1 hjn.2) (img_in hv _ _).2) (next := fun v11 w11 h11 => ?_)
          · rfl
          obtain ⟨he11, hf11⟩ := h11
          refine ⟨fun h => h.trans he11, ?_⟩
          have hlen := (atv_in hv _ (i + 1) rfl _ _ (hv.c_in _ _ hkn.1 hkn.2) (hv.c_in _ _ hjn.1 hjn.2) (hv.c_zu _ _ hkn.1 hkn.2) (hv.c_zu _ _ hjn.1 hjn.2)).1.len
          refine dgo ?_
          refine dc (l01Same_ok (xs := atv p (i + 1) (p.c i (i + 1 + k + 1 + l)) (p.c i (i + 1 + k))) (ys := atv p (i + 1) (p.c i (i + 1 + k)) (img p i (p.c (i + 1 + k) (i + 1 + k + 1 + l)))) ?_) (next := fun v12 w12 h12 => ?_)
          · omega
          obtain ⟨b12, rfl, hb12, he12⟩ := h12
          refine ⟨fun h => h.trans he12, ?_⟩
          have hE12 : Ext w2 w12 := ((((((he5.trans he6).trans he7).trans he8).trans he9).trans he10).trans he11).trans he12
          refine dgo ?_
          refine d_end (h := ?_)
          refine go ?_
          refine c_b (fun h13 => ?_) (fun h13 => ?_)
          · refine go ?_
            refine ra (v := faultV 2 i (i + 1 + k : Nat) (i + 1 + k + 1 + l : Nat)) (h := rd_build (by simp only [ev_tmp, ev_const, ev_func, get_put, get_args, get_putL, get_putL_nil, Nat.reduceEqDiff, reduceIte, List.getD_cons_zero, List.getD_cons_succ, List.getD_nil, List.map_toArray, List.map_cons, List.map_nil]; rfl) (fun _ => by kernel_rfl)) (next := ?_)
            refine st_store_agg (vs := [.int .i64 2, .int .i64 i, .int .i64 (i + 1 + k : Nat), .int .i64 (i + 1 + k + 1 + l : Nat)]) (cs := _) (by ((try simp only [ev_tmp, ev_const, ev_func, get_put, get_args, get_putL, get_putL_nil, Nat.reduceEqDiff, reduceIte, List.getD_cons_zero, List.getD_cons_succ, List.getD_nil]); first | done | with_reducible rfl)) (by ((try simp only [ev_tmp, ev_const, ev_func, get_put, get_args, get_putL, get_putL_nil, Nat.reduceEqDiff, reduceIte, List.getD_cons_zero, List.getD_cons_succ, List.getD_nil]); first | done | with_reducible rfl)) rfl ?_ rfl (by first | exact True.intro | exact ⟨_, rfl, by ((try simp only [ev_tmp, ev_const, ev_func, get_put, get_args, get_putL, get_putL_nil, Nat.reduceEqDiff, reduceIte, List.getD_cons_zero, List.getD_cons_succ, List.getD_nil, Bool.not_true, Bool.not_false]); first | done | with_reducible rfl)⟩) fun w13 hc13 hs13 hb13 => ?_
            · rfl
            refine go ?_
            refine retc (bad (k := 2) (f := (i + 1 + k : Nat)) (s := (i + 1 + k + 1 + l : Nat)) (hc13.ext (hE2.trans hE12) ?_) (by decide) (.conj (i + 1 + k) (i + 1 + k + 1 + l) hjn.1 (by omega) hkn.2 hP' hC hC2 fun h => ?_)) rfl
            · have := hE2.size; have := he1.size; omega
            · have := hb12.2 (h hjn.1 (by omega) hkn.2)
              rw [this] at h13; cases h13
          · have h14 := hb12.1 (by simpa using h13)
            refine go ?_
            refine forQ_normal (by omega) ⟨?_, hE12, fun k' hk' => ?_⟩
            · exact hasP
            · by_cases e : k' = i + 1 + k + 1 + l
              · subst e; exact fun _ _ _ => h14
              · exact hC2 k' (by omega)
        · refine go ?_
          refine forQ_normal (by omega) ⟨?_, he5, fun j k' hj' => ?_⟩
          · exact hasP
          · by_cases e : j = i + 1 + k
            · subst e
              exact fun h1 h2 h3 => hC2 k' (by omega) h1 h2 h3
            · exact hC j k' (by omega)
      · refine go ?_
        have hC' : ∀ j k', LC p i j k' := fun j k' h1 h2 h3 => hC j k' (by omega) h1 h2 h3
        clear hC hk
        refine rc (l08Image_ok hv hi (x := p.w i) ?_ (hv.w_in _ hi)) (next := fun v6 w6 h6 => ?_)
        · rfl
        obtain ⟨he6, hf6⟩ := h6
        have hlen := (img_in hv i (p.w i)).1.len
        refine go ?_
        refine rc (l01Same_ok (xs := img p i (p.w i)) (ys := p.w i) ?_) (next := fun v7 w7 h7 => ?_)
        · omega
        obtain ⟨b7, rfl, hb7, he7⟩ := h7
        have hE7 : Ext w2 w7 := (he4.trans he6).trans he7
        refine go ?_
        refine c_b (fun h8 => ?_) (fun h8 => ?_)
        · refine go ?_
          refine ra (v := faultV 3 i 0 0) (h := rd_build (by simp only [ev_tmp, ev_const, ev_func, get_put, get_args, get_putL, get_putL_nil, Nat.reduceEqDiff, reduceIte, List.getD_cons_zero, List.getD_cons_succ, List.getD_nil, List.map_toArray, List.map_cons, List.map_nil]; rfl) (fun _ => by kernel_rfl)) (next := ?_)
          refine st_store_agg (vs := [.int .i64 3, .int .i64 i, .int .i64 0, .int .i64 0]) (cs := _) (by ((try simp only [ev_tmp, ev_const, ev_func, get_put, get_args, get_putL, get_putL_nil, Nat.reduceEqDiff, reduceIte, List.getD_cons_zero, List.getD_cons_succ, List.getD_nil]); first | done | with_reducible rfl)) (by ((try simp only [ev_tmp, ev_const, ev_func, get_put, get_args, get_putL, get_putL_nil, Nat.reduceEqDiff, reduceIte, List.getD_cons_zero, List.getD_cons_succ, List.getD_nil]); first | done | with_reducible rfl)) rfl ?_ rfl (by first | exact True.intro | exact ⟨_, rfl, by ((try simp only [ev_tmp, ev_const, ev_func, get_put, get_args, get_putL, get_putL_nil, Nat.reduceEqDiff, reduceIte, List.getD_cons_zero, List.getD_cons_succ, List.getD_nil, Bool.not_true, Bool.not_false]); first | done | with_reducible rfl)⟩) fun w9 hc9 hs9 hb9 => ?_
          · rfl
          refine go ?_
          refine retc (bad (k := 3) (f := 0) (s := 0) (hc9.ext (hE2.trans hE7) ?_) (by decide) (.fixed hP' hC' fun h => ?_)) rfl
          · have := hE2.size; have := he1.size; omega
          · have := hb7.2 h
            rw [this] at h8; cases h8
        · have hF := hb7.1 (by simpa using h8)
          refine go ?_
          clear h8
          refine r_for (p.n - (i + 1)) (fun k ρ w' => Has ρ [(1, .int .i64 i), (2, .pointer (some ⟨b, 0, none⟩)), (4, .pointer (some ⟨bf, 0, none⟩)), (5, .int .i64 p.n), (6, .int .i64 i), (14, Pc.rowAt vpw ps i), (15, .int .i64 (i + 1 + k : Nat))] ∧ Ext w2 w' ∧ ∀ j, j < i + 1 + k → LI p i j) ?_ ?_
          · refine ⟨?_, hE7, fun j hj h1 h2 => by omega⟩
            exact hasP
          rintro k ρ w8 hk ⟨hH, he8, hI⟩
          refine rwp_has hH fun ρ2 => ?_
          refine go ?_
          refine c_if (fun hj => ?_) (fun hj => ?_)
          · have hjn : i + 1 ≤ i + 1 + k ∧ i + 1 + k < p.n := ⟨by omega, by omega⟩
            refine go ?_
            refine rc (l07Unit_ok (n := p.n) (i := i + 1 + k) ?_ ?_ ?_ hjn.2) (next := fun v9 w9 h9 => ?_)
            · rfl
            · rfl
            · omega
            obtain ⟨he9, hf9⟩ := h9
            have hg0 : (zeros p.n).set (i + 1 + k) 1 = unitv p (i + 1 + k) 1 := rfl
            rw [hg0] at hf9
            have hsz8 := he8.size
            have hsz1 := hE2.size
            refine go ?_
            refine r_for (p.o i).toNat (fun q ρ w' => ∃ vx, Has ρ [(1, .int .i64 i), (2, .pointer (some ⟨b, 0, none⟩)), (4, .pointer (some ⟨bf, 0, none⟩)), (5, .int .i64 p.n), (6, .int .i64 i), (14, Pc.rowAt vpw ps i), (15, .int .i64 (i + 1 + k : Nat)), (16, v9), (17, vx), (18, .int .i64 q)] ∧ Ext w9 w' ∧ Fr w.heap.size w' vx (rep q (img p i) (unitv p (i + 1 + k) 1))) ?_ ?_
            · refine ⟨v9, ?_, Ext.refl _, hf9.mono (by omega)⟩
              exact hasP
            rintro q ρ w10 hq ⟨vx, hH, he10, hf10⟩
            refine rwp_has hH fun ρ3 => ?_
            have hin : InR p (rep q (img p i) (unitv p (i + 1 + k) 1)) ∧ ZU (i + 1) (rep q (img p i) (unitv p (i + 1 + k) 1)) := by
              refine rep_inv (fun v => InR p v ∧ ZU (i + 1) v) (fun x _ => img_in hv i x) ⟨?_, unitv_zu p hjn.1 1⟩ q
              exact unitv_in hv (by omega) (fun h => by have := hv.opos h; omega)
            refine go ?_
            refine c_if (fun hq2 => ?_) (fun hq2 => ?_)
            · refine go ?_
              refine rc (l08Image_ok hv hi (x := rep q (img p i) (unitv p (i + 1 + k) 1)) ?_ hin.1) (next := fun v11 w11 h11 => ?_)
              · rfl
              obtain ⟨he11, hf11⟩ := h11
              have hsz10 := he10.size
              have hsz9 := he9.size
              refine go ?_
              refine forQ_normal (by omega) ⟨v11, ?_, he10.trans he11, hf11.mono (by omega)⟩
              exact hasP
            · have hqe : (p.o i).toNat = q := by omega
              have hu9 : InR p (unitv p (i + 1 + k) 1) := unitv_in hv (by omega) (fun h => by have := hv.opos h; omega)
              refine go ?_
              refine d_order [0, 1, 2, 3, 4, 6, 7, 8, 9, 10, 5, 11, 12, 13] (h := fun w11 he11 _ => ?_)
              refine dgo ?_
              refine dc (l08At_ok hv (i + 1) (x := p.w i) (y := rep q (img p i) (unitv p (i + 1 + k) 1)) ?_ (hv.w_in _ hi) hin.1 (hv.w_zu _ hi) hin.2) (next := fun v12 w12 h12 => ?_)
              · rfl
              obtain ⟨he12, hf12⟩ := h12
              refine ⟨fun h => h.trans he12, ?_⟩
              refine dgo ?_
              refine dc (l08At_ok hv (i + 1) (x := unitv p (i + 1 + k) 1) (y := p.w i) ?_ hu9 (hv.w_in _ hi) (unitv_zu p hjn.1 1) (hv.w_zu _ hi)) (next := fun v13 w13 h13 => ?_)
              · rfl
              obtain ⟨he13, hf13⟩ := h13
              refine ⟨fun h => h.trans he13, ?_⟩
              have hlen2 := (atv_in hv _ (i + 1) rfl _ _ (hv.w_in _ hi) hin.1 (hv.w_zu _ hi) hin.2).1.len
              refine dgo ?_
              refine dc (l01Same_ok (xs := atv p (i + 1) (p.w i) (rep q (img p i) (unitv p (i + 1 + k) 1))) (ys := atv p (i + 1) (unitv p (i + 1 + k) 1) (p.w i)) ?_) (next := fun v14 w14 h14 => ?_)
              · omega
              obtain ⟨b14, rfl, hb14, he14⟩ := h14
              refine ⟨fun h => h.trans he14, ?_⟩
              have hE14 : Ext w2 w14 := ((((((he8.trans he9).trans he10).trans he11).trans he12).trans he13)).trans he14
              refine dgo ?_
              refine d_end (h := ?_)
              refine go ?_
              refine c_b (fun h15 => ?_) (fun h15 => ?_)
              · refine go ?_
                refine ra (v := faultV 4 i (i + 1 + k : Nat) 0) (h := rd_build (by simp only [ev_tmp, ev_const, ev_func, get_put, get_args, get_putL, get_putL_nil, Nat.reduceEqDiff, reduceIte, List.getD_cons_zero, List.getD_cons_succ, List.getD_nil, List.map_toArray, List.map_cons, List.map_nil]; rfl) (fun _ => by kernel_rfl)) (next := ?_)
                refine st_store_agg (vs := [.int .i64 4, .int .i64 i, .int .i64 (i + 1 + k : Nat), .int .i64 0]) (cs := _) (by ((try simp only [ev_tmp, ev_const, ev_func, get_put, get_args, get_putL, get_putL_nil, Nat.reduceEqDiff, reduceIte, List.getD_cons_zero, List.getD_cons_succ, List.getD_nil]); first | done | with_reducible rfl)) (by ((try simp only [ev_tmp, ev_const, ev_func, get_put, get_args, get_putL, get_putL_nil, Nat.reduceEqDiff, reduceIte, List.getD_cons_zero, List.getD_cons_succ, List.getD_nil]); first | done | with_reducible rfl)) rfl ?_ rfl (by first | exact True.intro | exact ⟨_, rfl, by ((try simp only [ev_tmp, ev_const, ev_func, get_put, get_args, get_putL, get_putL_nil, Nat.reduceEqDiff, reduceIte, List.getD_cons_zero, List.getD_cons_succ, List.getD_nil, Bool.not_true, Bool.not_false]); first | done | with_reducible rfl)⟩) fun w15 hc15 hs15 hb15 => ?_
                · rfl
                refine go ?_
                refine retc (bad (k := 4) (f := (i + 1 + k : Nat)) (s := 0) (hc15.ext (hE2.trans hE14) ?_) (by decide) (.inner (i + 1 + k) hjn hP' hC' hF hI fun h => ?_)) rfl
                · have := hE2.size; have := he1.size; omega
                · have := h hjn.1 hjn.2
                  rw [hqe] at this
                  have := hb14.2 this
                  rw [this] at h15; cases h15
              · have h16 := hb14.1 (by simpa using h15)
                refine go ?_
                refine forQ_normal (by omega) ⟨?_, hE14, fun j hj2 => ?_⟩
                · exact hasP
                · by_cases e : j = i + 1 + k
                  · subst e
                    intro _ _
                    rw [hqe]
                    exact h16
                  · exact hI j (by omega)
          · refine go ?_
            refine ra (v := faultV 0 0 0 0) (h := rd_build (by rfl) (fun _ => by kernel_rfl)) (next := ?_)
            refine st_store_agg (vs := [.int .i64 0, .int .i64 0, .int .i64 0, .int .i64 0]) (cs := _) (by ((try simp only [ev_tmp, ev_const, ev_func, get_put, get_args, get_putL, get_putL_nil, Nat.reduceEqDiff, reduceIte, List.getD_cons_zero, List.getD_cons_succ, List.getD_nil]); first | done | with_reducible rfl)) (by ((try simp only [ev_tmp, ev_const, ev_func, get_put, get_args, get_putL, get_putL_nil, Nat.reduceEqDiff, reduceIte, List.getD_cons_zero, List.getD_cons_succ, List.getD_nil]); first | done | with_reducible rfl)) rfl ?_ rfl (by first | exact True.intro | exact ⟨_, rfl, by ((try simp only [ev_tmp, ev_const, ev_func, get_put, get_args, get_putL, get_putL_nil, Nat.reduceEqDiff, reduceIte, List.getD_cons_zero, List.getD_cons_succ, List.getD_nil, Bool.not_true, Bool.not_false]); first | done | with_reducible rfl)⟩) fun w15 hc15 hs15 hb15 => ?_
            · rfl
            refine go ?_
            have hck := (chk_iff hi).2 ⟨hP', hC', hF, fun j h1 h2 => hI j (by omega) h1 h2⟩
            refine retc ⟨0, 0, 0, 0, rfl, ⟨fun _ => hck, fun _ => rfl⟩, fun h => absurd rfl h, fun _ => ⟨rfl, rfl, rfl⟩, hc15.ext (hE2.trans he8) ?_, .none hck⟩ rfl
            have := hE2.size; have := he1.size; omega
end Go.Proofs.Ytflniifngfiekaa

/-
  Walks: the reference's fault, its consistency and its question whether a presentation is a group's (l08Fault, l08Consistent, l08Group).
  Conditions: the presentation is valid (l08Group: its list of orders is short).
-/
namespace Go.Proofs.Ytflniifngfiekaa
open Go Go.Pc
/-- The level i of a presentation passes, the tail behind it being a group. -/
def Lev (p : Pr) (i : Nat) : Prop := ∃ (_ : Con p (i + 1)) (hi : i < p.n), Chk p i hi
/-- All levels from i on pass. -/
def Levs (p : Pr) (i : Nat) : Prop := ∀ j, i ≤ j → j < p.n → Lev p j
/-- The presentation is a group's. -/
structure IsGrp (p : Pr) : Prop where
  valid : Valid p
  levs : Levs p 0
theorem Levs.con {p : Pr} (hv : Valid p) {i : Nat} (h : Levs p i) : Con p i := by
  by_cases hi : p.n ≤ i
  · exact con_end hv hi
  · obtain ⟨h1, h2, h3⟩ := h i (Nat.le_refl _) (by omega)
    exact con_step h2 h3
theorem IsGrp.con {p : Pr} (h : IsGrp p) (i : Nat) : Con p i := Levs.con h.valid fun j _ hj => h.levs j (Nat.zero_le _) hj
/-- What a fault says. -/
def FaultIs (p : Pr) (v : Value) : Prop := (v = faultV 0 0 0 0 ∧ Levs p 0) ∨ ∃ (k f s : Int) (i : Nat) (_ : Con p (i + 1)) (hi : i < p.n), k ≠ 0 ∧ v = faultV k i f s ∧ Flt p i hi k f s ∧ Levs p (i + 1)
/-- The first fault of a presentation is one. -/
theorem FaultIs.uniq {p : Pr} {v v' : Value} (h : FaultIs p v) (h' : FaultIs p v') : v = v' := by
  rcases h with ⟨rfl, hL⟩ | ⟨k, f, s, i, hc, hi, hk, rfl, hn, hL⟩
  · rcases h' with ⟨rfl, _⟩ | ⟨k', f', s', i', hc', hi', hk', rfl, hn', hL'⟩
    · rfl
    · exact absurd (hn'.zero.2 (hL i' (Nat.zero_le _) hi').2.2) hk'
  · rcases h' with ⟨rfl, hL'⟩ | ⟨k', f', s', i', hc', hi', hk', rfl, hn', hL'⟩
    · exact absurd (hn.zero.2 (hL' i (Nat.zero_le _) hi).2.2) hk
    · have : i = i' := by
        rcases Nat.lt_trichotomy i i' with e | e | e
        · exact absurd (hn'.zero.2 (hL i' (by omega) hi').2.2) hk'
        · exact e
        · exact absurd (hn.zero.2 (hL' i (by omega) hi).2.2) hk
      subst this
      obtain ⟨rfl, rfl, rfl⟩ := hn.uniq hn'
      rfl
set_option maxHeartbeats 1000000 in
theorem l08Fault_ok {p : Pr} (hv : Valid p) {w : World} {vp : Value} {lo hi' : Nat} [hp : Pres lo hi' w vp p] :
    Calls Try.prog 52 #[vp] w (Ret fun v w' => FaultIs p v ∧ Ext w w') := by
  have hn6 := hv.n6
  have hol : p.ord.length = p.n := rfl
  obtain ⟨vo, vpw, vc, ps, cs, css, rfl, h1, h2, h3⟩ := hp.ex
  refine enter (args := [.agg #[vo, vpw, vc]]) (l := [.cell 2 75]) Try.func52 rfl rfl Try.ntmps52 (by simp) ?_
  refine go ?_
  refine st_box3 (by ((try simp only [ev_tmp, ev_const, ev_func, get_put, get_args, get_putL, get_putL_nil, Nat.reduceEqDiff, reduceIte, List.getD_cons_zero, List.getD_cons_succ, List.getD_nil]); first | done | with_reducible rfl)) (by first | exact True.intro | exact ⟨_, rfl, by ((try simp only [ev_tmp, ev_const, ev_func, get_put, get_args, get_putL, get_putL_nil, Nat.reduceEqDiff, reduceIte, List.getD_cons_zero, List.getD_cons_succ, List.getD_nil, Bool.not_true, Bool.not_false]); first | done | with_reducible rfl)⟩) fun w1 b he1 hb1 hs1 hc0 hc1 hc2 => ?_
  refine go ?_
  refine st_alloc (by first | exact True.intro | exact ⟨_, rfl, by ((try simp only [ev_tmp, ev_const, ev_func, get_put, get_args, get_putL, get_putL_nil, Nat.reduceEqDiff, reduceIte, List.getD_cons_zero, List.getD_cons_succ, List.getD_nil, Bool.not_true, Bool.not_false]); first | done | with_reducible rfl)⟩) fun w2 bf he2 hbf hs2 hbk => ?_
  have hE2 : Ext w w2 := he1.trans he2
  refine go ?_
  refine r_for p.n (fun k ρ w' => Has ρ [(1, .pointer (some ⟨b, 0, none⟩)), (2, .pointer (some ⟨bf, 0, none⟩)), (3, .int .i64 ((p.n : Int) - 1 - k))] ∧ Ext w2 w' ∧ Levs p (p.n - k)) ?_ ?_
  · refine ⟨?_, Ext.refl _, fun j h h' => by omega⟩
    exact hasP
  rintro k ρ w3 hk ⟨hH, he3, hL⟩
  refine rwp_has hH fun ρ0 => ?_
  refine go ?_
  refine c_if (fun h4 => ?_) (fun h4 => ?_)
  · obtain ⟨i, hie⟩ : ∃ i : Nat, (p.n : Int) - 1 - k = i := ⟨p.n - 1 - k, by omega⟩
    have hi : i < p.n := by omega
    rw [show p.n - k = i + 1 by omega] at hL
    have hc : Con p (i + 1) := Levs.con hv hL
    refine go ?_
    refine rc (l08Level_ok (p := p) (i := i) hi hie) (next := fun v5 w5 h5 => ?_)
    obtain ⟨k5, l5, f5, s5, rfl, hz, hl5, h05, he5, hflt⟩ := h5
    refine go ?_
    refine st_alloc (by first | exact True.intro | exact ⟨_, rfl, by ((try simp only [ev_tmp, ev_const, ev_func, get_put, get_args, get_putL, get_putL_nil, Nat.reduceEqDiff, reduceIte, List.getD_cons_zero, List.getD_cons_succ, List.getD_nil, Bool.not_true, Bool.not_false]); first | done | with_reducible rfl)⟩) fun w6 b6 he6 hb6 hs6 hbk6 => ?_
    refine go ?_
    refine st_store_agg (vs := [.int .i64 k5, .int .i64 l5, .int .i64 f5, .int .i64 s5]) (cs := _) (by ((try simp only [ev_tmp, ev_const, ev_func, get_put, get_args, get_putL, get_putL_nil, Nat.reduceEqDiff, reduceIte, List.getD_cons_zero, List.getD_cons_succ, List.getD_nil]); first | done | with_reducible rfl)) (by ((try simp only [ev_tmp, ev_const, ev_func, get_put, get_args, get_putL, get_putL_nil, Nat.reduceEqDiff, reduceIte, List.getD_cons_zero, List.getD_cons_succ, List.getD_nil]); first | done | with_reducible rfl)) rfl ?_ rfl (by first | exact True.intro | exact ⟨_, rfl, by ((try simp only [ev_tmp, ev_const, ev_func, get_put, get_args, get_putL, get_putL_nil, Nat.reduceEqDiff, reduceIte, List.getD_cons_zero, List.getD_cons_succ, List.getD_nil, Bool.not_true, Bool.not_false]); first | done | with_reducible rfl)⟩) fun w7 hc7 hs7 hb7 => ?_
    · rfl
    have hs2 := he2.size
    have hs3 := he3.size
    have hs5 := he5.size
    have hE7 : Ext w2 w7 := hc7.ext ((he3.trans he5).trans he6) (by omega)
    have hcell : Cell w7 b6 0 (.int .i64 k5) := hb7.cell rfl
    refine go ?_
    refine c_if (fun h8 => ?_) (fun h8 => ?_)
    · refine go ?_
      refine ra (v := faultV k5 l5 f5 s5) (h := rd_load_blk (hb := hb7) (by ((try simp only [ev_tmp, ev_const, ev_func, get_put, get_args, get_putL, get_putL_nil, Nat.reduceEqDiff, reduceIte, List.getD_cons_zero, List.getD_cons_succ, List.getD_nil]); first | done | with_reducible rfl)) rfl) (next := ?_)
      refine st_store_agg (vs := [.int .i64 k5, .int .i64 l5, .int .i64 f5, .int .i64 s5]) (cs := _) (hb := Blk.ext (x := hE7) (h := hbk)) (by ((try simp only [ev_tmp, ev_const, ev_func, get_put, get_args, get_putL, get_putL_nil, Nat.reduceEqDiff, reduceIte, List.getD_cons_zero, List.getD_cons_succ, List.getD_nil]); first | done | with_reducible rfl)) (by ((try simp only [ev_tmp, ev_const, ev_func, get_put, get_args, get_putL, get_putL_nil, Nat.reduceEqDiff, reduceIte, List.getD_cons_zero, List.getD_cons_succ, List.getD_nil]); first | done | with_reducible rfl)) rfl ?_ rfl (by first | exact True.intro | exact ⟨_, rfl, by ((try simp only [ev_tmp, ev_const, ev_func, get_put, get_args, get_putL, get_putL_nil, Nat.reduceEqDiff, reduceIte, List.getD_cons_zero, List.getD_cons_succ, List.getD_nil, Bool.not_true, Bool.not_false]); first | done | with_reducible rfl)⟩) fun w9 hc9 hs9 hb9 => ?_
      · rfl
      refine go ?_
      refine retc (b := bf) ⟨.inr ⟨k5, f5, s5, i, hc, hi, by simpa using h8, ?_, hflt, hL⟩, hc9.ext (hE2.trans hE7) (by omega)⟩ rfl
      rw [hl5 (by simpa using h8)]
    · have hk5 : k5 = 0 := by simpa using h8
      refine go ?_
      refine forQ_normal (by omega) ⟨?_, hE7, fun j hj hjn => ?_⟩
      · exact hasP
      · by_cases e : j = i
        · subst e; exact ⟨hc, hi, hz.1 hk5⟩
        · exact hL j (by omega) hjn
  · refine go ?_
    refine ra (v := faultV 0 0 0 0) (h := rd_build (by rfl) (fun _ => by kernel_rfl)) (next := ?_)
    refine st_store_agg (vs := [.int .i64 0, .int .i64 0, .int .i64 0, .int .i64 0]) (cs := _) (by ((try simp only [ev_tmp, ev_const, ev_func, get_put, get_args, get_putL, get_putL_nil, Nat.reduceEqDiff, reduceIte, List.getD_cons_zero, List.getD_cons_succ, List.getD_nil]); first | done | with_reducible rfl)) (by ((try simp only [ev_tmp, ev_const, ev_func, get_put, get_args, get_putL, get_putL_nil, Nat.reduceEqDiff, reduceIte, List.getD_cons_zero, List.getD_cons_succ, List.getD_nil]); first | done | with_reducible rfl)) rfl ?_ rfl (by first | exact True.intro | exact ⟨_, rfl, by ((try simp only [ev_tmp, ev_const, ev_func, get_put, get_args, get_putL, get_putL_nil, Nat.reduceEqDiff, reduceIte, List.getD_cons_zero, List.getD_cons_succ, List.getD_nil, Bool.not_true, Bool.not_false]); first | done | with_reducible rfl)⟩) fun w9 hc9 hs9 hb9 => ?_
    · rfl
    have hs2 := he2.size
    refine go ?_
    refine retc ⟨.inl ⟨rfl, fun j _ hj => hL j (by omega) hj⟩, hc9.ext (hE2.trans he3) (by omega)⟩ rfl
set_option maxHeartbeats 1000000 in
theorem l08Consistent_ok {p : Pr} (hv : Valid p) {w : World} {vp : Value} {lo hi' : Nat} [hp : Pres lo hi' w vp p] :
    Calls Try.prog 40 #[vp] w (Ret fun v w' => ∃ b, v = .bool b ∧ (b = true ↔ Levs p 0) ∧ Ext w w') := by
  obtain ⟨vo, vpw, vc, ps, cs, css, rfl, h1, h2, h3⟩ := hp.ex
  refine enter (args := [.agg #[vo, vpw, vc]]) (l := [.tmp 2]) Try.func40 rfl rfl Try.ntmps40 (by simp) ?_
  refine go ?_
  refine st_box3 (by ((try simp only [ev_tmp, ev_const, ev_func, get_put, get_args, get_putL, get_putL_nil, Nat.reduceEqDiff, reduceIte, List.getD_cons_zero, List.getD_cons_succ, List.getD_nil]); first | done | with_reducible rfl)) (by first | exact True.intro | exact ⟨_, rfl, by ((try simp only [ev_tmp, ev_const, ev_func, get_put, get_args, get_putL, get_putL_nil, Nat.reduceEqDiff, reduceIte, List.getD_cons_zero, List.getD_cons_succ, List.getD_nil, Bool.not_true, Bool.not_false]); first | done | with_reducible rfl)⟩) fun w1 b he1 hb1 hs1 hc0 hc1 hc2 => ?_
  refine go ?_
  refine rc (l08Fault_ok hv) (next := fun v5 w5 h5 => ?_)
  obtain ⟨h5, he5⟩ := h5
  rcases h5 with ⟨rfl, hL⟩ | ⟨k, f, s, i, hc, hi, hk, rfl, hn, hL⟩
  · refine go ?_
    refine ra (v := .int .i64 0) (h := rd_fieldv (by ((try simp only [ev_tmp, ev_const, ev_func, get_put, get_args, get_putL, get_putL_nil, Nat.reduceEqDiff, reduceIte, List.getD_cons_zero, List.getD_cons_succ, List.getD_nil]); first | done | with_reducible rfl)) (fun _ => by kernel_rfl)) (next := ?_)
    refine go ?_
    refine ret1 ⟨_, rfl, ?_, he1.trans he5⟩
    simpa using hL
  · refine go ?_
    refine ra (v := .int .i64 k) (h := rd_fieldv (by ((try simp only [ev_tmp, ev_const, ev_func, get_put, get_args, get_putL, get_putL_nil, Nat.reduceEqDiff, reduceIte, List.getD_cons_zero, List.getD_cons_succ, List.getD_nil]); first | done | with_reducible rfl)) (fun _ => by kernel_rfl)) (next := ?_)
    refine go ?_
    refine ret1 ⟨_, rfl, ?_, he1.trans he5⟩
    simp only [decide_eq_true_eq]
    exact ⟨fun h => absurd h hk, fun h => hn.zero.2 (h i (Nat.zero_le _) hi).2.2⟩
set_option maxHeartbeats 1000000 in
theorem l08Group_ok {w : World} {vp : Value} {p : Pr} {lo hi' : Nat} [hp : Pres lo hi' w vp p] (hl : p.ord.length ≤ 2000000) :
    Calls Try.prog 24 #[vp] w (Ret fun v w' => ∃ b, v = .bool b ∧ (b = true ↔ IsGrp p) ∧ Ext w w') := by
  obtain ⟨vo, vpw, vc, ps, cs, css, rfl, h1, h2, h3⟩ := hp.ex
  refine enter (args := [.agg #[vo, vpw, vc]]) (l := [.tmp 2]) Try.func24 rfl rfl Try.ntmps24 (by simp) ?_
  refine go ?_
  refine st_box3 (by ((try simp only [ev_tmp, ev_const, ev_func, get_put, get_args, get_putL, get_putL_nil, Nat.reduceEqDiff, reduceIte, List.getD_cons_zero, List.getD_cons_succ, List.getD_nil]); first | done | with_reducible rfl)) (by first | exact True.intro | exact ⟨_, rfl, by ((try simp only [ev_tmp, ev_const, ev_func, get_put, get_args, get_putL, get_putL_nil, Nat.reduceEqDiff, reduceIte, List.getD_cons_zero, List.getD_cons_succ, List.getD_nil, Bool.not_true, Bool.not_false]); first | done | with_reducible rfl)⟩) fun w1 b he1 hb1 hs1 hc0 hc1 hc2 => ?_
  refine go ?_
  refine rc (spec_IsPresentation_ok hl) (next := fun v5 w5 h5 => ?_)
  obtain ⟨b5, rfl, hb5, he5⟩ := h5
  refine go ?_
  refine sp (fun e5 => ?_) (fun e5 => ?_)
  · have hv := hb5.1 e5
    refine go ?_
    refine rc (l08Consistent_ok hv) (next := fun v6 w6 h6 => ?_)
    obtain ⟨b6, rfl, hb6, he6⟩ := h6
    refine go ?_
    exact ret1 ⟨_, rfl, hb6.trans ⟨fun h => ⟨hv, h⟩, fun h => h.levs⟩, (he1.trans he5).trans he6⟩
  · refine go ?_
    refine ret1 ⟨_, rfl, ?_, he1.trans he5⟩
    simp only [Bool.false_eq_true, false_iff]
    intro h
    have := hb5.2 h.valid
    rw [e5] at this; cases this
end Go.Proofs.Ytflniifngfiekaa

/-
  Walks: the reference's elements and products (l10Element, l10Elements, l08Mul).
  Conditions: stated at each theorem.
-/
namespace Go.Proofs.Ytflniifngfiekaa
open Go Go.Pc
/-- Readings of a list of integers as an element. -/
theorem el_iff {p : Pr} {v : List Int} : ExpP p.ord v (-1) ↔ InR p v := by
  constructor
  · rintro ⟨h1, h2⟩
    refine ⟨h1, fun i hi => ?_⟩
    have := (h2 i (by rw [h1]; exact hi)).1
    exact ⟨this.1, by show v.getD i 0 < p.ord.getD i 0; omega⟩
  · intro h
    refine ⟨h.len, fun i hi => ?_⟩
    have := h.rng i (by have := h.len; omega)
    have h2 : v.getD i 0 < p.ord.getD i 0 := this.2
    exact ⟨⟨this.1, by omega⟩, fun h => by omega⟩
end Go.Proofs.Ytflniifngfiekaa

/-
  Walks: the reference's inverse and power (l10From, l10Inv, l10Pow) and its commutator (l10Comm).
  Conditions: the tails at all levels are groups.
-/
namespace Go.Proofs.Ytflniifngfiekaa
open Go Go.Pc
end Go.Proofs.Ytflniifngfiekaa

/-
  Walks: the reference's power (l10Pow) and commutator (l10Comm).
  Conditions: the tails at all levels are groups.
-/
namespace Go.Proofs.Ytflniifngfiekaa
open Go Go.Pc
end Go.Proofs.Ytflniifngfiekaa

/-
  Walk: the reference's strip of an element by a table (l12Strip).
  Conditions: the tails at all levels are groups, the table holds elements with the leading exponent 1.
-/
namespace Go.Proofs.Ytflniifngfiekaa
open Go Go.Pc
/-- What a strip leaves. -/
structure Left {p : Pr} [ConAll p] (t : Tab p) (x r : El p) (d : Nat) : Prop where
  stp : Stp t x r
  tl : Tl d r
  le : d ≤ p.n
  some : d < p.n → t d = none ∧ co r d ≠ 0
end Go.Proofs.Ytflniifngfiekaa

/-
  Walks: the program's sifting of an element by a sequence (newSequence, sift), and representatives of cosets (representative).
  Conditions: the tails at all levels are groups; stated at each theorem.
-/
namespace Go.Proofs.Ytflniifngfiekaa
open Go Go.Pc
theorem lead_tl {p : Pr} (x : El p) : Tl (lead x.v) x := fun k hk => lead_zero x.v k hk
theorem lead_of {p : Pr} {x : El p} {d : Nat} (h : Tl d x) (h0 : co x d ≠ 0) : lead x.v = d := lead_eq (fun i hi => h i hi) h0
end Go.Proofs.Ytflniifngfiekaa

/-
  The work on a sequence that grows by several additions; commutators with the entries of a table.
  Conditions: the tails at all levels are groups; nothing of the program stands here.
-/
namespace Go.Pc
open Grp
section
variable {p : Pr} [hc : ConAll p] {S S' W W' : El p → Prop} {t : Tab p}
theorem Gen.mono {G : Type} [Grp G] {A B : G → Prop} (h : ∀ a, A a → B a) : ∀ a, Gen A a → Gen B a := Gen.le (Gen.sub B) fun a ha => .of a (h a ha)
theorem Cov.mono {x : El p} (h : Cov t W x) (hw : ∀ a, W a → W' a) : Cov t W' x := by
  obtain ⟨r, hr, h⟩ := h
  exact ⟨r, hr.imp id (hw r), h⟩
/-- More elements are given, and wait. -/
theorem Wk.more (h : Wk S t (fun _ => False)) : Wk (fun a => S a ∨ W a) t W where
  ok := h.ok
  tmem d y e := Gen.mono (fun _ h => .inl h) _ (h.tmem d y e)
  wmem x hx := .of x (.inr hx)
  need x hx := by
    rcases hx with hx | hx
    · exact (h.need x hx).mono (fun _ h => h.elim)
    · exact ⟨x, .inr hx, fun _ _ h => h⟩
  top d y e := (h.top d y e).mono (fun _ h => h.elim)
  pair d e y z h1 h2 h3 := (h.pair d e y z h1 h2 h3).imp (·.mono (fun _ h => h.elim)) (·.mono (fun _ h => h.elim))
theorem Wk.none : Wk (fun _ : El p => False) (fun _ => none) (fun _ => False) := (Wk.start (S := fun _ : El p => False))
/-- Whether the subgroup has grown. -/
theorem Wk.grown {t0 : Tab p} (h0 : Wk S t0 (fun _ => False)) (h : Wk (fun a => S a ∨ W a) t (fun _ => False)) {d : Nat} (hd : t0 d = Option.none) (hd' : t d ≠ Option.none) : ∃ a, W a ∧ ¬ Gen S a := by
  apply Classical.byContradiction
  intro hn
  have hs : ∀ a, W a → Gen S a := fun a ha => Classical.byContradiction fun hg => hn ⟨a, ha, hg⟩
  have hle : ∀ a, Gen (fun a => S a ∨ W a) a → Gen S a := Gen.le (Gen.sub S) fun a ha => ha.elim (.of a) (hs a)
  have f0 := h0.full (fun _ h => h)
  have f := h.full (fun _ h => h)
  have g0 := h0.gen (fun _ h => h)
  have g := h.gen (fun _ h => h)
  obtain ⟨x, h1, h2, h3⟩ := f.dep.2 hd'
  rw [g] at h1
  have h4 := hle x h1
  rw [← g0] at h4
  exact f0.dep.1 ⟨x, h4, h2, h3⟩ hd
theorem Wk.same (h0 : Wk S t (fun _ => False)) (h : Wk (fun a => S a ∨ W a) t (fun _ => False)) : ∀ a, W a → Gen S a := by
  intro a ha
  have g0 := h0.gen (fun _ h => h)
  have g := h.gen (fun _ h => h)
  rw [← g0, g]
  exact .of a (.inr ha)
variable {y z : El p} {e : Nat}
end
end Go.Pc

/-
  Walks: the reference's remainder and inverse of numbers (l01Mod, l01Inv) and the comparison of two lists of lists (l01Same2).
  Conditions: stated at each theorem.
-/
namespace Go.Proofs.Ytflniifngfiekaa
open Go Go.Pc
theorem inv_ex {a q : Int} (hq : q = 2 ∨ q = 3 ∨ q = 5 ∨ q = 7) (ha : 1 ≤ a ∧ a < q) : ∃ x, 1 ≤ x ∧ x < q ∧ (a * x) % q = 1 := by
  have h : a = 1 ∨ a = 2 ∨ a = 3 ∨ a = 4 ∨ a = 5 ∨ a = 6 := by omega
  rcases hq with rfl | rfl | rfl | rfl <;> rcases h with rfl | rfl | rfl | rfl | rfl | rfl <;>
    first
      | omega
      | exact ⟨1, by decide⟩
      | exact ⟨2, by decide⟩
      | exact ⟨3, by decide⟩
      | exact ⟨4, by decide⟩
      | exact ⟨5, by decide⟩
      | exact ⟨6, by decide⟩
end Go.Proofs.Ytflniifngfiekaa

/-
  Walk: the reference's copy of a list of lists (l01Own2).
  Conditions: the lists are short.
-/
namespace Go.Proofs.Ytflniifngfiekaa
open Go Go.Pc
set_option maxHeartbeats 1000000 in
theorem l01Own2_ok {w : World} {va : Value} {us : List Value} {xss : List (List Int)} {lo hi : Nat} [hx : Pc.Rows lo hi w va us xss] (hm : ∀ i, (xss.getD i []).length ≤ 2000000) (hl : xss.length ≤ 2000000) :
    Calls Try.prog 59 #[va] w (Ret fun v w' => Ext w w' ∧ ∃ us', Lst 24 w.heap.size (· < w.heap.size) w' v us' xss) := by
  have hul := hx.vals.len
  refine enter (args := [va]) (l := [.tmp 2]) Try.func59 rfl rfl Try.ntmps59 (by simp) ?_
  refine go ?_
  refine st_slice0 (by first | exact True.intro | exact ⟨_, rfl, by ((try simp only [ev_tmp, ev_const, ev_func, get_put, get_args, get_putL, get_putL_nil, Nat.reduceEqDiff, reduceIte, List.getD_cons_zero, List.getD_cons_succ, List.getD_nil, Bool.not_true, Bool.not_false]); first | done | with_reducible rfl)⟩) fun w1 v1 he1 hs1 ho1 => ?_
  refine go ?_
  refine r_for xss.length (fun k ρ w' => ∃ v' us', Has ρ [(0, va), (3, v'), (4, .int .i64 k)] ∧ Ext w w' ∧ Lst 24 w.heap.size (· < w.heap.size) w' v' us' (xss.take k)) ?_ ?_
  · refine ⟨v1, [], ?_, he1, ?_⟩
    · exact hasP
    · simpa using Lst.start ho1 (Nat.le_refl _) (by omega) (fun g hg => by have := he1.size; omega)
  rintro k ρ w2 hk ⟨v2, us2, hH, he2, hL⟩
  refine rwp_has hH fun ρ0 => ?_
  refine go ?_
  refine c_if (fun h4 => ?_) (fun h4 => ?_)
  · refine go ?_
    refine rc (l01Own_ok (xs := xss.getD k []) (hm k)) (next := fun v3 w3 h3 => ?_)
    obtain ⟨he3, hf3⟩ := h3
    refine go ?_
    refine st_slice1 (u := v3) (by ((try simp only [ev_tmp, ev_const, ev_func, get_put, get_args, get_putL, get_putL_nil, Nat.reduceEqDiff, reduceIte, List.getD_cons_zero, List.getD_cons_succ, List.getD_nil]); first | done | with_reducible rfl)) ?_ ?_ (by first | exact True.intro | exact ⟨_, rfl, by ((try simp only [ev_tmp, ev_const, ev_func, get_put, get_args, get_putL, get_putL_nil, Nat.reduceEqDiff, reduceIte, List.getD_cons_zero, List.getD_cons_succ, List.getD_nil, Bool.not_true, Bool.not_false]); first | done | with_reducible rfl)⟩) fun w4 v4 he4 hs4 ho4 => ?_
    · exact hf3.ints.sl.cells
    · rfl
    refine go ?_
    have hL4 := (hL.ext he3).ext he4
    have hO4 := hL4.own
    have hl2 : us2.length ≤ 2000000 := by rw [hL.len, List.length_take]; omega
    have hz2 := he2.size
    have hz3 := he3.size
    refine st_append (hv := hO4) (hy := ho4) (by ((try simp only [ev_tmp, ev_const, ev_func, get_put, get_args, get_putL, get_putL_nil, Nat.reduceEqDiff, reduceIte, List.getD_cons_zero, List.getD_cons_succ, List.getD_nil]); first | done | with_reducible rfl)) (by ((try simp only [ev_tmp, ev_const, ev_func, get_put, get_args, get_putL, get_putL_nil, Nat.reduceEqDiff, reduceIte, List.getD_cons_zero, List.getD_cons_succ, List.getD_nil]); first | done | with_reducible rfl)) rfl ?_ ?_ ?_ ?_ (by first | exact True.intro | exact ⟨_, rfl, by ((try simp only [ev_tmp, ev_const, ev_func, get_put, get_args, get_putL, get_putL_nil, Nat.reduceEqDiff, reduceIte, List.getD_cons_zero, List.getD_cons_succ, List.getD_nil, Bool.not_true, Bool.not_false]); first | done | with_reducible rfl)⟩) fun v5 w5 ho5 hg5 ha5 => ?_
    · intro u hu
      rw [List.mem_singleton.1 hu]
      exact hf3.ints.sl.one
    · simp; omega
    · simp [maxLen]; omega
    · omega
    have hr4 : Ints w2.heap.size w3.heap.size w4 v3 (xss.getD k []) := inferInstance
    have hL5 := hL4.push ⟨_, _, hr4, he4.size, fun g hg => .inl (hg.elim (fun hg => by omega) (fun hg => (hL.own.lt g hg).2))⟩ ho5 hg5 ha5
    refine go ?_
    refine forQ_normal (by omega) ⟨v5, us2 ++ [v3], ?_, ?_, ?_⟩
    · exact hasP
    · exact ⟨((he2.trans he3).trans he4).below.grown hg5 (by omega) (fun k hk => (hL.own.lt k hk).1)⟩
    · rw [List.take_succ_eq_append_getElem (by omega)]
      simpa [show k < xss.length by omega] using hL5
  · refine go ?_
    refine ret1 ⟨he2, us2, ?_⟩
    rw [show k = xss.length by omega, List.take_length] at hL
    exact hL
end Go.Proofs.Ytflniifngfiekaa

/-
  Walk: the reference's canonical sequence out of a full table (l12Full).
  Conditions: the tails at all levels are groups, the table is full.
-/
namespace Go.Proofs.Ytflniifngfiekaa
open Go Go.Pc
end Go.Proofs.Ytflniifngfiekaa

/-
  Walk: the reference's subgroup generated by a list (l12Close).
  Conditions: the tails at all levels are groups, the list's members are elements.
-/
namespace Go.Proofs.Ytflniifngfiekaa
open Go Go.Pc
section
variable {p : Pr} [hc : ConAll p] {t : Tab p} {d e : Nat} {y z : El p}
end
end Go.Proofs.Ytflniifngfiekaa

/-
  Walk: the program's addition of elements to a sequence (sequence.add).
  Conditions: the tails at all levels are groups; the sequence's table has no element waiting.
-/
namespace Go.Proofs.Ytflniifngfiekaa
open Go Go.Pc
/-- A sequence in memory: its struct and its table, of which the block b0 is written. -/
structure SeqAt {p : Pr} (bs b0 base : Nat) (av : Nat → Prop) (w : World) (vp vb : Value) (t : Tab p) : Prop where
  c0 : Cell w bs 0 vp
  c1 : Cell w bs 1 vb
  ne : bs ≠ b0
  own : vb.ownBlock = some b0
  lst : ∃ us, Lst 24 base av w vb us (tabL t) ∧ ∀ d, d < p.n → t d = none → us.getD d nilv = nilv
end Go.Proofs.Ytflniifngfiekaa

/-
  Walk: the program's representative of a coset (representative).
  Conditions: the tails at all levels are groups; the list has leading exponents 1 at ascending depths.
-/
namespace Go.Proofs.Ytflniifngfiekaa
open Go Go.Pc
/-- Elements with the leading exponent 1, their depths ascending. -/
structure SeqOk {p : Pr} (ys : List (El p)) : Prop where
  lead1 : ∀ y, y ∈ ys → lead y.v < p.n ∧ co y (lead y.v) = 1
  asc : ys.Pairwise fun a b => lead a.v < lead b.v
/-- What a representative is: it differs by a product of the list's elements, and is zero at their depths. -/
structure RepOf {p : Pr} [ConAll p] (ys : List (El p)) (x r : El p) : Prop where
  mem : ∀ H : El p → Prop, Pc.Sub H → (∀ y, y ∈ ys → H y) → H (x⁻¹ * r)
  zero : ∀ y, y ∈ ys → co r (lead y.v) = 0
  low : ∀ t, (∀ y, y ∈ ys → t < lead y.v) → co r t = co x t
end Go.Proofs.Ytflniifngfiekaa

/-
  Walks: the program's canonical sequence, and its subgroup generated by a list (canonical, generated).
  Conditions: the tails at all levels are groups.
-/
namespace Go.Proofs.Ytflniifngfiekaa
open Go Go.Pc
theorem canElsF_ok {p : Pr} [hcon : ConAll p] (H : El p → Prop) (d : Nat) : SeqOk (canElsF H d) := by
  refine ⟨fun y hy => ?_, ?_⟩
  · obtain ⟨e, h1, h2, h3⟩ := canElsF_mem.1 hy
    have hc := canT_some h3
    have hl := lead_of hc.tl (by rw [hc.lead]; omega)
    rw [hl]
    exact ⟨h2, hc.lead⟩
  · unfold canElsF
    rw [List.pairwise_filterMap]
    refine List.Pairwise.imp ?_ (List.pairwise_lt_range' (s := d) (n := p.n - d))
    intro a b hab x hx y hy
    have ha := canT_some hx
    have hb := canT_some hy
    rw [lead_of ha.tl (by rw [ha.lead]; omega), lead_of hb.tl (by rw [hb.lead]; omega)]
    exact hab
end Go.Proofs.Ytflniifngfiekaa

/-
  Canonical sequences: every depth of a subgroup has its element; representatives are unique; the order.
  Conditions: the tails at all levels are groups; nothing of the program stands here.
-/
namespace Go.Proofs.Ytflniifngfiekaa
open Go Go.Pc
section
variable {p : Pr} [hc : ConAll p] {H : El p → Prop} {d : Nat}
theorem dep_one (hH : Pc.Sub H) (h : Dep H d) : ∃ z, H z ∧ Tl d z ∧ co z d = 1 := by
  have hd := h.lt
  obtain ⟨x, h1, h2, h3⟩ := h
  have hr := co_rng x hd
  obtain ⟨k, _, _, hk⟩ := inv_ex (hc.valid.prime d hd) ⟨by omega, hr.2⟩
  exact ⟨Grp.pwz x k, hH.pwz h1 k, h2.pwz (by omega) k, by rw [co_pwz hd h2, Int.mul_comm]; exact hk⟩
theorem can_ex (hH : Pc.Sub H) (h : Dep H d) : ∃ x, CanAt H d x := by
  have key : ∀ m e, e ≤ p.n → p.n - e = m → d < e → (∃ x, CanTo H d e x) → ∃ x, CanTo H d p.n x := by
    intro m
    induction m with
    | zero =>
      intro e h1 h2 _ h4
      obtain rfl : e = p.n := by omega
      exact h4
    | succ m ih =>
      intro e h1 h2 h3 ⟨x, h4⟩
      refine ih (e + 1) (by omega) (by omega) (by omega) ?_
      by_cases hD : Dep H e
      · obtain ⟨z, hz, hzt, hz1⟩ := dep_one hH hD
        exact ⟨_, h4.step hH h3 hD.lt hz hzt hz1⟩
      · exact ⟨x, h4.skip (.inr hD)⟩
  have hd := h.lt
  obtain ⟨z, hz, hzt, hz1⟩ := dep_one hH h
  obtain ⟨x, hx⟩ := key (p.n - (d + 1)) (d + 1) (by omega) rfl (by omega) ⟨z, hz, hzt, hz1, fun k h1 h2 _ => by omega⟩
  exact ⟨x, hx.can⟩
theorem canT_ex (hH : Pc.Sub H) (h : Dep H d) : ∃ x, canT H d = some x := by
  obtain ⟨x, hx⟩ := can_ex hH h
  exact ⟨x, canT_eq hH hx⟩
/-- The elements of a canonical sequence. -/
structure SeqEl (ys : List (El p)) : Prop where
  can : canon (Gen (fun a : El p => a ∈ ys)) = vecs ys
theorem SeqEl.eq {ys : List (El p)} (h : SeqEl ys) : ys = canElsF (Gen (fun a : El p => a ∈ ys)) 0 := by
  have := vecs_inj (h.can.symm.trans (canon_vecs _))
  rw [canElsF_zero]; exact this
theorem SeqEl.ok {ys : List (El p)} (h : SeqEl ys) : SeqOk ys := by
  have := canElsF_ok (Gen (fun a : El p => a ∈ ys)) 0
  rwa [← h.eq] at this
theorem SeqEl.len {ys : List (El p)} (h : SeqEl ys) : ys.length ≤ p.n := by
  have := canElsF_len (Gen (fun a : El p => a ∈ ys)) 0
  rwa [← h.eq] at this
theorem SeqEl.dep {ys : List (El p)} (h : SeqEl ys) {d : Nat} (hd : Dep (Gen (fun a : El p => a ∈ ys)) d) : ∃ y, y ∈ ys ∧ lead y.v = d := by
  obtain ⟨x, hx⟩ := canT_ex (Gen.sub _) hd
  have hm := canElsF_mem.2 ⟨d, Nat.zero_le _, hd.lt, hx⟩
  rw [← h.eq] at hm
  have hca := canT_some hx
  exact ⟨x, hm, lead_of hca.tl (by rw [hca.lead]; omega)⟩
theorem isSeq_iff {xss : List (List Int)} : IsSeq p xss ↔ ∃ ys : List (El p), xss = vecs ys ∧ SeqEl ys :=
  ⟨fun ⟨ys, h1, h2⟩ => ⟨ys, h1, ⟨h2.trans h1⟩⟩, fun ⟨ys, h1, h2⟩ => ⟨ys, h1, h2.can.trans h1.symm⟩⟩
variable {ys : List (El p)} {x r s : El p}
theorem RepOf.gen (h : RepOf ys x r) : Gen (fun a : El p => a ∈ ys) (x⁻¹ * r) := h.mem _ (Gen.sub _) fun y hy => .of y hy
theorem RepOf.unique (hs : SeqEl ys) (h : RepOf ys x r) (k : RepOf ys x s) : r = s := by
  refine rep_unique (Gen.sub (fun a : El p => a ∈ ys)) ?_ fun d hd => ?_
  · have h1 := (Gen.sub (fun a : El p => a ∈ ys)).mul _ _ ((Gen.sub _).inv _ h.gen) k.gen
    rwa [Grp.mul_inv_rev, Grp.inv_inv, Grp.mul_assoc, Grp.mul_inv_cancel_left] at h1
  · obtain ⟨y, hy, rfl⟩ := hs.dep hd
    rw [h.zero y hy, k.zero y hy]
/-- The order that a sequence tells. -/
def ordOf (p : Pr) (ys : List (El p)) : Int := ys.foldl (fun a y => a * p.o (lead y.v)) 1
theorem ordOf_take (ys : List (El p)) {k : Nat} (hk : k < ys.length) : ordOf p (ys.take (k + 1)) = ordOf p (ys.take k) * p.o (lead (ys[k]).v) := by
  unfold ordOf
  rw [List.take_succ_eq_append_getElem hk, List.foldl_append]; rfl
theorem ordOf_bd : ∀ k : Nat, k ≤ ys.length → (∀ y, y ∈ ys → lead y.v < p.n) → 1 ≤ ordOf p (ys.take k) ∧ ordOf p (ys.take k) ≤ (7 ^ k : Nat)
  | 0, _, _ => by simp [ordOf]
  | k + 1, hk, h => by
    have ih := ordOf_bd k (by omega) h
    have ho := hc.valid.opos (h _ (List.getElem_mem (show k < ys.length by omega)))
    rw [ordOf_take ys (by omega)]
    refine ⟨?_, ?_⟩
    · have := Int.mul_le_mul ih.1 (show (1 : Int) ≤ p.o (lead (ys[k]).v) by omega) (by omega) (by omega)
      simpa using this
    · have := Int.mul_le_mul ih.2 ho.2 (by omega) (by omega)
      rw [Nat.pow_succ]
      push_cast
      push_cast at this
      exact this
theorem ordOf_rng {k : Nat} (h6 : ys.length ≤ 6) (hk : k ≤ ys.length) (h : ∀ y, y ∈ ys → lead y.v < p.n) : 1 ≤ ordOf p (ys.take k) ∧ ordOf p (ys.take k) ≤ 117649 := by
  have h1 := ordOf_bd k hk h
  have h2 : 7 ^ k ≤ 7 ^ 6 := Nat.pow_le_pow_right (by omega) (by omega)
  refine ⟨h1.1, ?_⟩
  have h3 : ((7 ^ k : Nat) : Int) ≤ (117649 : Nat) := Int.ofNat_le.2 h2
  omega
end
end Go.Proofs.Ytflniifngfiekaa

/-
  Walks: the reference's test of subgroups (l12Is, IsSubgroup).
  Conditions: stated at each theorem.
-/
namespace Go.Proofs.Ytflniifngfiekaa
open Go Go.Pc
/-- The presentation is a group, and the list is the canonical sequence of a subgroup of it. -/
def IsSubP (p : Pr) (xss : List (List Int)) : Prop := ∃ h : IsGrp p, @IsSeq p ⟨h.con⟩ xss
end Go.Proofs.Ytflniifngfiekaa

/-
  Answers that the program and the reference give: what they have to be, and that they are the same.
  Conditions: none.
-/
namespace Go.Proofs.Ytflniifngfiekaa
open Go Go.Pc
/-- An answer with a code: under A the pair meets V, else it is z with the code 1. -/
def Ans {α : Type} (A : Prop) (V : α → Int → Prop) (z k : α) (e : Int) : Prop := (A ∧ V k e) ∨ (¬ A ∧ k = z ∧ e = 1)
theorem Ans.same {α : Type} {A : Prop} {V : α → Int → Prop} {z k k' : α} {e e' : Int} (h : Ans A V z k e) (h' : Ans A V z k' e') (hu : A → ∀ a b c d, V a c → V b d → a = b ∧ c = d) : k = k' ∧ e = e' := by
  rcases h with ⟨h1, h2⟩ | ⟨h1, h2, h3⟩ <;> rcases h' with ⟨k1, k2⟩ | ⟨k1, k2, k3⟩
  · exact hu h1 _ _ _ _ h2 k2
  · exact absurd h1 k1
  · exact absurd k1 h1
  · exact ⟨by rw [h2, k2], by rw [h3, k3]⟩
theorem bool_eq {b c : Bool} {P : Prop} (h : b = true ↔ P) (k : c = true ↔ P) : b = c := by
  have e : b = true ↔ c = true := h.trans k.symm
  cases b <;> cases c <;> simp_all
/-- The list is an element of the subgroup that the sequence tells. -/
def MemP (p : Pr) (xss : List (List Int)) (xs : List Int) : Prop := ∃ (_ : ConAll p) (ys : List (El p)) (x : El p), xss = vecs ys ∧ xs = x.v ∧ Gen (fun a : El p => a ∈ ys) x
def MemV (p : Pr) (xss : List (List Int)) (xs : List Int) (b : Bool) (e : Int) : Prop := (b = true ↔ MemP p xss xs) ∧ e = 0
theorem MemV.uniq {p : Pr} {xss : List (List Int)} {xs : List Int} (a b : Bool) (c d : Int) (h : MemV p xss xs a c) (k : MemV p xss xs b d) : a = b ∧ c = d := ⟨bool_eq h.1 k.1, by rw [h.2, k.2]⟩
def SubV (p : Pr) (xss yss : List (List Int)) (b : Bool) (e : Int) : Prop := (b = true ↔ ∀ x, x ∈ xss → MemP p yss x) ∧ e = 0
theorem SubV.uniq {p : Pr} {xss yss : List (List Int)} (a b : Bool) (c d : Int) (h : SubV p xss yss a c) (k : SubV p xss yss b d) : a = b ∧ c = d := ⟨bool_eq h.1 k.1, by rw [h.2, k.2]⟩
end Go.Proofs.Ytflniifngfiekaa

/-
  Answers that are lists: representatives, subgroups.
  Conditions: none.
-/
namespace Go.Proofs.Ytflniifngfiekaa
open Go Go.Pc
def RepV (p : Pr) (xss : List (List Int)) (xs r : List Int) (e : Int) : Prop := (∃ (_ : ConAll p) (ys : List (El p)) (x y : El p), xss = vecs ys ∧ xs = x.v ∧ r = y.v ∧ RepOf ys x y) ∧ e = 0
theorem RepV.uniq {p : Pr} {xss : List (List Int)} {xs : List Int} (hS : IsSubP p xss) (a b : List Int) (c d : Int) (h : RepV p xss xs a c) (k : RepV p xss xs b d) : a = b ∧ c = d := by
  obtain ⟨⟨hc, ys, x, y, h1, h2, h3, h4⟩, h5⟩ := h
  obtain ⟨⟨hc', ys', x', y', k1, k2, k3, k4⟩, k5⟩ := k
  obtain ⟨hG, hq⟩ := hS
  haveI : ConAll p := ⟨hG.con⟩
  obtain ⟨zs, hzs, hse⟩ := isSeq_iff.1 hq
  obtain rfl : ys = zs := vecs_inj (h1.symm.trans hzs)
  obtain rfl : ys' = ys := vecs_inj (k1.symm.trans hzs)
  obtain rfl : x = x' := T.ext (h2.symm.trans k2)
  exact ⟨by rw [h3, k3, RepOf.unique hse h4 k4], by rw [h5, k5]⟩
end Go.Proofs.Ytflniifngfiekaa

/-
  Canonical sequences of subgroups: they generate the subgroup, their lengths tell the subgroups apart; closures under conjugation.
  Conditions: the tails at all levels are groups.
-/
namespace Go.Proofs.Ytflniifngfiekaa
open Go Go.Pc Grp
section
variable {p : Pr} [hc : ConAll p] {H K : El p → Prop} {d : Nat}
theorem sub_le_of_dep (hH : Pc.Sub H) (hK : Pc.Sub K) (hle : ∀ a, H a → K a) (hd : ∀ d, Dep K d → Dep H d) : ∀ a, K a → H a := by
  have key : ∀ m d, d ≤ p.n → p.n - d = m → ∀ x, K x → Tl d x → H x := by
    intro m
    induction m with
    | zero =>
      intro d h1 h2 x hx ht
      obtain rfl : d = p.n := by omega
      rw [ht.end_]; exact hH.one
    | succ m ih =>
      intro d h1 h2 x hx ht
      by_cases h0 : co x d = 0
      · exact ih (d + 1) (by omega) (by omega) x hx (ht.succ h0)
      · have hdn : d < p.n := by omega
        obtain ⟨z, hz, hzt, hz1⟩ := dep_one hH (hd d ⟨x, hx, ht, h0⟩)
        have h3 := ih (d + 1) (by omega) (by omega) (x * Grp.pwz z (-(co x d))) (hK.mul _ _ hx (hK.pwz (hle z hz) _)) (strip_step hdn ht hzt hz1)
        exact (hH.right (hH.pwz hz _)).1 h3
  exact fun a ha => key p.n 0 (Nat.zero_le _) (by omega) a ha (Tl.zero a)
theorem canEls_mem {x : El p} : x ∈ canEls H ↔ ∃ d, d < p.n ∧ canT H d = some x := by
  rw [← canElsF_zero, canElsF_mem]
  exact ⟨fun ⟨e, _, h2, h3⟩ => ⟨e, h2, h3⟩, fun ⟨e, h2, h3⟩ => ⟨e, Nat.zero_le _, h2, h3⟩⟩
theorem gen_can (hH : Pc.Sub H) (a : El p) : Gen (fun a : El p => a ∈ canEls H) a ↔ H a := by
  have h1 : ∀ a, Gen (fun a : El p => a ∈ canEls H) a → H a := Gen.le hH fun a ha => by
    obtain ⟨d, _, h⟩ := canEls_mem.1 ha
    exact (canT_some h).mem
  refine ⟨h1 a, sub_le_of_dep (Gen.sub _) hH h1 (fun d hd => ?_) a⟩
  obtain ⟨x, hx⟩ := canT_ex hH hd
  have hca := canT_some hx
  exact ⟨x, .of _ (canEls_mem.2 ⟨d, hd.lt, hx⟩), hca.tl, by rw [hca.lead]; omega⟩
theorem gen_can_eq (hH : Pc.Sub H) : Gen (fun a : El p => a ∈ canEls H) = H := by
  funext a; exact propext (gen_can hH a)
theorem seqEl_can (hH : Pc.Sub H) : SeqEl (canEls H) := ⟨by rw [gen_can_eq hH, canon_vecs]⟩
theorem SeqEl.els {ys : List (El p)} (h : SeqEl ys) : canEls (Gen (fun a : El p => a ∈ ys)) = ys := by
  have := h.eq
  rw [canElsF_zero] at this
  exact this.symm
theorem canT_isSome (hH : Pc.Sub H) : (canT H d).isSome = true ↔ Dep H d := by
  constructor
  · intro h
    cases e : canT H d with
    | none => rw [e] at h; cases h
    | some x => exact (canT_some e).dep
  · intro h
    obtain ⟨x, hx⟩ := canT_ex hH h
    rw [hx]; rfl
theorem canEls_len : (canEls H).length = (List.range p.n).countP fun d => (canT H d).isSome := by
  unfold canEls
  rw [List.length_filterMap_eq_countP]
theorem countP_le_of {α : Type} {f g : α → Bool} : ∀ l : List α, (∀ x, x ∈ l → f x = true → g x = true) → l.countP f ≤ l.countP g
  | [], _ => Nat.le_refl _
  | x :: l, h => by
    have ih := countP_le_of l fun y hy => h y (List.mem_cons_of_mem _ hy)
    have h0 := h x List.mem_cons_self
    simp only [List.countP_cons]
    by_cases hf : f x = true
    · rw [if_pos hf, if_pos (h0 hf)]; omega
    · rw [if_neg hf]; omega
theorem countP_lt_of {α : Type} {f g : α → Bool} : ∀ l : List α, (∀ x, x ∈ l → f x = true → g x = true) → (∃ x, x ∈ l ∧ g x = true ∧ f x = false) → l.countP f < l.countP g
  | [], _, ⟨x, hx, _⟩ => by cases hx
  | x :: l, h, ⟨y, hy, hg, hf⟩ => by
    have hr : ∀ y, y ∈ l → f y = true → g y = true := fun y hy => h y (List.mem_cons_of_mem _ hy)
    have h0 := h x List.mem_cons_self
    simp only [List.countP_cons]
    rcases List.mem_cons.1 hy with rfl | hy
    · have := countP_le_of l hr
      rw [hg, hf]; simp; omega
    · have ih := countP_lt_of l hr ⟨y, hy, hg, hf⟩
      by_cases hfx : f x = true
      · rw [if_pos hfx, if_pos (h0 hfx)]; omega
      · rw [if_neg hfx]; omega
theorem can_len_le (hH : Pc.Sub H) (hK : Pc.Sub K) (hle : ∀ a, H a → K a) : (canEls H).length ≤ (canEls K).length := by
  rw [canEls_len, canEls_len]
  refine countP_le_of _ fun d _ h => ?_
  obtain ⟨x, h1, h2, h3⟩ := (canT_isSome hH).1 h
  exact (canT_isSome hK).2 ⟨x, hle x h1, h2, h3⟩
theorem same_of_len (hH : Pc.Sub H) (hK : Pc.Sub K) (hle : ∀ a, H a → K a) (hl : (canEls K).length ≤ (canEls H).length) : ∀ a, K a → H a := by
  refine sub_le_of_dep hH hK hle fun d hd => ?_
  by_cases hn : Dep H d
  · exact hn
  exfalso
  rw [canEls_len, canEls_len] at hl
  have := countP_lt_of (f := fun d => (canT H d).isSome) (g := fun d => (canT K d).isSome) (List.range p.n) (fun e _ h => by
    obtain ⟨x, h1, h2, h3⟩ := (canT_isSome hH).1 h
    exact (canT_isSome hK).2 ⟨x, hle x h1, h2, h3⟩) ⟨d, List.mem_range.2 hd.lt, (canT_isSome hK).2 hd, by
      cases e : (canT H d).isSome with
      | false => rfl
      | true => exact absurd ((canT_isSome hH).1 e) hn⟩
  omega
/-- The smallest subgroup that contains S and is closed under conjugation by the elements of B. -/
inductive Clo {G : Type} [Grp G] (S B : G → Prop) : G → Prop
  | of (a : G) : S a → Clo S B a
  | one : Clo S B 1
  | mul (a b : G) : Clo S B a → Clo S B b → Clo S B (a * b)
  | inv (a : G) : Clo S B a → Clo S B a⁻¹
  | cj (a b : G) : Clo S B a → B b → Clo S B (Grp.cj a b)
theorem Clo.sub {G : Type} [Grp G] (S B : G → Prop) : Pc.Sub (Clo S B) := ⟨.one, fun _ _ => .mul _ _, fun _ => .inv _⟩
theorem Clo.le {G : Type} [Grp G] {S B K : G → Prop} (hK : Pc.Sub K) (h : ∀ a, S a → K a) (hcj : ∀ a b, K a → B b → K (Grp.cj a b)) : ∀ a, Clo S B a → K a := by
  intro a ha
  induction ha with
  | of a ha => exact h a ha
  | one => exact hK.one
  | mul a b _ _ i1 i2 => exact hK.mul _ _ i1 i2
  | inv a _ i1 => exact hK.inv _ i1
  | cj a b _ hb i1 => exact hcj _ _ i1 hb
/-- The commutators of two lists. -/
noncomputable def commsL2 (ys zs : List (El p)) : List (El p) := ys.flatMap fun y => zs.map (Grp.cm y)
noncomputable def CommC (ys zs : List (El p)) : El p → Prop := Clo (fun a : El p => a ∈ commsL2 ys zs) (fun a : El p => a ∈ ys ++ zs)
end
end Go.Proofs.Ytflniifngfiekaa

/-
  Walks: the reference's depth, order, table, reduction, representative and membership (l02Lead, l12Depth, l12Order).
  Conditions: stated at each theorem.
-/
namespace Go.Proofs.Ytflniifngfiekaa
open Go Go.Pc
/-- The order of a list that is a sequence. -/
def ordOfL (p : Pr) (xss : List (List Int)) : Int := xss.foldl (fun a x => a * p.o (lead x)) 1
/-- The answer of SubgroupOrder. -/
def OrdAns (p : Pr) (xss : List (List Int)) (k e : Int) : Prop := (IsSubP p xss ∧ k = ordOfL p xss ∧ e = 0) ∨ (¬ IsSubP p xss ∧ k = 0 ∧ e = 1)
theorem OrdAns.same {p : Pr} {xss : List (List Int)} {k e k' e' : Int} (h : OrdAns p xss k e) (h' : OrdAns p xss k' e') : k' = k ∧ e' = e := by
  rcases h with ⟨h1, h2, h3⟩ | ⟨h1, h2, h3⟩ <;> rcases h' with ⟨k1, k2, k3⟩ | ⟨k1, k2, k3⟩
  · exact ⟨by rw [h2, k2], by rw [h3, k3]⟩
  · exact absurd h1 k1
  · exact absurd k1 h1
  · exact ⟨by rw [h2, k2], by rw [h3, k3]⟩
end Go.Proofs.Ytflniifngfiekaa

/-
  Walk: the reference's copy of a list of lists, as the call's own (l01Own2).
  Conditions: stated at the theorem.
-/
namespace Go.Proofs.Ytflniifngfiekaa
open Go Go.Pc
set_option maxHeartbeats 1000000 in
theorem l01Own2G_ok {w : World} {va : Value} {us : List Value} {xss : List (List Int)} {lo hi : Nat} [hx : Pc.Rows lo hi w va us xss] (hm : ∀ i, (xss.getD i []).length ≤ 2000000) (hl : xss.length ≤ 1000000) :
    Calls Try.prog 59 #[va] w (Ret fun v w' => Ext w w' ∧ ∃ rs, GrowL 24 w.heap.size w' v rs ∧ rs.map (·.2) = xss) := by
  have hul := hx.vals.len
  refine enter (args := [va]) (l := [.tmp 2]) Try.func59 rfl rfl Try.ntmps59 (by simp) ?_
  refine go ?_
  refine st_slice0 (by first | exact True.intro | exact ⟨_, rfl, by ((try simp only [ev_tmp, ev_const, ev_func, get_put, get_args, get_putL, get_putL_nil, Nat.reduceEqDiff, reduceIte, List.getD_cons_zero, List.getD_cons_succ, List.getD_nil, Bool.not_true, Bool.not_false]); first | done | with_reducible rfl)⟩) fun w1 v1 he1 hs1 ho1 => ?_
  refine go ?_
  refine r_for xss.length (fun k ρ w' => ∃ v' rs, Has ρ [(0, va), (3, v'), (4, .int .i64 k)] ∧ Ext w w' ∧ GrowL 24 w.heap.size w' v' rs ∧ rs.map (·.2) = xss.take k) ?_ ?_
  · refine ⟨v1, [], ?_, he1, GrowL.start ho1 (Nat.le_refl _), by simp⟩
    exact hasP
  rintro k ρ w2 hk ⟨v2, rs, hH, he2, hG, hrs⟩
  refine rwp_has hH fun ρ0 => ?_
  have hrl : rs.length = k := by have := congrArg List.length hrs; simp at this; omega
  refine go ?_
  refine c_if (fun h4 => ?_) (fun h4 => ?_)
  · refine go ?_
    refine rc (l01Own_ok (xs := xss.getD k []) (hm k)) (next := fun v3 w3 h3 => ?_)
    obtain ⟨he3, hf3⟩ := h3
    refine go ?_
    refine st_grow hG he3 hf3 he2.size (by omega) (next := fun v4 v5 w5 hG5 hx5 hz5 hgs5 => ?_)
    refine go ?_
    refine forQ_normal (by omega) ⟨v5, _, ?_, hx5 w (he2.trans he3) (Nat.le_refl _), hG5, ?_⟩
    · exact hasP
    · rw [List.take_succ_eq_append_getElem (by omega), List.map_append, hrs]
      simp [show k < xss.length by omega]
  · refine go ?_
    rw [show k = xss.length by omega, List.take_length] at hrs
    exact ret1 ⟨he2, rs, hG, hrs⟩
end Go.Proofs.Ytflniifngfiekaa

/-
  Walks: the reference's table, reduction, representative and membership (l12Table, l12Reduce, l12Sift, l12Has).
  Conditions: the tails at all levels are groups; the list is a sequence.
-/
namespace Go.Proofs.Ytflniifngfiekaa
open Go Go.Pc
end Go.Proofs.Ytflniifngfiekaa

/-
  Walks: the reference's table, representative and membership (l12Table, l12Sift, l12Has, l12Within).
  Conditions: the tails at all levels are groups; the list is a sequence.
-/
namespace Go.Proofs.Ytflniifngfiekaa
open Go Go.Pc
set_option maxHeartbeats 400000 in
theorem l01Zero_ok {w : World} {v : Value} {xs : List Int} {lo hi : Nat} [hx : Ints lo hi w v xs] (hl : xs.length ≤ 2000000) :
    Calls Try.prog 96 #[v] w (Ret fun v w' => ∃ b, v = .bool b ∧ (b = true ↔ ∀ i, i < xs.length → xs.getD i 0 = 0) ∧ Ext w w') := by
  refine enter (args := [v]) (l := [.tmp 2]) Try.func96 rfl rfl Try.ntmps96 (by simp) ?_
  refine go ?_
  refine r_for xs.length (fun k ρ w' => Has ρ [(0, v), (3, .int .i64 k)] ∧ Ext w w' ∧ ∀ i, i < k → xs.getD i 0 = 0) ?_ ?_
  · refine ⟨?_, Ext.refl _, fun i hi => by omega⟩
    exact hasP
  rintro k ρ w2 hk ⟨hH, he2, hI⟩
  refine rwp_has hH fun ρ0 => ?_
  refine go ?_
  refine c_if (fun h4 => ?_) (fun h4 => ?_)
  · refine go ?_
    refine c_if (fun h5 => ?_) (fun h5 => ?_)
    · refine go ?_
      refine ret1 ⟨_, rfl, ?_, he2⟩
      simp only [Bool.false_eq_true, false_iff]
      exact fun h => h5 (h k (by omega))
    · refine go ?_
      refine forQ_normal (by omega) ⟨?_, he2, fun i hi => ?_⟩
      · exact hasP
      · by_cases e : i = k
        · subst e; exact Decidable.not_not.1 h5
        · exact hI i (by omega)
  · refine go ?_
    refine ret1 ⟨_, rfl, ?_, he2⟩
    simp only [true_iff]
    exact fun i hi => hI i (by omega)
end Go.Proofs.Ytflniifngfiekaa

/-
  Walks: the reference's conjugates, conjugate subgroups, closures under conjugation, normality (l10Conj, l13Conj, l12Whole, l13Stable, l13Normal).
  Conditions: the tails at all levels are groups; the lists are those told.
-/
namespace Go.Proofs.Ytflniifngfiekaa
open Go Go.Pc
/-- The generators. -/
noncomputable def gensL (p : Pr) [ConAll p] : List (El p) := (List.range p.n).map (gOf p 0)
theorem gOf_val {p : Pr} [hc : ConAll p] {i : Nat} (hi : i < p.n) : (gOf p 0 i : El p).v = unitv p i 1 := by
  rw [gOf_eq (h := hc.con 0) ⟨Nat.zero_le _, hi⟩]; rfl
end Go.Proofs.Ytflniifngfiekaa

/-
  Answers: generated subgroups, conjugate subgroups, normality, indices, depths.
  Conditions: none.
-/
namespace Go.Proofs.Ytflniifngfiekaa
open Go Go.Pc
def GrpL (p : Pr) (xss : List (List Int)) : Prop := IsGrp p ∧ ∀ i, i < xss.length → InR p (xss.getD i [])
def GenV (p : Pr) (xss r : List (List Int)) (e : Int) : Prop := (24 < xss.length ∧ r = [] ∧ e = 3) ∨ (xss.length ≤ 24 ∧ (∃ (_ : ConAll p) (ys : List (El p)), xss = vecs ys ∧ r = canon (Gen (fun a : El p => a ∈ ys))) ∧ e = 0)
theorem GenV.uniq {p : Pr} {xss : List (List Int)} (a b : List (List Int)) (c d : Int) (h : GenV p xss a c) (k : GenV p xss b d) : a = b ∧ c = d := by
  rcases h with ⟨h1, h2, h3⟩ | ⟨h1, ⟨hc, ys, h2, h3⟩, h4⟩ <;> rcases k with ⟨k1, k2, k3⟩ | ⟨k1, ⟨hc', ys', k2, k3⟩, k4⟩
  · exact ⟨by rw [h2, k2], by rw [h3, k3]⟩
  · omega
  · omega
  · obtain rfl := vecs_inj (h2.symm.trans k2)
    exact ⟨by rw [h3, k3], by rw [h4, k4]⟩
def ConjV (p : Pr) (xss : List (List Int)) (xs : List Int) (r : List (List Int)) (e : Int) : Prop := (∃ (_ : ConAll p) (ys : List (El p)) (x : El p), xss = vecs ys ∧ xs = x.v ∧ r = canon (Gen (fun a : El p => a ∈ ys.map (Grp.cj · x)))) ∧ e = 0
theorem ConjV.uniq {p : Pr} {xss : List (List Int)} {xs : List Int} (a b : List (List Int)) (c d : Int) (h : ConjV p xss xs a c) (k : ConjV p xss xs b d) : a = b ∧ c = d := by
  obtain ⟨⟨hc, ys, x, h2, h3, h4⟩, h5⟩ := h
  obtain ⟨⟨hc', ys', x', k2, k3, k4⟩, k5⟩ := k
  obtain rfl := vecs_inj (h2.symm.trans k2)
  obtain rfl : x = x' := T.ext (h3.symm.trans k3)
  exact ⟨by rw [h4, k4], by rw [h5, k5]⟩
/-- The subgroup is normal. -/
def NormP (p : Pr) (xss : List (List Int)) : Prop := ∃ (_ : ConAll p) (ys : List (El p)), xss = vecs ys ∧ ∀ y, y ∈ ys → ∀ g, g ∈ gensL p → Gen (fun a : El p => a ∈ ys) (Grp.cj y g)
def NormV (p : Pr) (xss : List (List Int)) (b : Bool) (e : Int) : Prop := (b = true ↔ NormP p xss) ∧ e = 0
theorem NormV.uniq {p : Pr} {xss : List (List Int)} (a b : Bool) (c d : Int) (h : NormV p xss a c) (k : NormV p xss b d) : a = b ∧ c = d := ⟨bool_eq h.1 k.1, by rw [h.2, k.2]⟩
/-- The index of a subgroup. -/
def IdxV (p : Pr) (xss yss : List (List Int)) (k e : Int) : Prop := ((∀ x, x ∈ yss → MemP p xss x) ∧ k = ordOfL p xss / ordOfL p yss ∧ e = 0) ∨ (¬ (∀ x, x ∈ yss → MemP p xss x) ∧ k = 0 ∧ e = 5)
theorem IdxV.uniq {p : Pr} {xss yss : List (List Int)} (a b c d : Int) (h : IdxV p xss yss a c) (k : IdxV p xss yss b d) : a = b ∧ c = d := by
  rcases h with ⟨h1, h2, h3⟩ | ⟨h1, h2, h3⟩ <;> rcases k with ⟨k1, k2, k3⟩ | ⟨k1, k2, k3⟩
  · exact ⟨by rw [h2, k2], by rw [h3, k3]⟩
  · exact absurd h1 k1
  · exact absurd k1 h1
  · exact ⟨by rw [h2, k2], by rw [h3, k3]⟩
def DepV (xss : List (List Int)) (r : List Int) (e : Int) : Prop := r = xss.map (fun x => (lead x : Int)) ∧ e = 0
theorem DepV.uniq {xss : List (List Int)} (a b : List Int) (c d : Int) (h : DepV xss a c) (k : DepV xss b d) : a = b ∧ c = d := ⟨by rw [h.1, k.1], by rw [h.2, k.2]⟩
end Go.Proofs.Ytflniifngfiekaa

/-
  Answers: coset numbers, elements and exponents of subgroups.
  Conditions: none.
-/
namespace Go.Proofs.Ytflniifngfiekaa
open Go Go.Pc
section
variable {p : Pr}
/-- The places that are no depths of the elements. -/
def freeL (p : Pr) (ys : List (El p)) (k : Nat) : List Nat := (List.range k).filter fun d => ys.all fun y => decide (lead y.v ≠ d)
abbrev ints (l : List Nat) : List Int := l.map fun d : Nat => (d : Int)
theorem freeL_lt {ys : List (El p)} {k d : Nat} (h : d ∈ freeL p ys k) : d < k := List.mem_range.1 (List.mem_filter.1 h).1
theorem freeL_yes {ys : List (El p)} {k : Nat} (h : ∀ y, y ∈ ys → lead y.v ≠ k) : freeL p ys (k + 1) = freeL p ys k ++ [k] := by
  unfold freeL
  rw [List.range_succ, List.filter_append]
  congr 1
  rw [List.filter_cons_of_pos, List.filter_nil]
  simpa using h
theorem freeL_no {ys : List (El p)} {k : Nat} {y : El p} (hy : y ∈ ys) (h : lead y.v = k) : freeL p ys (k + 1) = freeL p ys k := by
  unfold freeL
  rw [List.range_succ, List.filter_append, List.filter_cons_of_neg, List.filter_nil, List.append_nil]
  simp only [List.all_eq_true, decide_eq_true_eq]
  exact fun h' => h' y hy h
/-- The number that the free places of an element tell. -/
def numF (p : Pr) (l : List Nat) (r : El p) : Int := l.foldl (fun a d => a * p.o d + co r d) 0
theorem numF_take (l : List Nat) (r : El p) {k : Nat} (hk : k < l.length) : numF p (l.take (k + 1)) r = numF p (l.take k) r * p.o l[k] + co r l[k] := by
  unfold numF
  rw [List.take_succ_eq_append_getElem hk, List.foldl_append]; rfl
def NumV (p : Pr) (xss : List (List Int)) (xs : List Int) (k e : Int) : Prop := (∃ (_ : ConAll p) (ys : List (El p)) (x r : El p), xss = vecs ys ∧ xs = x.v ∧ RepOf ys x r ∧ k = numF p (freeL p ys p.n) r) ∧ e = 0
theorem NumV.uniq {xss : List (List Int)} {xs : List Int} (hS : IsSubP p xss) (a b c d : Int) (h : NumV p xss xs a c) (k : NumV p xss xs b d) : a = b ∧ c = d := by
  obtain ⟨⟨hc, ys, x, y, h1, h2, h3, h4⟩, h5⟩ := h
  obtain ⟨⟨hc', ys', x', y', k1, k2, k3, k4⟩, k5⟩ := k
  obtain ⟨hG, hq⟩ := hS
  haveI : ConAll p := ⟨hG.con⟩
  obtain ⟨zs, hzs, hse⟩ := isSeq_iff.1 hq
  obtain rfl : ys = zs := vecs_inj (h1.symm.trans hzs)
  obtain rfl : ys' = ys := vecs_inj (k1.symm.trans hzs)
  obtain rfl : x = x' := T.ext (h2.symm.trans k2)
  exact ⟨by rw [h4, k4, RepOf.unique hse h3 k3], by rw [h5, k5]⟩
end
section
variable {p : Pr} [hc : ConAll p]
/-- The product of powers of elements. -/
noncomputable def prodTo (ys : List (El p)) (as_ : List Int) : Nat → El p
  | 0 => 1
  | k + 1 => prodTo ys as_ k * Grp.pwz (ys.getD k 1) (as_.getD k 0)
/-- What is left of an element behind its first exponents. -/
noncomputable def stE (ys : List (El p)) (x : El p) : Nat → El p
  | 0 => x
  | k + 1 => Grp.pwz (ys.getD k 1) (-(co (stE ys x k) (lead (ys.getD k 1).v))) * stE ys x k
noncomputable def expsL (ys : List (El p)) (x : El p) (k : Nat) : List Int := (List.range k).map fun i => co (stE ys x i) (lead (ys.getD i 1).v)
end
/-- The exponents lie in their ranges. -/
def RangeP (p : Pr) (xss : List (List Int)) (as_ : List Int) : Prop := as_.length = xss.length ∧ ∀ i, i < xss.length → 0 ≤ as_.getD i 0 ∧ as_.getD i 0 ≤ p.o (lead (xss.getD i [])) - 1
def MeV (p : Pr) (xss : List (List Int)) (as_ r : List Int) (e : Int) : Prop := (RangeP p xss as_ ∧ (∃ (_ : ConAll p) (ys : List (El p)), xss = vecs ys ∧ r = (prodTo ys as_ ys.length).v) ∧ e = 0) ∨ (¬ RangeP p xss as_ ∧ r = [] ∧ e = 2)
theorem MeV.uniq {p : Pr} {xss : List (List Int)} {as_ : List Int} (a b : List Int) (c d : Int) (h : MeV p xss as_ a c) (k : MeV p xss as_ b d) : a = b ∧ c = d := by
  rcases h with ⟨h1, ⟨_, ys, h2, h3⟩, h4⟩ | ⟨h1, h2, h3⟩ <;> rcases k with ⟨k1, ⟨_, ys', k2, k3⟩, k4⟩ | ⟨k1, k2, k3⟩
  · obtain rfl := vecs_inj (h2.symm.trans k2)
    exact ⟨by rw [h3, k3], by rw [h4, k4]⟩
  · exact absurd h1 k1
  · exact absurd k1 h1
  · exact ⟨by rw [h2, k2], by rw [h3, k3]⟩
def MxV (p : Pr) (xss : List (List Int)) (xs r : List Int) (e : Int) : Prop := (MemP p xss xs ∧ (∃ (_ : ConAll p) (ys : List (El p)) (x : El p), xss = vecs ys ∧ xs = x.v ∧ r = expsL ys x ys.length) ∧ e = 0) ∨ (¬ MemP p xss xs ∧ r = [] ∧ e = 4)
theorem MxV.uniq {p : Pr} {xss : List (List Int)} {xs : List Int} (a b : List Int) (c d : Int) (h : MxV p xss xs a c) (k : MxV p xss xs b d) : a = b ∧ c = d := by
  rcases h with ⟨h1, ⟨_, ys, x, h2, hx, h3⟩, h4⟩ | ⟨h1, h2, h3⟩ <;> rcases k with ⟨k1, ⟨_, ys', x', k2, kx, k3⟩, k4⟩ | ⟨k1, k2, k3⟩
  · obtain rfl := vecs_inj (h2.symm.trans k2)
    obtain rfl : x = x' := T.ext (hx.symm.trans kx)
    exact ⟨by rw [h3, k3], by rw [h4, k4]⟩
  · exact absurd h1 k1
  · exact absurd k1 h1
  · exact ⟨by rw [h2, k2], by rw [h3, k3]⟩
end Go.Proofs.Ytflniifngfiekaa

/-
  Digits: the element with a number along a list of places; the products of the orders; lists of all such elements.
  Conditions: none.
-/
namespace Go.Proofs.Ytflniifngfiekaa
open Go Go.Pc
section
variable {p : Pr} {l : List Nat}
def elTo (p : Pr) (l : List Nat) : Nat → Int → List Int
  | 0, _ => zeros p.n
  | k + 1, t => (elTo p l k (t / p.o (l.getD k 0))).set (l.getD k 0) (t % p.o (l.getD k 0))
theorem elTo_len : ∀ (k : Nat) (t : Int), (elTo p l k t).length = p.n
  | 0, _ => zeros_len _
  | k + 1, t => by simp [elTo, elTo_len k]
theorem getD_mem {k : Nat} (hk : k < l.length) : l.getD k 0 ∈ l := by simp [hk]
theorem elTo_in (hv : Valid p) (hl : ∀ d, d ∈ l → d < p.n) : ∀ k, k ≤ l.length → ∀ t : Int, 0 ≤ t → InR p (elTo p l k t)
  | 0, _, _, _ => hv.zeros_in
  | k + 1, h, t, ht => by
    have hd := hl _ (getD_mem (show k < l.length by omega))
    have ho := hv.opos hd
    exact (elTo_in hv hl k (by omega) _ (Int.ediv_nonneg ht (by omega))).set (Int.emod_nonneg _ (by omega)) (fun _ => Int.emod_lt_of_pos _ (by omega))
def elAtT (hv : Valid p) (l : List Nat) (hl : ∀ d, d ∈ l → d < p.n) (t : Int) (ht : 0 ≤ t) : El p := ⟨elTo p l l.length t, elTo_in hv hl _ (Nat.le_refl _) t ht, fun i hi => absurd hi (Nat.not_lt_zero i)⟩
theorem take_mem_succ {k : Nat} (hk : k < l.length) {d : Nat} : d ∈ l.take (k + 1) ↔ d ∈ l.take k ∨ d = l.getD k 0 := by
  rw [List.take_succ_eq_append_getElem hk, List.mem_append, List.mem_singleton]; simp [hk]
/-- The product of the orders at places. -/
def ordL (p : Pr) (l : List Nat) : Int := l.foldl (fun a d => a * p.o d) 1
theorem ordL_app (l : List Nat) (d : Nat) : ordL p (l ++ [d]) = ordL p l * p.o d := by unfold ordL; rw [List.foldl_append]; rfl
theorem ordL_take (l : List Nat) {k : Nat} (hk : k < l.length) : ordL p (l.take (k + 1)) = ordL p (l.take k) * p.o (l.getD k 0) := by
  rw [List.take_succ_eq_append_getElem hk, ordL_app]; simp [hk]
/-- All elements with digits at the first places. -/
def trTo (p : Pr) (l : List Nat) : Nat → List (List Int)
  | 0 => [zeros p.n]
  | k + 1 => (trTo p l k).flatMap fun x => (List.range (p.o (l.getD k 0)).toNat).map fun e : Nat => x.set (l.getD k 0) (e : Int)
end
section
variable {p : Pr}
/-- The order of the group is the index times the order of the subgroup. -/
theorem ord_split [hc : ConAll p] {ys : List (El p)} (hs : SeqOk ys) : ordL p (List.range p.n) = ordL p (freeL p ys p.n) * ordOf p ys := by
  have hasc : ∀ i j (hi : i < ys.length) (hj : j < ys.length), i < j → lead (ys[i]).v < lead (ys[j]).v := fun i j hi hj hij => List.pairwise_iff_getElem.1 hs.asc i j hi hj hij
  have key : ∀ k, k ≤ p.n → ∃ j, j ≤ ys.length ∧ (∀ i (h : i < ys.length), i < j → lead (ys[i]).v < k) ∧ (∀ i (h : i < ys.length), j ≤ i → k ≤ lead (ys[i]).v) ∧ ordL p (List.range k) = ordL p (freeL p ys k) * ordOf p (ys.take j) := by
    intro k
    induction k with
    | zero => exact fun _ => ⟨0, Nat.zero_le _, fun i h hi => absurd hi (Nat.not_lt_zero _), fun i h _ => Nat.zero_le _, by simp [ordL, freeL, ordOf]⟩
    | succ k ih =>
      intro hk
      obtain ⟨j, h1, h2, h3, h4⟩ := ih (by omega)
      have e0 : ordL p (List.range (k + 1)) = ordL p (List.range k) * p.o k := by rw [List.range_succ, ordL_app]
      by_cases hj : ∃ h : j < ys.length, lead (ys[j]).v = k
      · obtain ⟨hjl, hjk⟩ := hj
        refine ⟨j + 1, hjl, fun i h hi => ?_, fun i h hi => ?_, ?_⟩
        · by_cases e : i = j
          · subst e; omega
          · have := h2 i h (by omega); omega
        · have := hasc j i hjl h (by omega); omega
        · rw [e0, h4, freeL_no (List.getElem_mem hjl) hjk, ordOf_take ys hjl, hjk, Int.mul_assoc]
      · have hno : ∀ y, y ∈ ys → lead y.v ≠ k := fun y hy e => by
          obtain ⟨i, hi, rfl⟩ := List.getElem_of_mem hy
          by_cases h5 : i < j
          · have := h2 i hi h5; omega
          · by_cases h6 : i = j
            · subst h6; exact hj ⟨hi, e⟩
            · have h7 := h3 j (by omega) (Nat.le_refl _)
              have := hasc j i (by omega) hi (by omega)
              omega
        refine ⟨j, h1, fun i h hi => by have := h2 i h hi; omega, fun i h hi => ?_, ?_⟩
        · have h5 := h3 i h hi
          have h6 := hno _ (List.getElem_mem h)
          omega
        · rw [e0, h4, freeL_yes hno, ordL_app, Int.mul_assoc, Int.mul_assoc, Int.mul_comm (ordOf p (ys.take j))]
  obtain ⟨j, h1, h2, h3, h4⟩ := key p.n (Nat.le_refl _)
  have hj : j = ys.length := by
    by_cases h : j < ys.length
    · have h5 := h3 j h (Nat.le_refl _)
      have h6 := (hs.lead1 _ (List.getElem_mem h)).1
      omega
    · omega
  rw [h4, hj, List.take_length]
/-- The index of a subgroup in the group. -/
def idxOf (p : Pr) (ys : List (El p)) : Int := ordL p (freeL p ys p.n)
/-- The representatives of the cosets, in ascending order. -/
def transL (p : Pr) (ys : List (El p)) : List (List Int) := trTo p (freeL p ys p.n) (freeL p ys p.n).length
end
def TrV (p : Pr) (xss r : List (List Int)) (e : Int) : Prop := ∃ (_ : ConAll p) (ys : List (El p)), xss = vecs ys ∧ ((128 < idxOf p ys ∧ r = [] ∧ e = 3) ∨ (idxOf p ys ≤ 128 ∧ r = transL p ys ∧ e = 0))
theorem TrV.uniq {p : Pr} {xss : List (List Int)} (a b : List (List Int)) (c d : Int) (h : TrV p xss a c) (k : TrV p xss b d) : a = b ∧ c = d := by
  obtain ⟨_, ys, h1, h2⟩ := h
  obtain ⟨_, ys', k1, k2⟩ := k
  obtain rfl := vecs_inj (h1.symm.trans k1)
  rcases h2 with ⟨h3, h4, h5⟩ | ⟨h3, h4, h5⟩ <;> rcases k2 with ⟨k3, k4, k5⟩ | ⟨k3, k4, k5⟩
  · exact ⟨by rw [h4, k4], by rw [h5, k5]⟩
  · omega
  · omega
  · exact ⟨by rw [h4, k4], by rw [h5, k5]⟩
end Go.Proofs.Ytflniifngfiekaa

/-
  All elements of a group, by their numbers; elements whose commutators with the generators lie in a subgroup.
  Conditions: the tails at all levels are groups.
-/
namespace Go.Proofs.Ytflniifngfiekaa
open Go Go.Pc
section
variable {p : Pr}
theorem numF_lt (hv : Valid p) (l : List Nat) (hl : ∀ d, d ∈ l → d < p.n) (x : El p) : ∀ k, k ≤ l.length → 0 ≤ numF p (l.take k) x ∧ numF p (l.take k) x + 1 ≤ ordL p (l.take k)
  | 0, _ => by simp [numF, ordL]
  | k + 1, h => by
    have ih := numF_lt hv l hl x k (by omega)
    have hk : k < l.length := by omega
    have hd := hl _ (List.getElem_mem hk)
    have ho := hv.opos hd
    have hc : 0 ≤ co x l[k] ∧ co x l[k] < p.o l[k] := x.inr.rng _ hd
    rw [numF_take l x hk, ordL_take l hk, show l.getD k 0 = l[k] by simp [hk]]
    generalize numF p (l.take k) x = a at ih ⊢
    generalize ordL p (l.take k) = b at ih ⊢
    generalize co x l[k] = c at hc ⊢
    generalize p.o l[k] = o at ho hc ⊢
    have h1 : 0 ≤ a * o := Int.mul_nonneg ih.1 (by omega)
    have h2 : (a + 1) * o ≤ b * o := Int.mul_le_mul_of_nonneg_right ih.2 (by omega)
    rw [Int.add_mul, Int.one_mul] at h2
    omega
theorem elTo_num (hv : Valid p) (l : List Nat) (hn : l.Nodup) (hl : ∀ d, d ∈ l → d < p.n) (x : El p) : ∀ k, k ≤ l.length → ∀ d, d ∈ l.take k → (elTo p l k (numF p (l.take k) x)).getD d 0 = co x d
  | 0, _, d, hd => by simp at hd
  | k + 1, h, d, hd => by
    have hk : k < l.length := by omega
    have hdk := hl _ (List.getElem_mem hk)
    have ho := hv.opos hdk
    have hc : 0 ≤ co x l[k] ∧ co x l[k] < p.o l[k] := x.inr.rng _ hdk
    have hg : l.getD k 0 = l[k] := by simp [hk]
    show ((elTo p l k (numF p (l.take (k + 1)) x / p.o (l.getD k 0))).set (l.getD k 0) (numF p (l.take (k + 1)) x % p.o (l.getD k 0))).getD d 0 = co x d
    rw [numF_take l x hk, hg]
    have e1 : (numF p (l.take k) x * p.o l[k] + co x l[k]) / p.o l[k] = numF p (l.take k) x := by
      rw [Int.add_comm, Int.add_mul_ediv_right _ _ (by omega), Int.ediv_eq_zero_of_lt hc.1 hc.2, Int.zero_add]
    have e2 : (numF p (l.take k) x * p.o l[k] + co x l[k]) % p.o l[k] = co x l[k] := by
      rw [Int.add_comm, Int.add_mul_emod_self_right, Int.emod_eq_of_lt hc.1 hc.2]
    rw [e1, e2]
    by_cases h1 : l[k] = d
    · subst h1
      rw [Pc.getD_set_eq _ _ _ (by rw [elTo_len]; exact hdk)]
    · rw [Pc.getD_set_ne _ _ _ _ h1]
      have h2 : d ∈ l.take k := ((take_mem_succ hk).1 hd).resolve_right fun e => h1 (by rw [e, hg])
      exact elTo_num hv l hn hl x k (by omega) d h2
end
section
variable {p : Pr} [hc : ConAll p]
/-- The element with a number. -/
def allE (p : Pr) [hc : ConAll p] (i : Nat) : El p := elAtT hc.valid (List.range p.n) (fun _ hd => List.mem_range.1 hd) i (by omega)
theorem allE_val (i : Nat) : (allE p i).v = elTo p (List.range p.n) (List.range p.n).length (i : Int) := rfl
def ordN (p : Pr) : Nat := (ordL p (List.range p.n)).toNat
theorem allE_surj (x : El p) : ∃ i, i < ordN p ∧ x = allE p i := by
  have hv := hc.valid
  have hl : ∀ d, d ∈ List.range p.n → d < p.n := fun d hd => List.mem_range.1 hd
  have hb := numF_lt hv (List.range p.n) hl x (List.range p.n).length (Nat.le_refl _)
  have hn := elTo_num hv (List.range p.n) List.nodup_range hl x (List.range p.n).length (Nat.le_refl _)
  rw [List.take_length] at hb hn
  refine ⟨(numF p (List.range p.n) x).toNat, by unfold ordN; omega, T.ext ?_⟩
  rw [allE_val, Int.toNat_of_nonneg hb.1]
  have hxl := x.inr.len
  refine list_ext0 (by rw [elTo_len]; exact hxl) fun d hd => ?_
  rw [hn d (List.mem_range.2 (by omega))]; rfl
/-- The commutators with all generators lie in the subgroup. -/
def AbP (ys : List (El p)) (x : El p) : Prop := ∀ i (h : i < (gensL p).length), Gen (fun a : El p => a ∈ ys) (Grp.cm x (gensL p)[i])
end
def CtV (p : Pr) (r : List (List Int)) (e : Int) : Prop := (∃ (_ : ConAll p), r = canon (Gen (fun a : El p => AbP [] a))) ∧ e = 0
theorem CtV.uniq {p : Pr} (a b : List (List Int)) (c d : Int) (h : CtV p a c) (k : CtV p b d) : a = b ∧ c = d := by
  obtain ⟨⟨_, h1⟩, h2⟩ := h
  obtain ⟨⟨_, k1⟩, k2⟩ := k
  exact ⟨by rw [h1, k1], by rw [h2, k2]⟩
end Go.Proofs.Ytflniifngfiekaa

/-
  Words over the generators, the relators of a presentation, the value of a word at some elements.
  Conditions: none.
-/
namespace Go.Proofs.Ytflniifngfiekaa
open Go Go.Pc
/-- The word of the powers of the generators from i on. -/
def wordA (i : Nat) : List Int → List Int
  | [] => []
  | x :: l => List.replicate x.toNat ((i : Int) + 1) ++ wordA (i + 1) l
def wordV (e : List Int) : List Int := wordA 0 e
theorem wordA_snoc : ∀ (l : List Int) (i : Nat) (x : Int), wordA i (l ++ [x]) = wordA i l ++ List.replicate x.toNat (((i + l.length : Nat) : Int) + 1)
  | [], i, x => by simp [wordA]
  | y :: l, i, x => by
    simp only [List.cons_append, wordA, wordA_snoc l (i + 1) x, List.append_assoc, List.length_cons]
    rw [show i + 1 + l.length = i + (l.length + 1) by omega]
theorem wordV_take {e : List Int} {k : Nat} (hk : k < e.length) : wordV (e.take (k + 1)) = wordV (e.take k) ++ List.replicate (e.getD k 0).toNat ((k : Int) + 1) := by
  rw [List.take_succ_eq_append_getElem hk]
  unfold wordV
  rw [wordA_snoc]
  have e1 : e.getD k 0 = e[k] := by simp [hk]
  have e2 : 0 + (e.take k).length = k := by simp; omega
  rw [e1, e2]
def invW (w : List Int) : List Int := (w.map fun x => -x).reverse
theorem wordA_len {b : Nat} : ∀ (l : List Int) (i : Nat), (∀ x, x ∈ l → x ≤ b) → (wordA i l).length ≤ l.length * b
  | [], _, _ => by simp [wordA]
  | x :: l, i, h => by
    have h1 := wordA_len l (i + 1) fun y hy => h y (List.mem_cons_of_mem _ hy)
    have h2 := h x List.mem_cons_self
    have h3 : x.toNat ≤ b := by omega
    simp only [wordA, List.length_append, List.length_replicate, List.length_cons, Nat.add_mul, Nat.one_mul]
    omega
theorem wordA_mem : ∀ (l : List Int) (i : Nat) (a : Int), a ∈ wordA i l → (i : Int) + 1 ≤ a ∧ a ≤ (i + l.length : Nat)
  | [], i, a, h => by simp [wordA] at h
  | x :: l, i, a, h => by
    simp only [wordA, List.mem_append, List.mem_replicate] at h
    simp only [List.length_cons]
    rcases h with ⟨_, rfl⟩ | h
    · omega
    · have := wordA_mem l (i + 1) a h
      omega
/-- All letters name one of n generators. -/
def LetW (n : Nat) (w : List Int) : Prop := ∀ a, a ∈ w → a ≠ 0 ∧ -(n : Int) ≤ a ∧ a ≤ n
theorem LetW.append {n : Nat} {w v : List Int} (h : LetW n w) (k : LetW n v) : LetW n (w ++ v) := fun a ha => (List.mem_append.1 ha).elim (h a) (k a)
theorem letW_word {n : Nat} {e : List Int} (he : e.length = n) : LetW n (wordV e) := fun a ha => by
  have := wordA_mem e 0 a ha
  omega
def relP (p : Pr) (i : Nat) : List Int := List.replicate (p.o i).toNat ((i : Int) + 1) ++ invW (wordV (p.pow.getD i []))
def relC (p : Pr) (i k : Nat) : List Int := [-(i : Int) - 1, ((i + 1 + k : Nat) : Int) + 1, (i : Int) + 1] ++ invW (wordV ((p.cnj.getD i []).getD k []))
def relCs (p : Pr) (i m : Nat) : List (List Int) := (List.range m).map (relC p i)
def relL (p : Pr) (m : Nat) : List (List Int) := (List.range p.n).map (relP p) ++ (List.range m).flatMap fun i => relCs p i (p.n - 1 - i)
/-- The relators of a presentation. -/
def rels (p : Pr) : List (List Int) := relL p p.n
section
variable {p : Pr}
theorem invec_word (hv : Valid p) {e : List Int} (h : InR p e) : e.length = p.n ∧ (wordV e).length ≤ 36 ∧ ∀ i, i < e.length → 0 ≤ e.getD i 0 ∧ e.getD i 0 ≤ 6 := by
  have hn := hv.n6
  have hr : ∀ i, i < e.length → 0 ≤ e.getD i 0 ∧ e.getD i 0 ≤ 6 := fun i hi => by
    have h1 := h.rng i (by have := h.len; omega)
    have h2 := hv.opos (i := i) (by have := h.len; omega)
    omega
  refine ⟨h.len, ?_, hr⟩
  have := wordA_len (b := 6) e 0 fun x hx => by
    obtain ⟨i, hi, rfl⟩ := List.getElem_of_mem hx
    have := (hr i hi).2
    simpa [hi] using this
  have hl := h.len
  have h6 : e.length * 6 ≤ 6 * 6 := Nat.mul_le_mul_right _ (by omega)
  exact Nat.le_trans this h6
end
section
variable {q : Pr} [hc : ConAll q]
/-- The value of one letter. -/
noncomputable def letV (ys : List (El q)) (a : Int) : El q := if 0 < a then ys.getD (a - 1).toNat 1 else (ys.getD (-a - 1).toNat 1)⁻¹
/-- The value of a word. -/
noncomputable def evalW (ys : List (El q)) (w : List Int) : El q := w.foldl (fun a l => a * letV ys l) 1
theorem evalW_snoc (ys : List (El q)) (w : List Int) (a : Int) : evalW ys (w ++ [a]) = evalW ys w * letV ys a := by
  unfold evalW; rw [List.foldl_append]; rfl
/-- The elements meet the relators. -/
def RelOk (p : Pr) (ys : List (El q)) : Prop := ∀ k, k < (rels p).length → evalW ys ((rels p).getD k []) = 1
end
end Go.Proofs.Ytflniifngfiekaa

/-
  Homomorphisms by images: words as powers, sequences of the whole group, isomorphisms.
  Conditions: none.
-/
namespace Go.Proofs.Ytflniifngfiekaa
open Go Go.Pc
section
variable {p : Pr} [hc : ConAll p]
theorem evalW_from (ys : List (El p)) : ∀ (w : List Int) (a : El p), w.foldl (fun a l => a * letV ys l) a = a * evalW ys w
  | [], a => by show a = a * 1; rw [Grp.mul_one]
  | l :: w, a => by
    show w.foldl (fun a l => a * letV ys l) (a * letV ys l) = a * w.foldl (fun a l => a * letV ys l) (1 * letV ys l)
    rw [evalW_from ys w (a * letV ys l), evalW_from ys w (1 * letV ys l), Grp.one_mul, Grp.mul_assoc]
theorem evalW_append (ys : List (El p)) (w v : List Int) : evalW ys (w ++ v) = evalW ys w * evalW ys v := by
  show (w ++ v).foldl (fun a l => a * letV ys l) 1 = _
  rw [List.foldl_append, evalW_from]
  rfl
theorem evalW_rep (ys : List (El p)) (k : Nat) : ∀ m, evalW ys (List.replicate m ((k : Int) + 1)) = Grp.pw (ys.getD k 1) m
  | 0 => rfl
  | m + 1 => by
    rw [List.replicate_succ', evalW_snoc, evalW_rep ys k m, Grp.pw_succ]
    unfold letV
    rw [if_pos (by omega), show ((k : Int) + 1 - 1).toNat = k by omega]
theorem evalW_word {ys : List (El p)} {x : List Int} (h : ∀ i, i < x.length → 0 ≤ x.getD i 0) : ∀ k, k ≤ x.length → evalW ys (wordV (x.take k)) = prodTo ys x k
  | 0, _ => rfl
  | k + 1, hk => by
    rw [wordV_take hk, evalW_append, evalW_word h k (by omega), evalW_rep]
    show _ = prodTo ys x k * Grp.pwz (ys.getD k 1) (x.getD k 0)
    rw [Grp.pwz_of _ (h k hk)]
/-- The image of an element. -/
noncomputable def imgE {q : Pr} [ConAll q] (ys : List (El q)) (x : List Int) : El q := prodTo ys x ys.length
theorem free_nil_iff (ys : List (El p)) : ∀ k, freeL p ys k = [] ↔ ∀ d, d < k → ∃ y, y ∈ ys ∧ lead y.v = d
  | 0 => by simp [freeL]
  | k + 1 => by
    have ih := free_nil_iff ys k
    by_cases h : ∃ y, y ∈ ys ∧ lead y.v = k
    · obtain ⟨y, hy, e⟩ := h
      rw [freeL_no hy e, ih]
      refine ⟨fun h d hd => ?_, fun h d hd => h d (by omega)⟩
      by_cases e2 : d = k
      · subst e2; exact ⟨y, hy, e⟩
      · exact h d (by omega)
    · rw [freeL_yes fun y hy e => h ⟨y, hy, e⟩]
      refine ⟨fun h2 => by simp at h2, fun h2 => absurd (h2 k (by omega)) h⟩
theorem foldl_ge (o : Nat → Int) : ∀ (l : List Nat) (a : Int), 1 ≤ a → (∀ d, d ∈ l → 2 ≤ o d) → a ≤ l.foldl (fun a d => a * o d) a ∧ (l ≠ [] → 2 * a ≤ l.foldl (fun a d => a * o d) a)
  | [], a, _, _ => ⟨Int.le_refl _, fun h => absurd rfl h⟩
  | d :: l, a, ha, h => by
    have hd := h d List.mem_cons_self
    have h1 : a * 2 ≤ a * o d := Int.mul_le_mul_of_nonneg_left hd (by omega)
    have h2 := (foldl_ge o l (a * o d) (by omega) fun e he => h e (List.mem_cons_of_mem _ he)).1
    simp only [List.foldl_cons]
    exact ⟨by omega, fun _ => by omega⟩
end
/-- The images are those of an isomorphism. -/
def IsoC (p q : Pr) [ConAll q] (xss : List (List Int)) : Prop := ∃ ys : List (El q), xss = vecs ys ∧ RelOk p ys ∧ ordOf q (canEls (Gen (fun a : El q => a ∈ ys))) = ordL q (List.range q.n)
def IsoP (p q : Pr) (xss : List (List Int)) : Prop := IsGrp p ∧ xss.length = p.n ∧ ordL p (List.range p.n) = ordL q (List.range q.n) ∧ ∃ hq : IsGrp q, (∀ i, i < xss.length → InR q (xss.getD i [])) ∧ @IsoC p q ⟨hq.con⟩ xss
theorem isoC_iff {p q : Pr} [ConAll q] {ys : List (El q)} : IsoC p q (vecs ys) ↔ RelOk p ys ∧ ordOf q (canEls (Gen (fun a : El q => a ∈ ys))) = ordL q (List.range q.n) := by
  constructor
  · rintro ⟨zs, h1, h2⟩
    obtain rfl := vecs_inj h1
    exact h2
  · exact fun h => ⟨ys, rfl, h⟩
/-- The answers of the functions on automorphisms. -/
def ApV (p : Pr) (xss : List (List Int)) (xs r : List Int) (e : Int) : Prop := (∃ (_ : ConAll p) (ys : List (El p)), xss = vecs ys ∧ r = (imgE ys xs).v) ∧ e = 0
theorem ApV.uniq {p : Pr} {xss : List (List Int)} {xs : List Int} (a b : List Int) (c d : Int) (h : ApV p xss xs a c) (k : ApV p xss xs b d) : a = b ∧ c = d := by
  obtain ⟨⟨_, ys, h1, h2⟩, h3⟩ := h
  obtain ⟨⟨_, zs, k1, k2⟩, k3⟩ := k
  obtain rfl := vecs_inj (h1.symm.trans k1)
  exact ⟨by rw [h2, k2], by rw [h3, k3]⟩
def CoV (p : Pr) (xss yss r : List (List Int)) (e : Int) : Prop := (∃ (_ : ConAll p) (ys zs : List (El p)), xss = vecs ys ∧ yss = vecs zs ∧ r = vecs (ys.map fun y => imgE zs y.v)) ∧ e = 0
theorem CoV.uniq {p : Pr} {xss yss : List (List Int)} (a b : List (List Int)) (c d : Int) (h : CoV p xss yss a c) (k : CoV p xss yss b d) : a = b ∧ c = d := by
  obtain ⟨⟨_, ys, zs, h1, h2, h3⟩, h4⟩ := h
  obtain ⟨⟨_, ys', zs', k1, k2, k3⟩, k4⟩ := k
  obtain rfl := vecs_inj (h1.symm.trans k1)
  obtain rfl := vecs_inj (h2.symm.trans k2)
  exact ⟨by rw [h3, k3], by rw [h4, k4]⟩
end Go.Proofs.Ytflniifngfiekaa

/-
  Homomorphisms by images: what the tests ask for.
  Conditions: none.
-/
namespace Go.Proofs.Ytflniifngfiekaa
open Go Go.Pc
/-- The image. -/
def HiV (q : Pr) (xss r : List (List Int)) (e : Int) : Prop := (∃ (_ : ConAll q) (ys : List (El q)), xss = vecs ys ∧ r = canon (Gen (fun a : El q => a ∈ ys))) ∧ e = 0
theorem HiV.uniq {q : Pr} {xss : List (List Int)} (a b : List (List Int)) (c d : Int) (h : HiV q xss a c) (k : HiV q xss b d) : a = b ∧ c = d := by
  obtain ⟨⟨hc, ys, h2, h3⟩, h5⟩ := h
  obtain ⟨⟨hc', ys', k2, k3⟩, k5⟩ := k
  obtain rfl := vecs_inj (h2.symm.trans k2)
  exact ⟨by rw [h3, k3], by rw [h5, k5]⟩
/-- The image of a subgroup. -/
def SiV (p q : Pr) (xss uss r : List (List Int)) (e : Int) : Prop := (∃ (_ : ConAll p) (_ : ConAll q) (ys : List (El q)) (zs : List (El p)), xss = vecs ys ∧ uss = vecs zs ∧ r = canon (Gen (fun a : El q => a ∈ zs.map fun z => imgE ys z.v))) ∧ e = 0
theorem SiV.uniq {p q : Pr} {xss uss : List (List Int)} (a b : List (List Int)) (c d : Int) (h : SiV p q xss uss a c) (k : SiV p q xss uss b d) : a = b ∧ c = d := by
  obtain ⟨⟨hc, _, ys, zs, h2, h3, h4⟩, h5⟩ := h
  obtain ⟨⟨hc', _, ys', zs', k2, k3, k4⟩, k5⟩ := k
  obtain rfl := vecs_inj (h2.symm.trans k2)
  obtain rfl := vecs_inj (h3.symm.trans k3)
  exact ⟨by rw [h4, k4], by rw [h5, k5]⟩
/-- The least element that is mapped to an element. -/
def PeV (p q : Pr) (xss : List (List Int)) (xs r : List Int) (e : Int) : Prop := ∃ (_ : ConAll p) (_ : ConAll q) (ys : List (El q)), xss = vecs ys ∧
  (((∀ j, j < ordN p → (imgE ys (allE p j).v).v ≠ xs) ∧ r = [] ∧ e = 4) ∨ (∃ k, k < ordN p ∧ (imgE ys (allE p k).v).v = xs ∧ (∀ j, j < k → (imgE ys (allE p j).v).v ≠ xs) ∧ r = (allE p k).v ∧ e = 0))
theorem PeV.uniq {p q : Pr} {xss : List (List Int)} {xs : List Int} (a b : List Int) (c d : Int) (h : PeV p q xss xs a c) (k : PeV p q xss xs b d) : a = b ∧ c = d := by
  obtain ⟨hc, _, ys, h2, h4⟩ := h
  obtain ⟨hc', _, ys', k2, k4⟩ := k
  obtain rfl := vecs_inj (h2.symm.trans k2)
  rcases h4 with ⟨h5, rfl, rfl⟩ | ⟨i, hi, h6, h7, rfl, rfl⟩ <;> rcases k4 with ⟨k5, rfl, rfl⟩ | ⟨j, hj, k6, k7, rfl, rfl⟩
  · exact ⟨rfl, rfl⟩
  · exact absurd k6 (h5 j hj)
  · exact absurd h6 (k5 i hi)
  · rcases Nat.lt_trichotomy i j with e | e | e
    · exact absurd h6 (k7 i e)
    · subst e; exact ⟨rfl, rfl⟩
    · exact absurd k6 (h7 j e)
end Go.Proofs.Ytflniifngfiekaa

/-
  Walks: the statement's own helpers on lists: sizes, copies, comparisons (szInt64S, .., toInt64S, .., eqInt64SSS).
  Conditions: stated at each theorem.
-/
namespace Go.Proofs.Ytflniifngfiekaa
open Go Go.Pc
end Go.Proofs.Ytflniifngfiekaa

/-
  Walks: the statement's own helpers on presentations: sizes, copies, comparisons (toInt64SSS, szPresentation, toPresentation, eqInt64SSS, eqPresentation).
  Conditions: stated at each theorem.
-/
namespace Go.Proofs.Ytflniifngfiekaa
open Go Go.Pc
/-- The sizes of a presentation, none above k. -/
structure SizeP (p : Pr) (k : Int) : Prop where
  ord : (p.ord.length : Int) ≤ k
  pow : (p.pow.length : Int) ≤ k
  powi : ∀ i, ((p.pow.getD i []).length : Int) ≤ k
  cnj : (p.cnj.length : Int) ≤ k
  cnji : ∀ i, ((p.cnj.getD i []).length : Int) ≤ k
  cnjij : ∀ i j, (((p.cnj.getD i []).getD j []).length : Int) ≤ k
end Go.Proofs.Ytflniifngfiekaa

/-
  Walks: the statement's own helpers that mark memory and read the marks (markInt64S, markInt64SS, heldInt64S, heldInt64SS).
  Conditions: stated at each theorem.
-/
namespace Go.Proofs.Ytflniifngfiekaa
open Go Go.Pc
end Go.Proofs.Ytflniifngfiekaa

/-
  Walks: copies that are the call's own (toInt64SSS, toPresentation), marks of presentations (markInt64SSS, markPresentation).
  Conditions: stated at each theorem.
-/
namespace Go.Proofs.Ytflniifngfiekaa
open Go Go.Pc
theorem rowss_of_cub {A : Nat → Prop} {s : Nat} {w : World} {v : Value} {gs : List (Value × List (Value × List Int))} {lo hi : Nat} (hs : Sl lo hi w v (gs.map (·.1))) (hlo : lo ≤ hi) (h : ∀ q, q ∈ gs → Pc.Rows lo hi w q.1 (q.2.map (·.1)) (q.2.map (·.2))) :
    Rowss lo hi w v (gs.map (·.1)) (gs.map fun q => q.2.map (·.1)) (gs.map fun q => q.2.map (·.2)) := by
  refine ⟨hs, by simp, by simp, fun i => ?_⟩
  by_cases hi' : i < gs.length
  · have := h gs[i] (List.getElem_mem hi')
    simpa [hi'] using this
  · have e1 : (gs.map (·.1)).getD i nilv = nilv := by rw [List.getD_eq_getElem?_getD, List.getElem?_eq_none (by simp; omega)]; rfl
    have e2 : (gs.map fun q => q.2.map (·.1)).getD i [] = [] := by rw [List.getD_eq_getElem?_getD, List.getElem?_eq_none (by simp; omega)]; rfl
    have e3 : (gs.map fun q => q.2.map (·.2)).getD i [] = [] := by rw [List.getD_eq_getElem?_getD, List.getElem?_eq_none (by simp; omega)]; rfl
    rw [e1, e2, e3]
    exact ⟨⟨⟨none, 0, rfl, Nat.le_refl _, by omega, fun k u hu => by simp at hu⟩⟩, rfl, fun i => ⟨⟨none, 0, by simp, by simp, by omega, fun k u hu => by simp at hu⟩⟩⟩
end Go.Proofs.Ytflniifngfiekaa

/-
  Walk: a copy of a presentation that is the call's own (toPresentation).
  Conditions: stated at the theorem.
-/
namespace Go.Proofs.Ytflniifngfiekaa
open Go Go.Pc
theorem SizeP.mono {p : Pr} {k j : Int} (h : SizeP p k) (hkj : k ≤ j) : SizeP p j :=
  ⟨by have := h.ord; omega, by have := h.pow; omega, fun i => by have := h.powi i; omega, by have := h.cnj; omega, fun i => by have := h.cnji i; omega, fun i j => by have := h.cnjij i j; omega⟩
end Go.Proofs.Ytflniifngfiekaa

/-
  Exponents of cosets: what ProjectElement answers.
  Conditions: none.
-/
namespace Go.Proofs.Ytflniifngfiekaa
open Go Go.Pc
/-- The exponents of a coset, told by its representative. -/
def prjL (p : Pr) (ys : List (El p)) (y : El p) : List Int := (freeL p ys p.n).map fun d => co y d
def PjV (p : Pr) (xss : List (List Int)) (xs r : List Int) (e : Int) : Prop := (¬ NormP p xss ∧ r = [] ∧ e = 5) ∨ (NormP p xss ∧ (∃ (_ : ConAll p) (ys : List (El p)) (x y : El p), xss = vecs ys ∧ xs = x.v ∧ RepOf ys x y ∧ r = prjL p ys y) ∧ e = 0)
theorem PjV.uniq {p : Pr} {xss : List (List Int)} {xs : List Int} (hS : IsSubP p xss) (a b : List Int) (c d : Int) (h : PjV p xss xs a c) (k : PjV p xss xs b d) : a = b ∧ c = d := by
  rcases h with ⟨h1, rfl, rfl⟩ | ⟨h1, ⟨hc, ys, x, y, h2, h3, h4, rfl⟩, rfl⟩ <;> rcases k with ⟨k1, rfl, rfl⟩ | ⟨k1, ⟨kc, zs, x', y', k2, k3, k4, rfl⟩, rfl⟩
  · exact ⟨rfl, rfl⟩
  · exact absurd k1 h1
  · exact absurd h1 k1
  · obtain ⟨hG, hq⟩ := hS
    haveI : ConAll p := ⟨hG.con⟩
    obtain ⟨us, hus, hse⟩ := isSeq_iff.1 hq
    obtain rfl : ys = us := vecs_inj (h2.symm.trans hus)
    obtain rfl : zs = ys := vecs_inj (k2.symm.trans hus)
    obtain rfl : x = x' := T.ext (h3.symm.trans k3)
    rw [RepOf.unique hse h4 k4]
    exact ⟨rfl, rfl⟩
end Go.Proofs.Ytflniifngfiekaa

/-
  The presentations of subgroups and quotients, as lists; what SubgroupPresentation, QuotientPresentation and LiftElement answer.
  Conditions: none.
-/
namespace Go.Proofs.Ytflniifngfiekaa
open Go Go.Pc
/-- A presentation out of its entries. -/
def tabP (m : Nat) (o : Nat → Int) (f : Nat → List Int) (g : Nat → Nat → List Int) : Pr :=
  ⟨(List.range m).map o, (List.range m).map f, (List.range m).map fun i => (List.range (m - (i + 1))).map fun k => g i (i + 1 + k)⟩
section
variable {m : Nat} {o : Nat → Int} {f : Nat → List Int} {g : Nat → Nat → List Int}
end
section
variable {p : Pr} [hc : ConAll p]
noncomputable def subPow (ys : List (El p)) (i : Nat) : List Int := expsL ys (Grp.pwz (ys.getD i 1) (p.o (lead (ys.getD i 1).v))) ys.length
noncomputable def subCnj (ys : List (El p)) (i j : Nat) : List Int := expsL ys (Grp.cj (ys.getD j 1) (ys.getD i 1)) ys.length
/-- The presentation of a subgroup. -/
noncomputable def subPr (ys : List (El p)) : Pr := tabP ys.length (fun i => p.o (lead (ys.getD i 1).v)) (subPow ys) (subCnj ys)
/-- The representative of a coset. -/
noncomputable def repE (ys : List (El p)) (x : El p) : El p := open Classical in if h : ∃ r, RepOf ys x r then Classical.choose h else 1
noncomputable def prjE (ys : List (El p)) (x : El p) : List Int := prjL p ys (repE ys x)
/-- The place of a coset's generator. -/
def frA (p : Pr) (ys : List (El p)) (i : Nat) : Nat := (freeL p ys p.n).getD i 0
def frN (p : Pr) (ys : List (El p)) : Nat := (freeL p ys p.n).length
noncomputable def quoPow (ys : List (El p)) (i : Nat) : List Int := prjE ys (Grp.pwz (gOf p 0 (frA p ys i)) (p.o (frA p ys i)))
noncomputable def quoCnj (ys : List (El p)) (i j : Nat) : List Int := prjE ys (Grp.cj (gOf p 0 (frA p ys j)) (gOf p 0 (frA p ys i)))
/-- The presentation of a quotient. -/
noncomputable def quoPr (ys : List (El p)) : Pr := tabP (frN p ys) (fun i => p.o (frA p ys i)) (quoPow ys) (quoCnj ys)
end
def noP : Pr := ⟨[], [], []⟩
def SpV (p : Pr) (xss : List (List Int)) (r : Pr) (e : Int) : Prop := (∃ (_ : ConAll p) (ys : List (El p)), xss = vecs ys ∧ r = subPr ys) ∧ e = 0
theorem SpV.uniq {p : Pr} {xss : List (List Int)} (a b : Pr) (c d : Int) (h : SpV p xss a c) (k : SpV p xss b d) : a = b ∧ c = d := by
  obtain ⟨⟨hc, ys, h2, h3⟩, h5⟩ := h
  obtain ⟨⟨hc', ys', k2, k3⟩, k5⟩ := k
  obtain rfl := vecs_inj (h2.symm.trans k2)
  exact ⟨by rw [h3, k3], by rw [h5, k5]⟩
def QpV (p : Pr) (xss : List (List Int)) (r : Pr) (e : Int) : Prop := (¬ NormP p xss ∧ r = noP ∧ e = 5) ∨ (NormP p xss ∧ (∃ (_ : ConAll p) (ys : List (El p)), xss = vecs ys ∧ r = quoPr ys) ∧ e = 0)
theorem QpV.uniq {p : Pr} {xss : List (List Int)} (a b : Pr) (c d : Int) (h : QpV p xss a c) (k : QpV p xss b d) : a = b ∧ c = d := by
  rcases h with ⟨h1, rfl, rfl⟩ | ⟨h1, ⟨hc, ys, h2, rfl⟩, rfl⟩ <;> rcases k with ⟨k1, rfl, rfl⟩ | ⟨k1, ⟨kc, zs, k2, rfl⟩, rfl⟩
  · exact ⟨rfl, rfl⟩
  · exact absurd k1 h1
  · exact absurd h1 k1
  · obtain rfl := vecs_inj (h2.symm.trans k2)
    exact ⟨rfl, rfl⟩
end Go.Proofs.Ytflniifngfiekaa

/-
  The sizes of the presentations of subgroups and quotients.
  Conditions: none.
-/
namespace Go.Proofs.Ytflniifngfiekaa
open Go Go.Pc
end Go.Proofs.Ytflniifngfiekaa

/-
  What InclusionHom, NaturalHom and ComposeHoms answer.
  Conditions: none.
-/
namespace Go.Proofs.Ytflniifngfiekaa
open Go Go.Pc
def noH : Pr × Pr × List (List Int) := (noP, noP, [])
/-- The inclusion of a subgroup. -/
def IhV (p : Pr) (xss : List (List Int)) (k : Pr × Pr × List (List Int)) (e : Int) : Prop := (∃ (_ : ConAll p) (ys : List (El p)), xss = vecs ys ∧ k = (subPr ys, p, vecs ys)) ∧ e = 0
theorem IhV.uniq {p : Pr} {xss : List (List Int)} (a b : Pr × Pr × List (List Int)) (c d : Int) (h : IhV p xss a c) (k : IhV p xss b d) : a = b ∧ c = d := by
  obtain ⟨⟨hc, ys, h2, h3⟩, h5⟩ := h
  obtain ⟨⟨hc', ys', k2, k3⟩, k5⟩ := k
  obtain rfl := vecs_inj (h2.symm.trans k2)
  exact ⟨by rw [h3, k3], by rw [h5, k5]⟩
/-- The natural homomorphism. -/
def NhV (p : Pr) (xss : List (List Int)) (k : Pr × Pr × List (List Int)) (e : Int) : Prop := (¬ NormP p xss ∧ k = noH ∧ e = 5) ∨ (NormP p xss ∧ (∃ (_ : ConAll p) (ys : List (El p)), xss = vecs ys ∧ k = (p, quoPr ys, (List.range p.n).map fun i => prjE ys (gOf p 0 i))) ∧ e = 0)
theorem NhV.uniq {p : Pr} {xss : List (List Int)} (a b : Pr × Pr × List (List Int)) (c d : Int) (h : NhV p xss a c) (k : NhV p xss b d) : a = b ∧ c = d := by
  rcases h with ⟨h1, rfl, rfl⟩ | ⟨h1, ⟨hc, ys, h2, rfl⟩, rfl⟩ <;> rcases k with ⟨k1, rfl, rfl⟩ | ⟨k1, ⟨kc, zs, k2, rfl⟩, rfl⟩
  · exact ⟨rfl, rfl⟩
  · exact absurd k1 h1
  · exact absurd h1 k1
  · obtain rfl := vecs_inj (h2.symm.trans k2)
    exact ⟨rfl, rfl⟩
/-- The composition of two homomorphisms. -/
def HcV (p q : Pr) (xss : List (List Int)) (p' q' : Pr) (yss : List (List Int)) (k : Pr × Pr × List (List Int)) (e : Int) : Prop := (q ≠ p' ∧ k = noH ∧ e = 5) ∨ (q = p' ∧ (∃ (_ : ConAll q') (ys : List (El q')), yss = vecs ys ∧ k = (p, q', xss.map fun x => (imgE ys x).v)) ∧ e = 0)
theorem HcV.uniq {p q p' q' : Pr} {xss yss : List (List Int)} (a b : Pr × Pr × List (List Int)) (c d : Int) (h : HcV p q xss p' q' yss a c) (k : HcV p q xss p' q' yss b d) : a = b ∧ c = d := by
  rcases h with ⟨h1, rfl, rfl⟩ | ⟨h1, ⟨hc, ys, h2, rfl⟩, rfl⟩ <;> rcases k with ⟨k1, rfl, rfl⟩ | ⟨k1, ⟨kc, zs, k2, rfl⟩, rfl⟩
  · exact ⟨rfl, rfl⟩
  · exact absurd k1 h1
  · exact absurd h1 k1
  · obtain rfl := vecs_inj (h2.symm.trans k2)
    exact ⟨rfl, rfl⟩
end Go.Proofs.Ytflniifngfiekaa

/-
  Answers: joins, normal closures, commutator subgroups.
  Conditions: none.
-/
namespace Go.Proofs.Ytflniifngfiekaa
open Go Go.Pc
def JoinV (p : Pr) (xss yss r : List (List Int)) (e : Int) : Prop := (∃ (_ : ConAll p) (ys zs : List (El p)), xss = vecs ys ∧ yss = vecs zs ∧ r = canon (Gen (fun a : El p => a ∈ ys ++ zs))) ∧ e = 0
theorem JoinV.uniq {p : Pr} {xss yss : List (List Int)} (a b : List (List Int)) (c d : Int) (h : JoinV p xss yss a c) (k : JoinV p xss yss b d) : a = b ∧ c = d := by
  obtain ⟨⟨hc, ys, zs, h2, h3, h4⟩, h5⟩ := h
  obtain ⟨⟨hc', ys', zs', k2, k3, k4⟩, k5⟩ := k
  obtain rfl := vecs_inj (h2.symm.trans k2)
  obtain rfl := vecs_inj (h3.symm.trans k3)
  exact ⟨by rw [h4, k4], by rw [h5, k5]⟩
def CommV (p : Pr) (xss yss r : List (List Int)) (e : Int) : Prop := (∃ (_ : ConAll p) (ys zs : List (El p)), xss = vecs ys ∧ yss = vecs zs ∧ r = canon (CommC ys zs)) ∧ e = 0
theorem CommV.uniq {p : Pr} {xss yss : List (List Int)} (a b : List (List Int)) (c d : Int) (h : CommV p xss yss a c) (k : CommV p xss yss b d) : a = b ∧ c = d := by
  obtain ⟨⟨hc, ys, zs, h2, h3, h4⟩, h5⟩ := h
  obtain ⟨⟨hc', ys', zs', k2, k3, k4⟩, k5⟩ := k
  obtain rfl := vecs_inj (h2.symm.trans k2)
  obtain rfl := vecs_inj (h3.symm.trans k3)
  exact ⟨by rw [h4, k4], by rw [h5, k5]⟩
def NclV (p : Pr) (xss r : List (List Int)) (e : Int) : Prop := (∃ (_ : ConAll p) (ys : List (El p)), xss = vecs ys ∧ r = canon (Clo (fun a : El p => a ∈ ys) (fun a : El p => a ∈ gensL p))) ∧ e = 0
theorem NclV.uniq {p : Pr} {xss : List (List Int)} (a b : List (List Int)) (c d : Int) (h : NclV p xss a c) (k : NclV p xss b d) : a = b ∧ c = d := by
  obtain ⟨⟨hc, ys, h2, h4⟩, h5⟩ := h
  obtain ⟨⟨hc', ys', k2, k4⟩, k5⟩ := k
  obtain rfl := vecs_inj (h2.symm.trans k2)
  exact ⟨by rw [h4, k4], by rw [h5, k5]⟩
end Go.Proofs.Ytflniifngfiekaa

/-
  Series of subgroups: steps until one stands still; the derived and the lower central series.
  Conditions: the tails at all levels are groups.
-/
namespace Go.Proofs.Ytflniifngfiekaa
open Go Go.Pc
def itL {α : Type} (f : α → α) (y : α) : Nat → α
  | 0 => y
  | k + 1 => f (itL f y k)
def SerR {α : Type} (f : α → α) (y : α) (K : Nat) : Prop := itL f y (K + 1) = itL f y K ∧ ∀ j, j < K → itL f y (j + 1) ≠ itL f y j
theorem SerR.uniq {α : Type} {f : α → α} {y : α} {K J : Nat} (h : SerR f y K) (k : SerR f y J) : K = J := by
  rcases Nat.lt_trichotomy K J with e | e | e
  · exact absurd h.1 (k.2 K e)
  · exact e
  · exact absurd k.1 (h.2 J e)
section
variable {p : Pr} [hc : ConAll p] {ys zs : List (El p)}
theorem co_gOf {d e : Nat} (hd : d < p.n) : co (gOf p 0 d : El p) e = if e = d then 1 else 0 := by
  show (gOf p 0 d : El p).v.getD e 0 = _
  rw [gOf_val hd]
  show ((zeros p.n).set d 1).getD e 0 = _
  split
  · rename_i h
    subst h
    rw [Pc.getD_set_eq _ _ _ (by rw [zeros_len]; exact hd)]
  · rename_i h
    rw [Pc.getD_set_ne _ _ _ _ (Ne.symm h), zeros_getD]
theorem seq_len_le (hy : SeqEl ys) (hz : SeqEl zs) (hle : ∀ a, Gen (fun a : El p => a ∈ zs) a → Gen (fun a : El p => a ∈ ys) a) : zs.length ≤ ys.length := by
  have := can_len_le (Gen.sub _) (Gen.sub _) hle
  rwa [hy.els, hz.els] at this
theorem seq_len_iff (hy : SeqEl ys) (hz : SeqEl zs) (hle : ∀ a, Gen (fun a : El p => a ∈ zs) a → Gen (fun a : El p => a ∈ ys) a) : zs.length = ys.length ↔ zs = ys := by
  refine ⟨fun h => ?_, fun h => by rw [h]⟩
  have h2 := same_of_len (Gen.sub _) (Gen.sub _) hle (by rw [hy.els, hz.els]; omega)
  have e : Gen (fun a : El p => a ∈ zs) = Gen (fun a : El p => a ∈ ys) := by
    funext a; exact propext ⟨hle a, h2 a⟩
  rw [← hz.els, ← hy.els, e]
/-- What the walks need of a series. -/
structure SerOk (f : List (El p) → List (El p)) (y0 : List (El p)) : Prop where
  seq : ∀ k, SeqEl (itL f y0 k)
  eqv : ∀ k, (itL f y0 (k + 1)).length = (itL f y0 k).length ↔ itL f y0 (k + 1) = itL f y0 k
  bd : ∀ K, (∀ j, j < K → itL f y0 (j + 1) ≠ itL f y0 j) → K ≤ p.n
/-- A series that goes up. -/
theorem SerOk.up {f : List (El p) → List (El p)} {y0 : List (El p)} (Good : List (El p) → Prop) (h0 : Good y0) (hseq : ∀ ys, Good ys → SeqEl ys) (hf : ∀ ys, Good ys → Good (f ys))
    (hle : ∀ ys, Good ys → ∀ a, Gen (fun a : El p => a ∈ ys) a → Gen (fun a : El p => a ∈ f ys) a) : SerOk f y0 := by
  have hg : ∀ k, Good (itL f y0 k) := by
    intro k
    induction k with
    | zero => exact h0
    | succ k ih => exact hf _ ih
  have hs : ∀ k, SeqEl (itL f y0 k) := fun k => hseq _ (hg k)
  have he : ∀ k, (itL f y0 (k + 1)).length = (itL f y0 k).length ↔ itL f y0 (k + 1) = itL f y0 k := fun k => by
    have := seq_len_iff (hs (k + 1)) (hs k) (hle _ (hg k))
    exact ⟨fun h => (this.1 h.symm).symm, fun h => by rw [h]⟩
  refine ⟨hs, he, fun K hK => ?_⟩
  have key : ∀ k, k ≤ K → k ≤ (itL f y0 k).length := by
    intro k
    induction k with
    | zero => exact fun _ => Nat.zero_le _
    | succ k ih =>
      intro hk
      have h1 := ih (by omega)
      have h2 := seq_len_le (hs (k + 1)) (hs k) (hle _ (hg k))
      have h3 := hK k (by omega)
      rw [Ne, ← he k] at h3
      omega
  have h1 := key K (Nat.le_refl _)
  have h2 := (hs K).len
  omega
noncomputable def lowF (ys : List (El p)) : List (El p) := canEls (CommC ys (gensL p))
end
/-- What a series is, with its code. -/
def SrV (p : Pr) (C : ConAll p → (List (El p) → List (El p)) × List (El p)) (r : List (List (List Int))) (e : Int) : Prop := ∃ (c : ConAll p) (K : Nat), SerR (C c).1 (C c).2 K ∧ r = (List.range (K + 1)).map (fun j => vecs (itL (C c).1 (C c).2 j)) ∧ e = 0
theorem SrV.uniq {p : Pr} {C : ConAll p → (List (El p) → List (El p)) × List (El p)} (a b : List (List (List Int))) (c d : Int) (h : SrV p C a c) (g : SrV p C b d) : a = b ∧ c = d := by
  obtain ⟨_, K, h1, rfl, rfl⟩ := h
  obtain ⟨_, J, g1, rfl, rfl⟩ := g
  obtain rfl := h1.uniq g1
  exact ⟨rfl, rfl⟩
/-- The class of a nilpotent group, with its code. -/
def NcV (p : Pr) (r e : Int) : Prop := ∃ (c : ConAll p) (K : Nat), SerR (lowF (p := p)) (gensL p) K ∧ ((0 < (itL (lowF (p := p)) (gensL p) K).length ∧ r = 0 ∧ e = 4) ∨ ((itL (lowF (p := p)) (gensL p) K).length = 0 ∧ r = K ∧ e = 0))
theorem NcV.uniq {p : Pr} (a b c d : Int) (h : NcV p a c) (g : NcV p b d) : a = b ∧ c = d := by
  obtain ⟨_, K, h1, h2⟩ := h
  obtain ⟨_, J, g1, g2⟩ := g
  obtain rfl := h1.uniq g1
  rcases h2 with ⟨h3, rfl, rfl⟩ | ⟨h3, rfl, rfl⟩ <;> rcases g2 with ⟨g3, rfl, rfl⟩ | ⟨g3, rfl, rfl⟩
  · exact ⟨rfl, rfl⟩
  · omega
  · omega
  · exact ⟨rfl, rfl⟩
end Go.Proofs.Ytflniifngfiekaa

/-
  The upper central series and the lower exponent series.
  Conditions: the tails at all levels are groups.
-/
namespace Go.Proofs.Ytflniifngfiekaa
open Go Go.Pc
section
variable {p : Pr} [hc : ConAll p]
noncomputable def expL (q : Int) (ys : List (El p)) : List (El p) := lowF ys ++ ys.map fun y => Grp.pwz y q
noncomputable def expF (q : Int) (ys : List (El p)) : List (El p) := canEls (Gen (fun a : El p => a ∈ expL q ys))
end
noncomputable def ExpC (p : Pr) (q : Int) (c : ConAll p) : (List (El p) → List (El p)) × List (El p) := (expF q, gensL p)
/-- What a series for a prime is, with its code. -/
def ExV (p : Pr) (q : Int) (r : List (List (List Int))) (e : Int) : Prop := (¬ (q = 2 ∨ q = 3 ∨ q = 5 ∨ q = 7) ∧ r = [] ∧ e = 2) ∨ ((q = 2 ∨ q = 3 ∨ q = 5 ∨ q = 7) ∧ SrV p (ExpC p q) r e)
theorem ExV.uniq {p : Pr} {q : Int} (a b : List (List (List Int))) (c d : Int) (h : ExV p q a c) (g : ExV p q b d) : a = b ∧ c = d := by
  rcases h with ⟨h1, rfl, rfl⟩ | ⟨h1, h2⟩ <;> rcases g with ⟨g1, rfl, rfl⟩ | ⟨g1, g2⟩
  · exact ⟨rfl, rfl⟩
  · exact absurd g1 h1
  · exact absurd h1 g1
  · exact h2.uniq _ _ _ _ g2
end Go.Proofs.Ytflniifngfiekaa

/-
  Walks: the check of marks on lists of lists of lists (heldInt64SSS); sizes of series.
  Conditions: stated at each theorem.
-/
namespace Go.Proofs.Ytflniifngfiekaa
open Go Go.Pc
def mkC (k : Int) : List (Value × List (Value × List Int)) → List (Value × List (Value × List Int))
  | [] => []
  | q :: l => (q.1, mkR k q.2) :: mkC (k + tot (q.2.map (·.2))) l
theorem mkC_fst : ∀ (gs : List (Value × List (Value × List Int))) (k : Int), (mkC k gs).map (·.1) = gs.map (·.1)
  | [], _ => rfl
  | q :: l, k => by simp [mkC, mkC_fst l]
theorem flat_cons (q : Value × List (Value × List Int)) (l : List (Value × List (Value × List Int))) : flat (q :: l) = q.2 ++ flat l := by simp [flat]
theorem mkC_mem {gs : List (Value × List (Value × List Int))} {k : Int} {q : Value × List (Value × List Int)} (hq : q ∈ mkC k gs) : ∃ q', q' ∈ gs ∧ q.1 = q'.1 ∧ q.2.map (·.1) = q'.2.map (·.1) := by
  induction gs generalizing k with
  | nil => cases hq
  | cons g l ih =>
    rcases List.mem_cons.1 hq with rfl | hq
    · exact ⟨g, List.mem_cons_self, rfl, mkR_fst _ _⟩
    · obtain ⟨q', h1, h2⟩ := ih hq
      exact ⟨q', List.mem_cons_of_mem _ h1, h2⟩
theorem RowsO.ofFlat {s : Nat} {w : World} {gs : List (Value × List (Value × List Int))} (h : RowsO s w (flat gs)) {q : Value × List (Value × List Int)} (hq : q ∈ gs) : RowsO s w q.2 := by
  have hs : List.Sublist q.2 (flat gs) := List.sublist_flatten_of_mem (List.mem_map.2 ⟨q, hq, rfl⟩)
  exact ⟨fun r hr => h.fr r (hs.subset hr), h.sep.sublist hs⟩
end Go.Proofs.Ytflniifngfiekaa

/-
  Lists of structs of seven cells: what an append does, what is read of them.
  Conditions: none; nothing of the program stands here.
-/
namespace Go.Pc
open Go Go.RowKit
/-- A list of structs of seven cells of the call's own. -/
structure OwnS (e s : Nat) (w : World) (v : Value) (n : Nat) (us : List Value) : Prop where
  own : w.ownsRow s e 7 v n us
/-- A list of structs of seven cells that is read. -/
class SlS (lo hi : outParam Nat) (w : World) (v : Value) (n : outParam Nat) (us : outParam (List Value)) : Prop where
  ex : ∃ A c, v = .slice A n c ∧ us.length = n * 7 ∧ n ≤ c ∧ c ≤ 9223372036854775807 ∧ (0 < n → ∃ g, A = some ⟨g, 0, none⟩ ∧ lo ≤ g ∧ g < hi ∧ ∀ j, j < n * 7 → Cell w g j (us.getD j nilv))
section
variable {B : Nat → Prop} {e s lo hi lo' hi' n : Nat} {w w' : World} {v : Value} {us : List Value}
theorem OwnS.nil (e s : Nat) (w : World) : OwnS e s w nilv 0 [] := ⟨World.ownsRow_nil w s e 7⟩
theorem OwnS.lt (h : OwnS e s w v n us) : ∀ k, v.ownBlock = some k → s ≤ k ∧ k < w.heap.size := h.own.lt
theorem OwnS.ext (h : OwnS e s w v n us) (x : Ext w w') : OwnS e s w' v n us :=
  ⟨h.own.kept (row := none) ⟨x.below.os, x.below.tape, x.below.output, x.below.size, fun k hk _ => x.below.block k hk⟩ (by cases hv : v.ownBlock <;> simp)⟩
theorem OwnS.other {b : Nat} (h : OwnS e s w v n us) (c : Chg b w w') (hb : v.ownBlock ≠ some b) : OwnS e s w' v n us := ⟨h.own.kept c.by_ (.inr hb)⟩
theorem OwnS.wr (h : OwnS e s w v n us) (k : Wrt B w w') (hb : ∀ b, v.ownBlock = some b → ¬ B b) : OwnS e s w' v n us := by
  induction k with
  | refl => exact h
  | step _ hB c ih => exact ih.other c (fun e => hb _ e hB)
  | grow _ x ih => exact ih.ext x
theorem OwnS.len (h : OwnS e s w v n us) : us.length = n * 7 := h.own.1
theorem SlS.toLen (h : SlS lo hi w v n us) : Len w v n := by
  obtain ⟨A, c, rfl, hl, hc, hm, hA⟩ := h.ex
  exact ⟨A, c, rfl, hc, hm, fun hp => by obtain ⟨g, h, _⟩ := hA hp; exact ⟨_, h⟩⟩
theorem SlS.same (h : SlS lo hi w v n us) (k : Same lo hi w w') (hs : w.heap.size ≤ w'.heap.size) : SlS lo hi w' v n us := by
  obtain ⟨A, c, rfl, hl, hc, hm, hA⟩ := h.ex
  refine ⟨⟨A, c, rfl, hl, hc, hm, fun hp => ?_⟩⟩
  obtain ⟨g, rfl, h1, h2, h3⟩ := hA hp
  exact ⟨g, rfl, h1, h2, fun j hj => (h3 j hj).same (fun b k1 k2 k3 => k b (by omega) (by omega) k3) hs⟩
theorem SlS.mono (h : SlS lo hi w v n us) (h1 : lo' ≤ lo) (h2 : hi ≤ hi') : SlS lo' hi' w v n us := by
  obtain ⟨A, c, rfl, hl, hc, hm, hA⟩ := h.ex
  refine ⟨⟨A, c, rfl, hl, hc, hm, fun hp => ?_⟩⟩
  obtain ⟨g, rfl, k1, k2, k3⟩ := hA hp
  exact ⟨g, rfl, by omega, by omega, k3⟩
theorem SlS.wide (h : SlS lo hi w v n us) : SlS 0 w.heap.size w v n us := by
  obtain ⟨A, c, rfl, hl, hc, hm, hA⟩ := h.ex
  refine ⟨⟨A, c, rfl, hl, hc, hm, fun hp => ?_⟩⟩
  obtain ⟨g, rfl, k1, k2, k3⟩ := hA hp
  exact ⟨g, rfl, Nat.zero_le _, (k3 0 (by omega)).lt, k3⟩
end
section
variable {P : Program} {N lo hi n : Nat} {ops : Array Oper} {K : Env → World → Prop} {l : List Oper} {ρ : Env} {w w1 : World} {d d2 : Nat} {v : Value} {us : List Value} {ty ty2 : TypeId} {pos pos2 : String} {after after2 : Array Edge} {g g2 : Option (Nat × Bool)}
theorem SlS.own (h : SlS lo hi w v n us) (hn : 0 < n) : ∃ gb, v.ownBlock = some gb := by
  obtain ⟨A, c, rfl, _, _, _, hA⟩ := h.ex
  obtain ⟨g, rfl, _⟩ := hA hn
  exact ⟨g, rfl⟩
theorem SlS.cells (h : SlS lo hi w v n us) {gb : Nat} (hb : v.ownBlock = some gb) {j : Nat} (hj : j < n * 7) : Cell w gb j (us.getD j nilv) := by
  obtain ⟨A, c, rfl, _, _, _, hA⟩ := h.ex
  obtain ⟨g, rfl, _, _, h3⟩ := hA (by omega)
  injection hb with hb
  subst hb
  exact h3 j hj
end
end Go.Pc
