/-
  Texts of one proof, put together by program: Con, Quo, Aut, Cls, Num, Ctr, W20, W23, W27, W72, I54, Big, Open, OpenB.
  Conditions: those told at each part.
-/
import Derived.Test.YtcglplinebncgaaB6
import Derived.Deep.Slices
import Derived.OpenShut
set_option linter.unusedVariables false
set_option linter.unusedSimpArgs false
set_option linter.unusedSectionVars false
set_option linter.constructorNameAsVariable false
set_option linter.unnecessarySimpa false
set_option linter.deprecated false
/-
  Plain mathematics: a presentation whose normal forms are told apart in a group that respects its relations is a group's.
  Conditions: none; nothing of the program stands here.
-/
namespace Go.Proofs.Ytcglplinebncgaa
open Go Go.Pc Go.Pc.Grp
/-- A group that holds the normal forms of a presentation. -/
structure Emb (q : Pr) {K : Type} [Grp K] (c : Nat → K) : Prop where
  valid : Valid q
  P : ∀ j, j < q.n → pw (c j) (q.o j).toNat = phi c (q.w j) (j + 1) (q.n - (j + 1))
  C : ∀ j k, j < k → k < q.n → cj (c k) (c j) = phi c (q.c j k) (j + 1) (q.n - (j + 1))
  inj : ∀ x y, InR q x → InR q y → phi c x 0 q.n = phi c y 0 q.n → x = y
  inv : ∀ i x, i ≤ q.n → InR q x → ZU i x → ∃ y, InR q y ∧ ZU i y ∧ phi c y 0 q.n * phi c x 0 q.n = 1
section
variable {q : Pr} {K : Type} [Grp K] {c : Nat → K}
theorem phi_zu (c : Nat → K) {x : List Int} {i n : Nat} (hi : i ≤ n) (hz : ZU i x) : phi c x 0 n = phi c x i (n - i) := by
  have e : n = i + (n - i) := by omega
  have h := phi_split c x i 0 (n - i)
  rw [← e, Nat.zero_add] at h
  rw [h, phi_none c i 0 (fun j _ hj => .inl (hz j (by omega))), Grp.one_mul]
theorem Emb.mul (h : Emb q c) {i : Nat} (hi : i ≤ q.n) {x y : List Int} (hx : InR q x) (hy : InR q y) (zx : ZU i x) (zy : ZU i y) : phi c (atv q i x y) 0 q.n = phi c x 0 q.n * phi c y 0 q.n := by
  have hin := atv_in h.valid _ i rfl _ _ hx hy zx zy
  rw [phi_zu c hi hin.2, phi_zu c hi zx, phi_zu c hi zy]
  exact dyck c h.valid i (fun j _ hj => h.P j hj) (fun j k _ hj hk => h.C j k hj hk) _ i (Nat.le_refl _) rfl x y hx hy zx zy
theorem Emb.con (h : Emb q c) {i : Nat} (hi : i ≤ q.n) : Con q i where
  valid := h.valid
  assoc := fun x y z => by
    have h1 := atv_in h.valid _ i rfl _ _ x.inr y.inr x.zu y.zu
    have h2 := atv_in h.valid _ i rfl _ _ y.inr z.inr y.zu z.zu
    have h3 := atv_in h.valid _ i rfl _ _ h1.1 z.inr h1.2 z.zu
    have h4 := atv_in h.valid _ i rfl _ _ x.inr h2.1 x.zu h2.2
    apply T.ext
    refine h.inj _ _ h3.1 h4.1 ?_
    show phi c (atv q i (atv q i x.v y.v) z.v) 0 q.n = phi c (atv q i x.v (atv q i y.v z.v)) 0 q.n
    rw [h.mul hi h1.1 z.inr h1.2 z.zu, h.mul hi x.inr y.inr x.zu y.zu, h.mul hi x.inr h2.1 x.zu h2.2, h.mul hi y.inr z.inr y.zu z.zu, Grp.mul_assoc]
  inv := fun x => by
    obtain ⟨y, hy, zy, e⟩ := h.inv i x.v hi x.inr x.zu
    have h1 := atv_in h.valid _ i rfl _ _ hy x.inr zy x.zu
    refine ⟨⟨y, hy, zy⟩, T.ext ?_⟩
    refine h.inj _ _ h1.1 h.valid.zeros_in ?_
    show phi c (atv q i y x.v) 0 q.n = phi c (zeros q.n) 0 q.n
    rw [h.mul hi hy x.inr zy x.zu, e, phi_zero c _ _ fun j _ => zeros_getD _ _]
theorem cj_cj' {G : Type} [Grp G] (a b g : G) : cj (cj a g) (cj b g) = cj (cj a b) g := by
  rw [cj_cj, cj_cj, mul_cj]
theorem cj_self {G : Type} [Grp G] (a : G) : cj a a = a := by unfold cj; rw [inv_mul_cancel_left]
/-- The level's conditions hold. -/
theorem Emb.lev (h : Emb q c) {i : Nat} (hi : i < q.n) : Lev q i := by
  have hcon : Con q (i + 1) := h.con hi
  let up : T q (i + 1) → K := fun x => phi c x.v 0 q.n
  have upv : ∀ x : T q (i + 1), up x = phi c x.v 0 q.n := fun _ => rfl
  have upi : ∀ x y : T q (i + 1), up x = up y → x = y := fun x y e => T.ext (h.inj _ _ x.inr y.inr e)
  have upm : ∀ x y : T q (i + 1), up (x * y) = up x * up y := fun x y => h.mul (i := i + 1) hi x.inr y.inr x.zu y.zu
  have up1 : up 1 = 1 := Grp.mul_left_cancel (a := up 1) (by rw [← upm, Grp.one_mul, Grp.mul_one])
  have upp : ∀ (x : T q (i + 1)) k, up (pw x k) = pw (up x) k := fun x k => by
    induction k with
    | zero => exact up1
    | succ k ih => rw [pw_succ, upm, ih, pw_succ]
  have upn : ∀ x : T q (i + 1), up x⁻¹ = (up x)⁻¹ := fun x => eq_inv_of_mul (by rw [← upm, Grp.inv_mul, up1])
  have upc : ∀ x y : T q (i + 1), up (cj x y) = cj (up x) (up y) := fun x y => by unfold cj; rw [upm, upm, upn]
  have hom : ∀ x y, InR q x → InR q y → ZU (i + 1) x → ZU (i + 1) y → phi c (atv q (i + 1) x y) (i + 1) (q.n - (i + 1)) = phi c x (i + 1) (q.n - (i + 1)) * phi c y (i + 1) (q.n - (i + 1)) := fun x y hx hy zx zy =>
    dyck c h.valid (i + 1) (fun j _ hj => h.P j hj) (fun j k _ hj hk => h.C j k hj hk) _ (i + 1) (Nat.le_refl _) rfl x y hx hy zx zy
  have upg : ∀ x : T q (i + 1), up (Timg h.valid x) = cj (up x) (c i) := fun x => by
    have e := phi_rep_img c h.valid hi hom (fun k h1 h2 => h.C i k h1 h2) x.v 1
    rw [rep_succ, rep_zero, pw_one] at e
    rw [upv, upv, phi_zu c hi (Timg h.valid x).zu, phi_zu c hi x.zu]
    exact e
  have upr : ∀ (x : T q (i + 1)) k, up (rep k (Timg h.valid) x) = cj (up x) (pw (c i) k) := fun x k => by
    induction k with
    | zero => rw [rep_zero, pw_zero, cj_by_one]
    | succ k ih => rw [rep_succ, upg, ih, cj_cj, pw_succ]
  have upC : ∀ j (hj : i < j ∧ j < q.n), up (Tc h.valid hj) = cj (c j) (c i) := fun j hj => by
    rw [upv, phi_zu c hi (Tc h.valid hj).zu]
    exact (h.C i j hj.1 hj.2).symm
  have upW : ∀ j (hj : i ≤ j) (hn : j < q.n) hin hz, up (⟨q.w j, hin, hz⟩ : T q (i + 1)) = pw (c j) (q.o j).toNat := fun j hj hn hin hz => by
    rw [upv, h.P j hn]
    exact phi_zu c (by omega) (h.valid.w_zu j hn)
  have upG : ∀ j (hj : i + 1 ≤ j ∧ j < q.n), up (gen h.valid (i + 1) j hj) = c j := fun j hj => by
    rw [upv]
    have e : (gen h.valid (i + 1) j hj).v = unitv q j 1 := rfl
    have z : ZU j (unitv q j 1) := unitv_zu q (Nat.le_refl _) 1
    rw [e, phi_zu c (by omega) z, show q.n - j = (q.n - (j + 1)) + 1 by omega, phi]
    have g : (unitv q j 1).getD j 0 = 1 := Pc.getD_set_eq _ _ _ (by rw [h.valid.zeros_in.len]; exact hj.2)
    rw [g, phi_zero c _ _ (fun k hk => by rw [unitv, Pc.getD_set_ne _ _ _ _ (by omega), zeros_getD]), Grp.mul_one]
    exact pw_one _
  refine ⟨hcon, hi, ⟨fun j hj => upi _ _ ?_, fun j k hj hk hjk => upi _ _ ?_, upi _ _ ?_, fun j hj => upi _ _ ?_⟩⟩
  · rw [upp, upg, upC, upW j (by omega) hj.2, cj_pw]
  · rw [upc, upg, upC, upC, cj_cj']
    congr 1
    rw [upv, phi_zu c (by omega) (h.valid.c_zu j k hjk hk.2)]
    exact h.C j k hjk hk.2
  · rw [upg, show up (Tw h.valid hi) = pw (c i) (q.o i).toNat from upW i (Nat.le_refl _) hi _ _, cj_pw, cj_self]
  · rw [upr, upc, upG, show up (Tw h.valid hi) = pw (c i) (q.o i).toNat from upW i (Nat.le_refl _) hi _ _]
theorem Emb.grp (h : Emb q c) : IsGrp q := ⟨h.valid, fun _ _ hj => h.lev hj⟩
end
/-! ### the quotient by a normal subgroup -/
structure NSub (G : Type) [Grp G] where
  N : G → Prop
  sub : Pc.Sub N
  nrm : ∀ a b, N a → N (cj a b)
section
variable {G : Type} [Grp G] (S : NSub G)
theorem NSub.comm {a b : G} (h : S.N (a * b)) : S.N (b * a) := by
  have := S.nrm _ a h
  unfold cj at this
  rwa [Grp.mul_assoc, inv_mul_cancel_left] at this
def NSub.setoid : Setoid G where
  r x y := S.N (x⁻¹ * y)
  iseqv := ⟨fun x => by rw [Grp.inv_mul]; exact S.sub.one, fun {x y} h => by
    have := S.sub.inv _ h
    rwa [mul_inv_rev, Grp.inv_inv] at this, fun {x y z} h k => by
    have := S.sub.mul _ _ h k
    rwa [Grp.mul_assoc, mul_inv_cancel_left] at this⟩
def NSub.Q : Type := Quotient S.setoid
def NSub.qk (x : G) : S.Q := Quotient.mk S.setoid x
theorem NSub.eq {x y : G} : S.qk x = S.qk y ↔ S.N (x⁻¹ * y) := ⟨fun h => Quotient.exact h, fun h => Quotient.sound h⟩
instance NSub.grp : Grp S.Q where
  mul a b := Quotient.liftOn₂ a b (fun x y => S.qk (x * y)) fun x y x' y' h k => S.eq.2 (by
    have h1 : S.N (x⁻¹ * x') := h
    have k1 : S.N (y⁻¹ * y') := k
    have h2 := S.sub.mul _ _ (S.nrm _ y h1) k1
    have e : cj (x⁻¹ * x') y * (y⁻¹ * y') = (x * y)⁻¹ * (x' * y') := by
      unfold cj
      rw [mul_inv_rev]
      simp only [Grp.mul_assoc]
      rw [mul_inv_cancel_left]
    rwa [e] at h2)
  one := S.qk 1
  inv a := Quotient.liftOn a (fun x => S.qk x⁻¹) fun x y h => S.eq.2 (by
    have h1 : S.N (x⁻¹ * y) := h
    have h2 := S.sub.inv _ h1
    rw [mul_inv_rev, Grp.inv_inv] at h2
    have h3 := S.comm h2
    rwa [Grp.inv_inv])
  mul_assoc a b c := by
    induction a using Quotient.ind; induction b using Quotient.ind; induction c using Quotient.ind
    exact congrArg S.qk (Grp.mul_assoc _ _ _)
  one_mul a := by
    induction a using Quotient.ind
    exact congrArg S.qk (Grp.one_mul _)
  inv_mul a := by
    induction a using Quotient.ind
    exact congrArg S.qk (Grp.inv_mul _)
end
end Go.Proofs.Ytcglplinebncgaa

/-
  Plain mathematics: the presentation of a quotient is a group's.
  Conditions: none; nothing of the program stands here.
-/
namespace Go.Proofs.Ytcglplinebncgaa
open Go Go.Pc Go.Pc.Grp
section
variable {p : Pr} [hc : ConAll p] {ys : List (El p)}
theorem repEx (hs : SeqOk ys) (x : El p) : ∃ r, RepOf ys x r := by
  have hasc : ∀ i j (hi : i < ys.length) (hj : j < ys.length), i < j → lead (ys[i]).v < lead (ys[j]).v := fun i j hi hj hij => List.pairwise_iff_getElem.1 hs.asc i j hi hj hij
  have key : ∀ k, k ≤ ys.length → ∃ r : El p, (∀ H : El p → Prop, Pc.Sub H → (∀ y, y ∈ ys → H y) → H (x⁻¹ * r)) ∧ (∀ i (hi : i < ys.length), i < k → co r (lead (ys[i]).v) = 0) ∧ (∀ t, (∀ y, y ∈ ys → t < lead y.v) → co r t = co x t) := by
    intro k
    induction k with
    | zero => exact fun _ => ⟨x, fun H hH _ => by rw [Grp.inv_mul]; exact hH.one, fun i _ h => by omega, fun _ _ => rfl⟩
    | succ k ih =>
      intro hk
      have hkn : k < ys.length := by omega
      obtain ⟨r, h1, h2, h3⟩ := ih (by omega)
      have hm := List.getElem_mem hkn
      obtain ⟨hd, hy1⟩ := hs.lead1 _ hm
      have ht : Tl (lead (ys[k]).v) (ys[k]) := lead_tl _
      have hrr := co_rng r hd
      have hpt := ht.pw (Nat.le_of_lt hd) (p.o (lead (ys[k]).v) - co r (lead (ys[k]).v)).toNat
      refine ⟨r * pw (ys[k]) (p.o (lead (ys[k]).v) - co r (lead (ys[k]).v)).toNat, fun H hH hy => ?_, fun i hi hik => ?_, fun t hq => ?_⟩
      · rw [← Grp.mul_assoc]
        exact hH.mul _ _ (h1 H hH hy) (hH.pw (hy _ hm) _)
      · by_cases e : i = k
        · subst e
          rw [co_at r hd hpt, co_pw hd ht, hy1, Int.mul_one]
          by_cases h0 : co r (lead (ys[i]).v) = 0
          · have e1 : ((p.o (lead (ys[i]).v) - co r (lead (ys[i]).v)).toNat : Int) = p.o (lead (ys[i]).v) := by omega
            rw [e1, h0, Int.emod_self]; rfl
          · have e1 : ((p.o (lead (ys[i]).v) - co r (lead (ys[i]).v)).toNat : Int) = p.o (lead (ys[i]).v) - co r (lead (ys[i]).v) := by omega
            have e2 : (p.o (lead (ys[i]).v) - co r (lead (ys[i]).v)) % p.o (lead (ys[i]).v) = p.o (lead (ys[i]).v) - co r (lead (ys[i]).v) := Int.emod_eq_of_lt (by omega) (by omega)
            rw [e1, e2, show co r (lead (ys[i]).v) + (p.o (lead (ys[i]).v) - co r (lead (ys[i]).v)) = p.o (lead (ys[i]).v) by omega, Int.emod_self]
        · have hlt := hasc i k hi hkn (by omega)
          rw [co_low r hd hpt hlt]
          exact h2 i hi (by omega)
      · rw [co_low r hd hpt (hq _ hm)]
        exact h3 t hq
  obtain ⟨r, h1, h2, h3⟩ := key ys.length (Nat.le_refl _)
  refine ⟨r, h1, fun y hy => ?_, h3⟩
  obtain ⟨i, hi, rfl⟩ := List.getElem_of_mem hy
  exact h2 i hi hi
/-! ### the element with some exponents -/
/-! ### the quotient -/
end
end Go.Proofs.Ytcglplinebncgaa

/-
  Plain mathematics: homomorphisms by images; automorphisms are one to one, and each comes back.
  Conditions: none; nothing of the program stands here.
-/
namespace Go.Proofs.Ytcglplinebncgaa
open Go Go.Pc Go.Pc.Grp
/-- Of n + 1 numbers below n two are the same. -/
theorem pigeon : ∀ (n : Nat) (g : Nat → Nat), (∀ i, i ≤ n → g i < n) → ∃ a b, a < b ∧ b ≤ n ∧ g a = g b
  | 0, g, h => absurd (h 0 (Nat.le_refl _)) (Nat.not_lt_zero _)
  | n + 1, g, h => by
    by_cases e : ∃ a, a ≤ n ∧ g a = g (n + 1)
    · obtain ⟨a, ha, e⟩ := e
      exact ⟨a, n + 1, by omega, Nat.le_refl _, e⟩
    · obtain ⟨a, b, h1, h2, h3⟩ := pigeon n (fun i => if g (n + 1) < g i then g i - 1 else g i) (fun i hi => by
        have h1 := h i (by omega)
        have h2 := h (n + 1) (Nat.le_refl _)
        have h3 : g i ≠ g (n + 1) := fun k => e ⟨i, hi, k⟩
        split <;> omega)
      have ha : g a ≠ g (n + 1) := fun k => e ⟨a, by omega, k⟩
      have hb : g b ≠ g (n + 1) := fun k => e ⟨b, h2, k⟩
      refine ⟨a, b, h1, by omega, ?_⟩
      split at h3 <;> split at h3 <;> omega
def itF {α : Type} (f : α → α) : Nat → α → α
  | 0, x => x
  | k + 1, x => f (itF f k x)
theorem itF_add {α : Type} (f : α → α) (b : Nat) (x : α) : ∀ a, itF f (a + b) x = itF f a (itF f b x)
  | 0 => by rw [Nat.zero_add]; rfl
  | a + 1 => by rw [Nat.add_right_comm]; exact congrArg f (itF_add f b x a)
theorem itF_comm {α : Type} (f : α → α) (x : α) (k : Nat) : itF f (k + 1) x = itF f k (f x) := itF_add f 1 x k
theorem itF_mul {α : Type} {f : α → α} {m : Nat} {x : α} (h : itF f m x = x) : ∀ k, itF f (m * k) x = x
  | 0 => rfl
  | k + 1 => by rw [Nat.mul_succ, itF_add, h]; exact itF_mul h k
/-- What is onto a finite set brings each element back. -/
theorem period {α : Type} {f : α → α} {num : α → Nat} {n : Nat} (hn : ∀ x, num x < n) (hi : ∀ x y, num x = num y → x = y) (hs : ∀ y, ∃ x, f x = y) (x : α) : ∃ m, 1 ≤ m ∧ itF f m x = x := by
  obtain ⟨g, hg⟩ : ∃ g : α → α, ∀ y, f (g y) = y := ⟨fun y => Classical.choose (hs y), fun y => Classical.choose_spec (hs y)⟩
  have hk : ∀ k y, itF f k (itF g k y) = y := by
    intro k
    induction k with
    | zero => exact fun y => rfl
    | succ k ih =>
      intro y
      rw [itF_comm]
      show itF f k (f (g (itF g k y))) = y
      rw [hg]
      exact ih y
  obtain ⟨a, b, hab, _, e⟩ := pigeon n (fun i => num (itF g i x)) (fun i _ => hn _)
  have e' : itF g a x = itF g b x := hi _ _ e
  refine ⟨b - a, by omega, ?_⟩
  have h1 : itF g (b - a) x = x := by
    have h2 := congrArg (itF f a) e'
    have h3 : itF g b x = itF g a (itF g (b - a) x) := by
      rw [← itF_add, show a + (b - a) = b by omega]
    rw [h3, hk, hk] at h2
    exact h2.symm
  have h3 := hk (b - a) x
  rwa [h1] at h3
theorem periods {α : Type} {f : α → α} (h : ∀ x : α, ∃ m, 1 ≤ m ∧ itF f m x = x) : ∀ l : List α, ∃ m, 1 ≤ m ∧ ∀ x, x ∈ l → itF f m x = x
  | [] => ⟨1, Nat.le_refl _, fun x hx => absurd hx List.not_mem_nil⟩
  | y :: l => by
    obtain ⟨m, hm, h1⟩ := periods h l
    obtain ⟨k, hk, h2⟩ := h y
    refine ⟨m * k, Nat.mul_pos hm hk, fun x hx => ?_⟩
    rcases List.mem_cons.1 hx with rfl | hx
    · rw [Nat.mul_comm]; exact itF_mul h2 m
    · exact itF_mul (h1 x hx) k
theorem period_inj {α : Type} {f : α → α} (h : ∀ x : α, ∃ m, 1 ≤ m ∧ itF f m x = x) {x y : α} (e : f x = f y) : x = y := by
  obtain ⟨m, hm, k⟩ := periods h [x, y]
  have h1 := k x (by simp)
  have h2 := k y (by simp)
  obtain ⟨j, rfl⟩ : ∃ j, m = j + 1 := ⟨m - 1, by omega⟩
  rw [itF_comm, e] at h1
  rw [itF_comm, h1] at h2
  exact h2
/-! ### homomorphisms by images -/
theorem inR_nonneg {p : Pr} {x : List Int} (h : InR p x) (i : Nat) : 0 ≤ x.getD i 0 := by
  by_cases hi : i < p.n
  · exact (h.rng i hi).1
  · rw [List.getD_eq_getElem?_getD, List.getElem?_eq_none (by rw [h.len]; omega)]
    exact Int.le_refl _
section
variable {q : Pr} [hq : ConAll q]
theorem prodTo_phi (ys : List (El q)) {x : List Int} (h : ∀ i, 0 ≤ x.getD i 0) : ∀ k, prodTo ys x k = phi (fun j => ys.getD j 1) x 0 k
  | 0 => rfl
  | k + 1 => by
    rw [phi_last, Nat.zero_add]
    show prodTo ys x k * pwz (ys.getD k 1) (x.getD k 0) = _
    rw [pwz_of _ (h k), prodTo_phi ys h k]
theorem letV_neg (ys : List (El q)) {a : Int} (ha : a ≠ 0) : letV ys (-a) = (letV ys a)⁻¹ := by
  unfold letV
  by_cases h : 0 < a
  · rw [if_neg (by omega), if_pos h, show - -a - 1 = a - 1 by omega]
  · rw [if_pos (by omega), if_neg h, Grp.inv_inv]
theorem evalW_one (ys : List (El q)) (a : Int) : evalW ys [a] = letV ys a := by
  show 1 * letV ys a = _
  rw [Grp.one_mul]
theorem evalW_inv (ys : List (El q)) : ∀ w : List Int, (∀ a, a ∈ w → a ≠ 0) → evalW ys (invW w) * evalW ys w = 1
  | [], _ => Grp.one_mul _
  | l :: w, h => by
    have e1 : invW (l :: w) = invW w ++ [-l] := by simp [invW]
    have e2 : evalW ys (l :: w) = letV ys l * evalW ys w := by rw [← evalW_one, ← evalW_append]; rfl
    rw [e1, evalW_append, evalW_one, letV_neg ys (h l List.mem_cons_self), e2, Grp.mul_assoc, ← Grp.mul_assoc (letV ys l)⁻¹, Grp.inv_mul, Grp.one_mul]
    exact evalW_inv ys w fun a ha => h a (List.mem_cons_of_mem _ ha)
theorem evalW_rel (ys : List (El q)) {u v : List Int} (hv : ∀ a, a ∈ v → a ≠ 0) (h : evalW ys (u ++ invW v) = 1) : evalW ys u = evalW ys v := by
  rw [evalW_append] at h
  have h1 := evalW_inv ys v hv
  calc evalW ys u = evalW ys u * (evalW ys (invW v) * evalW ys v) := by rw [h1, Grp.mul_one]
    _ = (evalW ys u * evalW ys (invW v)) * evalW ys v := by rw [Grp.mul_assoc]
    _ = evalW ys v := by rw [h, Grp.one_mul]
theorem evalW_full (ys : List (El q)) {x : List Int} (h : ∀ i, 0 ≤ x.getD i 0) : evalW ys (wordV x) = phi (fun j => ys.getD j 1) x 0 x.length := by
  have h1 := evalW_word (ys := ys) (x := x) (fun i _ => h i) x.length (Nat.le_refl _)
  rw [List.take_length, prodTo_phi ys h] at h1
  exact h1
variable {p : Pr}
theorem relOk_mem {ys : List (El q)} (h : RelOk p ys) {w : List Int} (hw : w ∈ rels p) : evalW ys w = 1 := by
  obtain ⟨i, hi, rfl⟩ := List.getElem_of_mem hw
  have := h i hi
  rwa [List.getD_eq_getElem?_getD, List.getElem?_eq_getElem hi] at this
theorem relP_mem {i : Nat} (hi : i < p.n) : relP p i ∈ rels p := List.mem_append.2 (.inl (List.mem_map.2 ⟨i, List.mem_range.2 hi, rfl⟩))
theorem relC_mem {i k : Nat} (hi : i < p.n) (hk : k < p.n - 1 - i) : relC p i k ∈ rels p :=
  List.mem_append.2 (.inr (List.mem_flatMap.2 ⟨i, List.mem_range.2 hi, List.mem_map.2 ⟨k, List.mem_range.2 hk, rfl⟩⟩))
theorem img_P {ys : List (El q)} (hv : Valid p) (h : RelOk p ys) {j : Nat} (hj : j < p.n) : pw (ys.getD j 1) (p.o j).toNat = phi (fun j => ys.getD j 1) (p.w j) (j + 1) (p.n - (j + 1)) := by
  have hi := hv.w_in j hj
  have h1 := relOk_mem h (relP_mem hj)
  have h2 := evalW_rel ys (u := List.replicate (p.o j).toNat ((j : Int) + 1)) (v := wordV (p.w j)) (fun a ha => (letW_word hi.len a ha).1) h1
  rw [evalW_rep, evalW_full ys (inR_nonneg hi), hi.len, phi_zu _ (by omega) (hv.w_zu j hj)] at h2
  exact h2
theorem img_C {ys : List (El q)} (hv : Valid p) (h : RelOk p ys) {j k : Nat} (hjk : j < k) (hk : k < p.n) : cj (ys.getD k 1) (ys.getD j 1) = phi (fun j => ys.getD j 1) (p.c j k) (j + 1) (p.n - (j + 1)) := by
  have hi := hv.c_in j k hjk hk
  obtain ⟨m, rfl⟩ : ∃ m, k = j + 1 + m := ⟨k - (j + 1), by omega⟩
  have ec : (p.cnj.getD j []).getD m [] = p.c j (j + 1 + m) := by
    unfold Pr.c
    congr 1
    omega
  have h1 := relOk_mem h (relC_mem (i := j) (k := m) (by omega) (by omega))
  unfold relC at h1
  rw [ec] at h1
  have h2 := evalW_rel ys (v := wordV (p.c j (j + 1 + m))) (fun a ha => (letW_word hi.len a ha).1) h1
  rw [evalW_full ys (inR_nonneg hi), hi.len, phi_zu _ (by omega) (hv.c_zu j _ hjk hk)] at h2
  rw [← h2]
  show _ = ((1 * letV ys (-(j : Int) - 1)) * letV ys (((j + 1 + m : Nat) : Int) + 1)) * letV ys ((j : Int) + 1)
  have e1 : letV ys (-(j : Int) - 1) = (ys.getD j 1)⁻¹ := by
    unfold letV
    rw [if_neg (by omega), show (-(-(j : Int) - 1) - 1).toNat = j by omega]
  have e2 : letV ys (((j + 1 + m : Nat) : Int) + 1) = ys.getD (j + 1 + m) 1 := by
    unfold letV
    rw [if_pos (by omega), show ((((j + 1 + m : Nat) : Int) + 1) - 1).toNat = j + 1 + m by omega]
  have e3 : letV ys ((j : Int) + 1) = ys.getD j 1 := by
    unfold letV
    rw [if_pos (by omega), show ((j : Int) + 1 - 1).toNat = j by omega]
  rw [e1, e2, e3, Grp.one_mul, Grp.mul_assoc]
  rfl
theorem imgE_phi {ys : List (El q)} (hl : ys.length = p.n) {x : List Int} (hx : InR p x) : imgE ys x = phi (fun j => ys.getD j 1) x 0 p.n := by
  unfold imgE
  rw [prodTo_phi ys (inR_nonneg hx), hl]
variable [hc : ConAll p]
theorem img_hom {ys : List (El q)} (hl : ys.length = p.n) (h : RelOk p ys) (x y : El p) : imgE ys (x * y).v = imgE ys x.v * imgE ys y.v := by
  have hv := hc.valid
  have h1 := dyck (fun j => ys.getD j 1) hv 0 (fun j _ hj => img_P hv h hj) (fun j k _ hjk hk => img_C hv h hjk hk) p.n 0 (Nat.le_refl _) (Nat.sub_zero _) x.v y.v x.inr y.inr x.zu y.zu
  rw [imgE_phi hl (x * y).inr, imgE_phi hl x.inr, imgE_phi hl y.inr]
  exact h1
theorem img_unit {ys : List (El q)} (hl : ys.length = p.n) {i : Nat} (hi : i < p.n) : imgE ys (gOf p 0 i : El p).v = ys.getD i 1 := by
  have key : ∀ k, k ≤ p.n → prodTo ys (gOf p 0 i : El p).v k = if i < k then ys.getD i 1 else 1 := by
    intro k
    induction k with
    | zero => exact fun _ => rfl
    | succ k ih =>
      intro hk
      show prodTo ys _ k * pwz (ys.getD k 1) ((gOf p 0 i : El p).v.getD k 0) = _
      have e : (gOf p 0 i : El p).v.getD k 0 = if k = i then 1 else 0 := by
        have := co_gOf (p := p) (e := k) hi
        rw [show (gOf p 0 i : El p).v.getD k 0 = co (gOf p 0 i) k from rfl, this]
      rw [ih (by omega), e]
      by_cases h1 : k = i
      · subst h1
        rw [if_neg (Nat.lt_irrefl _), if_pos rfl, if_pos (Nat.lt_succ_self _), Grp.one_mul]
        exact Grp.one_mul _
      · rw [if_neg h1]
        have e0 : pwz (ys.getD k 1) 0 = 1 := rfl
        rw [e0, Grp.mul_one]
        by_cases h2 : i < k
        · rw [if_pos h2, if_pos (by omega)]
        · rw [if_neg h2, if_neg (by omega)]
  unfold imgE
  rw [key _ (by omega), if_pos (by omega)]
end
/-! ### numbers -/
section
variable {p : Pr} {l : List Nat}
end
/-! ### automorphisms -/
section
variable {p : Pr} [hc : ConAll p]
theorem full_gen {ys : List (El p)} (hs : SeqEl ys) (h : ordOf p ys = ordL p (List.range p.n)) (x : El p) : Gen (fun a : El p => a ∈ ys) x := by
  have hv := hc.valid
  have hord := ordOf_rng (ys := ys) (k := ys.length) (by have := hs.len; have := hv.n6; omega) (Nat.le_refl _) fun y hy => (hs.ok.lead1 y hy).1
  rw [List.take_length] at hord
  have hsp := ord_split hs.ok
  have hone : ordL p (freeL p ys p.n) = 1 := by
    rw [← h] at hsp
    have h2 : 1 * ordOf p ys = ordL p (freeL p ys p.n) * ordOf p ys := by rw [Int.one_mul]; exact hsp
    exact (Int.eq_of_mul_eq_mul_right (by omega) h2).symm
  have hnil : freeL p ys p.n = [] := by
    by_cases e : freeL p ys p.n = []
    · exact e
    · have h2 := (foldl_ge p.o (freeL p ys p.n) 1 (Int.le_refl _) fun d hd => (hv.opos (freeL_lt hd)).1).2 e
      have h3 : ordL p (freeL p ys p.n) = (freeL p ys p.n).foldl (fun a d => a * p.o d) 1 := rfl
      omega
  have hcov := (free_nil_iff ys p.n).1 hnil
  obtain ⟨r, hr⟩ := repEx hs.ok x
  have hr1 : r = 1 := T.ext (list_ext0 (by rw [r.inr.len, (1 : El p).inr.len]) fun d hd => by
    rw [r.inr.len] at hd
    obtain ⟨y, hy, e⟩ := hcov d hd
    have h1 : r.v.getD d 0 = 0 := by rw [← e]; exact hr.zero y hy
    rw [h1]
    exact (co_one d).symm)
  have h2 := hr.mem _ (Gen.sub _) (fun y hy => Gen.of (S := fun a : El p => a ∈ ys) y hy)
  rw [hr1, Grp.mul_one] at h2
  have h3 := Gen.inv _ h2
  rwa [Grp.inv_inv] at h3
theorem aut_onto {ys : List (El p)} (hl : ys.length = p.n) (h : RelOk p ys) (hf : ordOf p (canEls (Gen (fun a : El p => a ∈ ys))) = ordL p (List.range p.n)) (z : El p) : ∃ x : El p, imgE ys x.v = z := by
  have h1 := full_gen (seqEl_can (Gen.sub (fun a : El p => a ∈ ys))) hf z
  have e1 : imgE ys (1 : El p).v = 1 := by
    have h2 := img_hom hl h (1 : El p) 1
    rw [Grp.one_mul] at h2
    have h3 := congrArg (fun a => (imgE ys (1 : El p).v)⁻¹ * a) h2
    simp only [← Grp.mul_assoc, Grp.inv_mul, Grp.one_mul] at h3
    exact h3.symm
  have hS : Pc.Sub (fun z : El p => ∃ x : El p, imgE ys x.v = z) := ⟨⟨1, e1⟩, fun a b ⟨x, hx⟩ ⟨y, hy⟩ => ⟨x * y, by rw [img_hom hl h, hx, hy]⟩, fun a ⟨x, hx⟩ => ⟨x⁻¹, by
    have h2 := img_hom hl h x⁻¹ x
    rw [Grp.inv_mul, e1, hx] at h2
    exact Grp.eq_inv_of_mul h2.symm⟩⟩
  have h2 := (gen_can (Gen.sub (fun a : El p => a ∈ ys)) z).1 h1
  refine Gen.le hS (fun a ha => ?_) z h2
  obtain ⟨i, hi, rfl⟩ := List.getElem_of_mem ha
  refine ⟨gOf p 0 i, ?_⟩
  rw [img_unit hl (by omega)]
  simp [hi]
theorem aut_period {ys : List (El p)} (hl : ys.length = p.n) (h : RelOk p ys) (hf : ordOf p (canEls (Gen (fun a : El p => a ∈ ys))) = ordL p (List.range p.n)) (x : El p) : ∃ m, 1 ≤ m ∧ itF (fun x : El p => imgE ys x.v) m x = x := by
  obtain ⟨num, hn⟩ : ∃ num : El p → Nat, ∀ x, num x < ordN p ∧ x = allE p (num x) := ⟨fun x => Classical.choose (allE_surj x), fun x => Classical.choose_spec (allE_surj x)⟩
  exact period (num := num) (fun x => (hn x).1) (fun x y e => by rw [(hn x).2, (hn y).2, e]) (aut_onto hl h hf) x
theorem aut_inj {ys : List (El p)} (hl : ys.length = p.n) (h : RelOk p ys) (hf : ordOf p (canEls (Gen (fun a : El p => a ∈ ys))) = ordL p (List.range p.n)) {x y : El p} (e : imgE ys x.v = imgE ys y.v) : x = y :=
  period_inj (f := fun x : El p => imgE ys x.v) (aut_period hl h hf) e
/-- The images that an inverse automorphism has. -/
def InV (p : Pr) (xss r : List (List Int)) (e : Int) : Prop := (∃ (_ : ConAll p) (ys zs : List (El p)), xss = vecs ys ∧ zs.length = p.n ∧ (∀ i, i < p.n → imgE ys (zs.getD i 1).v = gOf p 0 i) ∧ r = vecs zs) ∧ e = 0
end
theorem InV.uniq {p : Pr} {xss : List (List Int)} (hI : IsoP p p xss) (a b : List (List Int)) (c d : Int) (h : InV p xss a c) (k : InV p xss b d) : a = b ∧ c = d := by
  obtain ⟨⟨hc, ys, zs, h1, h2, h3, rfl⟩, rfl⟩ := h
  obtain ⟨⟨kc, ys', zs', k1, k2, k3, rfl⟩, rfl⟩ := k
  obtain rfl := vecs_inj (h1.symm.trans k1)
  obtain ⟨_, hlen, _, hq, _, hC⟩ := hI
  rw [h1] at hC hlen
  obtain ⟨hR, hf⟩ := isoC_iff.1 hC
  have hl : ys.length = p.n := by simpa using hlen
  have e : zs = zs' := by
    refine List.ext_getElem (by omega) fun i hi hi' => ?_
    have e1 := h3 i (by omega)
    have e2 := k3 i (by omega)
    have e3 := aut_inj hl hR hf (e1.trans e2.symm)
    simpa [hi, hi'] using e3
  exact ⟨by rw [e], rfl⟩
end Go.Proofs.Ytcglplinebncgaa

/-
  Classes of conjugate elements; the order of lists of numbers is the order of the elements' numbers; a sorted list of distinct elements is determined by its members.
  Conditions: the tails at all levels are groups.
-/
namespace Go.Proofs.Ytcglplinebncgaa
open Go Go.Pc
/-! ### comparison of lists -/
section
variable {p : Pr} [hc : ConAll p]
/-! ### numbers of elements -/
def numE (x : El p) : Nat := (numF p (List.range p.n) x).toNat
theorem numF_all (x : El p) : 0 ≤ numF p (List.range p.n) x ∧ numF p (List.range p.n) x + 1 ≤ ordL p (List.range p.n) := by
  have h := numF_lt hc.valid (List.range p.n) (fun d hd => List.mem_range.1 hd) x (List.range p.n).length (Nat.le_refl _)
  rwa [List.take_length] at h
theorem numE_cast (x : El p) : ((numE x : Nat) : Int) = numF p (List.range p.n) x := by
  have := numF_all x
  unfold numE
  omega
theorem numE_lt (x : El p) : numE x < ordN p := by
  have := numF_all x
  unfold numE ordN
  omega
theorem allE_numE (x : El p) : allE p (numE x) = x := by
  have hv := hc.valid
  have hl : ∀ d, d ∈ List.range p.n → d < p.n := fun d hd => List.mem_range.1 hd
  have hn := elTo_num hv (List.range p.n) List.nodup_range hl x (List.range p.n).length (Nat.le_refl _)
  rw [List.take_length] at hn
  refine T.ext ?_
  rw [allE_val, numE_cast]
  have hxl := x.inr.len
  refine list_ext0 (by rw [elTo_len]; exact hxl.symm) fun d hd => ?_
  rw [elTo_len] at hd
  rw [hn d (List.mem_range.2 (by omega))]; rfl
/-! ### sorted lists -/
/-! ### classes -/
def Cnj (x y : El p) : Prop := ∃ z, y = Grp.cj x z
theorem Cnj.refl (x : El p) : Cnj x x := ⟨1, (Grp.cj_by_one x).symm⟩
theorem Cnj.symm {x y : El p} (h : Cnj x y) : Cnj y x := by
  obtain ⟨z, rfl⟩ := h
  exact ⟨z⁻¹, by rw [Grp.cj_cj, Grp.mul_inv, Grp.cj_by_one]⟩
theorem Cnj.trans {x y z : El p} (h : Cnj x y) (k : Cnj y z) : Cnj x z := by
  obtain ⟨a, rfl⟩ := h
  obtain ⟨b, rfl⟩ := k
  exact ⟨a * b, Grp.cj_cj _ _ _⟩
end
end Go.Proofs.Ytcglplinebncgaa

/-
  Walk: the program's number of an element (numberOf).
  Conditions: stated at the theorem.
-/
namespace Go.Proofs.Ytcglplinebncgaa
open Go Go.Pc
set_option maxHeartbeats 1000000 in
theorem numberOf_ok {p : Pr} [hc : ConAll p] {x : El p} {w : World} {vp vx : Value} {xs : List Int} {lo hi lo1 hi1 : Nat} [hp : PresP lo hi w vp p] [hx : Ints lo1 hi1 w vx xs] (hxe : xs = x.v) :
    Calls Try.prog 43 #[vp, vx] w (Ret fun v w' => v = .int .i64 ((numE x : Nat) : Int) ∧ Ext w w') := by
  subst hxe
  have hv := hc.valid
  have hn6 := hv.n6
  have hol : p.ord.length = p.n := rfl
  have hxl := x.inr.len
  have hl : ∀ d, d ∈ List.range p.n → d < p.n := fun d hd => List.mem_range.1 hd
  obtain ⟨g, og, vo, vpw, vc, ps, cs, css, rfl, hg1, hg2, hc0, hc1, hc2, h1, h2, h3⟩ := hp.ex
  refine enter (args := [.pointer (some ⟨g, og, none⟩), vx]) (l := [.tmp 4]) Try.func43 rfl rfl Try.ntmps43 (by simp) ?_
  refine go ?_
  refine r_for p.n (fun k ρ w' => Has ρ [(0, .pointer (some ⟨g, og, none⟩)), (5, .int .i64 (numF p ((List.range p.n).take k) x)), (8, vx), (9, .int .i64 x.v.length), (10, .int .i64 k)] ∧ Ext w w') ?_ ?_
  · refine ⟨?_, Ext.refl _⟩
    exact hasP
  rintro k ρ w2 hk ⟨hH, he2⟩
  refine rwp_has hH fun ρ0 => ?_
  refine go ?_
  refine c_if (fun h4 => ?_) (fun h4 => ?_)
  · have hkn : k < p.n := by omega
    have hod := hv.opos hkn
    have hcr : 0 ≤ co x k ∧ co x k < p.o k := x.inr.rng k hkn
    have hb := numF_rng hv (List.range p.n) x hl (by simpa using hn6) (k := k) (by simpa using hk)
    have hm : 0 ≤ numF p ((List.range p.n).take k) x * p.o k ∧ numF p ((List.range p.n).take k) x * p.o k ≤ 117648 * 7 := ⟨Int.mul_nonneg (by omega) (by omega), Int.mul_le_mul hb.2 hod.2 (by omega) (by omega)⟩
    have hmb : -9223372036854775808 ≤ numF p ((List.range p.n).take k) x * p.o k ∧ numF p ((List.range p.n).take k) x * p.o k ≤ 9223372036854775807 := ⟨by omega, by omega⟩
    obtain ⟨q, hq⟩ : ∃ q, numF p ((List.range p.n).take k) x * p.o k = q := ⟨_, rfl⟩
    have hstep := numF_take (List.range p.n) x (k := k) (by simpa using hkn)
    rw [show (List.range p.n)[k]'(by simpa using hkn) = k by simp, hq] at hstep
    refine go ?_
    rw [show p.ord.getD k 0 = p.o k from rfl]
    refine ra (h := rd_mul (by ((try simp only [ev_tmp, ev_const, ev_func, get_put, get_args, get_putL, get_putL_nil, Nat.reduceEqDiff, reduceIte, List.getD_cons_zero, List.getD_cons_succ, List.getD_nil]); first | done | with_reducible rfl)) (by ((try simp only [ev_tmp, ev_const, ev_func, get_put, get_args, get_putL, get_putL_nil, Nat.reduceEqDiff, reduceIte, List.getD_cons_zero, List.getD_cons_succ, List.getD_nil]); first | done | with_reducible rfl)) hmb) (next := ?_)
    rw [hq] at hm ⊢
    rw [show x.v.getD k 0 = co x k from rfl]
    refine go ?_
    refine forQ_normal (by omega) ⟨?_, he2⟩
    rw [hstep]
    exact hasP
  · obtain rfl : k = p.n := by omega
    rw [show (List.range p.n).take p.n = List.range p.n by rw [List.take_of_length_le]; simp]
    refine go ?_
    exact ret1 ⟨by rw [numE_cast], he2⟩
end Go.Proofs.Ytcglplinebncgaa

/-
  Centralizers, normalizers, conjugators of subgroups: what the answers are.
  Conditions: none.
-/
namespace Go.Proofs.Ytcglplinebncgaa
open Go Go.Pc
section
variable {p : Pr} [hc : ConAll p]
/-- The element commutes with all elements of a list. -/
def CenP (ys : List (El p)) (a : El p) : Prop := ∀ i (h : i < ys.length), a * ys[i] = ys[i] * a
/-- The element carries the elements of a list into a subgroup. -/
def CarP (ys zs : List (El p)) (a : El p) : Prop := ∀ i (h : i < ys.length), Gen (fun b : El p => b ∈ zs) (Grp.cj ys[i] a)
end
theorem rows_one1 {w w' : World} {v u : Value} {xs : List Int} {lo hi lo1 hi1 : Nat} (hu : Ints lo hi w u xs) (x : Ext w w') (hs : Sl lo1 hi1 w' v [u]) : Pc.Rows 0 w'.heap.size w' v [u] [xs] := by
  refine ⟨hs.wide, rfl, fun i => ?_⟩
  cases i with
  | zero => exact (hu.same (x.same _ _)).wide
  | succ i => exact (Ints.nil_ w').mono (Nat.le_refl 0) (Nat.zero_le _)
def GrpE (p : Pr) (xs : List Int) : Prop := IsGrp p ∧ InR p xs
def CeV (p : Pr) (xss r : List (List Int)) (e : Int) : Prop := (∃ (_ : ConAll p) (ys : List (El p)), xss = vecs ys ∧ r = canon (Gen (fun a : El p => CenP ys a))) ∧ e = 0
theorem CeV.uniq {p : Pr} {xss : List (List Int)} (a b : List (List Int)) (c d : Int) (h : CeV p xss a c) (k : CeV p xss b d) : a = b ∧ c = d := by
  obtain ⟨⟨hc, ys, h2, h4⟩, h5⟩ := h
  obtain ⟨⟨hc', ys', k2, k4⟩, k5⟩ := k
  obtain rfl := vecs_inj (h2.symm.trans k2)
  exact ⟨by rw [h4, k4], by rw [h5, k5]⟩
def NzV (p : Pr) (xss r : List (List Int)) (e : Int) : Prop := (∃ (_ : ConAll p) (ys : List (El p)), xss = vecs ys ∧ r = canon (Gen (fun a : El p => CarP ys ys a))) ∧ e = 0
theorem NzV.uniq {p : Pr} {xss : List (List Int)} (a b : List (List Int)) (c d : Int) (h : NzV p xss a c) (k : NzV p xss b d) : a = b ∧ c = d := by
  obtain ⟨⟨hc, ys, h2, h4⟩, h5⟩ := h
  obtain ⟨⟨hc', ys', k2, k4⟩, k5⟩ := k
  obtain rfl := vecs_inj (h2.symm.trans k2)
  exact ⟨by rw [h4, k4], by rw [h5, k5]⟩
/-- The least element that carries a subgroup to another one. -/
def ScV (p : Pr) (xss yss : List (List Int)) (r : List Int) (e : Int) : Prop := ∃ (_ : ConAll p) (ys zs : List (El p)), xss = vecs ys ∧ yss = vecs zs ∧
  (((ordOf p ys ≠ ordOf p zs ∨ ∀ j, j < ordN p → ¬ CarP ys zs (allE p j)) ∧ r = [] ∧ e = 4) ∨ (ordOf p ys = ordOf p zs ∧ ∃ k, k < ordN p ∧ CarP ys zs (allE p k) ∧ (∀ j, j < k → ¬ CarP ys zs (allE p j)) ∧ r = (allE p k).v ∧ e = 0))
theorem ScV.uniq {p : Pr} {xss yss : List (List Int)} (a b : List Int) (c d : Int) (h : ScV p xss yss a c) (k : ScV p xss yss b d) : a = b ∧ c = d := by
  obtain ⟨hc, ys, zs, h2, h3, h4⟩ := h
  obtain ⟨hc', ys', zs', k2, k3, k4⟩ := k
  obtain rfl := vecs_inj (h2.symm.trans k2)
  obtain rfl := vecs_inj (h3.symm.trans k3)
  rcases h4 with ⟨h5, rfl, rfl⟩ | ⟨h5, i, hi, h6, h7, rfl, rfl⟩ <;> rcases k4 with ⟨k5, rfl, rfl⟩ | ⟨k5, j, hj, k6, k7, rfl, rfl⟩
  · exact ⟨rfl, rfl⟩
  · rcases h5 with h5 | h5
    · exact absurd k5 h5
    · exact absurd k6 (h5 j hj)
  · rcases k5 with k5 | k5
    · exact absurd h5 k5
    · exact absurd h6 (k5 i hi)
  · rcases Nat.lt_trichotomy i j with e | e | e
    · exact absurd h6 (k7 i e)
    · subst e; exact ⟨rfl, rfl⟩
    · exact absurd k6 (h7 j e)
/-- The index of the centre. -/
def CiV (p : Pr) (r e : Int) : Prop := (∃ (_ : ConAll p), r = idxOf p (canEls (Gen (fun a : El p => AbP [] a)))) ∧ e = 0
theorem CiV.uniq {p : Pr} (a b : Int) (c d : Int) (h : CiV p a c) (k : CiV p b d) : a = b ∧ c = d := by
  obtain ⟨⟨_, h1⟩, h2⟩ := h
  obtain ⟨⟨_, k1⟩, k2⟩ := k
  exact ⟨by rw [h1, k1], by rw [h2, k2]⟩
end Go.Proofs.Ytcglplinebncgaa

/-
  Walks: the reference's order, index, transversal elements; Transversal.
  Conditions: stated at each theorem.
-/
namespace Go.Proofs.Ytcglplinebncgaa
open Go Go.Pc
end Go.Proofs.Ytcglplinebncgaa

/-
  Walks: the reference's element with a number, the elements above a subgroup; Center.
  Conditions: stated at each theorem.
-/
namespace Go.Proofs.Ytcglplinebncgaa
open Go Go.Pc
end Go.Proofs.Ytcglplinebncgaa

/-
  Walks: the reference's ElementCentralizer, SubgroupCentralizer, SubgroupNormalizer, SubgroupConjugator, CountInner.
  Conditions: stated at each theorem.
-/
namespace Go.Proofs.Ytcglplinebncgaa
open Go Go.Pc
theorem spec_IsElement_ok {p : Pr} {w : World} {vp vx : Value} {xs : List Int} {lo hi lo1 hi1 : Nat} [hp : Pres lo hi w vp p] [hx : Ints lo1 hi1 w vx xs] (hl : p.ord.length ≤ 2000000) :
    Calls Try.prog 39 #[vp, vx] w (Ret fun v w' => ∃ b, v = .bool b ∧ (b = true ↔ GrpE p xs) ∧ Ext w w') := by
  obtain ⟨vo, vpw, vc, ps, cs, css, rfl, h1, h2, h3⟩ := hp.ex
  refine enter (args := [.agg #[vo, vpw, vc], vx]) (l := [.tmp 4]) Try.func39 rfl rfl Try.ntmps39 (by simp) ?_
  refine go ?_
  refine st_box3 (by ((try simp only [ev_tmp, ev_const, ev_func, get_put, get_args, get_putL, get_putL_nil, Nat.reduceEqDiff, reduceIte, List.getD_cons_zero, List.getD_cons_succ, List.getD_nil]); first | done | with_reducible rfl)) (by first | exact True.intro | exact ⟨_, rfl, by ((try simp only [ev_tmp, ev_const, ev_func, get_put, get_args, get_putL, get_putL_nil, Nat.reduceEqDiff, reduceIte, List.getD_cons_zero, List.getD_cons_succ, List.getD_nil, Bool.not_true, Bool.not_false]); first | done | with_reducible rfl)⟩) fun w1 b he1 hb1 hs1 hc0 hc1 hc2 => ?_
  refine go ?_
  refine rc (l08Group_ok (p := p) hl) (next := fun v5 w5 h5 => ?_)
  obtain ⟨b5, rfl, hb5, he5⟩ := h5
  have hE5 := he1.trans he5
  refine go ?_
  refine sp (fun e5 => ?_) (fun e5 => ?_)
  · subst e5
    have hG := hb5.1 rfl
    refine go ?_
    refine rc (l10Element_ok (p := p) (xs := xs) hG.valid) (next := fun v6 w6 h6 => ?_)
    obtain ⟨b6, rfl, hb6, he6⟩ := h6
    refine go ?_
    exact ret1 ⟨b6, rfl, ⟨fun h => ⟨hG, hb6.1 h⟩, fun h => hb6.2 h.2⟩, hE5.trans he6⟩
  · subst e5
    refine go ?_
    refine ret1 ⟨false, rfl, ⟨fun h => (by cases h), fun h => ?_⟩, hE5⟩
    have := hb5.2 h.1
    cases this
end Go.Proofs.Ytcglplinebncgaa

/-
  Walks: the reference's ConsistencyFault, IsConsistent, PresentationOrder, Conjugate, Power.
  Conditions: stated at each theorem.
-/
namespace Go.Proofs.Ytcglplinebncgaa
open Go Go.Pc
/-- What ConsistencyFault answers. -/
def FaO (p : Pr) (u : Value) (e : Int) : Prop := (Valid p ∧ FaultIs p u ∧ e = 0) ∨ (¬ Valid p ∧ u = faultV 0 0 0 0 ∧ e = 1)
theorem FaO.uniq {p : Pr} {u u' : Value} {e e' : Int} (h : FaO p u e) (h' : FaO p u' e') : u = u' ∧ e = e' := by
  rcases h with ⟨hv, h, rfl⟩ | ⟨hv, rfl, rfl⟩ <;> rcases h' with ⟨kv, k, rfl⟩ | ⟨kv, rfl, rfl⟩
  · exact ⟨h.uniq k, rfl⟩
  · exact absurd hv kv
  · exact absurd kv hv
  · exact ⟨rfl, rfl⟩
theorem FaultIs.form {p : Pr} {u : Value} (h : FaultIs p u) : ∃ k l f s : Int, u = faultV k l f s := by
  rcases h with ⟨h, _⟩ | ⟨k, f, s, i, _, _, _, h, _⟩
  · exact ⟨_, _, _, _, h⟩
  · exact ⟨_, _, _, _, h⟩
set_option maxHeartbeats 1000000 in
theorem PresentationOrder_ok {p : Pr} (hv : Valid p) {w : World} {vp : Value} {lo hi : Nat} [hp : Pres lo hi w vp p] :
    Calls Try.prog 42 #[vp] w (Ret fun v w' => v = .tuple #[.int .i64 (p.ord.foldl (· * ·) 1), .int .i64 0] ∧ Ext w w') := by
  have hn6 := hv.n6
  have hol : p.ord.length = p.n := rfl
  obtain ⟨vo, vpw, vc, ps, cs, css, rfl, h1, h2, h3⟩ := hp.ex
  refine enter (args := [.agg #[vo, vpw, vc]]) (l := [.tmp 2, .tmp 3]) Try.func42 rfl rfl Try.ntmps42 (by simp) ?_
  refine go ?_
  refine st_box3 (by ((try simp only [ev_tmp, ev_const, ev_func, get_put, get_args, get_putL, get_putL_nil, Nat.reduceEqDiff, reduceIte, List.getD_cons_zero, List.getD_cons_succ, List.getD_nil]); first | done | with_reducible rfl)) (by first | exact True.intro | exact ⟨_, rfl, by ((try simp only [ev_tmp, ev_const, ev_func, get_put, get_args, get_putL, get_putL_nil, Nat.reduceEqDiff, reduceIte, List.getD_cons_zero, List.getD_cons_succ, List.getD_nil, Bool.not_true, Bool.not_false]); first | done | with_reducible rfl)⟩) fun w1 b he1 hb1 hs1 hc0 hc1 hc2 => ?_
  refine go ?_
  refine rc (spec_IsPresentation_ok (p := p) (by omega)) (next := fun v5 w5 h5 => ?_)
  obtain ⟨b5, rfl, hb5, he5⟩ := h5
  have hb := hb5.2 hv
  subst hb
  refine go ?_
  refine c_b (fun e5 => ?_) (fun e5 => ?_)
  · cases e5
  have hbd : ∀ o ∈ p.ord, 1 ≤ o ∧ o ≤ 7 := fun o ho => by
    obtain ⟨i, hi, rfl⟩ := List.getElem_of_mem ho
    have := hv.opos (i := i) hi
    have e : p.o i = p.ord[i] := by simp [Pr.o, hi]
    omega
  have hcap := capMul_foldl p.ord 1 (fun o ho => (hbd o ho).1) (by omega)
  have hpe : p.ord.foldl capMul 1 = p.ord.foldl (· * ·) 1 := hcap.2.2 (hcap.1.2 hv.prod)
  refine go ?_
  refine rc (l07Product_ok (xs := p.ord) hbd (by omega)) (next := fun v6 w6 h6 => ?_)
  obtain ⟨rfl, he6⟩ := h6
  rw [hpe]
  refine go ?_
  exact ret2 ⟨rfl, (he1.trans he5).trans he6⟩
/-- Both are elements of a group. -/
def GrpE2 (p : Pr) (xs ys : List Int) : Prop := IsGrp p ∧ InR p xs ∧ InR p ys
/-- What an operation on two elements answers. -/
def BinV (f : (p : Pr) → [ConAll p] → El p → El p → El p) (p : Pr) (xs ys : List Int) (r : List Int) (e : Int) : Prop := ∃ (_ : ConAll p) (x y : El p), xs = x.v ∧ ys = y.v ∧ r = (f p x y).v ∧ e = 0
theorem BinV.uniq {f : (p : Pr) → [ConAll p] → El p → El p → El p} {p : Pr} {xs ys : List Int} (a b : List Int) (c d : Int) (h : BinV f p xs ys a c) (k : BinV f p xs ys b d) : a = b ∧ c = d := by
  obtain ⟨_, x, y, h0, h1, rfl, rfl⟩ := h
  obtain ⟨_, x', y', k0, k1, rfl, rfl⟩ := k
  obtain rfl : x = x' := T.ext (h0.symm.trans k0)
  obtain rfl : y = y' := T.ext (h1.symm.trans k1)
  exact ⟨rfl, rfl⟩
theorem inR_el {p : Pr} {xs : List Int} (h : InR p xs) : ∃ x : El p, xs = x.v := ⟨⟨xs, h, fun i hi => absurd hi (Nat.not_lt_zero i)⟩, rfl⟩
noncomputable def cjF (p : Pr) [ConAll p] (x y : El p) : El p := Grp.cj x y
noncomputable def muF (p : Pr) [ConAll p] (x y : El p) : El p := x * y
set_option maxHeartbeats 2000000 in
theorem spec_Conjugate_ok {p : Pr} {w : World} {vp vx vy : Value} {xs ys : List Int} {lo hi lo1 hi1 lo2 hi2 : Nat} [hp : Pres lo hi w vp p] [hx : Ints lo1 hi1 w vx xs] [hy : Ints lo2 hi2 w vy ys] (hl : p.ord.length ≤ 2000000) :
    Calls Try.prog 8 #[vp, vx, vy] w (Ret fun v w' => ∃ (u : Value) (r : List Int) (e : Int), v = .tuple #[u, .int .i64 e] ∧ Ans (GrpE2 p xs ys) (BinV cjF p xs ys) [] r e ∧ Ext w w' ∧ Fr w.heap.size w' u r) := by
  obtain ⟨vo, vpw, vc, ps, cs, css, rfl, h1, h2, h3⟩ := hp.ex
  refine enter (args := [.agg #[vo, vpw, vc], vx, vy]) (l := [.tmp 6, .tmp 7]) Try.func8 rfl rfl Try.ntmps8 (by simp) ?_
  refine go ?_
  refine st_box3 (by ((try simp only [ev_tmp, ev_const, ev_func, get_put, get_args, get_putL, get_putL_nil, Nat.reduceEqDiff, reduceIte, List.getD_cons_zero, List.getD_cons_succ, List.getD_nil]); first | done | with_reducible rfl)) (by first | exact True.intro | exact ⟨_, rfl, by ((try simp only [ev_tmp, ev_const, ev_func, get_put, get_args, get_putL, get_putL_nil, Nat.reduceEqDiff, reduceIte, List.getD_cons_zero, List.getD_cons_succ, List.getD_nil, Bool.not_true, Bool.not_false]); first | done | with_reducible rfl)⟩) fun w1 b he1 hb1 hs1 hc0 hc1 hc2 => ?_
  have bad : ∀ {w' : World}, Ext w w' → ¬ GrpE2 p xs ys → ∃ (u : Value) (r : List Int) (e : Int), Value.tuple #[nilv, .int .i64 1] = .tuple #[u, .int .i64 e] ∧ Ans (GrpE2 p xs ys) (BinV cjF p xs ys) [] r e ∧ Ext w w' ∧ Fr w.heap.size w' u r := fun he hn => ⟨_, [], _, rfl, .inr ⟨hn, rfl, rfl⟩, he, Fr.nilR _ _⟩
  refine go ?_
  refine rc (l08Group_ok (p := p) hl) (next := fun v5 w5 h5 => ?_)
  obtain ⟨b5, rfl, hb5, he5⟩ := h5
  have hE5 := he1.trans he5
  refine go ?_
  refine sp (fun e5 => ?_) (fun e5 => ?_)
  · have hn : ¬ GrpE2 p xs ys := fun h => by
      have := hb5.2 h.1
      rw [this] at e5; cases e5
    refine go ?_
    exact ret2 (bad hE5 hn)
  have hG := hb5.1 (by simpa using e5)
  haveI : ConAll p := ⟨hG.con⟩
  refine go ?_
  refine rc (l10Element_ok (p := p) (xs := xs) hG.valid) (next := fun v6 w6 h6 => ?_)
  obtain ⟨b6, rfl, hb6, he6⟩ := h6
  have hE6 := hE5.trans he6
  refine go ?_
  refine sp (fun e6 => ?_) (fun e6 => ?_)
  · have hn : ¬ GrpE2 p xs ys := fun h => by
      have := hb6.2 h.2.1
      rw [this] at e6; cases e6
    refine go ?_
    exact ret2 (bad hE6 hn)
  obtain ⟨x, rfl⟩ := inR_el (hb6.1 (by simpa using e6))
  refine go ?_
  refine rc (l10Element_ok (p := p) (xs := ys) hG.valid) (next := fun v7 w7 h7 => ?_)
  obtain ⟨b7, rfl, hb7, he7⟩ := h7
  have hE7 := hE6.trans he7
  refine go ?_
  refine c_b (fun e7 => ?_) (fun e7 => ?_)
  · have hn : ¬ GrpE2 p x.v ys := fun h => by
      have := hb7.2 h.2.2
      rw [this] at e7; cases e7
    refine go ?_
    exact ret2 (bad hE7 hn)
  have hy7 := hb7.1 (by simpa using e7)
  obtain ⟨y, rfl⟩ := inR_el hy7
  refine go ?_
  refine rc (l10Conj_ok (p := p) (x := x) (y := y) rfl rfl) (next := fun v8 w8 h8 => ?_)
  obtain ⟨he8, hf8⟩ := h8
  refine go ?_
  exact ret2 ⟨_, _, 0, rfl, .inl ⟨⟨hG, x.inr, hy7⟩, ⟨this, x, y, rfl, rfl, rfl, rfl⟩⟩, hE7.trans he8, hf8.mono hE7.size⟩
/-- What a power answers. -/
def PwV (p : Pr) (xs : List Int) (k : Int) (r : List Int) (e : Int) : Prop := ∃ (_ : ConAll p) (x : El p), xs = x.v ∧ ((¬ (-1000000 ≤ k ∧ k ≤ 1000000) ∧ r = [] ∧ e = 2) ∨ ((-1000000 ≤ k ∧ k ≤ 1000000) ∧ r = (Grp.pwz x k).v ∧ e = 0))
theorem PwV.uniq {p : Pr} {xs : List Int} {k : Int} (a b : List Int) (c d : Int) (h : PwV p xs k a c) (g : PwV p xs k b d) : a = b ∧ c = d := by
  obtain ⟨_, x, h0, h⟩ := h
  obtain ⟨_, y, k0, g⟩ := g
  obtain rfl : x = y := T.ext (h0.symm.trans k0)
  rcases h with ⟨h1, rfl, rfl⟩ | ⟨h1, rfl, rfl⟩ <;> rcases g with ⟨k1, rfl, rfl⟩ | ⟨k1, rfl, rfl⟩
  · exact ⟨rfl, rfl⟩
  · exact absurd k1 h1
  · exact absurd h1 k1
  · exact ⟨rfl, rfl⟩
set_option maxHeartbeats 2000000 in
theorem spec_Power_ok {p : Pr} {w : World} {vp vx : Value} {xs : List Int} {k : Int} {lo hi lo1 hi1 : Nat} [hp : Pres lo hi w vp p] [hx : Ints lo1 hi1 w vx xs] (hl : p.ord.length ≤ 2000000) :
    Calls Try.prog 16 #[vp, vx, .int .i64 k] w (Ret fun v w' => ∃ (u : Value) (r : List Int) (e : Int), v = .tuple #[u, .int .i64 e] ∧ Ans (GrpE p xs) (PwV p xs k) [] r e ∧ Ext w w' ∧ Fr w.heap.size w' u r) := by
  obtain ⟨vo, vpw, vc, ps, cs, css, rfl, h1, h2, h3⟩ := hp.ex
  refine enter (args := [.agg #[vo, vpw, vc], vx, .int .i64 k]) (l := [.tmp 6, .tmp 7]) Try.func16 rfl rfl Try.ntmps16 (by simp) ?_
  refine go ?_
  refine st_box3 (by ((try simp only [ev_tmp, ev_const, ev_func, get_put, get_args, get_putL, get_putL_nil, Nat.reduceEqDiff, reduceIte, List.getD_cons_zero, List.getD_cons_succ, List.getD_nil]); first | done | with_reducible rfl)) (by first | exact True.intro | exact ⟨_, rfl, by ((try simp only [ev_tmp, ev_const, ev_func, get_put, get_args, get_putL, get_putL_nil, Nat.reduceEqDiff, reduceIte, List.getD_cons_zero, List.getD_cons_succ, List.getD_nil, Bool.not_true, Bool.not_false]); first | done | with_reducible rfl)⟩) fun w1 b he1 hb1 hs1 hc0 hc1 hc2 => ?_
  refine go ?_
  refine rc (spec_IsElement_ok (p := p) (xs := xs) hl) (next := fun v5 w5 h5 => ?_)
  obtain ⟨b5, rfl, hb5, he5⟩ := h5
  have hE5 := he1.trans he5
  refine go ?_
  refine c_b (fun e5 => ?_) (fun e5 => ?_)
  · refine go ?_
    refine ret2 ⟨_, [], _, rfl, .inr ⟨fun h => ?_, rfl, rfl⟩, hE5, Fr.nilR _ _⟩
    have := hb5.2 h
    rw [this] at e5; cases e5
  obtain ⟨hG, hI⟩ := hb5.1 (by simpa using e5)
  haveI : ConAll p := ⟨hG.con⟩
  obtain ⟨x, rfl⟩ := inR_el hI
  refine go ?_
  refine rc (l01In_ok (n := k) (l := -1000000) (h := 1000000)) (next := fun v6 w6 h6 => ?_)
  obtain ⟨b6, rfl, hb6, he6⟩ := h6
  have hE6 := hE5.trans he6
  refine go ?_
  refine c_b (fun e6 => ?_) (fun e6 => ?_)
  · refine go ?_
    refine ret2 ⟨_, [], _, rfl, .inl ⟨⟨hG, hI⟩, this, x, rfl, .inl ⟨fun h => ?_, rfl, rfl⟩⟩, hE6, Fr.nilR _ _⟩
    have := hb6.2 h
    rw [this] at e6; cases e6
  have hk := hb6.1 (by simpa using e6)
  refine go ?_
  refine rc (l10Pow_ok (p := p) (x := x) (k := k) rfl (by omega)) (next := fun v8 w8 h8 => ?_)
  obtain ⟨he8, hf8⟩ := h8
  refine go ?_
  exact ret2 ⟨_, _, 0, rfl, .inl ⟨⟨hG, hI⟩, this, x, rfl, .inr ⟨hk, rfl, rfl⟩⟩, hE6.trans he8, hf8.mono hE6.size⟩
end Go.Proofs.Ytcglplinebncgaa

/-
  Walks: the program's ConsistencyFault, ConsistentFrom, Multiply, Conjugate, Commutator, Power, ElementOrder, ElementNumber, ElementAt.
  Conditions: stated at each theorem.
-/
namespace Go.Proofs.Ytcglplinebncgaa
open Go Go.Pc
noncomputable def cmF (p : Pr) [ConAll p] (x y : El p) : El p := Grp.cm x y
theorem rows_two1 {w w' : World} {v u t : Value} {xs ys : List Int} {lo hi lo1 hi1 lo2 hi2 : Nat} (hu : Ints lo hi w u xs) (ht : Ints lo1 hi1 w t ys) (x : Ext w w') (hs : Sl lo2 hi2 w' v [u, t]) : Pc.Rows 0 w'.heap.size w' v [u, t] [xs, ys] := by
  refine ⟨hs.wide, rfl, fun i => ?_⟩
  match i with
  | 0 => exact (hu.same (x.same _ _)).wide
  | 1 => exact (ht.same (x.same _ _)).wide
  | i + 2 => exact (Ints.nil_ w').mono (Nat.le_refl 0) (Nat.zero_le _)
theorem Per.pwz {p : Pr} [ConAll p] {x : El p} {K : Nat} (h : Per x K) (k : Int) : Grp.pw x (k % (K : Int)).toNat = Grp.pwz x k := by
  have hK : (0 : Int) < K := by have := h.1; omega
  have h0 := Int.emod_nonneg k (show (K : Int) ≠ 0 by omega)
  by_cases hk : 0 ≤ k
  · obtain ⟨m, rfl⟩ : ∃ m : Nat, k = m := ⟨k.toNat, by omega⟩
    rw [Grp.pwz_nat, ← h.mod m, ← Int.natCast_emod, Int.toNat_natCast]
  · obtain ⟨m, hm⟩ : ∃ m : Nat, k = -(m : Int) := ⟨(-k).toNat, by omega⟩
    subst hm
    rw [Grp.pwz_neg]
    obtain ⟨r, hr⟩ : ∃ r : Nat, (-(m : Int)) % (K : Int) = r := ⟨((-(m : Int)) % (K : Int)).toNat, by omega⟩
    rw [hr, Int.toNat_natCast]
    have hd : K ∣ r + m := by
      have h1 := Int.emod_add_mul_ediv (-(m : Int)) (K : Int)
      rw [hr] at h1
      have h2 : ((r + m : Nat) : Int) = (K : Int) * (-((-(m : Int)) / (K : Int))) := by rw [Int.mul_neg]; push_cast; omega
      exact Int.natCast_dvd_natCast.1 ⟨_, h2⟩
    have h3 : Grp.pw x (r + m) = 1 := (h.mod_zero _).1 (Nat.mod_eq_zero_of_dvd hd)
    rw [Grp.pw_add] at h3
    exact Grp.mul_right_cancel (c := Grp.pw x m) (by rw [h3, Grp.inv_mul])
set_option maxHeartbeats 2000000 in
theorem impl_Multiply_ok {p : Pr} {w : World} {vp vx vy : Value} {xs ys : List Int} {lo hi lo1 hi1 lo2 hi2 : Nat} [hp : Pres lo hi w vp p] [hx : Ints lo1 hi1 w vx xs] [hy : Ints lo2 hi2 w vy ys] (hl : p.ord.length ≤ 2000000) :
    Calls Try.prog 29 #[vp, vx, vy] w (Ret fun v w' => ∃ (u : Value) (r : List Int) (e : Int), v = .tuple #[u, .int .i64 e] ∧ Ans (GrpE2 p xs ys) (BinV muF p xs ys) [] r e ∧ Ext w w' ∧ Fr w.heap.size w' u r) := by
  obtain ⟨vo, vpw, vc, ps, cs, css, rfl, h1, h2, h3⟩ := hp.ex
  refine enter (args := [.agg #[vo, vpw, vc], vx, vy]) (l := [.tmp 6, .tmp 7]) Try.func29 rfl rfl Try.ntmps29 (by simp) ?_
  refine go ?_
  refine st_box3 (by ((try simp only [ev_tmp, ev_const, ev_func, get_put, get_args, get_putL, get_putL_nil, Nat.reduceEqDiff, reduceIte, List.getD_cons_zero, List.getD_cons_succ, List.getD_nil]); first | done | with_reducible rfl)) (by first | exact True.intro | exact ⟨_, rfl, by ((try simp only [ev_tmp, ev_const, ev_func, get_put, get_args, get_putL, get_putL_nil, Nat.reduceEqDiff, reduceIte, List.getD_cons_zero, List.getD_cons_succ, List.getD_nil, Bool.not_true, Bool.not_false]); first | done | with_reducible rfl)⟩) fun w1 b he1 hb1 hs1 hc0 hc1 hc2 => ?_
  have hpp := hp.boxed he1 hc0 hc1 hc2
  refine go ?_
  refine st_slice2 (u := vx) (v := vy) (by ((try simp only [ev_tmp, ev_const, ev_func, get_put, get_args, get_putL, get_putL_nil, Nat.reduceEqDiff, reduceIte, List.getD_cons_zero, List.getD_cons_succ, List.getD_nil]); first | done | with_reducible rfl)) (by ((try simp only [ev_tmp, ev_const, ev_func, get_put, get_args, get_putL, get_putL_nil, Nat.reduceEqDiff, reduceIte, List.getD_cons_zero, List.getD_cons_succ, List.getD_nil]); first | done | with_reducible rfl)) hx.sl.cells hy.sl.cells rfl (by first | exact True.intro | exact ⟨_, rfl, by ((try simp only [ev_tmp, ev_const, ev_func, get_put, get_args, get_putL, get_putL_nil, Nat.reduceEqDiff, reduceIte, List.getD_cons_zero, List.getD_cons_succ, List.getD_nil, Bool.not_true, Bool.not_false]); first | done | with_reducible rfl)⟩) fun w2 v2 he2 hs2 ho2 => ?_
  have hE2 := he1.trans he2
  have hR2 := rows_two1 hx hy hE2 ho2
  refine go ?_
  refine rc (areElements_ok (p := p) (xss := [xs, ys]) hl (by simp)) (next := fun v5 w5 h5 => ?_)
  obtain ⟨b5, rfl, hb5, he5⟩ := h5
  have hb5' : b5 = true ↔ GrpE2 p xs ys := hb5.trans ⟨fun h => ⟨h.1, h.2 0 (by simp), h.2 1 (by simp)⟩, fun h => ⟨h.1, fun i hi => by
    match i, hi with
    | 0, _ => exact h.2.1
    | 1, _ => exact h.2.2
    | i + 2, hi => simp at hi; omega⟩⟩
  have hE5 := hE2.trans he5
  refine go ?_
  refine c_b (fun e5 => ?_) (fun e5 => ?_)
  · refine go ?_
    refine ret2 ⟨_, [], _, rfl, .inr ⟨fun h => ?_, rfl, rfl⟩, hE5, Fr.nilR _ _⟩
    rw [hb5'.2 h] at e5; cases e5
  obtain ⟨hG, hx5, hy5⟩ := hb5'.1 (by simpa using e5)
  haveI : ConAll p := ⟨hG.con⟩
  obtain ⟨x, rfl⟩ := inR_el hx5
  obtain ⟨y, rfl⟩ := inR_el hy5
  refine go ?_
  refine rc (multiply_ok (p := p) (x := x) (y := y) (Nat.zero_le _) rfl rfl) (next := fun v8 w8 h8 => ?_)
  obtain ⟨he8, hf8⟩ := h8
  refine go ?_
  exact ret2 ⟨_, _, 0, rfl, .inl ⟨⟨hG, hx5, hy5⟩, ⟨this, x, y, rfl, rfl, rfl, rfl⟩⟩, hE5.trans he8, hf8.mono hE5.size⟩
set_option maxHeartbeats 2000000 in
theorem impl_Conjugate_ok {p : Pr} {w : World} {vp vx vy : Value} {xs ys : List Int} {lo hi lo1 hi1 lo2 hi2 : Nat} [hp : Pres lo hi w vp p] [hx : Ints lo1 hi1 w vx xs] [hy : Ints lo2 hi2 w vy ys] (hl : p.ord.length ≤ 2000000) :
    Calls Try.prog 7 #[vp, vx, vy] w (Ret fun v w' => ∃ (u : Value) (r : List Int) (e : Int), v = .tuple #[u, .int .i64 e] ∧ Ans (GrpE2 p xs ys) (BinV cjF p xs ys) [] r e ∧ Ext w w' ∧ Fr w.heap.size w' u r) := by
  obtain ⟨vo, vpw, vc, ps, cs, css, rfl, h1, h2, h3⟩ := hp.ex
  refine enter (args := [.agg #[vo, vpw, vc], vx, vy]) (l := [.tmp 6, .tmp 7]) Try.func7 rfl rfl Try.ntmps7 (by simp) ?_
  refine go ?_
  refine st_box3 (by ((try simp only [ev_tmp, ev_const, ev_func, get_put, get_args, get_putL, get_putL_nil, Nat.reduceEqDiff, reduceIte, List.getD_cons_zero, List.getD_cons_succ, List.getD_nil]); first | done | with_reducible rfl)) (by first | exact True.intro | exact ⟨_, rfl, by ((try simp only [ev_tmp, ev_const, ev_func, get_put, get_args, get_putL, get_putL_nil, Nat.reduceEqDiff, reduceIte, List.getD_cons_zero, List.getD_cons_succ, List.getD_nil, Bool.not_true, Bool.not_false]); first | done | with_reducible rfl)⟩) fun w1 b he1 hb1 hs1 hc0 hc1 hc2 => ?_
  have hpp := hp.boxed he1 hc0 hc1 hc2
  refine go ?_
  refine st_slice2 (u := vx) (v := vy) (by ((try simp only [ev_tmp, ev_const, ev_func, get_put, get_args, get_putL, get_putL_nil, Nat.reduceEqDiff, reduceIte, List.getD_cons_zero, List.getD_cons_succ, List.getD_nil]); first | done | with_reducible rfl)) (by ((try simp only [ev_tmp, ev_const, ev_func, get_put, get_args, get_putL, get_putL_nil, Nat.reduceEqDiff, reduceIte, List.getD_cons_zero, List.getD_cons_succ, List.getD_nil]); first | done | with_reducible rfl)) hx.sl.cells hy.sl.cells rfl (by first | exact True.intro | exact ⟨_, rfl, by ((try simp only [ev_tmp, ev_const, ev_func, get_put, get_args, get_putL, get_putL_nil, Nat.reduceEqDiff, reduceIte, List.getD_cons_zero, List.getD_cons_succ, List.getD_nil, Bool.not_true, Bool.not_false]); first | done | with_reducible rfl)⟩) fun w2 v2 he2 hs2 ho2 => ?_
  have hE2 := he1.trans he2
  have hR2 := rows_two1 hx hy hE2 ho2
  refine go ?_
  refine rc (areElements_ok (p := p) (xss := [xs, ys]) hl (by simp)) (next := fun v5 w5 h5 => ?_)
  obtain ⟨b5, rfl, hb5, he5⟩ := h5
  have hb5' : b5 = true ↔ GrpE2 p xs ys := hb5.trans ⟨fun h => ⟨h.1, h.2 0 (by simp), h.2 1 (by simp)⟩, fun h => ⟨h.1, fun i hi => by
    match i, hi with
    | 0, _ => exact h.2.1
    | 1, _ => exact h.2.2
    | i + 2, hi => simp at hi; omega⟩⟩
  have hE5 := hE2.trans he5
  refine go ?_
  refine c_b (fun e5 => ?_) (fun e5 => ?_)
  · refine go ?_
    refine ret2 ⟨_, [], _, rfl, .inr ⟨fun h => ?_, rfl, rfl⟩, hE5, Fr.nilR _ _⟩
    rw [hb5'.2 h] at e5; cases e5
  obtain ⟨hG, hx5, hy5⟩ := hb5'.1 (by simpa using e5)
  haveI : ConAll p := ⟨hG.con⟩
  obtain ⟨x, rfl⟩ := inR_el hx5
  obtain ⟨y, rfl⟩ := inR_el hy5
  refine go ?_
  refine rc (conjugate_ok (p := p) (x := x) (y := y) (Nat.zero_le _) rfl rfl) (next := fun v8 w8 h8 => ?_)
  obtain ⟨he8, hf8⟩ := h8
  refine go ?_
  exact ret2 ⟨_, _, 0, rfl, .inl ⟨⟨hG, hx5, hy5⟩, ⟨this, x, y, rfl, rfl, rfl, rfl⟩⟩, hE5.trans he8, hf8.mono hE5.size⟩
set_option maxHeartbeats 2000000 in
theorem impl_Commutator_ok {p : Pr} {w : World} {vp vx vy : Value} {xs ys : List Int} {lo hi lo1 hi1 lo2 hi2 : Nat} [hp : Pres lo hi w vp p] [hx : Ints lo1 hi1 w vx xs] [hy : Ints lo2 hi2 w vy ys] (hl : p.ord.length ≤ 2000000) :
    Calls Try.prog 13 #[vp, vx, vy] w (Ret fun v w' => ∃ (u : Value) (r : List Int) (e : Int), v = .tuple #[u, .int .i64 e] ∧ Ans (GrpE2 p xs ys) (BinV cmF p xs ys) [] r e ∧ Ext w w' ∧ Fr w.heap.size w' u r) := by
  obtain ⟨vo, vpw, vc, ps, cs, css, rfl, h1, h2, h3⟩ := hp.ex
  refine enter (args := [.agg #[vo, vpw, vc], vx, vy]) (l := [.tmp 6, .tmp 7]) Try.func13 rfl rfl Try.ntmps13 (by simp) ?_
  refine go ?_
  refine st_box3 (by ((try simp only [ev_tmp, ev_const, ev_func, get_put, get_args, get_putL, get_putL_nil, Nat.reduceEqDiff, reduceIte, List.getD_cons_zero, List.getD_cons_succ, List.getD_nil]); first | done | with_reducible rfl)) (by first | exact True.intro | exact ⟨_, rfl, by ((try simp only [ev_tmp, ev_const, ev_func, get_put, get_args, get_putL, get_putL_nil, Nat.reduceEqDiff, reduceIte, List.getD_cons_zero, List.getD_cons_succ, List.getD_nil, Bool.not_true, Bool.not_false]); first | done | with_reducible rfl)⟩) fun w1 b he1 hb1 hs1 hc0 hc1 hc2 => ?_
  have hpp := hp.boxed he1 hc0 hc1 hc2
  refine go ?_
  refine st_slice2 (u := vx) (v := vy) (by ((try simp only [ev_tmp, ev_const, ev_func, get_put, get_args, get_putL, get_putL_nil, Nat.reduceEqDiff, reduceIte, List.getD_cons_zero, List.getD_cons_succ, List.getD_nil]); first | done | with_reducible rfl)) (by ((try simp only [ev_tmp, ev_const, ev_func, get_put, get_args, get_putL, get_putL_nil, Nat.reduceEqDiff, reduceIte, List.getD_cons_zero, List.getD_cons_succ, List.getD_nil]); first | done | with_reducible rfl)) hx.sl.cells hy.sl.cells rfl (by first | exact True.intro | exact ⟨_, rfl, by ((try simp only [ev_tmp, ev_const, ev_func, get_put, get_args, get_putL, get_putL_nil, Nat.reduceEqDiff, reduceIte, List.getD_cons_zero, List.getD_cons_succ, List.getD_nil, Bool.not_true, Bool.not_false]); first | done | with_reducible rfl)⟩) fun w2 v2 he2 hs2 ho2 => ?_
  have hE2 := he1.trans he2
  have hR2 := rows_two1 hx hy hE2 ho2
  refine go ?_
  refine rc (areElements_ok (p := p) (xss := [xs, ys]) hl (by simp)) (next := fun v5 w5 h5 => ?_)
  obtain ⟨b5, rfl, hb5, he5⟩ := h5
  have hb5' : b5 = true ↔ GrpE2 p xs ys := hb5.trans ⟨fun h => ⟨h.1, h.2 0 (by simp), h.2 1 (by simp)⟩, fun h => ⟨h.1, fun i hi => by
    match i, hi with
    | 0, _ => exact h.2.1
    | 1, _ => exact h.2.2
    | i + 2, hi => simp at hi; omega⟩⟩
  have hE5 := hE2.trans he5
  refine go ?_
  refine c_b (fun e5 => ?_) (fun e5 => ?_)
  · refine go ?_
    refine ret2 ⟨_, [], _, rfl, .inr ⟨fun h => ?_, rfl, rfl⟩, hE5, Fr.nilR _ _⟩
    rw [hb5'.2 h] at e5; cases e5
  obtain ⟨hG, hx5, hy5⟩ := hb5'.1 (by simpa using e5)
  haveI : ConAll p := ⟨hG.con⟩
  obtain ⟨x, rfl⟩ := inR_el hx5
  obtain ⟨y, rfl⟩ := inR_el hy5
  refine go ?_
  refine rc (commutator_ok (p := p) (x := x) (y := y) (Nat.zero_le _) rfl rfl) (next := fun v8 w8 h8 => ?_)
  obtain ⟨he8, hf8⟩ := h8
  refine go ?_
  exact ret2 ⟨_, _, 0, rfl, .inl ⟨⟨hG, hx5, hy5⟩, ⟨this, x, y, rfl, rfl, rfl, rfl⟩⟩, hE5.trans he8, hf8.mono hE5.size⟩
theorem one_iff {p : Pr} {xs : List Int} {b : Bool} (h : b = true ↔ GrpL p [xs]) : b = true ↔ GrpE p xs := h.trans ⟨fun h => ⟨h.1, h.2 0 (by simp)⟩, fun h => ⟨h.1, fun i hi => by
  obtain rfl : i = 0 := by simpa using hi
  exact h.2⟩⟩
set_option maxHeartbeats 2000000 in
theorem impl_Power_ok {p : Pr} {w : World} {vp vx : Value} {xs : List Int} {k : Int} {lo hi lo1 hi1 : Nat} [hp : Pres lo hi w vp p] [hx : Ints lo1 hi1 w vx xs] (hl : p.ord.length ≤ 2000000) :
    Calls Try.prog 15 #[vp, vx, .int .i64 k] w (Ret fun v w' => ∃ (u : Value) (r : List Int) (e : Int), v = .tuple #[u, .int .i64 e] ∧ Ans (GrpE p xs) (PwV p xs k) [] r e ∧ Ext w w' ∧ Fr w.heap.size w' u r) := by
  obtain ⟨vo, vpw, vc, ps, cs, css, rfl, h1, h2, h3⟩ := hp.ex
  refine enter (args := [.agg #[vo, vpw, vc], vx, .int .i64 k]) (l := [.tmp 6, .tmp 7]) Try.func15 rfl rfl Try.ntmps15 (by simp) ?_
  refine go ?_
  refine st_box3 (by ((try simp only [ev_tmp, ev_const, ev_func, get_put, get_args, get_putL, get_putL_nil, Nat.reduceEqDiff, reduceIte, List.getD_cons_zero, List.getD_cons_succ, List.getD_nil]); first | done | with_reducible rfl)) (by first | exact True.intro | exact ⟨_, rfl, by ((try simp only [ev_tmp, ev_const, ev_func, get_put, get_args, get_putL, get_putL_nil, Nat.reduceEqDiff, reduceIte, List.getD_cons_zero, List.getD_cons_succ, List.getD_nil, Bool.not_true, Bool.not_false]); first | done | with_reducible rfl)⟩) fun w1 b he1 hb1 hs1 hc0 hc1 hc2 => ?_
  have hpp := hp.boxed he1 hc0 hc1 hc2
  refine go ?_
  refine st_slice1 (u := vx) (by ((try simp only [ev_tmp, ev_const, ev_func, get_put, get_args, get_putL, get_putL_nil, Nat.reduceEqDiff, reduceIte, List.getD_cons_zero, List.getD_cons_succ, List.getD_nil]); first | done | with_reducible rfl)) hx.sl.cells rfl (by first | exact True.intro | exact ⟨_, rfl, by ((try simp only [ev_tmp, ev_const, ev_func, get_put, get_args, get_putL, get_putL_nil, Nat.reduceEqDiff, reduceIte, List.getD_cons_zero, List.getD_cons_succ, List.getD_nil, Bool.not_true, Bool.not_false]); first | done | with_reducible rfl)⟩) fun w2 v2 he2 hs2 ho2 => ?_
  have hE2 := he1.trans he2
  have hR2 := rows_one1 hx hE2 ho2
  refine go ?_
  refine rc (areElements_ok (p := p) (xss := [xs]) hl (by simp)) (next := fun v5 w5 h5 => ?_)
  obtain ⟨b5, rfl, hb5, he5⟩ := h5
  have hb5' := one_iff hb5
  have hE5 := hE2.trans he5
  refine go ?_
  refine c_b (fun e5 => ?_) (fun e5 => ?_)
  · refine go ?_
    refine ret2 ⟨_, [], _, rfl, .inr ⟨fun h => ?_, rfl, rfl⟩, hE5, Fr.nilR _ _⟩
    rw [hb5'.2 h] at e5; cases e5
  obtain ⟨hG, hx5⟩ := hb5'.1 (by simpa using e5)
  haveI : ConAll p := ⟨hG.con⟩
  obtain ⟨x, rfl⟩ := inR_el hx5
  refine go ?_
  refine rc (inside_ok (n := k) (l := -1000000) (h := 1000000)) (next := fun v6 w6 h6 => ?_)
  obtain ⟨b6, rfl, hb6, he6⟩ := h6
  have hE6 := hE5.trans he6
  refine go ?_
  refine c_b (fun e6 => ?_) (fun e6 => ?_)
  · refine go ?_
    refine ret2 ⟨_, [], _, rfl, .inl ⟨⟨hG, hx5⟩, this, x, rfl, .inl ⟨fun h => ?_, rfl, rfl⟩⟩, hE6, Fr.nilR _ _⟩
    rw [hb6.2 h] at e6; cases e6
  have hk := hb6.1 (by simpa using e6)
  refine go ?_
  refine rc (orderOfElement_ok (p := p) (x := x) rfl) (next := fun v7 w7 h7 => ?_)
  obtain ⟨K, rfl, hK, he7⟩ := h7
  have hK1 := hK.1
  have hK2 := hK.2.1
  refine go ?_
  refine rc (residue_ok (a := k) (m := K) (by omega)) (next := fun v8 w8 h8 => ?_)
  obtain ⟨rfl, he8⟩ := h8
  have hm0 := Int.emod_nonneg k (show (K : Int) ≠ 0 by omega)
  have hm1 := Int.emod_lt_of_pos k (show (0 : Int) < K by omega)
  refine go ?_
  refine rc (power_ok (p := p) (x := x) (k := k % (K : Int)) (Nat.zero_le _) rfl (by omega)) (next := fun v9 w9 h9 => ?_)
  obtain ⟨he9, hf9⟩ := h9
  have hE8 := (hE6.trans he7).trans he8
  rw [hK.pwz] at hf9
  refine go ?_
  exact ret2 ⟨_, _, 0, rfl, .inl ⟨⟨hG, hx5⟩, this, x, rfl, .inr ⟨hk, rfl, rfl⟩⟩, hE8.trans he9, hf9.mono hE8.size⟩
set_option maxHeartbeats 2000000 in
/-- For an element of a group. -/
theorem ElementOrder_ok {p : Pr} (hG : IsGrp p) [hc : ConAll p] {x : El p} {w : World} {vp vx : Value} {xs : List Int} {lo hi lo1 hi1 : Nat} [hp : Pres lo hi w vp p] [hx : Ints lo1 hi1 w vx xs] (hxe : xs = x.v) :
    Calls Try.prog 17 #[vp, vx] w (Ret fun v w' => ∃ K : Nat, v = .tuple #[.int .i64 K, .int .i64 0] ∧ Per x K ∧ Ext w w') := by
  subst hxe
  have hn6 := hG.valid.n6
  have hol : p.ord.length = p.n := rfl
  obtain ⟨vo, vpw, vc, ps, cs, css, rfl, h1, h2, h3⟩ := hp.ex
  refine enter (args := [.agg #[vo, vpw, vc], vx]) (l := [.tmp 4, .tmp 5]) Try.func17 rfl rfl Try.ntmps17 (by simp) ?_
  refine go ?_
  refine st_box3 (by ((try simp only [ev_tmp, ev_const, ev_func, get_put, get_args, get_putL, get_putL_nil, Nat.reduceEqDiff, reduceIte, List.getD_cons_zero, List.getD_cons_succ, List.getD_nil]); first | done | with_reducible rfl)) (by first | exact True.intro | exact ⟨_, rfl, by ((try simp only [ev_tmp, ev_const, ev_func, get_put, get_args, get_putL, get_putL_nil, Nat.reduceEqDiff, reduceIte, List.getD_cons_zero, List.getD_cons_succ, List.getD_nil, Bool.not_true, Bool.not_false]); first | done | with_reducible rfl)⟩) fun w1 b he1 hb1 hs1 hc0 hc1 hc2 => ?_
  have hpp := hp.boxed he1 hc0 hc1 hc2
  refine go ?_
  refine st_slice1 (u := vx) (by ((try simp only [ev_tmp, ev_const, ev_func, get_put, get_args, get_putL, get_putL_nil, Nat.reduceEqDiff, reduceIte, List.getD_cons_zero, List.getD_cons_succ, List.getD_nil]); first | done | with_reducible rfl)) hx.sl.cells rfl (by first | exact True.intro | exact ⟨_, rfl, by ((try simp only [ev_tmp, ev_const, ev_func, get_put, get_args, get_putL, get_putL_nil, Nat.reduceEqDiff, reduceIte, List.getD_cons_zero, List.getD_cons_succ, List.getD_nil, Bool.not_true, Bool.not_false]); first | done | with_reducible rfl)⟩) fun w2 v2 he2 hs2 ho2 => ?_
  have hE2 := he1.trans he2
  have hR2 := rows_one1 hx hE2 ho2
  refine go ?_
  refine rc (areElements_ok (p := p) (xss := [x.v]) (by omega) (by simp)) (next := fun v5 w5 h5 => ?_)
  obtain ⟨b5, rfl, hb5, he5⟩ := h5
  have hb := (one_iff hb5).2 ⟨hG, x.inr⟩
  subst hb
  have hE5 := hE2.trans he5
  refine go ?_
  refine c_b (fun e5 => ?_) (fun e5 => ?_)
  · cases e5
  refine go ?_
  refine rc (orderOfElement_ok (p := p) (x := x) rfl) (next := fun v7 w7 h7 => ?_)
  obtain ⟨K, rfl, hK, he7⟩ := h7
  refine go ?_
  exact ret2 ⟨K, rfl, hK, hE5.trans he7⟩
set_option maxHeartbeats 2000000 in
/-- For an element of a group. -/
theorem ElementNumber_ok {p : Pr} (hG : IsGrp p) [hc : ConAll p] {x : El p} {w : World} {vp vx : Value} {xs : List Int} {lo hi lo1 hi1 : Nat} [hp : Pres lo hi w vp p] [hx : Ints lo1 hi1 w vx xs] (hxe : xs = x.v) :
    Calls Try.prog 19 #[vp, vx] w (Ret fun v w' => v = .tuple #[.int .i64 ((numE x : Nat) : Int), .int .i64 0] ∧ Ext w w') := by
  subst hxe
  have hn6 := hG.valid.n6
  have hol : p.ord.length = p.n := rfl
  obtain ⟨vo, vpw, vc, ps, cs, css, rfl, h1, h2, h3⟩ := hp.ex
  refine enter (args := [.agg #[vo, vpw, vc], vx]) (l := [.tmp 4, .tmp 5]) Try.func19 rfl rfl Try.ntmps19 (by simp) ?_
  refine go ?_
  refine st_box3 (by ((try simp only [ev_tmp, ev_const, ev_func, get_put, get_args, get_putL, get_putL_nil, Nat.reduceEqDiff, reduceIte, List.getD_cons_zero, List.getD_cons_succ, List.getD_nil]); first | done | with_reducible rfl)) (by first | exact True.intro | exact ⟨_, rfl, by ((try simp only [ev_tmp, ev_const, ev_func, get_put, get_args, get_putL, get_putL_nil, Nat.reduceEqDiff, reduceIte, List.getD_cons_zero, List.getD_cons_succ, List.getD_nil, Bool.not_true, Bool.not_false]); first | done | with_reducible rfl)⟩) fun w1 b he1 hb1 hs1 hc0 hc1 hc2 => ?_
  have hpp := hp.boxed he1 hc0 hc1 hc2
  refine go ?_
  refine st_slice1 (u := vx) (by ((try simp only [ev_tmp, ev_const, ev_func, get_put, get_args, get_putL, get_putL_nil, Nat.reduceEqDiff, reduceIte, List.getD_cons_zero, List.getD_cons_succ, List.getD_nil]); first | done | with_reducible rfl)) hx.sl.cells rfl (by first | exact True.intro | exact ⟨_, rfl, by ((try simp only [ev_tmp, ev_const, ev_func, get_put, get_args, get_putL, get_putL_nil, Nat.reduceEqDiff, reduceIte, List.getD_cons_zero, List.getD_cons_succ, List.getD_nil, Bool.not_true, Bool.not_false]); first | done | with_reducible rfl)⟩) fun w2 v2 he2 hs2 ho2 => ?_
  have hE2 := he1.trans he2
  have hR2 := rows_one1 hx hE2 ho2
  refine go ?_
  refine rc (areElements_ok (p := p) (xss := [x.v]) (by omega) (by simp)) (next := fun v5 w5 h5 => ?_)
  obtain ⟨b5, rfl, hb5, he5⟩ := h5
  have hb := (one_iff hb5).2 ⟨hG, x.inr⟩
  subst hb
  have hE5 := hE2.trans he5
  refine go ?_
  refine c_b (fun e5 => ?_) (fun e5 => ?_)
  · cases e5
  refine go ?_
  refine rc (numberOf_ok (p := p) (x := x) rfl) (next := fun v7 w7 h7 => ?_)
  obtain ⟨rfl, he7⟩ := h7
  refine go ?_
  exact ret2 ⟨rfl, hE5.trans he7⟩
set_option maxHeartbeats 2000000 in
/-- The element with a number that is in its range. -/
theorem ElementAt_ok {p : Pr} (hG : IsGrp p) [hc : ConAll p] {t : Nat} (ht : t < ordN p) {w : World} {vp : Value} {lo hi : Nat} [hp : Pres lo hi w vp p] :
    Calls Try.prog 20 #[vp, .int .i64 t] w (Ret fun v w' => ∃ u, v = .tuple #[u, .int .i64 0] ∧ Ext w w' ∧ Fr w.heap.size w' u (allE p t).v) := by
  have hn6 := hG.valid.n6
  have hol : p.ord.length = p.n := rfl
  obtain ⟨hoe, ho1, ho2⟩ := ordN_rng p
  obtain ⟨vo, vpw, vc, ps, cs, css, rfl, h1, h2, h3⟩ := hp.ex
  refine enter (args := [.agg #[vo, vpw, vc], .int .i64 t]) (l := [.tmp 4, .tmp 5]) Try.func20 rfl rfl Try.ntmps20 (by simp) ?_
  refine go ?_
  refine st_box3 (by ((try simp only [ev_tmp, ev_const, ev_func, get_put, get_args, get_putL, get_putL_nil, Nat.reduceEqDiff, reduceIte, List.getD_cons_zero, List.getD_cons_succ, List.getD_nil]); first | done | with_reducible rfl)) (by first | exact True.intro | exact ⟨_, rfl, by ((try simp only [ev_tmp, ev_const, ev_func, get_put, get_args, get_putL, get_putL_nil, Nat.reduceEqDiff, reduceIte, List.getD_cons_zero, List.getD_cons_succ, List.getD_nil, Bool.not_true, Bool.not_false]); first | done | with_reducible rfl)⟩) fun w1 b he1 hb1 hs1 hc0 hc1 hc2 => ?_
  have hpp := hp.boxed he1 hc0 hc1 hc2
  refine go ?_
  refine rc (impl_IsConsistent_ok (p := p) (by omega)) (next := fun v5 w5 h5 => ?_)
  obtain ⟨b5, rfl, hb5, he5⟩ := h5
  have hb := hb5.2 hG
  subst hb
  have hE5 := he1.trans he5
  refine go ?_
  refine c_b (fun e5 => ?_) (fun e5 => ?_)
  · cases e5
  refine go ?_
  refine rc (orderOf_ok (p := p) hG.valid) (next := fun v6 w6 h6 => ?_)
  obtain ⟨rfl, he6⟩ := h6
  rw [hoe]
  refine go ?_
  refine rc (inside_ok (n := t) (l := 0) (h := (ordN p : Int) - 1)) (next := fun v7 w7 h7 => ?_)
  obtain ⟨b7, rfl, hb7, he7⟩ := h7
  have hb := hb7.2 (by omega)
  subst hb
  refine go ?_
  refine c_b (fun e5 => ?_) (fun e5 => ?_)
  · cases e5
  refine go ?_
  refine rc (elementAt_ok (p := p) (t := t) (by omega)) (next := fun v8 w8 h8 => ?_)
  obtain ⟨he8, hf8⟩ := h8
  have hE7 := (hE5.trans he6).trans he7
  refine go ?_
  exact ret2 ⟨_, rfl, hE7.trans he8, hf8.mono hE7.size⟩
end Go.Proofs.Ytcglplinebncgaa

/-
  Walks: the statements' own big, likeInts, mul9, size9.
  Conditions: stated at each theorem.
-/
namespace Go.Proofs.Ytcglplinebncgaa
open Go Go.Pc
theorem big_ok {w : World} {v : Value} {us : List Value} {lo hi : Nat} (hs : Sl lo hi w v us) :
    Calls Try.prog 5 #[v] w (Ret fun v' w' => v' = .bool (decide ((us.length : Int) > 4096)) ∧ Ext w w') := by
  have hl := hs.toLen
  refine enter (args := [v]) (l := [.tmp 2]) Try.func5 rfl rfl Try.ntmps5 (by simp) ?_
  refine go ?_
  exact ret1 ⟨rfl, Ext.refl _⟩
set_option maxHeartbeats 1000000 in
/-- The same list twice. -/
theorem likeInts_ok {w : World} {va vb : Value} {xs : List Int} {lo hi lo' hi' : Nat} [hx : Ints lo hi w va xs] [hy : Ints lo' hi' w vb xs] (hl : xs.length ≤ 2000000) :
    Calls Try.prog 9 #[va, vb] w (Ret fun v w' => v = .bool true ∧ Ext w w') := by
  refine enter (args := [va, vb]) (l := [.tmp 4]) Try.func9 rfl rfl Try.ntmps9 (by simp) ?_
  refine go ?_
  refine c_if (fun h1 => ?_) (fun _ => ?_)
  · exact absurd rfl h1
  refine go ?_
  refine r_for xs.length (fun k ρ w' => Has ρ [(0, va), (1, vb), (5, .int .i64 k)] ∧ Ext w w') ?_ ?_
  · refine ⟨?_, Ext.refl _⟩
    exact hasP
  rintro k ρ w2 hk ⟨hH, he2⟩
  refine rwp_has hH fun ρ0 => ?_
  refine go ?_
  refine c_if (fun h4 => ?_) (fun h4 => ?_)
  · have hkl : k < xs.length := by omega
    refine go ?_
    refine d_region fun w3 he3 hz3 => ?_
    refine dgo ?_
    refine d_end (h := ?_)
    refine go ?_
    refine c_if (fun h5 => ?_) (fun h5 => ?_)
    · exact absurd rfl h5
    · refine go ?_
      refine forQ_normal (by omega) ⟨?_, he2.trans he3⟩
      exact hasP
  · refine go ?_
    exact ret1 ⟨rfl, he2⟩
set_option maxHeartbeats 1000000 in
theorem mul9_ok {p : Pr} (hG : IsGrp p) [hc : ConAll p] {x y : El p} {w : World} {vp vx vy : Value} {xs ys : List Int} {lo hi lo1 hi1 lo2 hi2 : Nat} [hp : Pres lo hi w vp p] [hx : Ints lo1 hi1 w vx xs] [hy : Ints lo2 hi2 w vy ys] (hxe : xs = x.v) (hye : ys = y.v) :
    Calls Try.prog 12 #[vp, vx, vy] w (Ret fun v w' => Ext w w' ∧ Fr w.heap.size w' v (x * y).v) := by
  subst hxe hye
  have hn6 := hG.valid.n6
  have hol : p.ord.length = p.n := rfl
  obtain ⟨vo, vpw, vc, ps, cs, css, rfl, h1, h2, h3⟩ := hp.ex
  refine enter (args := [.agg #[vo, vpw, vc], vx, vy]) (l := [.tmp 6]) Try.func12 rfl rfl Try.ntmps12 (by simp) ?_
  refine go ?_
  refine st_box3 (by ((try simp only [ev_tmp, ev_const, ev_func, get_put, get_args, get_putL, get_putL_nil, Nat.reduceEqDiff, reduceIte, List.getD_cons_zero, List.getD_cons_succ, List.getD_nil]); first | done | with_reducible rfl)) (by first | exact True.intro | exact ⟨_, rfl, by ((try simp only [ev_tmp, ev_const, ev_func, get_put, get_args, get_putL, get_putL_nil, Nat.reduceEqDiff, reduceIte, List.getD_cons_zero, List.getD_cons_succ, List.getD_nil, Bool.not_true, Bool.not_false]); first | done | with_reducible rfl)⟩) fun w1 b he1 hb1 hs1 hc0 hc1 hc2 => ?_
  refine go ?_
  refine rc (impl_Multiply_ok (p := p) (xs := x.v) (ys := y.v) (by omega)) (next := fun v2 w2 h2 => ?_)
  obtain ⟨u, r, e, rfl, hA, he2, hf2⟩ := h2
  have hr : r = (x * y).v := by
    rcases hA with ⟨_, _, x', y', h1, h2, h3, _⟩ | ⟨hn, _⟩
    · obtain rfl : x = x' := T.ext h1
      obtain rfl : y = y' := T.ext h2
      exact h3
    · exact absurd ⟨hG, x.inr, y.inr⟩ hn
  subst hr
  refine go ?_
  exact ret1 ⟨he1.trans he2, hf2.mono he1.size⟩
set_option maxHeartbeats 1000000 in
theorem size9_ok {p : Pr} (hv : Valid p) {w : World} {vp : Value} {lo hi : Nat} [hp : Pres lo hi w vp p] :
    Calls Try.prog 18 #[vp] w (Ret fun v w' => v = .int .i64 (p.ord.foldl (· * ·) 1) ∧ Ext w w') := by
  obtain ⟨vo, vpw, vc, ps, cs, css, rfl, h1, h2, h3⟩ := hp.ex
  refine enter (args := [.agg #[vo, vpw, vc]]) (l := [.tmp 2]) Try.func18 rfl rfl Try.ntmps18 (by simp) ?_
  refine go ?_
  refine st_box3 (by ((try simp only [ev_tmp, ev_const, ev_func, get_put, get_args, get_putL, get_putL_nil, Nat.reduceEqDiff, reduceIte, List.getD_cons_zero, List.getD_cons_succ, List.getD_nil]); first | done | with_reducible rfl)) (by first | exact True.intro | exact ⟨_, rfl, by ((try simp only [ev_tmp, ev_const, ev_func, get_put, get_args, get_putL, get_putL_nil, Nat.reduceEqDiff, reduceIte, List.getD_cons_zero, List.getD_cons_succ, List.getD_nil, Bool.not_true, Bool.not_false]); first | done | with_reducible rfl)⟩) fun w1 b he1 hb1 hs1 hc0 hc1 hc2 => ?_
  refine go ?_
  refine rc (PresentationOrder_ok (p := p) hv) (next := fun v2 w2 h2 => ?_)
  obtain ⟨rfl, he2⟩ := h2
  refine go ?_
  exact ret1 ⟨rfl, he1.trans he2⟩
end Go.Proofs.Ytcglplinebncgaa

/-
  Arguments that read as slices of integers, slices of slices, slices of slices of slices: what the calculus knows of them.
  Conditions: none; nothing of the program stands here.
-/
namespace Go.Pc
open Go Go.RowKit Go.Deep Go.ChangeShapes Go.WideShapes
section
variable {H : Type} {enc : TypeId × Value → H} {P : Program} {w : World} {base : Nat} {held : Bool} {fuel : Nat} {v : Value} {x : DataW H × List MemPlace}
theorem Rows.nil_ (w : World) : Rows 0 w.heap.size w nilv [] [] :=
  ⟨⟨⟨none, 0, rfl, Nat.le_refl _, by omega, fun k u hu => by simp at hu⟩⟩, rfl, fun i => by simpa using (Ints.nil_ w).mono (Nat.le_refl 0) (Nat.zero_le _)⟩
end
end Go.Pc

/-
  Arguments that read as slices of bytes: what the calculus knows of them.
  Conditions: none; nothing of the program stands here.
-/
namespace Go.Pc
open Go Go.RowKit Go.Deep Go.ChangeShapes Go.WideShapes
theorem bytes_of_trod {H : Type} {enc : TypeId × Value → H} {P : Program} {w : World} {base : Nat} {held : Bool} {fuel : Nat} {v : Value} {x : DataW H × List MemPlace} {t e : TypeId} (ht : P.underlying t = some (.slice e)) (he : P.underlying e = some (.int .u8)) (hc : P.cellsOf e = 1) (h : DataW.trod enc P w base (fun _ => true) held fuel t [v] = some x) :
    ∃ xs : List Int, Sl 0 w.heap.size w v (xs.map (Value.int .u8)) ∧ ∀ c, c ∈ xs → 0 ≤ c ∧ c < 256 := by
  rcases open_ints ht he hc h with ⟨hcs, _⟩ | ⟨a, len, cap, zs, hcs, _, hl, hm, hz, _, hcell, hwf⟩
  · have : v = nilv := by simpa using hcs
    subst this
    exact ⟨[], ⟨none, 0, rfl, Nat.le_refl _, by omega, fun k u hu => by simp at hu⟩, fun c h => (by cases h)⟩
  · have : v = .slice (some a) len cap := by simpa using hcs
    subst this
    simp only [if_true] at hz
    have hlen : (zs.take len).length = len := by rw [List.length_take]; omega
    refine ⟨zs.take len, ⟨some a, cap, by rw [List.length_map, hlen], by rw [List.length_map, hlen]; omega, by simp only [maxLen] at hm; omega, fun k u hu => ?_⟩, fun c hcm => ?_⟩
    · rw [List.getElem?_map, List.getElem?_take] at hu
      split at hu
      · have hk : k < zs.length := by omega
        have hck := hcell k hk
        rw [List.getElem?_eq_getElem hk] at hu
        simp only [Option.map_some, Option.some.injEq] at hu
        have e : zs.getD k 0 = zs[k] := by simp [hk]
        rw [e, hu] at hck
        exact ⟨a, rfl, Nat.zero_le _, by have := block_lt hck; rwa [add_block] at this, hck⟩
      · cases hu
    · have hcz := List.mem_of_mem_take hcm
      obtain ⟨j, hj, rfl⟩ := List.getElem_of_mem hcz
      have := range_u8 hwf j
      simp [hj] at this
      omega
end Go.Pc
