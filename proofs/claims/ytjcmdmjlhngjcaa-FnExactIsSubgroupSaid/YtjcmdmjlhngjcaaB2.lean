/-
  Texts of one proof, put together by program: Tail, Cons, Coord, Sub, Work, Tab, Can, Seq, More, Inv, Coll, Pres, Lst, PresP, Queue, Open, W01, W01b, W01c, W07.
  Conditions: those told at each part.
-/
import Derived.Test.YtjcmdmjlhngjcaaB1
import Derived.Deep.AppendSrc
import Derived.Deep.Slices
set_option linter.unusedVariables false
set_option linter.unusedSimpArgs false
set_option linter.unusedSectionVars false
set_option linter.constructorNameAsVariable false
set_option linter.unnecessarySimpa false
set_option linter.deprecated false
/-
  Plain mathematics: the vectors with zeros ahead of a level, as a type; where the level's conditions hold they form a group.
  Conditions: none; nothing of the program stands here.
-/
namespace Go.Pc
open Grp

/-- The vectors of the tail at i. -/
structure T (p : Pr) (i : Nat) where
  v : List Int
  inr : InR p v
  zu : ZU i v
theorem T.ext {p : Pr} {i : Nat} {a b : T p i} (h : a.v = b.v) : a = b := by cases a; cases b; cases h; rfl
theorem list_ext0 {v u : List Int} (hl : v.length = u.length) (h : ∀ k, k < v.length → v.getD k 0 = u.getD k 0) : v = u := by
  apply List.ext_getElem hl
  intro k h1 h2
  have := h k h1
  simpa [List.getD_eq_getElem?_getD, h1, h2] using this
theorem inr_ext {p : Pr} {v u : List Int} (hv : InR p v) (hu : InR p u) (h : ∀ k, k < p.n → v.getD k 0 = u.getD k 0) : v = u :=
  list_ext0 (by rw [hv.len, hu.len]) fun k hk => h k (by rw [← hv.len]; exact hk)

section
variable {p : Pr} (hv : Valid p)
theorem img_zeros (l : Nat) : img p l (zeros p.n) = zeros p.n := by
  rw [img_eq]
  have : ∀ k, imgTo p l (zeros p.n) k = zeros p.n := by
    intro k
    induction k with
    | zero => rfl
    | succ k ih => rw [imgTo_succ, zeros_getD, ih]; rfl
  exact this _
theorem rep_id {α : Type} {f : α → α} {x : α} (h : f x = x) : ∀ k, rep k f x = x
  | 0 => rfl
  | k + 1 => by rw [rep_succ, rep_id h k, h]
theorem set_self {v : List Int} {i : Nat} (h : i < v.length) : v.set i (v.getD i 0) = v := by
  apply list_ext0 (by simp)
  intro k hk
  by_cases e : i = k
  · subst e; rw [getD_set_eq _ _ _ h]
  · rw [getD_set_ne _ _ _ _ e]
theorem set_set {v : List Int} {i : Nat} {a b : Int} : (v.set i a).set i b = v.set i b := by simp
include hv
theorem one_at : ∀ (m i : Nat), p.n - i = m → ∀ b, InR p b → ZU i b → atv p i (zeros p.n) b = b
  | 0, i, hm, b, hb, zb => by
    rw [atv_end _ _ _ _ (by omega)]
    exact inr_ext hv.zeros_in hb fun k hk => by rw [zeros_getD, zb k (by omega)]
  | m + 1, i, hm, b, hb, zb => by
    have hi : i < p.n := by omega
    have h1 := hb.rng i hi
    rw [atv_eq _ _ _ _ hi, zeros_getD, if_neg (by omega)]
    have hz : (zeros p.n).set i 0 = zeros p.n := by
      have := set_self (v := zeros p.n) (i := i) (by rw [zeros_len]; exact hi)
      rwa [zeros_getD] at this
    rw [hz, rep_id (img_zeros i), one_at m (i + 1) (by omega) _ (hb.set (by omega) (fun _ => by omega)) zb.set0, set_set, Int.zero_add, set_self (by rw [hb.len]; exact hi)]
theorem at_one : ∀ (m i : Nat), p.n - i = m → ∀ a, InR p a → ZU i a → atv p i a (zeros p.n) = a
  | 0, i, hm, b, hb, zb => by
    rw [atv_end _ _ _ _ (by omega)]
    exact inr_ext hv.zeros_in hb fun k hk => by rw [zeros_getD, zb k (by omega)]
  | m + 1, i, hm, a, ha, za => by
    have hi : i < p.n := by omega
    have h1 := ha.rng i hi
    rw [atv_eq _ _ _ _ hi, zeros_getD, if_neg (by omega)]
    have hz : (zeros p.n).set i 0 = zeros p.n := by
      have := set_self (v := zeros p.n) (i := i) (by rw [zeros_len]; exact hi)
      rwa [zeros_getD] at this
    rw [hz, show (0 : Int).toNat = 0 from rfl, rep_zero, at_one m (i + 1) (by omega) _ (ha.set (by omega) (fun _ => by omega)) za.set0, set_set, Int.add_zero, set_self (by rw [ha.len]; exact hi)]
/-- In a shorter tail the product is the same. -/
theorem at_restrict {i : Nat} (hi : i < p.n) {a b : List Int} (ha : InR p a) (hb : InR p b) (za : ZU (i + 1) a) (zb : ZU (i + 1) b) : atv p i a b = atv p (i + 1) a b := by
  have h1 := hv.opos hi
  have ea : a.set i 0 = a := by rw [← za i (by omega)]; exact set_self (by rw [ha.len]; exact hi)
  have eb : b.set i 0 = b := by rw [← zb i (by omega)]; exact set_self (by rw [hb.len]; exact hi)
  have hr := atv_in hv _ (i + 1) rfl _ _ ha hb za zb
  rw [atv_eq _ _ _ _ hi, za i (by omega), zb i (by omega), if_neg (by omega), ea, eb]
  show (atv p (i + 1) (rep 0 (img p i) a) b).set i 0 = _
  rw [rep_zero, ← hr.2 i (by omega)]
  exact set_self (by rw [hr.1.len]; exact hi)
theorem at_restrict' {i d : Nat} (hid : i ≤ d) {a b : List Int} (ha : InR p a) (hb : InR p b) (za : ZU d a) (zb : ZU d b) : atv p i a b = atv p d a b := by
  obtain ⟨k, rfl⟩ : ∃ k, d = i + k := ⟨d - i, by omega⟩
  clear hid
  induction k with
  | zero => rfl
  | succ k ih =>
    rw [ih (za.mono (by omega)) (zb.mono (by omega))]
    by_cases hi : i + k < p.n
    · exact at_restrict hv hi ha hb za zb
    · rw [atv_end _ _ _ _ (by omega), atv_end _ _ _ _ (by omega)]
end

def tmul {p : Pr} (hv : Valid p) {i : Nat} (a b : T p i) : T p i := ⟨atv p i a.v b.v, (atv_in hv _ i rfl _ _ a.inr b.inr a.zu b.zu).1, (atv_in hv _ i rfl _ _ a.inr b.inr a.zu b.zu).2⟩
def tone {p : Pr} (hv : Valid p) (i : Nat) : T p i := ⟨zeros p.n, hv.zeros_in, zeros_zu _ _⟩
/-- The tail at i is a group. -/
class Con (p : Pr) (i : Nat) : Prop where
  valid : Valid p
  assoc : ∀ a b c : T p i, tmul valid (tmul valid a b) c = tmul valid a (tmul valid b c)
  inv : ∀ a : T p i, ∃ b, tmul valid b a = tone valid i
noncomputable instance {p : Pr} {i : Nat} [h : Con p i] : Grp (T p i) where
  mul := tmul h.valid
  one := tone h.valid i
  inv a := Classical.choose (h.inv a)
  mul_assoc := h.assoc
  one_mul a := T.ext (one_at h.valid _ i rfl a.v a.inr a.zu)
  inv_mul a := Classical.choose_spec (h.inv a)
theorem T.mul_val {p : Pr} {i : Nat} [h : Con p i] (a b : T p i) : (a * b).v = atv p i a.v b.v := rfl
theorem T.one_val {p : Pr} {i : Nat} [h : Con p i] : (1 : T p i).v = zeros p.n := rfl

/-! ### one generator more -/
section ext
variable {p : Pr} {i : Nat}
/-- The conjugate of generator j by generator i, in the tail behind i. -/
def Tc (hv : Valid p) {j : Nat} (hj : i < j ∧ j < p.n) : T p (i + 1) := ⟨p.c i j, hv.c_in _ _ hj.1 hj.2, hv.c_zu _ _ hj.1 hj.2⟩
def Tw (hv : Valid p) (hi : i < p.n) : T p (i + 1) := ⟨p.w i, hv.w_in _ hi, hv.w_zu _ hi⟩
/-- The same as a function on all numbers. -/
noncomputable def cOf (p : Pr) (i : Nat) [h : Con p (i + 1)] (j : Nat) : T p (i + 1) := open Classical in if hj : i < j ∧ j < p.n then Tc h.valid hj else 1
def Timg (hv : Valid p) (x : T p (i + 1)) : T p (i + 1) := ⟨img p i x.v, (img_in hv i x.v).1, (img_in hv i x.v).2⟩

theorem imgTo_phi [h : Con p (i + 1)] (x : List Int) : ∀ k, k ≤ p.n - (i + 1) → ∀ hin hzu, (⟨imgTo p i x k, hin, hzu⟩ : T p (i + 1)) = phi (cOf p i) x (i + 1) k
  | 0, _, _, _ => rfl
  | k + 1, hk, hin, _ => by
    have hk' := imgTo_in h.valid (atv_in h.valid _ (i + 1) rfl) x k (by omega)
    rw [phi_last, ← imgTo_phi x k (by omega) hk'.1 hk'.2]
    have hj : i < i + 1 + k ∧ i + 1 + k < p.n := ⟨by omega, by omega⟩
    have hc : cOf p i (i + 1 + k) = Tc h.valid hj := dif_pos hj
    have key : ∀ q (acc : T p (i + 1)), rep q (fun o => atv p (i + 1) o (p.c i (i + 1 + k))) acc.v = (acc * pw (Tc h.valid hj) q).v := by
      intro q acc
      induction q with
      | zero => rw [rep_zero, pw_zero, Grp.mul_one]
      | succ q ih => rw [rep_succ, ih, pw_succ, ← Grp.mul_assoc]; rfl
    apply T.ext
    show imgTo p i x (k + 1) = _
    rw [imgTo_succ, hc]
    exact key _ ⟨imgTo p i x k, hk'.1, hk'.2⟩
theorem img_phi [h : Con p (i + 1)] (x : T p (i + 1)) : Timg h.valid x = phi (cOf p i) x.v (i + 1) (p.n - (i + 1)) := imgTo_phi x.v _ (Nat.le_refl _) _ _

/-- The four conditions of a level. -/
def unitv (p : Pr) (j : Nat) (k : Int) : List Int := (zeros p.n).set j k
theorem unitv_in {p : Pr} (hv : Valid p) {j : Nat} {k : Int} (h0 : 0 ≤ k) (h1 : j < p.n → k < p.o j) : InR p (unitv p j k) := hv.zeros_in.set h0 h1
theorem unitv_zu (p : Pr) {i j : Nat} (hij : i ≤ j) (k : Int) : ZU i (unitv p j k) := (zeros_zu _ _).set hij
/-- Generator j, in the tail at i. -/
def gen (hv : Valid p) (i j : Nat) (hj : i ≤ j ∧ j < p.n) : T p i := ⟨unitv p j 1, unitv_in hv (by omega) (fun h => by have := hv.opos h; omega), unitv_zu p hj.1 1⟩
structure Chk (p : Pr) (i : Nat) [h : Con p (i + 1)] (hi : i < p.n) : Prop where
  P : ∀ j (hj : i < j ∧ j < p.n), pw (Tc h.valid hj) (p.o j).toNat = Timg h.valid (⟨p.w j, h.valid.w_in _ hj.2, (h.valid.w_zu _ hj.2).mono (by omega)⟩ : T p (i + 1))
  C : ∀ j k (hj : i < j ∧ j < p.n) (hk : i < k ∧ k < p.n) (hjk : j < k), cj (Tc h.valid hk) (Tc h.valid hj) = Timg h.valid (⟨p.c j k, h.valid.c_in _ _ hjk hk.2, (h.valid.c_zu _ _ hjk hk.2).mono (by omega)⟩ : T p (i + 1))
  F : Timg h.valid (Tw h.valid hi) = Tw h.valid hi
  I : ∀ j (hj : i + 1 ≤ j ∧ j < p.n), rep (p.o i).toNat (Timg h.valid) (gen h.valid (i + 1) j hj) = cj (gen h.valid (i + 1) j hj) (Tw h.valid hi)

theorem img_hom [h : Con p (i + 1)] {hi : i < p.n} (hc : Chk p i hi) (x y : T p (i + 1)) : Timg h.valid (x * y) = Timg h.valid x * Timg h.valid y := by
  have hcof : ∀ j (hj : i < j ∧ j < p.n), cOf p i j = Tc h.valid hj := fun j hj => dif_pos hj
  have hphi : ∀ (v : List Int) (j : Nat), InR p v → ZU j v → i + 1 ≤ j → j ≤ p.n → ∀ hin hzu, Timg h.valid (⟨v, hin, hzu⟩ : T p (i + 1)) = phi (cOf p i) v j (p.n - j) := by
    intro v j hv zv h1 h2 hin hzu
    rw [img_phi]
    obtain ⟨q, rfl⟩ : ∃ q, j = i + 1 + q := ⟨j - (i + 1), by omega⟩
    clear h1
    induction q with
    | zero => rfl
    | succ q ih =>
      rw [ih (zv.mono (by omega)) (by omega), show p.n - (i + 1 + q) = (p.n - (i + 1 + (q + 1))) + 1 by omega, phi]
      rw [zv (i + 1 + q) (by omega)]
      exact Grp.one_mul _
  rw [img_phi, img_phi, img_phi, T.mul_val]
  refine dyck (cOf p i) h.valid (i + 1) ?_ ?_ _ (i + 1) (Nat.le_refl _) rfl _ _ x.inr y.inr x.zu y.zu
  · intro j h1 h2
    rw [hcof j ⟨by omega, h2⟩, hc.P j ⟨by omega, h2⟩]
    exact hphi _ _ (h.valid.w_in _ h2) (h.valid.w_zu _ h2) (by omega) (by omega) _ _
  · intro j k h1 h2 h3
    rw [hcof j ⟨by omega, by omega⟩, hcof k ⟨by omega, h3⟩, hc.C j k ⟨by omega, by omega⟩ ⟨by omega, h3⟩ h2]
    exact hphi _ _ (h.valid.c_in _ _ h2 h3) (h.valid.c_zu _ _ h2 h3) (by omega) (by omega) _ _
end ext

/-! ### normal forms -/
section norm
variable {p : Pr} {i : Nat} (hv : Valid p)
include hv
theorem unit_at {l : Nat} (hil : i ≤ l) (hl : l < p.n) {k : Int} (h0 : 0 ≤ k) (h1 : k < p.o l) {u : List Int} (hu : InR p u) (zu : ZU (l + 1) u) : atv p i (unitv p l k) u = u.set l k := by
  have ho := hv.opos hl
  have hk := unitv_in hv (j := l) (k := k) h0 (fun _ => h1)
  rw [at_restrict' hv hil hk hu (unitv_zu p (Nat.le_refl _) k) (zu.mono (by omega)), atv_eq _ _ _ _ hl, zu l (by omega)]
  have e1 : (unitv p l k).getD l 0 = k := getD_set_eq _ _ _ (by rw [zeros_len]; exact hl)
  have hz : (zeros p.n).set l 0 = zeros p.n := by
    have := set_self (v := zeros p.n) (i := l) (by rw [zeros_len]; exact hl)
    rwa [zeros_getD] at this
  have e2 : (unitv p l k).set l 0 = zeros p.n := by unfold unitv; rw [set_set, hz]
  have e3 : u.set l 0 = u := by rw [← zu l (by omega)]; exact set_self (by rw [hu.len]; exact hl)
  rw [e1, if_neg (by omega), show (0 : Int).toNat = 0 from rfl, rep_zero, e2, e3, one_at hv _ _ rfl _ hu zu, Int.add_zero]
theorem unit_succ {l : Nat} (hil : i ≤ l) (hl : l < p.n) {k : Int} (h0 : 0 ≤ k) (h1 : k + 1 < p.o l) : atv p i (unitv p l k) (unitv p l 1) = unitv p l (k + 1) := by
  have ho := hv.opos hl
  have hk := unitv_in hv (j := l) (k := k) h0 (fun _ => by omega)
  have h1' := unitv_in hv (j := l) (k := 1) (by omega) (fun _ => by omega)
  rw [at_restrict' hv hil hk h1' (unitv_zu p (Nat.le_refl _) k) (unitv_zu p (Nat.le_refl _) 1), atv_eq _ _ _ _ hl]
  have e1 : ∀ k, (unitv p l k).getD l 0 = k := fun k => getD_set_eq _ _ _ (by rw [zeros_len]; exact hl)
  have hz : (zeros p.n).set l 0 = zeros p.n := by
    have := set_self (v := zeros p.n) (i := l) (by rw [zeros_len]; exact hl)
    rwa [zeros_getD] at this
  have e2 : ∀ k, (unitv p l k).set l 0 = zeros p.n := fun k => by unfold unitv; rw [set_set, hz]
  rw [e1, e1, if_neg (by omega), e2, e2, rep_id (img_zeros l), one_at hv _ _ rfl _ hv.zeros_in (zeros_zu _ _)]
  rfl
omit hv in
theorem gen_pw [h : Con p i] {l : Nat} (hl : i ≤ l ∧ l < p.n) : ∀ k : Nat, (k : Int) < p.o l → (pw (gen h.valid i l hl) k).v = unitv p l k
  | 0, _ => by
    show zeros p.n = (zeros p.n).set l 0
    have := set_self (v := zeros p.n) (i := l) (by rw [zeros_len]; exact hl.2)
    rw [zeros_getD] at this
    exact this.symm
  | k + 1, hk => by
    rw [pw_succ, T.mul_val, gen_pw hl k (by omega)]
    exact unit_succ h.valid hl.1 hl.2 (by omega) (by omega)
/-- The generators as a function on all numbers. -/
noncomputable def gOf (p : Pr) (i : Nat) [h : Con p i] (j : Nat) : T p i := open Classical in if hj : i ≤ j ∧ j < p.n then gen h.valid i j hj else 1
omit hv in
theorem norm_form [h : Con p i] : ∀ (m l : Nat), p.n - l = m → i ≤ l → l ≤ p.n → ∀ x : T p i, ZU l x.v → x = phi (gOf p i) x.v l m
  | 0, l, hm, _, _, x, zx => by
    apply T.ext
    show x.v = zeros p.n
    exact inr_ext x.inr h.valid.zeros_in fun k hk => by rw [zeros_getD, zx k (by omega)]
  | m + 1, l, hm, hil, hln, x, zx => by
    have hl : l < p.n := by omega
    have hxl := x.inr.rng l hl
    have ho := h.valid.opos hl
    let u : T p i := ⟨x.v.set l 0, x.inr.set (by omega) (fun _ => by omega), (zx.set0).mono (by omega)⟩
    have hu : ZU (l + 1) u.v := zx.set0
    have ih := norm_form m (l + 1) (by omega) (by omega) (by omega) u hu
    have hg : gOf p i l = gen h.valid i l ⟨hil, hl⟩ := dif_pos ⟨hil, hl⟩
    have e : phi (gOf p i) x.v (l + 1) m = phi (gOf p i) u.v (l + 1) m := phi_congr _ _ _ fun j hj => (getD_set_ne _ _ _ _ (by omega)).symm
    rw [phi, e, ← ih, hg]
    apply T.ext
    rw [T.mul_val, gen_pw ⟨hil, hl⟩ _ (by omega)]
    rw [unit_at h.valid hil hl (by omega) (by omega) u.inr hu]
    show x.v = (x.v.set l 0).set l _
    rw [set_set, show (((x.v.getD l 0).toNat : Nat) : Int) = x.v.getD l 0 by omega, set_self (by rw [x.inr.len]; exact hl)]
end norm
end Go.Pc

/-
  Plain mathematics: a level's conditions make the tail of one generator more a group.
  Conditions: none; nothing of the program stands here.
-/
namespace Go.Pc
open Grp

theorem rep_add {α : Type} (f : α → α) (x : α) (j : Nat) : ∀ k, rep (k + j) f x = rep k f (rep j f x)
  | 0 => by rw [Nat.zero_add]; rfl
  | k + 1 => by rw [Nat.add_right_comm, rep_succ, rep_add f x j k, rep_succ]

section
variable {p : Pr} {i : Nat}
/-- What stands behind the head. -/
def tl (hv : Valid p) (x : T p i) : T p (i + 1) := ⟨x.v.set i 0, x.inr.set (by omega) (fun h => by have := hv.opos h; omega), x.zu.set0⟩
def hd (x : T p i) : Int := x.v.getD i 0
theorem ht_ext (hv : Valid p) {x y : T p i} (h : hd x = hd y) (k : tl hv x = tl hv y) : x = y := by
  apply T.ext
  have hk : x.v.set i 0 = y.v.set i 0 := congrArg T.v k
  apply inr_ext x.inr y.inr
  intro j hj
  by_cases e : i = j
  · subst e; exact h
  · have := congrArg (fun l => l.getD j 0) hk
    simp only [getD_set_ne _ _ _ _ e] at this
    exact this
/-- The element with a head and a tail. -/
def mkT (x : T p (i + 1)) (a : Int) (h0 : 0 ≤ a) (h1 : i < p.n → a < p.o i) : T p i := ⟨x.v.set i a, x.inr.set h0 h1, (x.zu.mono (by omega)).set (Nat.le_refl _)⟩
theorem hd_mk (hi : i < p.n) (x : T p (i + 1)) (a : Int) (h0 : 0 ≤ a) (h1 : i < p.n → a < p.o i) : hd (mkT x a h0 h1) = a := getD_set_eq _ _ _ (by rw [x.inr.len]; exact hi)
theorem tl_mk (hv : Valid p) (hi : i < p.n) (x : T p (i + 1)) (a : Int) (h0 : 0 ≤ a) (h1 : i < p.n → a < p.o i) : tl hv (mkT x a h0 h1) = x := by
  apply T.ext
  show (x.v.set i a).set i 0 = x.v
  rw [set_set, ← x.zu i (by omega)]
  exact set_self (by rw [x.inr.len]; exact hi)

variable [h : Con p (i + 1)]
theorem tmul_eq (hi : i < p.n) (x y : T p i) (k : Nat) (hk : (k = 0 ∧ hd x + hd y < p.o i) ∨ (k = 1 ∧ p.o i ≤ hd x + hd y)) :
    hd (tmul h.valid x y) = hd x + hd y - k * p.o i ∧ tl h.valid (tmul h.valid x y) = pw (Tw h.valid hi) k * (rep (hd y).toNat (Timg h.valid) (tl h.valid x) * tl h.valid y) := by
  have hrep : ∀ q (u : T p (i + 1)), (rep q (Timg h.valid) u).v = rep q (img p i) u.v := by
    intro q u
    induction q with
    | zero => rfl
    | succ q ih => rw [rep_succ, rep_succ, ← ih]; rfl
  have hin := atv_in h.valid _ (i + 1) rfl _ _ (rep (hd y).toNat (Timg h.valid) (tl h.valid x)).inr (tl h.valid y).inr (rep (hd y).toNat (Timg h.valid) (tl h.valid x)).zu (tl h.valid y).zu
  rw [hrep] at hin
  have heq : (tmul h.valid x y).v = _ := atv_eq p i x.v y.v hi
  rcases hk with ⟨rfl, hk⟩ | ⟨rfl, hk⟩
  · rw [if_neg (by unfold hd at hk; omega)] at heq
    constructor
    · show (tmul h.valid x y).v.getD i 0 = _
      rw [heq]
      exact (getD_set_eq _ _ _ (Nat.lt_of_lt_of_eq hi hin.1.len.symm)).trans (by unfold hd; simp)
    · rw [pw_zero, Grp.one_mul]
      apply T.ext
      show (tmul h.valid x y).v.set i 0 = atv p (i + 1) (rep (hd y).toNat (Timg h.valid) (tl h.valid x)).v (tl h.valid y).v
      rw [heq, set_set, hrep]
      exact (congrArg (fun z => List.set _ i z) (hin.2 i (by omega)).symm).trans (set_self (Nat.lt_of_lt_of_eq hi hin.1.len.symm))
  · rw [if_pos (by unfold hd at hk; omega)] at heq
    have hW := atv_in h.valid _ (i + 1) rfl _ _ (h.valid.w_in i hi) hin.1 (h.valid.w_zu i hi) hin.2
    constructor
    · show (tmul h.valid x y).v.getD i 0 = _
      rw [heq]
      exact (getD_set_eq _ _ _ (Nat.lt_of_lt_of_eq hi hW.1.len.symm)).trans (by unfold hd; simp)
    · rw [pw_one]
      apply T.ext
      show (tmul h.valid x y).v.set i 0 = atv p (i + 1) (p.w i) (atv p (i + 1) (rep (hd y).toNat (Timg h.valid) (tl h.valid x)).v (tl h.valid y).v)
      rw [heq, set_set, hrep]
      exact (congrArg (fun z => List.set _ i z) (hW.2 i (by omega)).symm).trans (set_self (Nat.lt_of_lt_of_eq hi hW.1.len.symm))

theorem img_rep_hom {hi : i < p.n} (hc : Chk p i hi) (x y : T p (i + 1)) : ∀ q, rep q (Timg h.valid) (x * y) = rep q (Timg h.valid) x * rep q (Timg h.valid) y
  | 0 => rfl
  | q + 1 => by rw [rep_succ, img_rep_hom hc x y q, img_hom hc]; rfl
theorem img_one {hi : i < p.n} (hc : Chk p i hi) : Timg h.valid (1 : T p (i + 1)) = 1 := by
  have := img_hom hc (1 : T p (i + 1)) 1
  rw [Grp.one_mul] at this
  exact (Grp.mul_left_cancel (a := Timg h.valid 1) (by rw [Grp.mul_one]; exact this)).symm
theorem img_rep_one {hi : i < p.n} (hc : Chk p i hi) (q : Nat) : rep q (Timg h.valid) (1 : T p (i + 1)) = 1 := rep_id (img_one hc) q
theorem img_rep_w {hi : i < p.n} (hc : Chk p i hi) (q k : Nat) : rep q (Timg h.valid) (pw (Tw h.valid hi) k) = pw (Tw h.valid hi) k := by
  induction k with
  | zero => exact img_rep_one hc q
  | succ k ih => rw [pw_succ, img_rep_hom hc, ih, rep_id hc.F]

theorem hom_phi {K : Type} [Grp K] (f : T p (i + 1) → K) (hf : ∀ x y, f (x * y) = f x * f y) (c : Nat → T p (i + 1)) (x : List Int) : ∀ k l, f (phi c x l k) = phi (fun j => f (c j)) x l k := by
  have f1 : f 1 = 1 := Grp.mul_left_cancel (a := f 1) (by rw [← hf, Grp.one_mul, Grp.mul_one])
  have fp : ∀ a q, f (pw a q) = pw (f a) q := by
    intro a q
    induction q with
    | zero => exact f1
    | succ q ih => rw [pw_succ, hf, ih, pw_succ]
  intro k
  induction k with
  | zero => intro l; exact f1
  | succ k ih => intro l; rw [phi, hf, fp, ih, phi]
theorem Chk.all {hi : i < p.n} (hc : Chk p i hi) (x : T p (i + 1)) : rep (p.o i).toNat (Timg h.valid) x = cj x (Tw h.valid hi) := by
  have hx := norm_form (p := p) (i := i + 1) _ (i + 1) rfl (Nat.le_refl _) (by omega) x x.zu
  have e : (fun j => rep (p.o i).toNat (Timg h.valid) (gOf p (i + 1) j)) = fun j => cj (gOf p (i + 1) j) (Tw h.valid hi) := by
    funext j
    by_cases hj : i + 1 ≤ j ∧ j < p.n
    · have : gOf p (i + 1) j = gen h.valid (i + 1) j hj := dif_pos hj
      rw [this]; exact hc.I j hj
    · have : gOf p (i + 1) j = 1 := dif_neg hj
      rw [this, img_rep_one hc, cj_one]
  rw [hx, hom_phi (fun x => rep (p.o i).toNat (Timg h.valid) x) (fun x y => img_rep_hom hc x y _), e, ← hom_phi (fun x => cj x (Tw h.valid hi)) (fun x y => cj_mul x y _)]

/-- The level's conditions make the tail a group. -/
theorem con_step (hi : i < p.n) (hc : Chk p i hi) : Con p i where
  valid := h.valid
  assoc := by
    intro x y z
    have hx := x.inr.rng i hi
    have hy := y.inr.rng i hi
    have hz := z.inr.rng i hi
    have ex : ∀ a b : T p i, ∃ k : Nat, (k = 0 ∧ hd a + hd b < p.o i) ∨ (k = 1 ∧ p.o i ≤ hd a + hd b) := fun a b => by
      by_cases hab : p.o i ≤ hd a + hd b
      · exact ⟨1, .inr ⟨rfl, hab⟩⟩
      · exact ⟨0, .inl ⟨rfl, by omega⟩⟩
    obtain ⟨k1, hk1⟩ := ex x y
    obtain ⟨k2, hk2⟩ := ex (tmul h.valid x y) z
    obtain ⟨k3, hk3⟩ := ex y z
    obtain ⟨k4, hk4⟩ := ex x (tmul h.valid y z)
    have e1 := tmul_eq hi x y k1 hk1
    have e2 := tmul_eq hi (tmul h.valid x y) z k2 hk2
    have e3 := tmul_eq hi y z k3 hk3
    have e4 := tmul_eq hi x (tmul h.valid y z) k4 hk4
    have hd0 : hd x = x.v.getD i 0 := rfl
    have hd1 : hd y = y.v.getD i 0 := rfl
    have hd2 : hd z = z.v.getD i 0 := rfl
    have hkk : k1 + k2 = k3 + k4 := by
      rcases hk1 with ⟨rfl, a1⟩ | ⟨rfl, a1⟩ <;> rcases hk2 with ⟨rfl, a2⟩ | ⟨rfl, a2⟩ <;> rcases hk3 with ⟨rfl, a3⟩ | ⟨rfl, a3⟩ <;> rcases hk4 with ⟨rfl, a4⟩ | ⟨rfl, a4⟩ <;>
        rw [e1.1] at a2 <;> rw [e3.1] at a4 <;> omega
    apply ht_ext h.valid
    · rw [e2.1, e1.1, e4.1, e3.1]
      rcases hk1 with ⟨rfl, _⟩ | ⟨rfl, _⟩ <;> rcases hk2 with ⟨rfl, _⟩ | ⟨rfl, _⟩ <;> rcases hk3 with ⟨rfl, _⟩ | ⟨rfl, _⟩ <;> rcases hk4 with ⟨rfl, _⟩ | ⟨rfl, _⟩ <;> omega
    · rw [e2.2, e1.2, e4.2, e3.2, e3.1, img_rep_hom hc, img_rep_hom hc, img_rep_w hc, ← rep_add]
      rcases hk3 with ⟨rfl, a3⟩ | ⟨rfl, a3⟩
      · rw [show (hd y + hd z - (0 : Nat) * p.o i).toNat = (hd z).toNat + (hd y).toNat by omega, pw_zero, Grp.one_mul]
        have : k4 = k2 + k1 := by omega
        rw [this, pw_add]
        simp only [Grp.mul_assoc]
      · have hs : (hd z).toNat + (hd y).toNat = (p.o i).toNat + (hd y + hd z - (1 : Nat) * p.o i).toNat := by
          have := h.valid.opos hi; omega
        rw [hs, rep_add, hc.all, pw_one]
        generalize rep (hd y + hd z - ((1 : Nat) : Int) * p.o i).toNat (Timg h.valid) (tl h.valid x) = S
        rw [← Grp.mul_assoc (pw (Tw h.valid hi) k2), ← Grp.mul_assoc (pw (Tw h.valid hi) k2), ← pw_add]
        have : k2 + k1 = k4 + 1 := by omega
        rw [this, pw_succ, Grp.mul_assoc, Grp.mul_assoc, ← Grp.mul_assoc (Tw h.valid hi), ← Grp.mul_assoc (Tw h.valid hi), ← Grp.mul_assoc (Tw h.valid hi), mul_cj]
        simp only [Grp.mul_assoc]
  inv := by
    intro x
    have hx := x.inr.rng i hi
    have ho := h.valid.opos hi
    have hd0 : hd x = x.v.getD i 0 := rfl
    have fin : ∀ y : T p i, hd (tmul h.valid y x) = 0 → tl h.valid (tmul h.valid y x) = 1 → tmul h.valid y x = tone h.valid i := by
      intro y h1 h2
      refine ht_ext h.valid (h1.trans (zeros_getD _ _).symm) (h2.trans (T.ext ?_))
      show zeros p.n = (zeros p.n).set i 0
      have := set_self (v := zeros p.n) (i := i) (by rw [zeros_len]; exact hi)
      rw [zeros_getD] at this
      exact this.symm
    by_cases hz : hd x = 0
    · refine ⟨mkT (tl h.valid x)⁻¹ 0 (by omega) (fun _ => by omega), ?_⟩
      have e := tmul_eq hi (mkT (tl h.valid x)⁻¹ 0 (by omega) (fun _ => by omega)) x 0 (.inl ⟨rfl, by rw [hd_mk hi]; omega⟩)
      refine fin _ ?_ ?_
      · rw [e.1, hd_mk hi]; omega
      · rw [e.2, pw_zero, Grp.one_mul, tl_mk h.valid hi, hz]
        exact Grp.inv_mul _
    · let w := Tw h.valid hi
      let v := rep (p.o i - hd x).toNat (Timg h.valid) ((tl h.valid x)⁻¹ * w⁻¹)
      refine ⟨mkT v (p.o i - hd x) (by omega) (fun _ => by omega), ?_⟩
      have e := tmul_eq hi (mkT v (p.o i - hd x) (by omega) (fun _ => by omega)) x 1 (.inr ⟨rfl, by rw [hd_mk hi]; omega⟩)
      refine fin _ ?_ ?_
      · rw [e.1, hd_mk hi]; omega
      · rw [e.2, pw_one, tl_mk h.valid hi]
        show w * (rep (hd x).toNat (Timg h.valid) v * tl h.valid x) = 1
        have : rep (hd x).toNat (Timg h.valid) v = rep (p.o i).toNat (Timg h.valid) ((tl h.valid x)⁻¹ * w⁻¹) := by
          show rep _ _ (rep _ _ _) = _
          rw [← rep_add, show (hd x).toNat + (p.o i - hd x).toNat = (p.o i).toNat by omega]
        rw [this, hc.all, ← Grp.mul_assoc, mul_cj]
        rw [Grp.inv_mul_cancel_right, Grp.inv_mul]
end
theorem con_end {p : Pr} (hv : Valid p) {i : Nat} (hi : p.n ≤ i) : Con p i where
  valid := hv
  assoc := by
    intro a b c
    apply T.ext
    show atv p i _ _ = atv p i _ _
    rw [atv_end _ _ _ _ hi, atv_end _ _ _ _ hi]
  inv := fun a => ⟨a, T.ext (atv_end _ _ _ _ hi)⟩
end Go.Pc

/-
  The coordinates of products in the group of a consistent presentation.
  Conditions: the tails at all levels are groups; nothing of the program stands here.
-/
namespace Go.Pc
open Grp
/-- The tails at all levels are groups. -/
class ConAll (p : Pr) : Prop where
  con : ∀ i, Con p i
instance {p : Pr} [h : ConAll p] (i : Nat) : Con p i := h.con i
theorem ConAll.valid {p : Pr} (h : ConAll p) : Valid p := (h.con 0).valid
/-- The elements of the group. -/
abbrev El (p : Pr) := T p 0
/-- A coordinate. -/
def co {p : Pr} (x : El p) (d : Nat) : Int := x.v.getD d 0
/-- The first d coordinates are zero. -/
def Tl {p : Pr} (d : Nat) (x : El p) : Prop := ZU d x.v
theorem atv_lead {p : Pr} {i : Nat} (hi : i < p.n) {a b : List Int} (hv : Valid p) (ha : InR p a) (hb : InR p b) (za : ZU i a) (zb : ZU i b) : (atv p i a b).getD i 0 = (a.getD i 0 + b.getD i 0) % p.o i := by
  have hl := (atv_in hv _ i rfl _ _ ha hb za zb).1.len
  have ra := ha.rng i hi
  have rb := hb.rng i hi
  have e := atv_eq p i a b hi
  split at e
  · rename_i h
    rw [e] at hl ⊢
    rw [List.length_set] at hl
    rw [getD_set_eq _ _ _ (by omega)]
    rw [show a.getD i 0 + b.getD i 0 = (a.getD i 0 + b.getD i 0 - p.o i) + p.o i by omega, Int.add_emod_right, Int.emod_eq_of_lt (by omega) (by omega)]
    omega
  · rename_i h
    rw [e] at hl ⊢
    rw [List.length_set] at hl
    rw [getD_set_eq _ _ _ (by omega), Int.emod_eq_of_lt (by omega) (by omega)]
theorem atv_skip {p : Pr} {i : Nat} (hi : i < p.n) {a b : List Int} (ha : InR p a) (zb : ZU (i + 1) b) : atv p i a b = (atv p (i + 1) (a.set i 0) b).set i (a.getD i 0) := by
  have ra := ha.rng i hi
  have hb0 : b.getD i 0 = 0 := zb i (by omega)
  have hbs : b.set i 0 = b := by
    by_cases hl : i < b.length
    · have := set_self (v := b) (i := i) hl
      rw [hb0] at this; exact this
    · exact List.set_eq_of_length_le (by omega)
  rw [atv_eq _ _ _ _ hi, hb0, if_neg (by omega), hbs]
  simp [rep_zero]
theorem atv_low {p : Pr} (hv : Valid p) {d : Nat} (hd : d < p.n) : ∀ (m i : Nat), d - i = m → i ≤ d → ∀ a b, InR p a → InR p b → ZU i a → ZU d b →
    (∀ k, k < d → (atv p i a b).getD k 0 = a.getD k 0) ∧ (atv p i a b).getD d 0 = (a.getD d 0 + b.getD d 0) % p.o d
  | 0, i, hm, hid, a, b, ha, hb, za, zb => by
    obtain rfl : i = d := by omega
    refine ⟨fun k hk => ?_, atv_lead hd hv ha hb za zb⟩
    rw [za k hk, (atv_in hv _ i rfl _ _ ha hb za zb).2 k hk]
  | m + 1, i, hm, hid, a, b, ha, hb, za, zb => by
    have hi : i < p.n := by omega
    have h0 : InR p (a.set i 0) := ha.set (by omega) (fun h => by have := hv.opos h; omega)
    have ih := atv_low hv hd m (i + 1) (by omega) (by omega) (a.set i 0) b h0 hb za.set0 zb
    have hl := (atv_in hv _ (i + 1) rfl _ _ h0 hb za.set0 (zb.mono (by omega))).1.len
    rw [atv_skip hi ha (zb.mono (by omega))]
    refine ⟨fun k hk => ?_, ?_⟩
    · by_cases e : i = k
      · subst e; rw [getD_set_eq _ _ _ (by omega)]
      · rw [getD_set_ne _ _ _ _ e, ih.1 k hk, getD_set_ne _ _ _ _ e]
    · rw [getD_set_ne _ _ _ _ (by omega), ih.2, getD_set_ne _ _ _ _ (by omega)]
section
variable {p : Pr} [hc : ConAll p] {d : Nat}
theorem co_rng (x : El p) (hd : d < p.n) : 0 ≤ co x d ∧ co x d < p.o d := x.inr.rng d hd
theorem co_low (x : El p) {y : El p} (hd : d < p.n) (hy : Tl d y) {k : Nat} (hk : k < d) : co (x * y) k = co x k :=
  (atv_low hc.valid hd _ 0 rfl (Nat.zero_le _) _ _ x.inr y.inr x.zu hy).1 k hk
theorem co_at (x : El p) {y : El p} (hd : d < p.n) (hy : Tl d y) : co (x * y) d = (co x d + co y d) % p.o d :=
  (atv_low hc.valid hd _ 0 rfl (Nat.zero_le _) _ _ x.inr y.inr x.zu hy).2
theorem Tl.zero (x : El p) : Tl 0 x := x.zu
theorem Tl.mono {x : El p} {e : Nat} (h : Tl d x) (he : e ≤ d) : Tl e x := ZU.mono h he
theorem Tl.succ {x : El p} (h : Tl d x) (h0 : co x d = 0) : Tl (d + 1) x := fun k hk => by
  by_cases e : k = d
  · subst e; exact h0
  · exact h k (by omega)
theorem Tl.one (d : Nat) : Tl d (1 : El p) := zeros_zu _ _
theorem co_one (d : Nat) : co (1 : El p) d = 0 := zeros_getD _ _
theorem el_ext {x y : El p} (h : ∀ d, d < p.n → co x d = co y d) : x = y := T.ext (inr_ext x.inr y.inr h)
theorem Tl.end_ {x : El p} (h : Tl p.n x) : x = 1 := el_ext fun d hd => by rw [co_one]; exact h d hd
theorem Tl.mul {x y : El p} (hd : d ≤ p.n) (hx : Tl d x) (hy : Tl d y) : Tl d (x * y) := by
  by_cases e : d = p.n
  · subst e; rw [hy.end_, mul_one]; exact hx
  · intro k hk
    have := co_low x (by omega) hy hk
    exact this.trans (hx k hk)
theorem Tl.inv {x : El p} (hx : Tl d x) : Tl d x⁻¹ := by
  let x' : T p d := ⟨x.v, x.inr, hx⟩
  let y' : T p d := x'⁻¹
  let y : El p := ⟨y'.v, y'.inr, fun k hk => by omega⟩
  have h1 : y' * x' = 1 := inv_mul x'
  have h2 : y * x = 1 := by
    apply T.ext
    have h3 : atv p d y'.v x.v = zeros p.n := congrArg T.v h1
    show atv p 0 y'.v x.v = zeros p.n
    rw [at_restrict' hc.valid (Nat.zero_le d) y'.inr x.inr y'.zu hx, h3]
  rw [← eq_inv_of_mul h2]
  exact y'.zu
theorem Tl.pw {x : El p} (hd : d ≤ p.n) (hx : Tl d x) : ∀ k, Tl d (pw x k)
  | 0 => Tl.one d
  | k + 1 => Tl.mul hd (Tl.pw hd hx k) hx
theorem co_pw {x : El p} (hd : d < p.n) (hx : Tl d x) : ∀ k : Nat, co (pw x k) d = (k * co x d) % p.o d
  | 0 => by rw [pw_zero, co_one]; simp
  | k + 1 => by
    rw [pw_succ, co_at _ hd hx, co_pw hd hx k, Int.emod_add_emod]
    congr 1
    rw [Int.natCast_succ, Int.add_mul, Int.one_mul]
theorem co_inv {x : El p} (hd : d < p.n) (hx : Tl d x) : (co x⁻¹ d + co x d) % p.o d = 0 := by
  rw [← co_at _ hd hx, inv_mul, co_one]
theorem Tl.cm {x y : El p} (hd : d < p.n) (hx : Tl d x) (hy : Tl d y) : Tl (d + 1) (cm x y) := by
  have h1 : Tl d (x * y) := hx.mul (by omega) hy
  have h2 : Tl d (y * x) := hy.mul (by omega) hx
  rw [cm_eq]
  refine Tl.succ (Tl.mul (by omega) h2.inv h1) ?_
  rw [co_at _ hd h1, co_at _ hd hy, Int.add_comm (co x d), ← co_at _ hd hx]
  exact co_inv hd h2
theorem Tl.cj {x y : El p} (hd : d < p.n) (hx : Tl (d + 1) x) (hy : Tl d y) : Tl (d + 1) (Grp.cj x y) := by
  have h : Grp.cj x y = x * Grp.cm x y := by unfold Grp.cm; rw [mul_inv_cancel_left]
  rw [h]
  exact hx.mul (by omega) (Tl.cm hd (hx.mono (by omega)) hy)
end
end Go.Pc

/-
  Subgroups and their tables: a table whose powers and commutators reduce to the identity gives a subgroup; canonical sequences are unique.
  Conditions: the tails at all levels are groups; nothing of the program stands here.
-/
namespace Go.Pc
open Grp
/-- A subgroup, as a set. -/
structure Sub {G : Type} [Grp G] (H : G → Prop) : Prop where
  one : H 1
  mul : ∀ a b, H a → H b → H (a * b)
  inv : ∀ a, H a → H a⁻¹
/-- The subgroup that a set generates. -/
inductive Gen {G : Type} [Grp G] (S : G → Prop) : G → Prop
  | of (a : G) : S a → Gen S a
  | one : Gen S 1
  | mul (a b : G) : Gen S a → Gen S b → Gen S (a * b)
  | inv (a : G) : Gen S a → Gen S a⁻¹
theorem Gen.sub {G : Type} [Grp G] (S : G → Prop) : Sub (Gen S) := ⟨.one, fun _ _ => .mul _ _, fun _ => .inv _⟩
theorem Gen.le {G : Type} [Grp G] {S H : G → Prop} (hH : Sub H) (h : ∀ a, S a → H a) : ∀ a, Gen S a → H a := by
  intro a ha
  induction ha with
  | of a h' => exact h a h'
  | one => exact hH.one
  | mul a b _ _ ih1 ih2 => exact hH.mul _ _ ih1 ih2
  | inv a _ ih => exact hH.inv _ ih
section
variable {G : Type} [Grp G] {H : G → Prop}
theorem Sub.pw (hH : Sub H) {a : G} (h : H a) : ∀ k, H (pw a k)
  | 0 => hH.one
  | k + 1 => hH.mul _ _ (Sub.pw hH h k) h
theorem Sub.pwz (hH : Sub H) {a : G} (h : H a) (k : Int) : H (pwz a k) := by
  unfold Grp.pwz
  split
  · exact hH.pw (hH.inv _ h) _
  · exact hH.pw h _
theorem Sub.left (hH : Sub H) {a b : G} (ha : H a) : H (a * b) ↔ H b :=
  ⟨fun h => by have := hH.mul _ _ (hH.inv _ ha) h; rwa [inv_mul_cancel_left] at this, hH.mul _ _ ha⟩
theorem Sub.right (hH : Sub H) {a b : G} (hb : H b) : H (a * b) ↔ H a :=
  ⟨fun h => by have := hH.mul _ _ h (hH.inv _ hb); rwa [mul_inv_cancel_right] at this, fun h => hH.mul _ _ h hb⟩
theorem Sub.inv_iff (hH : Sub H) {a : G} : H a⁻¹ ↔ H a := ⟨fun h => by have := hH.inv _ h; rwa [inv_inv] at this, hH.inv a⟩
theorem Sub.cm (hH : Sub H) {a b : G} (ha : H a) (hb : H b) : H (Grp.cm a b) := by
  rw [cm_eq]; exact hH.mul _ _ (hH.inv _ (hH.mul _ _ hb ha)) (hH.mul _ _ ha hb)
theorem cm_inv (a b : G) : (Grp.cm a b)⁻¹ = Grp.cm b a := by rw [cm_eq, cm_eq, mul_inv_rev, inv_inv]
end
section
variable {p : Pr} [hc : ConAll p]
/-- A table: for each depth at most one element, with the leading exponent 1. -/
abbrev Tab (p : Pr) := Nat → Option (El p)
structure TabOk (t : Tab p) : Prop where
  lt : ∀ d y, t d = some y → d < p.n
  tl : ∀ d y, t d = some y → Tl d y
  lead : ∀ d y, t d = some y → co y d = 1
/-- x is brought to the identity by entries of the table. -/
inductive Red (t : Tab p) : El p → Prop
  | one : Red t 1
  | right (d : Nat) (y x : El p) (k : Int) : t d = some y → Tl d x → co x d ≠ 0 → Tl (d + 1) (x * pwz y k) → Red t (x * pwz y k) → Red t x
  | left (d : Nat) (y x : El p) (k : Int) : t d = some y → Tl d x → co x d ≠ 0 → Tl (d + 1) (pwz y k * x) → Red t (pwz y k * x) → Red t x
def Ents (t : Tab p) (x : El p) : Prop := ∃ d, t d = some x
/-- t' has all entries of t. -/
def Above (t t' : Tab p) : Prop := ∀ d y, t d = some y → t' d = some y
theorem Above.refl (t : Tab p) : Above t t := fun _ _ h => h
theorem Above.trans {t t' t'' : Tab p} (h : Above t t') (h' : Above t' t'') : Above t t'' := fun d y e => h' d y (h d y e)
theorem Red.gen {t : Tab p} {x : El p} (h : Red t x) : Gen (Ents t) x := by
  induction h with
  | one => exact .one
  | right d y x k e _ _ _ _ ih => exact ((Gen.sub _).right ((Gen.sub _).pwz (.of _ ⟨d, e⟩) k)).1 ih
  | left d y x k e _ _ _ _ ih => exact ((Gen.sub _).left ((Gen.sub _).pwz (.of _ ⟨d, e⟩) k)).1 ih
theorem Red.above {t t' : Tab p} (ha : Above t t') {x : El p} (h : Red t x) : Red t' x := by
  induction h with
  | one => exact .one
  | right d y x k e h1 h2 h3 _ ih => exact .right d y x k (ha _ _ e) h1 h2 h3 ih
  | left d y x k e h1 h2 h3 _ ih => exact .left d y x k (ha _ _ e) h1 h2 h3 ih
theorem depth_le {x : El p} {d e : Nat} (h : Tl d x) (h0 : co x e ≠ 0) : d ≤ e := by
  by_cases hd : d ≤ e
  · exact hd
  · exact absurd (h e (by omega)) h0
/-- The conditions on a full table. -/
structure Full (t : Tab p) : Prop where
  ok : TabOk t
  ptop : ∀ d y, t d = some y → Red t (Grp.pw y (p.o d).toNat)
  pcm : ∀ d e y z, t d = some y → t e = some z → d < e → Red t (Grp.cm y z) ∨ Red t (Grp.cm z y)
def Nat_ (t : Tab p) (d : Nat) (x : El p) : Prop := Red t x ∧ Tl d x
variable {t : Tab p}
theorem Full.top (hf : Full t) {d : Nat} {y : El p} (h : t d = some y) : Tl (d + 1) (pw y (p.o d).toNat) := by
  have hd := hf.ok.lt d y h
  have ho := hc.valid.opos hd
  refine (Tl.pw (by omega) (hf.ok.tl d y h) _).succ ?_
  rw [co_pw hd (hf.ok.tl d y h), hf.ok.lead d y h, Int.toNat_of_nonneg (by omega)]
  simp
theorem Full.entry (hf : Full t) {d : Nat} {y : El p} (h : t d = some y) : Red t y := by
  have hd := hf.ok.lt d y h
  have ho := hc.valid.opos hd
  have e : y * pw y ((p.o d).toNat - 1) = pw y (p.o d).toNat := by
    rw [← pw_succ', show (p.o d).toNat - 1 + 1 = (p.o d).toNat by omega]
  refine .right d y y (((p.o d).toNat - 1 : Nat) : Int) h (hf.ok.tl d y h) (by rw [hf.ok.lead d y h]; omega) ?_ ?_
  · rw [pwz_nat, e]; exact hf.top h
  · rw [pwz_nat, e]; exact hf.ptop d y h
theorem Full.norm (hf : Full t) {d : Nat} (hd : d < p.n) (hs : Sub (Nat_ t (d + 1))) {y : El p} (h : t d = some y) : ∀ n, Nat_ t (d + 1) n → Nat_ t (d + 1) (cj n y) := by
  rintro n ⟨hr, ht⟩
  have hy := hf.ok.tl d y h
  have hK : Sub fun n => Nat_ t (d + 1) (cj n y) := by
    refine ⟨?_, fun a b ha hb => ?_, fun a ha => ?_⟩
    · rw [cj_one]; exact hs.one
    · rw [cj_mul]; exact hs.mul _ _ ha hb
    · rw [cj_inv]; exact hs.inv _ ha
  have hz : ∀ e z, d < e → t e = some z → Nat_ t (d + 1) (cj z y) := by
    intro e z hde hz
    have hez := hf.ok.tl e z hz
    have hN : Nat_ t (d + 1) z := ⟨hf.entry hz, hez.mono hde⟩
    have hcm : Nat_ t (d + 1) (cm z y) := by
      rcases hf.pcm d e y z h hz hde with h1 | h1
      · rw [← cm_inv]
        exact hs.inv _ ⟨h1, Tl.cm hd hy (hez.mono (by omega))⟩
      · exact ⟨h1, Tl.cm hd (hez.mono (by omega)) hy⟩
    have e1 : cj z y = z * cm z y := by unfold Grp.cm; rw [mul_inv_cancel_left]
    rw [e1]
    exact hs.mul _ _ hN hcm
  induction hr with
  | one => exact hK.one
  | right e z x k hz' h1 h2 h3 _ ih =>
    have hle := depth_le ht h2
    exact (hK.right (hK.pwz (hz e z hle hz') k)).1 (ih (h3.mono (by omega)))
  | left e z x k hz' h1 h2 h3 _ ih =>
    have hle := depth_le ht h2
    exact (hK.left (hK.pwz (hz e z hle hz') k)).1 (ih (h3.mono (by omega)))
theorem Full.norm_pw (hf : Full t) {d : Nat} (hd : d < p.n) (hs : Sub (Nat_ t (d + 1))) {y : El p} (h : t d = some y) (n : El p) (hn : Nat_ t (d + 1) n) : ∀ k, Nat_ t (d + 1) (cj n (pw y k))
  | 0 => by rw [pw_zero, cj_by_one]; exact hn
  | k + 1 => by rw [pw_succ, ← cj_cj]; exact hf.norm hd hs h _ (hf.norm_pw hd hs h n hn k)
theorem Red.inv_at {x : El p} (h : Red t x) {d : Nat} (hd : Tl d x) (h0 : co x d ≠ 0) : ∃ y k, t d = some y ∧ ((Tl (d + 1) (x * pwz y k) ∧ Red t (x * pwz y k)) ∨ (Tl (d + 1) (pwz y k * x) ∧ Red t (pwz y k * x))) := by
  cases h with
  | one => exact absurd (co_one d) h0
  | right e y x k h1 h2 h3 h4 h5 =>
    obtain rfl : d = e := Nat.le_antisymm (depth_le hd h3) (depth_le h2 h0)
    exact ⟨y, k, h1, .inl ⟨h4, h5⟩⟩
  | left e y x k h1 h2 h3 h4 h5 =>
    obtain rfl : d = e := Nat.le_antisymm (depth_le hd h3) (depth_le h2 h0)
    exact ⟨y, k, h1, .inr ⟨h4, h5⟩⟩
theorem Full.sub (hf : Full t) : ∀ m d, p.n - d = m → d ≤ p.n → Sub (Nat_ t d)
  | 0, d, hm, hd => by
    obtain rfl : d = p.n := by omega
    refine ⟨⟨.one, Tl.one _⟩, fun a b ha hb => ?_, fun a ha => ?_⟩
    · rw [hb.2.end_, mul_one]; exact ha
    · have := ha.2.end_
      subst this
      rw [inv_one]; exact ha
  | m + 1, d, hm, hd => by
    have hdn : d < p.n := by omega
    have hs := hf.sub m (d + 1) (by omega) (by omega)
    have hup : ∀ x, Nat_ t d x → co x d = 0 → Nat_ t (d + 1) x := fun x hx h0 => ⟨hx.1, hx.2.succ h0⟩
    have hdn' : ∀ x, Nat_ t (d + 1) x → Nat_ t d x := fun x hx => ⟨hx.1, hx.2.mono (by omega)⟩
    cases ht : t d with
    | none =>
      have key : ∀ x, Nat_ t d x ↔ Nat_ t (d + 1) x := by
        intro x
        refine ⟨fun hx => ?_, hdn' x⟩
        by_cases h0 : co x d = 0
        · exact hup x hx h0
        · obtain ⟨y, k, h1, _⟩ := hx.1.inv_at hx.2 h0
          rw [ht] at h1; cases h1
      refine ⟨(key _).2 hs.one, fun a b ha hb => (key _).2 (hs.mul _ _ ((key _).1 ha) ((key _).1 hb)), fun a ha => (key _).2 (hs.inv _ ((key _).1 ha))⟩
    | some y =>
      have hy := hf.ok.tl d y ht
      have ho := hc.valid.opos hdn
      have htop : Nat_ t (d + 1) (pw y (p.o d).toNat) := ⟨hf.ptop d y ht, hf.top ht⟩
      have key : ∀ x, Nat_ t d x ↔ Tl d x ∧ ∃ k, Nat_ t (d + 1) (x * pw y k) := by
        intro x
        constructor
        · intro hx
          refine ⟨hx.2, ?_⟩
          by_cases h0 : co x d = 0
          · exact ⟨0, by rw [pw_zero, mul_one]; exact hup x hx h0⟩
          · obtain ⟨y', k, h1, h2⟩ := hx.1.inv_at hx.2 h0
            obtain rfl : y = y' := by rw [ht] at h1; exact Option.some.inj h1
            obtain ⟨j, m', e1, e2⟩ := pwz_top y (p.o d).toNat (by omega) k
            rcases h2 with h2 | h2
            · refine ⟨j, ?_⟩
              rw [e1, ← mul_assoc]
              exact hs.mul _ _ ⟨h2.2, h2.1⟩ (hs.pw htop m')
            · refine ⟨j, ?_⟩
              have h3 := hs.mul _ _ (hs.pw htop m') ⟨h2.2, h2.1⟩
              rw [← mul_assoc, ← e2] at h3
              have := hf.norm_pw hdn hs ht _ h3 j
              unfold cj at this
              rwa [mul_assoc, inv_mul_cancel_left] at this
        · rintro ⟨hx, k, hk⟩
          by_cases h0 : co x d = 0
          · have hk0 : (k : Int) % p.o d = 0 := by
              have := co_at x hdn (Tl.pw (by omega) hy k)
              rw [h0, co_pw hdn hy, hf.ok.lead d y ht, Int.mul_one, Int.zero_add, Int.emod_emod] at this
              rw [← this]
              exact hk.2 d (by omega)
            obtain ⟨j, hj⟩ : ∃ j : Nat, k = (p.o d).toNat * j := by
              refine ⟨(k / (p.o d)).toNat, ?_⟩
              have h1 := Int.mul_ediv_add_emod k (p.o d)
              rw [hk0, Int.add_zero] at h1
              have h2 : (0 : Int) ≤ k / p.o d := Int.ediv_nonneg (by omega) (by omega)
              apply Int.ofNat.inj
              show (k : Int) = ((p.o d).toNat * ((k : Int) / p.o d).toNat : Nat)
              rw [Int.natCast_mul, Int.toNat_of_nonneg h2, Int.toNat_of_nonneg (by omega), h1]
            rw [hj, pw_mul] at hk
            exact hdn' x ((hs.right (hs.pw htop j)).1 hk)
          · exact ⟨.right d y x (k : Int) ht hx h0 (by rw [pwz_nat]; exact hk.2) (by rw [pwz_nat]; exact hk.1), hx⟩
      refine ⟨(key _).2 ⟨Tl.one _, 0, by rw [pw_zero, mul_one]; exact hs.one⟩, fun a b ha hb => ?_, fun a ha => ?_⟩
      · obtain ⟨ha1, k, ha2⟩ := (key _).1 ha
        obtain ⟨hb1, l, hb2⟩ := (key _).1 hb
        refine (key _).2 ⟨ha1.mul (by omega) hb1, l + k, ?_⟩
        have h := hs.mul _ _ ha2 (hf.norm_pw hdn hs ht _ hb2 k)
        unfold cj at h
        rw [mul_assoc a, mul_inv_cancel_left, mul_assoc b, ← pw_add, ← mul_assoc] at h
        exact h
      · obtain ⟨ha1, k, ha2⟩ := (key _).1 ha
        refine (key _).2 ⟨ha1.inv, k * ((p.o d).toNat - 1), ?_⟩
        have h1 := hf.norm_pw hdn hs ht _ (hs.inv _ ha2) (k * ((p.o d).toNat - 1))
        have h2 : pw y k * pw y (k * ((p.o d).toNat - 1)) = pw (pw y (p.o d).toNat) k := by
          rw [← pw_add, ← pw_mul]
          congr 1
          obtain ⟨q, hq⟩ : ∃ q, (p.o d).toNat = q + 1 := ⟨(p.o d).toNat - 1, by omega⟩
          rw [hq, Nat.add_sub_cancel, Nat.add_mul, Nat.one_mul, Nat.mul_comm k q, Nat.add_comm]
        have h3 := hs.mul _ _ (hs.pw htop k) h1
        rw [← h2] at h3
        unfold cj at h3
        rw [mul_inv_rev, mul_assoc (pw y k), mul_inv_cancel_left, mul_assoc (pw y k)⁻¹, mul_inv_cancel_left] at h3
        exact h3
/-- The subgroup of a full table. -/
theorem Full.red_iff (hf : Full t) (x : El p) : Red t x ↔ Gen (Ents t) x := by
  refine ⟨Red.gen, fun h => ?_⟩
  have hs : Sub (Nat_ t 0) := hf.sub _ 0 rfl (Nat.zero_le _)
  exact (Gen.le hs (fun a ha => by obtain ⟨d, hd⟩ := ha; exact ⟨hf.entry hd, Tl.zero _⟩) x h).1
theorem Full.some_of (hf : Full t) {x : El p} (hx : Gen (Ents t) x) {d : Nat} (hd : Tl d x) (h0 : co x d ≠ 0) : ∃ y, t d = some y := by
  obtain ⟨y, _, h, _⟩ := ((hf.red_iff x).2 hx).inv_at hd h0
  exact ⟨y, h⟩

/-! ### canonical sequences -/
/-- Some element of H has the depth d. -/
def Dep (H : El p → Prop) (d : Nat) : Prop := ∃ h, H h ∧ Tl d h ∧ co h d ≠ 0
/-- The element of the canonical sequence at a depth. -/
structure CanAt (H : El p → Prop) (d : Nat) (x : El p) : Prop where
  mem : H x
  tl : Tl d x
  lead : co x d = 1
  zero : ∀ e, Dep H e → e ≠ d → co x e = 0
/-- Two elements that differ by an element of H and are zero at all depths of H are the same (but for some depths at which they agree anyhow). -/
theorem depth_ex {h : El p} (hn : h ≠ 1) : ∃ d, d < p.n ∧ Tl d h ∧ co h d ≠ 0 := by
  have key : ∀ m d, p.n - d = m → d ≤ p.n → Tl d h → ∃ d, d < p.n ∧ Tl d h ∧ co h d ≠ 0 := by
    intro m
    induction m with
    | zero => intro d hm hd ht; exact absurd (Tl.end_ (by obtain rfl : d = p.n := by omega
                                                          exact ht)) hn
    | succ m ih =>
      intro d hm hd ht
      by_cases h0 : co h d = 0
      · exact ih (d + 1) (by omega) (by omega) (ht.succ h0)
      · exact ⟨d, by omega, ht, h0⟩
  exact key _ 0 rfl (Nat.zero_le _) (Tl.zero _)
theorem rep_unique {H : El p → Prop} (hH : Sub H) {x y : El p} (h : H (x⁻¹ * y)) (hz : ∀ d, Dep H d → co x d = co y d) : x = y := by
  by_cases e : x⁻¹ * y = 1
  · have := congrArg (x * ·) e
    simp only [mul_inv_cancel_left, mul_one] at this
    exact this.symm
  · exfalso
    obtain ⟨d, hd, h1, h2⟩ := depth_ex e
    have h3 := hz d ⟨_, h, h1, h2⟩
    have h4 := co_at x hd h1
    rw [mul_inv_cancel_left, ← h3] at h4
    have rx := co_rng x hd
    have rh := co_rng (x⁻¹ * y) hd
    by_cases hlt : co x d + co (x⁻¹ * y) d < p.o d
    · rw [Int.emod_eq_of_lt (by omega) hlt] at h4; omega
    · rw [show co x d + co (x⁻¹ * y) d = (co x d + co (x⁻¹ * y) d - p.o d) + p.o d by omega, Int.add_emod_right, Int.emod_eq_of_lt (by omega) (by omega)] at h4
      omega
theorem CanAt.unique {H : El p → Prop} (hH : Sub H) {d : Nat} {x y : El p} (hx : CanAt H d x) (hy : CanAt H d y) : x = y := by
  refine rep_unique hH (hH.mul _ _ (hH.inv _ hx.mem) hy.mem) fun e he => ?_
  by_cases hed : e = d
  · subst hed; rw [hx.lead, hy.lead]
  · rw [hx.zero e he hed, hy.zero e he hed]
end
end Go.Pc

/-
  The work loop of subgroups: a table that is filled until no element is left gives the subgroup that the first elements generate; the canonical list.
  Conditions: the tails at all levels are groups; nothing of the program stands here.
-/
namespace Go.Pc
open Grp
section
variable {p : Pr} [hc : ConAll p]
theorem CanAt.dep {H : El p → Prop} {d : Nat} {x : El p} (h : CanAt H d x) : Dep H d := ⟨x, h.mem, h.tl, by rw [h.lead]; omega⟩
open Classical in
noncomputable def canF (H : El p → Prop) (d : Nat) : Option (List Int) := if h : ∃ x, CanAt H d x then some (Classical.choose h).v else none
/-- The canonical sequence of a subgroup. -/
noncomputable def canon (H : El p → Prop) : List (List Int) := (List.range p.n).filterMap (canF H)
theorem canF_eq {H : El p → Prop} (hH : Sub H) {d : Nat} {x : El p} (h : CanAt H d x) : canF H d = some x.v := by
  have he : ∃ x, CanAt H d x := ⟨x, h⟩
  unfold canF
  rw [dif_pos he, (Classical.choose_spec he).unique hH h]
theorem canF_none {H : El p → Prop} {d : Nat} (h : ¬ Dep H d) : canF H d = none := by
  unfold canF
  rw [dif_neg]
  rintro ⟨x, hx⟩
  exact h hx.dep
/-- x is brought to r by entries of the table. -/
inductive Stp (t : Tab p) : El p → El p → Prop
  | refl (x : El p) : Stp t x x
  | right (d : Nat) (y x r : El p) (k : Int) : t d = some y → Tl d x → co x d ≠ 0 → Tl (d + 1) (x * pwz y k) → Stp t (x * pwz y k) r → Stp t x r
  | left (d : Nat) (y x r : El p) (k : Int) : t d = some y → Tl d x → co x d ≠ 0 → Tl (d + 1) (pwz y k * x) → Stp t (pwz y k * x) r → Stp t x r
theorem Stp.red {t t' : Tab p} (ha : Above t t') {x r : El p} (h : Stp t x r) (hr : Red t' r) : Red t' x := by
  induction h with
  | refl x => exact hr
  | right d y x r k e h1 h2 h3 _ ih => exact .right d y x k (ha _ _ e) h1 h2 h3 (ih hr)
  | left d y x r k e h1 h2 h3 _ ih => exact .left d y x k (ha _ _ e) h1 h2 h3 (ih hr)
theorem Stp.trans {t : Tab p} {x r s : El p} (h : Stp t x r) (h' : Stp t r s) : Stp t x s := by
  induction h with
  | refl x => exact h'
  | right d y x r k e h1 h2 h3 _ ih => exact .right d y x s k e h1 h2 h3 (ih h')
  | left d y x r k e h1 h2 h3 _ ih => exact .left d y x s k e h1 h2 h3 (ih h')
theorem Stp.mem {t : Tab p} {H : El p → Prop} (hH : Sub H) (ht : ∀ d y, t d = some y → H y) {x r : El p} (h : Stp t x r) (hx : H x) : H r := by
  induction h with
  | refl x => exact hx
  | right d y x r k e _ _ _ _ ih => exact ih (hH.mul _ _ hx (hH.pwz (ht d y e) k))
  | left d y x r k e _ _ _ _ ih => exact ih (hH.mul _ _ (hH.pwz (ht d y e) k) hx)
/-- x will be brought to the identity as soon as the waiting elements are. -/
def Cov (t : Tab p) (W : El p → Prop) (x : El p) : Prop := ∃ r, (r = 1 ∨ W r) ∧ ∀ t', Above t t' → Red t' r → Red t' x
/-- The state of the work: S the elements given, t the table, W the elements that wait. -/
structure Wk (S : El p → Prop) (t : Tab p) (W : El p → Prop) : Prop where
  ok : TabOk t
  tmem : ∀ d y, t d = some y → Gen S y
  wmem : ∀ x, W x → Gen S x
  need : ∀ x, S x → Cov t W x
  top : ∀ d y, t d = some y → Cov t W (pw y (p.o d).toNat)
  pair : ∀ d e y z, t d = some y → t e = some z → d ≠ e → Cov t W (cm y z) ∨ Cov t W (cm z y)
variable {S W W' : El p → Prop} {t : Tab p}
theorem Wk.start : Wk S (fun _ => none) S where
  ok := ⟨(fun _ _ h => by cases h), (fun _ _ h => by cases h), (fun _ _ h => by cases h)⟩
  tmem _ _ h := by cases h
  wmem := .of
  need x hx := ⟨x, .inr hx, fun _ _ h => h⟩
  top _ _ h := by cases h
  pair _ _ _ _ h := by cases h
theorem Wk.congr (h : Wk S t W) (e : ∀ a, W a ↔ W' a) : Wk S t W' := by
  have : W = W' := funext fun a => propext (e a)
  rw [← this]; exact h
theorem Cov.step {t' : Tab p} (ha : Above t t') {x r a : El p} (hx : Stp t x r) (hW : ∀ a, W a → a = x ∨ W' a) (hr : r = 1 ∨ W' r) (h : Cov t W a) : Cov t' W' a := by
  obtain ⟨s, hs, hs'⟩ := h
  rcases hs with rfl | hs
  · exact ⟨1, .inl rfl, fun t2 h2 hr2 => hs' t2 (ha.trans h2) hr2⟩
  · rcases hW s hs with rfl | h3
    · exact ⟨r, hr, fun t2 h2 hr2 => hs' t2 (ha.trans h2) (hx.red (ha.trans h2) hr2)⟩
    · exact ⟨s, .inr h3, fun t2 h2 hr2 => hs' t2 (ha.trans h2) hr2⟩
theorem Wk.drop (h : Wk S t W) {x : El p} (hx : Stp t x 1) (hW : ∀ a, W a → a = x ∨ W' a) (hW' : ∀ a, W' a → W a) : Wk S t W' where
  ok := h.ok
  tmem := h.tmem
  wmem a ha := h.wmem a (hW' a ha)
  need a ha := (h.need a ha).step (Above.refl t) hx hW (.inl rfl)
  top d y e := (h.top d y e).step (Above.refl t) hx hW (.inl rfl)
  pair d e y z h1 h2 h3 := (h.pair d e y z h1 h2 h3).imp (·.step (Above.refl t) hx hW (.inl rfl)) (·.step (Above.refl t) hx hW (.inl rfl))
def Tab.set (t : Tab p) (d : Nat) (y : El p) : Tab p := fun e => if e = d then some y else t e
theorem Tab.set_above {d : Nat} {y : El p} (h : t d = none) : Above t (Tab.set t d y) := fun e z hz => by
  unfold Tab.set
  split
  · rename_i he; subst he; rw [h] at hz; cases hz
  · exact hz
theorem Wk.fill (h : Wk S t W) {x r y : El p} {d k : Nat} (hd : d < p.n) (hx : Stp t x r) (hxW : W x) (hrd : Tl d r) (hr0 : co r d ≠ 0) (ht : t d = none) (hy : y = pw r k) (hk : (k * co r d) % p.o d = 1)
    (hW : ∀ a, W a → a = x ∨ W' a) (hW' : ∀ a, W' a → W a ∨ a = r ∨ a = pw y (p.o d).toNat ∨ ∃ e z, t e = some z ∧ (a = cm y z ∨ a = cm z y))
    (h1 : W' r) (h2 : W' (pw y (p.o d).toNat)) (h3 : ∀ e z, t e = some z → W' (cm y z) ∨ W' (cm z y)) : Wk S (Tab.set t d y) W' := by
  have ha : Above t (Tab.set t d y) := Tab.set_above ht
  have hrS : Gen S r := hx.mem (Gen.sub S) h.tmem (h.wmem x hxW)
  have hyS : Gen S y := by rw [hy]; exact (Gen.sub S).pw hrS k
  have hset : ∀ e z, Tab.set t d y e = some z → (e = d ∧ z = y) ∨ (e ≠ d ∧ t e = some z) := by
    intro e z hz
    unfold Tab.set at hz
    split at hz
    · rename_i he; exact .inl ⟨he, (Option.some.inj hz).symm⟩
    · rename_i he; exact .inr ⟨he, hz⟩
  have now : ∀ a, W' a → Cov (Tab.set t d y) W' a := fun a ha' => ⟨a, .inr ha', fun _ _ h => h⟩
  constructor
  · refine ⟨fun e z hz => ?_, fun e z hz => ?_, fun e z hz => ?_⟩
    · rcases hset e z hz with ⟨rfl, rfl⟩ | ⟨_, h'⟩
      · exact hd
      · exact h.ok.lt e z h'
    · rcases hset e z hz with ⟨rfl, rfl⟩ | ⟨_, h'⟩
      · rw [hy]; exact hrd.pw (by omega) k
      · exact h.ok.tl e z h'
    · rcases hset e z hz with ⟨rfl, rfl⟩ | ⟨_, h'⟩
      · rw [hy, co_pw hd hrd]; exact hk
      · exact h.ok.lead e z h'
  · intro e z hz
    rcases hset e z hz with ⟨rfl, rfl⟩ | ⟨_, h'⟩
    · exact hyS
    · exact h.tmem e z h'
  · intro a ha'
    rcases hW' a ha' with h' | rfl | rfl | ⟨e, z, hz, rfl | rfl⟩
    · exact h.wmem a h'
    · exact hrS
    · exact (Gen.sub S).pw hyS _
    · exact (Gen.sub S).cm hyS (h.tmem e z hz)
    · exact (Gen.sub S).cm (h.tmem e z hz) hyS
  · exact fun a ha' => (h.need a ha').step ha hx hW (.inr h1)
  · intro e z hz
    rcases hset e z hz with ⟨rfl, rfl⟩ | ⟨_, h'⟩
    · exact now _ h2
    · exact (h.top e z h').step ha hx hW (.inr h1)
  · intro e f z u hz hu hne
    rcases hset e z hz with ⟨rfl, rfl⟩ | ⟨_, hz'⟩
    · rcases hset f u hu with ⟨rfl, rfl⟩ | ⟨_, hu'⟩
      · exact absurd rfl hne
      · exact (h3 f u hu').imp (now _) (now _)
    · rcases hset f u hu with ⟨rfl, rfl⟩ | ⟨_, hu'⟩
      · exact (h3 e z hz').symm.imp (now _) (now _)
      · exact (h.pair e f z u hz' hu' hne).imp (·.step ha hx hW (.inr h1)) (·.step ha hx hW (.inr h1))
theorem Cov.done {a : El p} (h : Cov t W a) (hW : ∀ a, ¬ W a) : Red t a := by
  obtain ⟨r, hr, h⟩ := h
  rcases hr with rfl | hr
  · exact h t (Above.refl t) .one
  · exact absurd hr (hW r)
theorem Wk.full (h : Wk S t W) (hW : ∀ a, ¬ W a) : Full t where
  ok := h.ok
  ptop d y e := (h.top d y e).done hW
  pcm d e y z h1 h2 h3 := (h.pair d e y z h1 h2 (by omega)).imp (·.done hW) (·.done hW)
theorem Wk.gen (h : Wk S t W) (hW : ∀ a, ¬ W a) : Gen (Ents t) = Gen S := by
  funext a
  apply propext
  constructor
  · exact Gen.le (Gen.sub S) (fun a ⟨d, hd⟩ => h.tmem d a hd) a
  · exact Gen.le (Gen.sub _) (fun a ha => ((h.need a ha).done hW).gen) a
end
end Go.Pc

/-
  Tables as lists of lists: what the programs keep of a table, and the canonical list out of it.
  Conditions: the tails at all levels are groups; nothing of the program stands here.
-/
namespace Go.Pc
open Grp
section
variable {p : Pr}
/-- A row of a table: the element, or nothing. -/
def rowOf (t : Tab p) (d : Nat) : List Int := match t d with | none => [] | some y => y.v
def tabL (t : Tab p) : List (List Int) := (List.range p.n).map (rowOf t)
theorem tabL_len (t : Tab p) : (tabL t).length = p.n := by simp [tabL]
theorem tabL_at (t : Tab p) {d : Nat} (hd : d < p.n) : (tabL t).getD d [] = rowOf t d := by simp [tabL, hd]
theorem rowOf_none {t : Tab p} {d : Nat} (h : t d = none) : rowOf t d = [] := by unfold rowOf; rw [h]
theorem rowOf_some {t : Tab p} {d : Nat} {y : El p} (h : t d = some y) : rowOf t d = y.v := by unfold rowOf; rw [h]
theorem rowOf_len {t : Tab p} {d : Nat} (hd : d < p.n) : (rowOf t d).length = 0 ↔ t d = none := by
  unfold rowOf
  split
  · rename_i h; simp [h]
  · rename_i y h; rw [y.inr.len]; simp [h]; omega
theorem tabL_none : tabL (fun _ => none : Tab p) = List.replicate p.n [] := by
  unfold tabL rowOf
  apply List.ext_getElem
  · simp
  · intro i h1 h2; simp
theorem tabL_set (t : Tab p) (d : Nat) (y : El p) : tabL (Tab.set t d y) = (tabL t).set d y.v := by
  apply List.ext_getElem
  · simp [tabL]
  · intro i h1 h2
    simp only [tabL, List.getElem_map, List.getElem_range, List.getElem_set]
    by_cases e : d = i
    · subst e; simp [rowOf, Tab.set]
    · have : ¬ i = d := fun h => e h.symm
      simp [e, rowOf, Tab.set, this]
theorem Tl.pwz [hc : ConAll p] {x : El p} {d : Nat} (hd : d ≤ p.n) (hx : Tl d x) (k : Int) : Tl d (Grp.pwz x k) := by
  unfold Grp.pwz
  split
  · exact hx.inv.pw hd _
  · exact hx.pw hd _
theorem co_pwz [hc : ConAll p] {x : El p} {d : Nat} (hd : d < p.n) (hx : Tl d x) (k : Int) : co (Grp.pwz x k) d = (k * co x d) % p.o d := by
  unfold Grp.pwz
  split
  · rename_i h
    rw [co_pw hd hx.inv, Int.toNat_of_nonneg (by omega), Int.emod_eq_emod_iff_emod_sub_eq_zero]
    have h1 := co_inv hd hx
    have e : -k * co x⁻¹ d - k * co x d = (co x⁻¹ d + co x d) * -k := by
      rw [Int.add_mul, Int.mul_comm (co x⁻¹ d), Int.mul_neg (co x d), Int.mul_comm (co x d)]; omega
    rw [e, Int.mul_emod, h1, Int.zero_mul, Int.zero_emod]
  · rw [co_pw hd hx, Int.toNat_of_nonneg (by omega)]
theorem strip_step [hc : ConAll p] {r y : El p} {d : Nat} (hd : d < p.n) (hr : Tl d r) (hy : Tl d y) (hl : co y d = 1) : Tl (d + 1) (r * Grp.pwz y (-(co r d))) := by
  have hz := hy.pwz (by omega) (-(co r d))
  refine (hr.mul (by omega) hz).succ ?_
  rw [co_at _ hd hz, co_pwz hd hy, hl, Int.mul_one, Int.add_emod_emod, Int.add_right_neg, Int.zero_emod]
end
end Go.Pc

/-
  The canonical sequence out of a full table, from the last depth to the first; the number of empty places of a table.
  Conditions: the tails at all levels are groups; nothing of the program stands here.
-/
namespace Go.Pc
open Grp
section
variable {p : Pr} [hc : ConAll p]
open Classical in
noncomputable def canT (H : El p → Prop) : Tab p := fun d => if h : ∃ x, CanAt H d x then some (Classical.choose h) else none
theorem canT_some {H : El p → Prop} {d : Nat} {x : El p} (h : canT H d = some x) : CanAt H d x := by
  unfold canT at h
  split at h
  · rename_i hx; injection h with h; subst h; exact Classical.choose_spec hx
  · cases h
theorem canT_eq {H : El p → Prop} (hH : Sub H) {d : Nat} {x : El p} (h : CanAt H d x) : canT H d = some x := by
  have he : ∃ x, CanAt H d x := ⟨x, h⟩
  unfold canT
  rw [dif_pos he, (Classical.choose_spec he).unique hH h]
theorem canT_none {H : El p → Prop} {d : Nat} (h : ¬ Dep H d) : canT H d = none := by
  unfold canT
  rw [dif_neg]
  rintro ⟨x, hx⟩
  exact h hx.dep
theorem canF_map (H : El p → Prop) (d : Nat) : canF H d = (canT H d).map (·.v) := by
  unfold canF canT
  split <;> rfl
theorem Dep.lt {H : El p → Prop} {d : Nat} (h : Dep H d) : d < p.n := by
  obtain ⟨x, _, _, h0⟩ := h
  by_cases hd : d < p.n
  · exact hd
  · exact absurd (by unfold co; rw [List.getD_eq_getElem?_getD, List.getElem?_eq_none (by rw [x.inr.len]; omega)]; rfl) h0
theorem CanAt.lt {H : El p → Prop} {d : Nat} {x : El p} (h : CanAt H d x) : d < p.n := h.dep.lt
theorem Full.dep {t : Tab p} (hf : Full t) {d : Nat} : Dep (Gen (Ents t)) d ↔ t d ≠ none := by
  constructor
  · rintro ⟨x, h1, h2, h3⟩ e
    obtain ⟨y, hy⟩ := hf.some_of h1 h2 h3
    rw [e] at hy; cases hy
  · intro h
    cases e : t d with
    | none => exact absurd e h
    | some y => exact ⟨y, .of _ ⟨d, e⟩, hf.ok.tl d y e, by rw [hf.ok.lead d y e]; omega⟩
/-- A table from a depth on. -/
def Tab.fr (t : Tab p) (d : Nat) : Tab p := fun e => if d ≤ e then t e else none
theorem fr_zero (t : Tab p) : Tab.fr t 0 = t := by funext e; simp [Tab.fr]
theorem fr_end (t : Tab p) : tabL (Tab.fr t p.n) = List.replicate p.n [] := by
  apply List.ext_getElem
  · simp [tabL]
  · intro i h1 h2
    simp only [tabL, List.length_map, List.length_range] at h1
    have : ¬ p.n ≤ i := by omega
    simp [tabL, rowOf, Tab.fr, this]
theorem fr_none {t : Tab p} {d : Nat} (h : t d = none) : Tab.fr t d = Tab.fr t (d + 1) := by
  funext e
  unfold Tab.fr
  by_cases e1 : d = e
  · subst e1; simp [h]
  · by_cases h2 : d ≤ e
    · rw [if_pos h2, if_pos (by omega)]
    · rw [if_neg h2, if_neg (by omega)]
theorem fr_some {t : Tab p} {d : Nat} {y : El p} (h : t d = some y) : Tab.fr t d = Tab.set (Tab.fr t (d + 1)) d y := by
  funext e
  unfold Tab.fr Tab.set
  by_cases e1 : d = e
  · subst e1; simp [h]
  · have e2 : ¬ e = d := fun h => e1 h.symm
    rw [if_neg e2]
    show _ = if d + 1 ≤ e then t e else none
    by_cases h2 : d ≤ e
    · rw [if_pos h2, if_pos (by omega)]
    · rw [if_neg h2, if_neg (by omega)]
theorem fr_at (t : Tab p) {d e : Nat} (h : d ≤ e) : Tab.fr t d e = t e := by unfold Tab.fr; rw [if_pos h]
theorem fr_low (t : Tab p) {d e : Nat} (h : e < d) : Tab.fr t d e = none := by unfold Tab.fr; rw [if_neg (by omega)]
/-- x lies in H, has depth d and leading exponent 1, and its coordinates behind d and ahead of e are zero at the depths of H. -/
structure CanTo (H : El p → Prop) (d e : Nat) (x : El p) : Prop where
  mem : H x
  tl : Tl d x
  lead : co x d = 1
  zero : ∀ k, d < k → k < e → Dep H k → co x k = 0
variable {H : El p → Prop} {d e : Nat} {x z : El p}
theorem CanTo.skip (h : CanTo H d e x) (h0 : co x e = 0 ∨ ¬ Dep H e) : CanTo H d (e + 1) x :=
  ⟨h.mem, h.tl, h.lead, fun k h1 h2 h3 => by
    by_cases ek : k = e
    · subst ek; exact h0.resolve_right fun h => h h3
    · exact h.zero k h1 (by omega) h3⟩
theorem CanTo.step (hH : Sub H) (h : CanTo H d e x) (hde : d < e) (he : e < p.n) (hz : H z) (hzt : Tl e z) (hz1 : co z e = 1) : CanTo H d (e + 1) (x * pwz z (-(co x e))) := by
  have hp := hzt.pwz (by omega) (-(co x e))
  refine ⟨hH.mul _ _ h.mem (hH.pwz hz _), h.tl.mul (by omega) (hp.mono (by omega)), ?_, fun k h1 h2 h3 => ?_⟩
  · rw [co_low _ he hp hde]; exact h.lead
  · by_cases ek : k = e
    · subst ek
      rw [co_at _ he hp, co_pwz he hzt, hz1, Int.mul_one, Int.add_emod_emod, Int.add_right_neg, Int.zero_emod]
    · rw [co_low _ he hp (by omega)]; exact h.zero k h1 (by omega) h3
theorem CanTo.can (h : CanTo H d p.n x) : CanAt H d x :=
  ⟨h.mem, h.tl, h.lead, fun e he hne => by
    by_cases h1 : e < d
    · exact h.tl e h1
    · exact h.zero e (by omega) he.lt he⟩
theorem Full.canTo {t : Tab p} (hf : Full t) {y : El p} (h : t d = some y) : CanTo (Gen (Ents t)) d (d + 1) y :=
  ⟨.of _ ⟨d, h⟩, hf.ok.tl d y h, hf.ok.lead d y h, fun k h1 h2 => by omega⟩
theorem Full.canT_none {t : Tab p} (hf : Full t) (h : t d = none) : canT (Gen (Ents t)) d = none := Pc.canT_none fun hd => hf.dep.1 hd h
/-- The canonical sequence ahead of a depth. -/
noncomputable def canTo (H : El p → Prop) (d : Nat) : List (List Int) := (List.range d).filterMap (canF H)
theorem canTo_end (H : El p → Prop) : canTo H p.n = canon H := rfl
theorem canTo_zero (H : El p → Prop) : canTo H 0 = [] := rfl
theorem canTo_none (h : canT H d = none) : canTo H (d + 1) = canTo H d := by
  unfold canTo; rw [List.range_succ, List.filterMap_append]; simp [canF_map, h]
theorem canTo_some (h : canT H d = some x) : canTo H (d + 1) = canTo H d ++ [x.v] := by
  unfold canTo; rw [List.range_succ, List.filterMap_append]; simp [canF_map, h]
theorem canTo_len (H : El p → Prop) (d : Nat) : (canTo H d).length ≤ d := by
  unfold canTo; exact Nat.le_trans (List.length_filterMap_le _ _) (by simp)
/-! the number of empty places -/
theorem countP_one {f g : Nat → Bool} {d : Nat} (hf : f d = true) (hg : g d = false) (h : ∀ e, e ≠ d → f e = g e) : ∀ n, d < n → (List.range n).countP f = (List.range n).countP g + 1
  | 0, hd => by omega
  | n + 1, hd => by
    rw [List.range_succ, List.countP_append, List.countP_append]
    by_cases e : d = n
    · subst e
      have : (List.range d).countP f = (List.range d).countP g := by
        apply List.countP_congr
        intro k hk
        rw [List.mem_range] at hk
        rw [h k (by omega)]
      rw [this]; simp [hf, hg]
    · rw [countP_one hf hg h n (by omega)]
      have : f n = g n := h n (fun h => e h.symm)
      simp only [List.countP_cons, List.countP_nil, this]
      omega
def empt (t : Tab p) : Nat := (List.range p.n).countP fun d => (t d).isNone
theorem empt_le (t : Tab p) : empt t ≤ p.n := by unfold empt; exact Nat.le_trans List.countP_le_length (by simp)
theorem empt_set {t : Tab p} {y : El p} (hd : d < p.n) (h : t d = none) : empt t = empt (Tab.set t d y) + 1 :=
  countP_one (by simp [h]) (by simp [Tab.set]) (fun e he => by simp [Tab.set, he]) _ hd
end
end Go.Pc

/-
  Lists of vectors that are canonical sequences of subgroups.
  Conditions: the tails at all levels are groups; nothing of the program stands here.
-/
namespace Go.Pc
open Grp
section
variable {p : Pr}
abbrev vecs (ys : List (El p)) : List (List Int) := ys.map (T.v (p := p) (i := 0))
theorem els_of {xss : List (List Int)} (h : ∀ i, i < xss.length → InR p (xss.getD i [])) : ∃ ys : List (El p), xss = vecs ys := by
  induction xss with
  | nil => exact ⟨[], rfl⟩
  | cons x l ih =>
    obtain ⟨ys, hy⟩ := ih fun i hi => by simpa using h (i + 1) (by simpa using hi)
    have hx : InR p x := by simpa using h 0 (by simp)
    exact ⟨⟨x, hx, fun k hk => absurd hk (Nat.not_lt_zero _)⟩ :: ys, by rw [hy]; rfl⟩
theorem vecs_in {ys : List (El p)} {i : Nat} (h : i < (vecs ys).length) : InR p ((vecs ys).getD i []) := by
  have h' : i < ys.length := by simpa using h
  have e : (vecs ys).getD i [] = (ys[i]).v := by simp [vecs, h']
  rw [e]; exact (ys[i]).inr
theorem vecs_inj {ys zs : List (El p)} (h : vecs ys = vecs zs) : ys = zs :=
  (List.map_inj_right fun a b h => T.ext h).1 h
variable [hc : ConAll p]
noncomputable def canEls (H : El p → Prop) : List (El p) := (List.range p.n).filterMap (canT H)
theorem canon_vecs (H : El p → Prop) : canon H = vecs (canEls H) := by
  unfold canon canEls vecs
  rw [List.map_filterMap]
  congr 1
  funext d
  exact canF_map H d
theorem vecs_len (ys : List (El p)) (i : Nat) : ((vecs ys).getD i []).length ≤ p.n := by
  by_cases h : i < (vecs ys).length
  · rw [(vecs_in h).len]; omega
  · rw [List.getD_eq_getElem?_getD, List.getElem?_eq_none (by omega)]; simp
theorem canon_row (H : El p → Prop) (i : Nat) : ((canon H).getD i []).length ≤ p.n := by rw [canon_vecs]; exact vecs_len _ i
/-- The canonical sequence from a depth on. -/
noncomputable def canElsF (H : El p → Prop) (d : Nat) : List (El p) := (List.range' d (p.n - d)).filterMap (canT H)
theorem canElsF_zero (H : El p → Prop) : canElsF H 0 = canEls H := by unfold canElsF canEls; rw [Nat.sub_zero, List.range_eq_range']
theorem canElsF_end (H : El p → Prop) : canElsF H p.n = [] := by unfold canElsF; simp
theorem canElsF_none {H : El p → Prop} {d : Nat} (hd : d < p.n) (h : canT H d = none) : canElsF H d = canElsF H (d + 1) := by
  unfold canElsF
  rw [show p.n - d = (p.n - (d + 1)) + 1 by omega, List.range'_succ]
  simp [h]
theorem canElsF_some {H : El p → Prop} {d : Nat} {x : El p} (hd : d < p.n) (h : canT H d = some x) : canElsF H d = x :: canElsF H (d + 1) := by
  unfold canElsF
  rw [show p.n - d = (p.n - (d + 1)) + 1 by omega, List.range'_succ]
  simp [h]
theorem canElsF_mem {H : El p → Prop} {d : Nat} {x : El p} : x ∈ canElsF H d ↔ ∃ e, d ≤ e ∧ e < p.n ∧ canT H e = some x := by
  unfold canElsF
  rw [List.mem_filterMap]
  constructor
  · rintro ⟨e, h1, h2⟩
    rw [List.mem_range'_1] at h1
    exact ⟨e, h1.1, by omega, h2⟩
  · rintro ⟨e, h1, h2, h3⟩
    exact ⟨e, List.mem_range'_1.2 ⟨h1, by omega⟩, h3⟩
theorem canElsF_len (H : El p → Prop) (d : Nat) : (canElsF H d).length ≤ p.n - d := by
  unfold canElsF; exact Nat.le_trans (List.length_filterMap_le _ _) (by simp)
/-- A canonical sequence of a subgroup. -/
def IsSeq (p : Pr) [ConAll p] (xss : List (List Int)) : Prop := ∃ ys : List (El p), xss = vecs ys ∧ canon (Gen (fun a : El p => a ∈ ys)) = xss
theorem IsSeq.len {xss : List (List Int)} (h : IsSeq p xss) : xss.length ≤ p.n := by
  obtain ⟨ys, _, h⟩ := h
  rw [← h]; exact canTo_len _ _
end
end Go.Pc

/-
  The work on a sequence that grows by several additions; commutators with the entries of a table.
  Conditions: the tails at all levels are groups; nothing of the program stands here.
-/
namespace Go.Pc
open Grp
section
variable {p : Pr} [hc : ConAll p] {S S' W W' : El p → Prop} {t : Tab p}
theorem Gen.mono {G : Type} [Grp G] {A B : G → Prop} (h : ∀ a, A a → B a) : ∀ a, Gen A a → Gen B a := Gen.le (Gen.sub B) fun a ha => .of a (h a ha)
theorem Cov.mono {x : El p} (h : Cov t W x) (hw : ∀ a, W a → W' a) : Cov t W' x := by
  obtain ⟨r, hr, h⟩ := h
  exact ⟨r, hr.imp id (hw r), h⟩
/-- More elements are given, and wait. -/
theorem Wk.more (h : Wk S t (fun _ => False)) : Wk (fun a => S a ∨ W a) t W where
  ok := h.ok
  tmem d y e := Gen.mono (fun _ h => .inl h) _ (h.tmem d y e)
  wmem x hx := .of x (.inr hx)
  need x hx := by
    rcases hx with hx | hx
    · exact (h.need x hx).mono (fun _ h => h.elim)
    · exact ⟨x, .inr hx, fun _ _ h => h⟩
  top d y e := (h.top d y e).mono (fun _ h => h.elim)
  pair d e y z h1 h2 h3 := (h.pair d e y z h1 h2 h3).imp (·.mono (fun _ h => h.elim)) (·.mono (fun _ h => h.elim))
theorem Wk.none : Wk (fun _ : El p => False) (fun _ => none) (fun _ => False) := (Wk.start (S := fun _ : El p => False))
/-- Whether the subgroup has grown. -/
theorem Wk.grown {t0 : Tab p} (h0 : Wk S t0 (fun _ => False)) (h : Wk (fun a => S a ∨ W a) t (fun _ => False)) {d : Nat} (hd : t0 d = Option.none) (hd' : t d ≠ Option.none) : ∃ a, W a ∧ ¬ Gen S a := by
  apply Classical.byContradiction
  intro hn
  have hs : ∀ a, W a → Gen S a := fun a ha => Classical.byContradiction fun hg => hn ⟨a, ha, hg⟩
  have hle : ∀ a, Gen (fun a => S a ∨ W a) a → Gen S a := Gen.le (Gen.sub S) fun a ha => ha.elim (.of a) (hs a)
  have f0 := h0.full (fun _ h => h)
  have f := h.full (fun _ h => h)
  have g0 := h0.gen (fun _ h => h)
  have g := h.gen (fun _ h => h)
  obtain ⟨x, h1, h2, h3⟩ := f.dep.2 hd'
  rw [g] at h1
  have h4 := hle x h1
  rw [← g0] at h4
  exact f0.dep.1 ⟨x, h4, h2, h3⟩ hd
theorem Wk.same (h0 : Wk S t (fun _ => False)) (h : Wk (fun a => S a ∨ W a) t (fun _ => False)) : ∀ a, W a → Gen S a := by
  intro a ha
  have g0 := h0.gen (fun _ h => h)
  have g := h.gen (fun _ h => h)
  rw [← g0, g]
  exact .of a (.inr ha)
/-- The commutators of the entries ahead of a depth with an element. -/
noncomputable def commsL (t : Tab p) (y : El p) (e : Nat) : List (El p) := (List.range e).filterMap fun k => (t k).map fun z => Grp.cm z y
variable {y z : El p} {e : Nat}
theorem commsL_skip (h : t e = Option.none) : commsL t y (e + 1) = commsL t y e := by
  unfold commsL; rw [List.range_succ, List.filterMap_append]; simp [h]
theorem commsL_some (h : t e = some z) : commsL t y (e + 1) = commsL t y e ++ [Grp.cm z y] := by
  unfold commsL; rw [List.range_succ, List.filterMap_append]; simp [h]
theorem commsL_len : (commsL t y e).length ≤ e := by unfold commsL; exact Nat.le_trans (List.length_filterMap_le _ _) (by simp)
theorem commsL_mem {a : El p} : a ∈ commsL t y e ↔ ∃ k z, k < e ∧ t k = some z ∧ a = Grp.cm z y := by
  unfold commsL
  rw [List.mem_filterMap]
  constructor
  · rintro ⟨k, hk, h⟩
    cases htk : t k with
    | none => rw [htk] at h; cases h
    | some z => rw [htk] at h; exact ⟨k, z, List.mem_range.1 hk, htk, (Option.some.inj h).symm⟩
  · rintro ⟨k, z, hk, htk, rfl⟩
    exact ⟨k, List.mem_range.2 hk, by simp [htk]⟩
end
end Go.Pc

/-
  Inverses in the tails: the inverse of an element out of the inverses in the next tail.
  Conditions: the tails at the level and behind it are groups; nothing of the program stands here.
-/
namespace Go.Pc
open Grp
section
variable {p : Pr} {i : Nat} [h : Con p i] [h' : Con p (i + 1)]
/-- An element of the next tail in this one. -/
def up (x : T p (i + 1)) : T p i := ⟨x.v, x.inr, ZU.mono x.zu (by omega)⟩
theorem up_mul (hi : i < p.n) (x y : T p (i + 1)) : up x * up y = up (x * y) := T.ext (at_restrict h.valid hi x.inr y.inr x.zu y.zu)
theorem up_one : up (1 : T p (i + 1)) = 1 := rfl
theorem up_inv (hi : i < p.n) (x : T p (i + 1)) : up x⁻¹ = (up x)⁻¹ := eq_inv_of_mul (by rw [up_mul hi, inv_mul, up_one])
def unitT (hv : Valid p) (k : Int) (h0 : 0 ≤ k) (h1 : i < p.n → k < p.o i) : T p i := ⟨unitv p i k, unitv_in hv h0 h1, unitv_zu p (Nat.le_refl _) k⟩
theorem inv_zero (hi : i < p.n) (x : T p i) (h0 : x.v.getD i 0 = 0) (r : T p (i + 1)) (hr : r.v = x.v.set i 0) : x⁻¹.v = r⁻¹.v := by
  have hx : x = up r := T.ext (by
    show x.v = r.v
    rw [hr]
    have := set_self (v := x.v) (i := i) (by rw [x.inr.len]; exact hi)
    rw [h0] at this
    exact this.symm)
  rw [hx, ← up_inv hi]
  rfl
theorem inv_split (hi : i < p.n) (x : T p i) (h0 : x.v.getD i 0 ≠ 0) (r u : T p (i + 1)) (hr : r.v = x.v.set i 0) (hu : u.v = p.w i) :
    x⁻¹.v = atv p i (atv p i r⁻¹.v (unitv p i (p.o i - x.v.getD i 0))) u⁻¹.v := by
  have hv := h.valid
  have rx := x.inr.rng i hi
  let a : T p i := unitT hv (x.v.getD i 0) rx.1 (fun _ => rx.2)
  let b : T p i := unitT hv (p.o i - x.v.getD i 0) (by omega) (fun _ => by omega)
  have hx : x = a * up r := T.ext (by
    show x.v = atv p i (unitv p i (x.v.getD i 0)) r.v
    rw [unit_at hv (Nat.le_refl _) hi rx.1 rx.2 r.inr r.zu, hr, set_set, set_self (by rw [x.inr.len]; exact hi)])
  have hab : a * b = up u := T.ext (by
    have hl : (unitv p i (x.v.getD i 0)).getD i 0 = x.v.getD i 0 := getD_set_eq _ _ _ (by rw [zeros_len]; exact hi)
    have hl2 : (unitv p i (p.o i - x.v.getD i 0)).getD i 0 = p.o i - x.v.getD i 0 := getD_set_eq _ _ _ (by rw [zeros_len]; exact hi)
    have hz : (zeros p.n).set i 0 = zeros p.n := by
      have := set_self (v := zeros p.n) (i := i) (by rw [zeros_len]; exact hi)
      rw [zeros_getD] at this; exact this
    show atv p i (unitv p i (x.v.getD i 0)) (unitv p i (p.o i - x.v.getD i 0)) = u.v
    rw [atv_eq _ _ _ _ hi, hl, hl2, if_pos (by omega)]
    have e1 : ∀ k, (unitv p i k).set i 0 = zeros p.n := fun k => by unfold unitv; rw [set_set, hz]
    rw [e1, e1, rep_id (img_zeros i), one_at hv _ (i + 1) rfl _ hv.zeros_in (zeros_zu _ _), at_one hv _ (i + 1) rfl _ (hv.w_in i hi) (hv.w_zu i hi), hu]
    rw [show x.v.getD i 0 + (p.o i - x.v.getD i 0) - p.o i = 0 by omega]
    have := set_self (v := p.w i) (i := i) (by rw [(hv.w_in i hi).len]; exact hi)
    rw [hv.w_zu i hi i (by omega)] at this
    exact this)
  have hxi : x⁻¹ = (up r)⁻¹ * b * (up u)⁻¹ := by
    symm
    apply eq_inv_of_mul
    rw [hx, ← hab, mul_inv_rev]
    simp only [mul_assoc, inv_mul_cancel_left]
    rw [← mul_assoc b, mul_inv, one_mul, inv_mul]
  rw [hxi, ← up_inv hi, ← up_inv hi]
  rfl
end
end Go.Pc

/-
  Collection in the tails: what it is to multiply by one generator in place.
  Conditions: the tail is a group; nothing of the program stands here.
-/
namespace Go.Pc
open Grp
section
variable {H : Type} [Grp H]
theorem phi_split (c : Nat → H) (x : List Int) : ∀ a l b, phi c x l (a + b) = phi c x l a * phi c x (l + a) b
  | 0, l, b => by rw [Nat.zero_add, phi, Grp.one_mul]; rfl
  | a + 1, l, b => by rw [show a + 1 + b = (a + b) + 1 by omega, phi, phi_split c x a (l + 1) b, phi, Grp.mul_assoc, show l + 1 + a = l + (a + 1) by omega]
theorem phi_none (c : Nat → H) {x : List Int} : ∀ k l, (∀ j, l ≤ j → j < l + k → x.getD j 0 = 0 ∨ c j = 1) → phi c x l k = 1
  | 0, _, _ => rfl
  | k + 1, l, h => by
    rw [phi, phi_none c k (l + 1) (fun j h1 h2 => h j (by omega) (by omega)), Grp.mul_one]
    rcases h l (Nat.le_refl _) (by omega) with h | h
    · rw [h]; rfl
    · rw [h, one_pw]
theorem phi_cong2 (c c' : Nat → H) {x y : List Int} : ∀ k l, (∀ j, l ≤ j → j < l + k → x.getD j 0 = y.getD j 0 ∧ c j = c' j) → phi c x l k = phi c' y l k
  | 0, _, _ => rfl
  | k + 1, l, h => by
    rw [phi, phi, phi_cong2 c c' k (l + 1) (fun j h1 h2 => h j (by omega) (by omega)), (h l (Nat.le_refl _) (by omega)).1, (h l (Nat.le_refl _) (by omega)).2]
theorem phi_map {K : Type} [Grp K] (f : H → K) (hf : ∀ x y, f (x * y) = f x * f y) (c : Nat → H) (x : List Int) : ∀ k l, f (phi c x l k) = phi (fun j => f (c j)) x l k := by
  have f1 : f 1 = 1 := Grp.mul_left_cancel (a := f 1) (by rw [← hf, Grp.one_mul, Grp.mul_one])
  have fp : ∀ a q, f (pw a q) = pw (f a) q := by
    intro a q
    induction q with
    | zero => exact f1
    | succ q ih => rw [pw_succ, hf, ih, pw_succ]
  intro k
  induction k with
  | zero => intro l; exact f1
  | succ k ih => intro l; rw [phi, hf, fp, ih, phi]
end
section
variable {p : Pr} {i : Nat}
theorem img_unit (hv : Valid p) {j k : Nat} (hjk : j < k) (hk : k < p.n) : img p j (unitv p k 1) = p.c j k := by
  have key : ∀ m, m ≤ p.n - (j + 1) → imgTo p j (unitv p k 1) m = if j + 1 + m ≤ k then zeros p.n else p.c j k := by
    intro m
    induction m with
    | zero => intro _; rw [imgTo_zero, if_pos (by omega)]
    | succ m ih =>
      intro hm
      rw [imgTo_succ, ih (by omega)]
      by_cases e : j + 1 + m = k
      · rw [if_pos (by omega), if_neg (by omega), e]
        have e1 : (unitv p k 1).getD k 0 = 1 := getD_set_eq _ _ _ (by rw [zeros_len]; exact hk)
        rw [e1]
        show atv p (j + 1) (zeros p.n) (p.c j k) = p.c j k
        exact one_at hv _ (j + 1) rfl _ (hv.c_in _ _ hjk hk) (hv.c_zu _ _ hjk hk)
      · have e1 : (unitv p k 1).getD (j + 1 + m) 0 = 0 := by unfold unitv; rw [getD_set_ne _ _ _ _ (fun h => e h.symm), zeros_getD]
        rw [e1]
        show (if j + 1 + m ≤ k then zeros p.n else p.c j k) = _
        by_cases h : j + 1 + m ≤ k
        · rw [if_pos h, if_pos (by omega)]
        · rw [if_neg h, if_neg (by omega)]
  rw [img_eq, key _ (Nat.le_refl _), if_neg (by omega)]
def Tw' (hv : Valid p) {j : Nat} (hj : i ≤ j ∧ j < p.n) : T p i := ⟨p.w j, hv.w_in _ hj.2, (hv.w_zu _ hj.2).mono (by omega)⟩
variable [h : Con p i]
/-- The conjugate of generator k by generator j, in the tail at i. -/
noncomputable def cIn (p : Pr) (i : Nat) [h : Con p i] (j k : Nat) : T p i :=
  open Classical in if hk : i ≤ j ∧ j < k ∧ k < p.n then ⟨p.c j k, h.valid.c_in _ _ hk.2.1 hk.2.2, (h.valid.c_zu _ _ hk.2.1 hk.2.2).mono (by omega)⟩ else 1
theorem gOf_eq {j : Nat} (hj : i ≤ j ∧ j < p.n) : gOf p i j = gen h.valid i j hj := dif_pos hj
theorem gOf_low {j : Nat} (hj : j < i) : gOf p i j = 1 := dif_neg (by omega)
theorem rel_pow {j : Nat} (hj : i ≤ j ∧ j < p.n) : pw (gOf p i j) (p.o j).toNat = Tw' h.valid hj := by
  have hv := h.valid
  have ho := hv.opos hj.2
  obtain ⟨q, hq⟩ : ∃ q : Nat, (p.o j).toNat = q + 1 := ⟨(p.o j).toNat - 1, by omega⟩
  rw [gOf_eq hj, hq, pw_succ]
  apply T.ext
  rw [T.mul_val, gen_pw hj q (by omega)]
  show atv p i (unitv p j q) (unitv p j 1) = p.w j
  have hk := unitv_in hv (j := j) (k := (q : Int)) (by omega) (fun _ => by omega)
  have h1' := unitv_in hv (j := j) (k := 1) (by omega) (fun _ => by omega)
  have e1 : ∀ k, (unitv p j k).getD j 0 = k := fun k => getD_set_eq _ _ _ (by rw [zeros_len]; exact hj.2)
  have hz : (zeros p.n).set j 0 = zeros p.n := by
    have := set_self (v := zeros p.n) (i := j) (by rw [zeros_len]; exact hj.2)
    rw [zeros_getD] at this; exact this
  have e2 : ∀ k, (unitv p j k).set j 0 = zeros p.n := fun k => by unfold unitv; rw [set_set, hz]
  rw [at_restrict' hv hj.1 hk h1' (unitv_zu p (Nat.le_refl _) q) (unitv_zu p (Nat.le_refl _) 1), atv_eq _ _ _ _ hj.2, e1, e1, if_pos (by omega), e2, e2,
    rep_id (img_zeros j), one_at hv _ (j + 1) rfl _ hv.zeros_in (zeros_zu _ _), at_one hv _ (j + 1) rfl _ (hv.w_in j hj.2) (hv.w_zu j hj.2), show (q : Int) + 1 - p.o j = 0 by omega]
  have := set_self (v := p.w j) (i := j) (by rw [(hv.w_in j hj.2).len]; exact hj.2)
  rw [hv.w_zu j hj.2 j (by omega)] at this
  exact this
theorem rel_conj {j k : Nat} (hj : i ≤ j) (hjk : j < k) (hk : k < p.n) : gOf p i k * gOf p i j = gOf p i j * cIn p i j k := by
  have hv := h.valid
  have ho := hv.opos (show j < p.n by omega)
  have hok := hv.opos hk
  have hc : cIn p i j k = ⟨p.c j k, hv.c_in _ _ hjk hk, (hv.c_zu _ _ hjk hk).mono (by omega)⟩ := dif_pos ⟨hj, hjk, hk⟩
  rw [gOf_eq ⟨by omega, hk⟩, gOf_eq ⟨hj, by omega⟩, hc]
  apply T.ext
  rw [T.mul_val, T.mul_val]
  show atv p i (unitv p k 1) (unitv p j 1) = atv p i (unitv p j 1) (p.c j k)
  have hk1 := unitv_in hv (j := k) (k := 1) (by omega) (fun _ => by omega)
  have hj1 := unitv_in hv (j := j) (k := 1) (by omega) (fun _ => by omega)
  rw [unit_at hv hj (by omega) (by omega) (by omega) (hv.c_in _ _ hjk hk) (hv.c_zu _ _ hjk hk)]
  have e1 : (unitv p j 1).getD j 0 = 1 := getD_set_eq _ _ _ (by rw [zeros_len]; omega)
  have e0 : (unitv p k 1).getD j 0 = 0 := by unfold unitv; rw [getD_set_ne _ _ _ _ (by omega), zeros_getD]
  have hz : (zeros p.n).set j 0 = zeros p.n := by
    have := set_self (v := zeros p.n) (i := j) (by rw [zeros_len]; omega)
    rw [zeros_getD] at this; exact this
  have e2 : (unitv p j 1).set j 0 = zeros p.n := by unfold unitv; rw [set_set, hz]
  have e3 : (unitv p k 1).set j 0 = unitv p k 1 := by
    have := set_self (v := unitv p k 1) (i := j) (by rw [hk1.len]; omega)
    rw [e0] at this; exact this
  rw [at_restrict' hv hj hk1 hj1 (unitv_zu p (by omega) 1) (unitv_zu p (Nat.le_refl _) 1), atv_eq _ _ _ _ (show j < p.n by omega), e0, e1, if_neg (by omega), e2, e3]
  have hci := hv.c_in _ _ hjk hk
  have hcz := hv.c_zu _ _ hjk hk
  show (atv p (j + 1) (img p j (unitv p k 1)) (zeros p.n)).set j (0 + 1) = _
  rw [img_unit hv hjk hk, at_one hv _ (j + 1) rfl _ hci hcz]
  rfl
theorem phi_conj {j : Nat} (hj : i ≤ j) (x : List Int) : phi (gOf p i) x (j + 1) (p.n - (j + 1)) * gOf p i j = gOf p i j * phi (cIn p i j) x (j + 1) (p.n - (j + 1)) := by
  have h1 := phi_map (fun a : T p i => cj a (gOf p i j)) (fun a b => cj_mul a b _) (gOf p i) x (p.n - (j + 1)) (j + 1)
  have h2 : phi (fun t => cj (gOf p i t) (gOf p i j)) x (j + 1) (p.n - (j + 1)) = phi (cIn p i j) x (j + 1) (p.n - (j + 1)) := by
    refine phi_cong2 _ _ _ _ fun t h1 h2 => ⟨rfl, ?_⟩
    show cj (gOf p i t) (gOf p i j) = _
    unfold cj
    rw [rel_conj hj (by omega) (by omega), inv_mul_cancel_left]
  rw [← h2, ← h1, mul_cj]
/-- An element, cut at generator j. -/
theorem form_at {j : Nat} (hj : i ≤ j ∧ j < p.n) (x : T p i) : x = phi (gOf p i) x.v i (j - i) * (pw (gOf p i j) (x.v.getD j 0).toNat * phi (gOf p i) x.v (j + 1) (p.n - (j + 1))) := by
  have h1 := norm_form (p.n - i) i rfl (Nat.le_refl _) (by omega) x x.zu
  rw [show p.n - i = (j - i) + ((p.n - (j + 1)) + 1) by omega, phi_split, show i + (j - i) = j by omega, phi] at h1
  exact h1
section
variable {x e : T p i} {j : Nat} (hj : i ≤ j ∧ j < p.n) (hlow : ∀ t, t < j → e.v.getD t 0 = x.v.getD t 0) (hz : ∀ t, j < t → t < p.n → e.v.getD t 0 = 0)
include hj hlow hz
theorem tg_lt (hjv : e.v.getD j 0 = x.v.getD j 0 + 1) : e * phi (cIn p i j) x.v (j + 1) (p.n - (j + 1)) = x * gOf p i j := by
  have hx := x.inr.rng j hj.2
  have h1 : phi (gOf p i) e.v (j + 1) (p.n - (j + 1)) = 1 := phi_none _ _ _ fun t h1 h2 => .inl (hz t (by omega) (by omega))
  have h2 : phi (gOf p i) e.v i (j - i) = phi (gOf p i) x.v i (j - i) := phi_cong2 _ _ _ _ fun t h1 h2 => ⟨hlow t (by omega), rfl⟩
  have h3 := form_at hj e
  have h4 := form_at hj x
  rw [h1, h2, hjv, Grp.mul_one, show (x.v.getD j 0 + 1).toNat = (x.v.getD j 0).toNat + 1 by omega, pw_succ] at h3
  have h5 : x * gOf p i j = phi (gOf p i) x.v i (j - i) * (pw (gOf p i j) (x.v.getD j 0).toNat * (phi (gOf p i) x.v (j + 1) (p.n - (j + 1)) * gOf p i j)) := by
    conv => lhs; rw [h4]
    simp only [Grp.mul_assoc]
  rw [h5, phi_conj hj.1, h3]
  simp only [Grp.mul_assoc]
theorem tg_eq (hjv : e.v.getD j 0 = 0) (hxo : x.v.getD j 0 + 1 = p.o j) : e * Tw' h.valid hj * phi (cIn p i j) x.v (j + 1) (p.n - (j + 1)) = x * gOf p i j := by
  have hx := x.inr.rng j hj.2
  have h1 : phi (gOf p i) e.v (j + 1) (p.n - (j + 1)) = 1 := phi_none _ _ _ fun t h1 h2 => .inl (hz t (by omega) (by omega))
  have h2 : phi (gOf p i) e.v i (j - i) = phi (gOf p i) x.v i (j - i) := phi_cong2 _ _ _ _ fun t h1 h2 => ⟨hlow t (by omega), rfl⟩
  have h3 := form_at hj e
  have h4 := form_at hj x
  rw [h1, h2, hjv, Grp.mul_one] at h3
  have h6 : phi (gOf p i) x.v i (j - i) * pw (gOf p i j) (0 : Int).toNat = phi (gOf p i) x.v i (j - i) := Grp.mul_one _
  rw [h6] at h3
  have h5 : x * gOf p i j = phi (gOf p i) x.v i (j - i) * (pw (gOf p i j) (x.v.getD j 0).toNat * (phi (gOf p i) x.v (j + 1) (p.n - (j + 1)) * gOf p i j)) := by
    conv => lhs; rw [h4]
    simp only [Grp.mul_assoc]
  rw [h5, phi_conj hj.1, h3, ← rel_pow hj, show (p.o j).toNat = (x.v.getD j 0).toNat + 1 by omega, pw_succ]
  simp only [Grp.mul_assoc]
end
theorem phi_all (hi : i ≤ p.n) (y : T p i) : phi (gOf p i) y.v 0 p.n = y := by
  have h1 := norm_form (p.n - i) i rfl (Nat.le_refl _) hi y y.zu
  rw [show phi (gOf p i) y.v 0 p.n = phi (gOf p i) y.v 0 (i + (p.n - i)) by rw [show i + (p.n - i) = p.n by omega], phi_split, Nat.zero_add, ← h1,
    phi_none _ _ _ (fun t h1 h2 => .inl (y.zu t (by omega))), Grp.one_mul]
end
end Go.Pc

/-
  What a presentation's value reads as, and what a fresh result is.
  Conditions: none; nothing of the program stands here.
-/
namespace Go.Pc
open Go Go.RowKit
class Pres (lo hi : outParam Nat) (w : World) (v : Value) (p : outParam Pr) : Prop where
  ex : ∃ vo vp vc ps cs css, v = .agg #[vo, vp, vc] ∧ Ints lo hi w vo p.ord ∧ Rows lo hi w vp ps p.pow ∧ Rowss lo hi w vc cs css p.cnj
/-- A list of integers in new memory (its block, if it has any, lies from lo on and is the result's own). -/
class Fr (lo : outParam Nat) (w : World) (v : Value) (xs : outParam (List Int)) : Prop where
  ints : Ints lo w.heap.size w v xs
  own : xs ≠ [] → ∃ e b, lo ≤ b ∧ OwnI e b w v xs
section
variable {e b lo hi : Nat} {w w' : World} {v : Value} {us : List Value} {xs : List Int} {xss : List (List Int)} {p : Pr}
theorem Pres.same (h : Pres lo hi w v p) (k : Same lo hi w w') : Pres lo hi w' v p := by
  obtain ⟨vo, vp, vc, ps, cs, css, rfl, h1, h2, h3⟩ := h.ex
  exact ⟨⟨vo, vp, vc, ps, cs, css, rfl, h1.same k, h2.same k, h3.same k⟩⟩
theorem Pres.wide (h : Pres lo hi w v p) : Pres 0 w.heap.size w v p := by
  obtain ⟨vo, vp, vc, ps, cs, css, rfl, h1, h2, h3⟩ := h.ex
  exact ⟨⟨vo, vp, vc, ps, cs, css, rfl, h1.wide, h2.wide, h3.wide⟩⟩
instance (priority := low) Pres.ext [x : Ext w w'] [h : Pres lo hi w v p] : Pres lo hi w' v p := h.same (x.same _ _)
instance (priority := low) Pres.chg [c : Chg b w w'] [h : Pres lo hi w v p] [a : Apart lo hi b] : Pres lo hi w' v p := h.same (c.same a.out)
theorem OwnI.lt (h : OwnI e b w v xs) : b < w.heap.size := h.own.lt
theorem OwnI.chg' {g : Nat} (h : OwnI e b w v xs) (c : Chg g w w') (hne : b ≠ g) : OwnI e b w' v xs := ⟨h.own.chg' c hne⟩
theorem OwnI.toFr (h : OwnI e b w v xs) (hb : lo ≤ b) : Fr lo w v xs :=
  ⟨(⟨h.own.toSl⟩ : Ints b (b + 1) w v xs).mono hb h.lt, fun _ => ⟨e, b, hb, h⟩⟩
theorem Own.ints (h : Own e b w v (xs.map (Value.int .i64))) : OwnI e b w v xs := ⟨h⟩
theorem OwnN.toOwn {base : Nat} (h : OwnN e base w v us) (hn : us ≠ []) : ∃ b, base ≤ b ∧ v.ownBlock = some b ∧ Own e b w v us := by
  rcases h.own.2 with ⟨rfl, h0⟩ | ⟨g, cap, cur, hv, hb, hg, h1, hm, hs, ht⟩
  · exact absurd (List.eq_nil_of_length_eq_zero h0) hn
  · exact ⟨g, hb, by simp [hv, Value.ownBlock], ⟨cap, cur, hv, hg, h1, hm, by simpa using hs, by simpa using ht⟩⟩
theorem OwnN.toFr {base : Nat} (h : OwnN e base w v (xs.map (Value.int .i64))) : Fr base w v xs := by
  refine ⟨⟨h.toSl⟩, fun hn => ?_⟩
  obtain ⟨b, hb, _, ho⟩ := h.toOwn (by simpa using hn)
  exact ⟨e, b, hb, ⟨ho⟩⟩
instance [h : Fr lo w v xs] : Ints lo w.heap.size w v xs := h.ints
theorem Fr.mono {lo' : Nat} (h : Fr lo w v xs) (hl : lo' ≤ lo) : Fr lo' w v xs :=
  ⟨h.ints.mono hl (Nat.le_refl _), fun hn => let ⟨e, b, h1, h2⟩ := h.own hn; ⟨e, b, by omega, h2⟩⟩
theorem Fr.ext' (h : Fr lo w v xs) (x : Ext w w') : Fr lo w' v xs :=
  ⟨(h.ints.same (x.same _ _)).mono (Nat.le_refl _) x.size, fun hn => let ⟨e, b, h1, h2⟩ := h.own hn; ⟨e, b, h1, @OwnI.ext _ _ _ _ _ _ x h2⟩⟩
theorem oneCells (xs : List Int) : ∀ u ∈ xs.map (Value.int .i64), u.oneCell' = true := by
  intro u hu
  obtain ⟨x, _, rfl⟩ := List.mem_map.1 hu
  rfl
end
end Go.Pc

/-
  Lists of lists that grow: the list is the call's own, its rows lie elsewhere, apart from the blocks that are written.
  Conditions: none; nothing of the program stands here.
-/
namespace Go.Pc
open Go Go.RowKit
/-- The list of integers lies in memory apart from the blocks 'av'. -/
def IntsAp (av : Nat → Prop) (w : World) (v : Value) (xs : List Int) : Prop := ∃ lo hi, Ints lo hi w v xs ∧ hi ≤ w.heap.size ∧ ∀ g, av g → g < lo ∨ hi ≤ g
/-- The rows lie in memory apart from the blocks 'av'. -/
structure RowsAp (av : Nat → Prop) (w : World) (us : List Value) (xss : List (List Int)) : Prop where
  len : us.length = xss.length
  at_ : ∀ i, IntsAp av w (us.getD i nilv) (xss.getD i [])
section
variable {av av' : Nat → Prop} {e base lo hi : Nat} {w w' : World} {v : Value} {us : List Value} {xss : List (List Int)}
theorem Ints.nil_ (w : World) : Ints 0 0 w nilv [] := ⟨⟨⟨none, 0, rfl, Nat.le_refl _, by omega, fun k u hu => by simp at hu⟩⟩⟩
theorem Sl.cells (h : Sl lo hi w v us) : v.cells = #[v] := by obtain ⟨A, c, rfl, _⟩ := h.ex; rfl
theorem Sl.one (h : Sl lo hi w v us) : v.oneCell' = true := by obtain ⟨A, c, rfl, _⟩ := h.ex; rfl
theorem IntsAp.nil (av : Nat → Prop) (w : World) : IntsAp av w nilv [] := ⟨0, 0, Ints.nil_ w, Nat.zero_le _, fun g h => .inr (Nat.zero_le _)⟩
theorem IntsAp.keep {u : Value} {xs : List Int} (h : IntsAp av w u xs) (hs : w.heap.size ≤ w'.heap.size) (hb : ∀ k, k < w.heap.size → ¬ av k → w'.heap[k]? = w.heap[k]?) : IntsAp av w' u xs := by
  obtain ⟨lo, hi, h1, h2, h3⟩ := h
  refine ⟨lo, hi, h1.same fun k k1 k2 k3 => hb k k3 fun hk => ?_, Nat.le_trans h2 hs, h3⟩
  have := h3 k hk
  omega
theorem IntsAp.ext {u : Value} {xs : List Int} (h : IntsAp av w u xs) (x : Ext w w') : IntsAp av w' u xs := h.keep x.size fun k hk _ => x.below.block k hk
theorem IntsAp.weak {u : Value} {xs : List Int} (h : IntsAp av w u xs) (ha : ∀ g, av' g → av g ∨ w.heap.size ≤ g) : IntsAp av' w u xs := by
  obtain ⟨lo, hi, h1, h2, h3⟩ := h
  refine ⟨lo, hi, h1, h2, fun g hg => ?_⟩
  rcases ha g hg with hg | hg
  · exact h3 g hg
  · exact .inr (by omega)
theorem IntsAp.chg {g : Nat} {u : Value} {xs : List Int} (h : IntsAp av w u xs) (c : Chg g w w') (hg : av g) : IntsAp av w' u xs :=
  h.keep c.size fun k hk hn => c.by_.block k hk (fun e => by injection e with e; subst e; exact hn hg)
theorem IntsAp.ofFr {u : Value} {xs : List Int} (h : Fr lo w u xs) (ha : ∀ g, av g → g < lo) : IntsAp av w u xs := ⟨lo, _, h.ints, Nat.le_refl _, fun g hg => .inl (ha g hg)⟩
theorem IntsAp.ints {u : Value} {xs : List Int} (h : IntsAp av w u xs) : Ints 0 w.heap.size w u xs := by
  obtain ⟨lo, hi, h1, h2, h3⟩ := h
  exact h1.mono (Nat.zero_le _) h2
theorem RowsAp.nil (av : Nat → Prop) (w : World) : RowsAp av w [] [] := ⟨rfl, fun i => ⟨0, 0, by simpa using Ints.nil_ w, Nat.zero_le _, fun g h => .inr (Nat.zero_le _)⟩⟩
theorem RowsAp.nils (av : Nat → Prop) (w : World) (n : Nat) : RowsAp av w (List.replicate n nilv) (List.replicate n []) := by
  refine ⟨by simp, fun i => ⟨0, 0, ?_, Nat.zero_le _, fun g h => .inr (Nat.zero_le _)⟩⟩
  have e1 : (List.replicate n nilv).getD i nilv = nilv := by
    rw [List.getD_eq_getElem?_getD, List.getElem?_replicate]; split <;> rfl
  have e2 : (List.replicate n ([] : List Int)).getD i [] = [] := by
    rw [List.getD_eq_getElem?_getD, List.getElem?_replicate]; split <;> rfl
  rw [e1, e2]
  exact Ints.nil_ w
theorem RowsAp.keep (h : RowsAp av w us xss) (hs : w.heap.size ≤ w'.heap.size) (hb : ∀ k, k < w.heap.size → ¬ av k → w'.heap[k]? = w.heap[k]?) : RowsAp av w' us xss := by
  exact ⟨h.len, fun i => (h.at_ i).keep hs hb⟩
theorem RowsAp.ext (h : RowsAp av w us xss) (x : Ext w w') : RowsAp av w' us xss := h.keep x.size fun k hk _ => x.below.block k hk
theorem RowsAp.chg {g : Nat} (h : RowsAp av w us xss) (c : Chg g w w') (hg : av g) : RowsAp av w' us xss :=
  h.keep c.size fun k hk hn => c.by_.block k hk (fun e => by injection e with e; subst e; exact hn hg)
theorem RowsAp.grown {ob : Option Nat} (h : RowsAp av w us xss) (c : w.grownBy w' ob) (hg : ∀ g, ob = some g → av g) : RowsAp av w' us xss :=
  h.keep c.size fun k hk hn => c.block k hk (fun e => hn (hg k e.symm))
theorem RowsAp.weak (h : RowsAp av w us xss) (ha : ∀ g, av' g → av g ∨ w.heap.size ≤ g) : RowsAp av' w us xss := by
  exact ⟨h.len, fun i => (h.at_ i).weak ha⟩
theorem RowsAp.push {u : Value} {xs : List Int} (h : RowsAp av w us xss) (hu : IntsAp av w u xs) : RowsAp av w (us ++ [u]) (xss ++ [xs]) := by
  refine ⟨by simp [h.len], fun i => ?_⟩
  by_cases hi1 : i < us.length
  · have e1 : (us ++ [u]).getD i nilv = us.getD i nilv := by simp [List.getElem?_append_left hi1]
    have e2 : (xss ++ [xs]).getD i [] = xss.getD i [] := by simp [List.getElem?_append_left (show i < xss.length by rw [← h.len]; exact hi1)]
    rw [e1, e2]
    exact h.at_ i
  · by_cases hi2 : i = us.length
    · subst hi2
      have e1 : (us ++ [u]).getD us.length nilv = u := by simp
      have e2 : (xss ++ [xs]).getD us.length [] = xs := by rw [h.len]; simp
      rw [e1, e2]
      exact hu
    · have e1 : (us ++ [u]).getD i nilv = nilv := by
        rw [List.getD_eq_getElem?_getD, List.getElem?_eq_none (by simp; omega)]; rfl
      have e2 : (xss ++ [xs]).getD i [] = [] := by
        rw [List.getD_eq_getElem?_getD, List.getElem?_eq_none (by simp [← h.len]; omega)]; rfl
      rw [e1, e2]
      exact IntsAp.nil _ _
theorem RowsAp.cons {u : Value} {xs : List Int} (h : RowsAp av w us xss) (hu : IntsAp av w u xs) : RowsAp av w (u :: us) (xs :: xss) := by
  refine ⟨by simp [h.len], fun i => ?_⟩
  cases i with
  | zero => exact hu
  | succ i => exact h.at_ i
theorem RowsAp.set {m : Nat} {u : Value} {xs : List Int} (h : RowsAp av w us xss) (hu : IntsAp av w u xs) (hm : m < us.length) : RowsAp av w (us.set m u) (xss.set m xs) := by
  refine ⟨by simp [h.len], fun i => ?_⟩
  by_cases e1 : m = i
  · subst e1
    have e1 : (us.set m u).getD m nilv = u := by simp [hm]
    have e2 : (xss.set m xs).getD m [] = xs := by simp [show m < xss.length by rw [← h.len]; exact hm]
    rw [e1, e2]
    exact hu
  · have e2 : (us.set m u).getD i nilv = us.getD i nilv := by simp [List.getElem?_set_ne e1]
    have e3 : (xss.set m xs).getD i [] = xss.getD i [] := by simp [List.getElem?_set_ne e1]
    rw [e2, e3]
    exact h.at_ i
theorem RowsAp.take (h : RowsAp av w us xss) (m : Nat) : RowsAp av w (us.take m) (xss.take m) := by
  refine ⟨by simp [h.len], fun i => ?_⟩
  by_cases hi : i < m
  · have e1 : (us.take m).getD i nilv = us.getD i nilv := by simp [List.getElem?_take, hi]
    have e2 : (xss.take m).getD i [] = xss.getD i [] := by simp [List.getElem?_take, hi]
    rw [e1, e2]; exact h.at_ i
  · have e1 : (us.take m).getD i nilv = nilv := by simp [List.getElem?_take, hi]
    have e2 : (xss.take m).getD i [] = [] := by simp [List.getElem?_take, hi]
    rw [e1, e2]
    exact IntsAp.nil _ _
theorem RowsAp.tail {u : Value} {xs : List Int} (h : RowsAp av w (u :: us) (xs :: xss)) : RowsAp av w us xss :=
  ⟨by simpa using h.len, fun i => h.at_ (i + 1)⟩
theorem RowsAp.rows (h : RowsAp av w us xss) (hs : Sl lo hi w v us) : Rows 0 w.heap.size w v us xss := by
  refine ⟨hs.wide, h.len, fun i => ?_⟩
  exact (h.at_ i).ints
/-- Rows of a list within a range of blocks. -/
theorem Rows.ap (h : Rows lo hi w v us xss) (hhi : hi ≤ w.heap.size) (hav : ∀ g, av g → g < lo ∨ hi ≤ g) : RowsAp av w us xss :=
  ⟨h.vals.len, fun i => ⟨lo, hi, h.vals.at_ i, hhi, hav⟩⟩

structure Lst (e base : Nat) (av : Nat → Prop) (w : World) (v : Value) (us : List Value) (xss : List (List Int)) : Prop where
  own : OwnN e base w v us
  rows : RowsAp (fun g => av g ∨ v.ownBlock = some g) w us xss
  free : ∀ g, v.ownBlock = some g → ¬ av g
  bd : ∀ g, av g → g < w.heap.size
theorem Lst.nil (e base : Nat) (w : World) (hb : ∀ g, av g → g < w.heap.size) : Lst e base av w nilv [] [] := ⟨OwnN.nil e base w, RowsAp.nil _ _, fun g h => (by cases h), hb⟩
theorem Lst.start {b : Nat} (h : Own e b w v []) (hb : base ≤ b) (hf : ¬ av b) (hbd : ∀ g, av g → g < w.heap.size) : Lst e base av w v [] [] :=
  ⟨h.toN.mono hb, RowsAp.nil _ _, fun g hg => by rw [h.toN_block] at hg; injection hg with hg; subst hg; exact hf, hbd⟩
theorem Lst.ofNils {b n : Nat} (h : Own e b w v (List.replicate n nilv)) (hb : base ≤ b) (hf : ¬ av b) (hbd : ∀ g, av g → g < w.heap.size) : Lst e base av w v (List.replicate n nilv) (List.replicate n []) :=
  ⟨h.toN.mono hb, RowsAp.nils _ _ _, fun g hg => by rw [h.toN_block] at hg; injection hg with hg; subst hg; exact hf, hbd⟩
theorem Lst.len (h : Lst e base av w v us xss) : us.length = xss.length := h.rows.len
theorem Lst.lt (h : Lst e base av w v us xss) {g : Nat} (hg : v.ownBlock = some g) : base ≤ g ∧ g < w.heap.size := h.own.lt g hg
theorem Lst.ext (h : Lst e base av w v us xss) (x : Ext w w') : Lst e base av w' v us xss := by
  have := h.own
  exact ⟨inferInstance, h.rows.ext x, h.free, fun g hg => Nat.lt_of_lt_of_le (h.bd g hg) x.size⟩
theorem Lst.chg {g : Nat} (h : Lst e base av w v us xss) (c : Chg g w w') (hg : av g) : Lst e base av w' v us xss :=
  ⟨h.own.other c (fun e => h.free g e hg), h.rows.chg c (.inl hg), h.free, fun g hg => Nat.lt_of_lt_of_le (h.bd g hg) c.size⟩
theorem Lst.grown {ob : Option Nat} (h : Lst e base av w v us xss) (c : w.grownBy w' ob) (hg : ∀ g, ob = some g → av g) : Lst e base av w' v us xss := by
  cases ob with
  | none =>
    refine h.ext ⟨?_⟩
    exact (Below.refl _ _).grown c (Nat.le_refl _) (fun k hk => by cases hk)
  | some b => exact h.chg ⟨c⟩ (hg b rfl)
theorem Lst.weak (h : Lst e base av w v us xss) (ha : ∀ g, av' g → av g ∨ w.heap.size ≤ g) (hf : ∀ g, v.ownBlock = some g → ¬ av' g) (hbd : ∀ g, av' g → g < w.heap.size) : Lst e base av' w v us xss :=
  ⟨h.own, h.rows.weak (fun g hg => hg.elim (fun hg => (ha g hg).imp .inl id) (fun hg => .inl (.inr hg))), hf, hbd⟩
theorem Lst.mono {base' : Nat} (h : Lst e base av w v us xss) (hb : base' ≤ base) : Lst e base' av w v us xss := ⟨h.own.mono hb, h.rows, h.free, h.bd⟩
theorem Lst.toRows (h : Lst e base av w v us xss) : Rows 0 w.heap.size w v us xss := h.rows.rows h.own.toSl
/-- After an append of one row. -/
theorem Lst.push {v' u : Value} {xs : List Int} (h : Lst e base av w v us xss) (hu : IntsAp (fun g => av g ∨ v.ownBlock = some g) w u xs)
    (ho : OwnN e base w' v' (us ++ [u])) (hg : w.grownBy w' v.ownBlock) (hv : v'.ownBlock = v.ownBlock ∨ v'.ownBlock = some w.heap.size) : Lst e base av w' v' (us ++ [u]) (xss ++ [xs]) := by
  refine ⟨ho, ?_, fun g hg' => ?_, fun g hg' => Nat.lt_of_lt_of_le (h.bd g hg') hg.size⟩
  · have h1 : RowsAp (fun g => (av g ∨ v.ownBlock = some g) ∨ v'.ownBlock = some g) w (us ++ [u]) (xss ++ [xs]) := by
      refine (h.rows.push hu).weak fun g hg' => ?_
      rcases hg' with hg' | hg'
      · exact .inl hg'
      · rcases hv with e | e
        · exact .inl (.inr (by rw [← e]; exact hg'))
        · rw [e] at hg'; injection hg' with hg'; exact .inr (by omega)
    refine (h1.grown hg (fun g e => .inl (.inr e))).weak fun g hg' => .inl ?_
    exact hg'.imp .inl id
  · rcases hv with e | e
    · exact h.free g (by rw [← e]; exact hg')
    · rw [e] at hg'; injection hg' with hg'
      intro ha
      have := h.bd g ha
      omega
/-- After a store of one row. -/
theorem Lst.set {b m : Nat} {u : Value} {xs : List Int} (h : Lst e base av w v us xss) (hvb : v.ownBlock = some b) (hu : IntsAp (fun g => av g ∨ v.ownBlock = some g) w u xs)
    (c : Chg b w w') (ho : Own e b w' v (us.set m u)) (hm : m < us.length) : Lst e base av w' v (us.set m u) (xss.set m xs) :=
  ⟨ho.toN.mono (h.lt hvb).1, (h.rows.set hu hm).chg c (.inr hvb), h.free, fun g hg' => Nat.lt_of_lt_of_le (h.bd g hg') c.size⟩
theorem Lst.toOwn {b : Nat} (h : Lst e base av w v us xss) (hvb : v.ownBlock = some b) : Own e b w v us := by
  rcases h.own.own.2 with ⟨rfl, h0⟩ | ⟨g, cap, cur, rfl, hb, hg, h1, hm, hs, ht⟩
  · cases hvb
  · have e : g = b := by simpa [Value.ownBlock] using hvb
    subst e
    exact ⟨cap, cur, rfl, hg, h1, hm, by simpa using hs, by simpa using ht⟩
theorem Ext.app {w0 : World} {ob : Option Nat} (h : Ext w0 w) (hg : w.grownBy w' ob) (hb : ∀ k, ob = some k → w0.heap.size ≤ k) : Ext w0 w' :=
  ⟨h.below.grown hg h.below.size (fun k hk => hb k hk)⟩
/-- What is apart from a list's own block, after the list has grown. -/
theorem IntsAp.beside {ob : Option Nat} {u : Value} {xs : List Int} (h : IntsAp av w u xs) (hg : w.grownBy w' ob) (hob : ∀ g, ob = some g → av g) (ha : ∀ g, av' g → av g ∨ g = w.heap.size) : IntsAp av' w' u xs := by
  have h1 : IntsAp (fun g => av g ∨ av' g) w u xs := h.weak fun g hg => hg.elim .inl fun hg => (ha g hg).imp id fun e => by omega
  exact (h1.keep hg.size fun k hk hn => hg.block k hk (fun e => hn (.inl (hob k e.symm)))).weak fun g hg => .inl (.inr hg)
theorem IntsAp.push_ {s : Nat} {u v' : Value} {xs : List Int} (h : IntsAp (fun g => g < s ∨ v.ownBlock = some g) w u xs) (hg : w.grownBy w' v.ownBlock) (hv : v'.ownBlock = v.ownBlock ∨ v'.ownBlock = some w.heap.size) : IntsAp (fun g => g < s ∨ v'.ownBlock = some g) w' u xs :=
  h.beside hg (fun g e => .inr e) fun g hg' => by
    rcases hg' with hg' | hg'
    · exact .inl (.inl hg')
    · rcases hv with e | e
      · rw [e] at hg'; exact .inl (.inr hg')
      · rw [e] at hg'; injection hg' with hg'; exact .inr hg'.symm
theorem Lst.beside {ob : Option Nat} (h : Lst e base av w v us xss) (hg : w.grownBy w' ob) (hob : ∀ g, ob = some g → av g) (ha : ∀ g, av' g → av g ∨ (g = w.heap.size ∧ g < w'.heap.size)) : Lst e base av' w' v us xss := by
  have hn : ∀ g, v.ownBlock = some g → ob ≠ some g := fun g e h' => h.free g e (hob g h')
  refine ⟨?_, ⟨h.rows.len, fun i => (h.rows.at_ i).beside hg (fun g e => .inl (hob g e)) fun g hg => ?_⟩, fun g e h' => ?_, fun g hg' => ?_⟩
  · cases ob with
    | none => have := h.own; exact @OwnN.ext _ _ _ _ _ _ ⟨(Below.refl _ _).grown hg (Nat.le_refl _) (fun k hk => by cases hk)⟩ h.own
    | some b => exact h.own.other ⟨hg⟩ (fun e => hn b e rfl)
  · rcases hg with hg | hg
    · exact (ha g hg).imp .inl (·.1)
    · exact .inl (.inr hg)
  · rcases ha g h' with h' | ⟨h', _⟩
    · exact h.free g e h'
    · have := (h.lt e).2; omega
  · rcases ha g hg' with h' | ⟨_, h'⟩
    · exact Nat.lt_of_lt_of_le (h.bd g h') hg.size
    · exact h'
/-- What is apart from all old blocks lies in the new ones. -/
theorem IntsAp.new {s : Nat} {u : Value} {xs : List Int} (h : IntsAp (· < s) w u xs) : Ints s w.heap.size w u xs := by
  obtain ⟨lo, hi, h1, h2, h3⟩ := h
  obtain ⟨A, c, hv, hc, hm, hcell⟩ := h1.sl.ex
  refine ⟨⟨A, c, hv, hc, hm, fun k u hu => ?_⟩⟩
  obtain ⟨a, hA, e1, e2, e3⟩ := hcell k u hu
  refine ⟨a, hA, ?_, by omega, e3⟩
  by_cases hs : a.block < s
  · have := h3 a.block hs; omega
  · omega
theorem Lst.newRows {s : Nat} (h : Lst e s (· < s) w v us xss) : Rows s w.heap.size w v us xss :=
  ⟨h.own.toSl, h.len, fun i => ((h.rows.at_ i).weak (av' := (· < s)) (fun g hg => .inl (.inl hg))).new⟩
/-- A list that is laid anew, with one row ahead of another list's. -/
theorem Lst.front {w1 w2 : World} {b : Nat} {v' u : Value} {xs : List Int} (hr : RowsAp av w us xss) (hu : IntsAp av w u xs) (hbd : ∀ g, av g → g < w.heap.size) (x : Ext w w1) (hb : w.heap.size ≤ b) (hg : w1.grownBy w2 (some b)) (ho : OwnN e base w2 v' (u :: us)) (hv : ∀ g, v'.ownBlock = some g → w.heap.size ≤ g) :
    Lst e base av w2 v' (u :: us) (xs :: xss) := by
  have h1 : RowsAp (fun g => (av g ∨ v'.ownBlock = some g) ∨ g = b) w (u :: us) (xs :: xss) := (hr.cons hu).weak fun g hg' => by
    rcases hg' with (hg' | hg') | hg'
    · exact .inl hg'
    · exact .inr (hv g hg')
    · exact .inr (by omega)
  refine ⟨ho, ((h1.ext x).grown hg (fun g e => .inr (Option.some.inj e).symm)).weak fun g hg' => .inl (.inl hg'), fun g hg' ha => ?_, fun g hg' => ?_⟩
  · have := hv g hg'; have := hbd g ha; omega
  · have := hbd g hg'; have := x.size; have := hg.size; omega
/-- A shorter list in the same block. -/
theorem Lst.cutTo (h : Lst e base av w v us xss) (m : Nat) (hm : m ≤ us.length) : Lst e base av w (Pc.cutTo v m) (us.take m) (xss.take m) := by
  have e := cutTo_block v m
  exact ⟨h.own.cutTo hm, by rw [e]; exact h.rows.take m, by rw [e]; exact h.free, h.bd⟩
end
end Go.Pc

/-
  What a pointer to a presentation reads as; changes of one block behind changes of memory.
  Conditions: none; nothing of the program stands here.
-/
namespace Go.Pc
open Go Go.RowKit
class PresP (lo hi : outParam Nat) (w : World) (v : Value) (p : outParam Pr) : Prop where
  ex : ∃ b vo vp vc ps cs css, v = .pointer (some ⟨b, 0, none⟩) ∧ lo ≤ b ∧ b < hi ∧ Cell w b 0 vo ∧ Cell w b 1 vp ∧ Cell w b 2 vc ∧ Ints lo hi w vo p.ord ∧ Rows lo hi w vp ps p.pow ∧ Rowss lo hi w vc cs css p.cnj
section
variable {b g lo hi : Nat} {w w' w2 : World} {v : Value} {p : Pr} {xs : List Int} {e : Nat}
theorem PresP.same (h : PresP lo hi w v p) (k : Same lo hi w w') (hs : w.heap.size ≤ w'.heap.size) : PresP lo hi w' v p := by
  obtain ⟨b, vo, vp, vc, ps, cs, css, rfl, h1, h2, c0, c1, c2, i0, i1, i2⟩ := h.ex
  have k' : Same b (b + 1) w w' := k.mono h1 h2
  exact ⟨⟨b, vo, vp, vc, ps, cs, css, rfl, h1, h2, c0.same k' hs, c1.same k' hs, c2.same k' hs, i0.same k, i1.same k, i2.same k⟩⟩
theorem PresP.wide (h : PresP lo hi w v p) : PresP 0 w.heap.size w v p := by
  obtain ⟨b, vo, vp, vc, ps, cs, css, rfl, h1, h2, c0, c1, c2, i0, i1, i2⟩ := h.ex
  exact ⟨⟨b, vo, vp, vc, ps, cs, css, rfl, Nat.zero_le _, c0.lt, c0, c1, c2, i0.wide, i1.wide, i2.wide⟩⟩
instance (priority := low) PresP.ext [x : Ext w w'] [h : PresP lo hi w v p] : PresP lo hi w' v p := h.same (x.same _ _) x.size
instance (priority := low) PresP.chg [c : Chg g w w'] [h : PresP lo hi w v p] [a : Apart lo hi g] : PresP lo hi w' v p := h.same (c.same a.out) c.size
theorem Chg.pre (x : Ext w w') (c : Chg b w' w2) (hb : b < w.heap.size) : Chg b w w2 := by
  obtain ⟨a1, a2, a3, a4, a5⟩ := c.by_
  have k1 := x.below
  refine ⟨⟨a1.trans k1.os, a2.trans k1.tape, a3.trans k1.output, Nat.le_trans k1.size a4, fun j hj hn => ?_⟩⟩
  exact (a5 j (Nat.lt_of_lt_of_le hj k1.size) hn).trans (k1.block j hj)
theorem Chg.ofExt (x : Ext w w') : Chg b w w' := (Chg.refl b w).grow x
theorem Chg.app {b : Nat} {w w1 w2 : World} {ob : Option Nat} (h : Chg b w w1) (hg : w1.grownBy w2 ob) (hb : ∀ k, ob = some k → w.heap.size ≤ k) : Chg b w w2 := by
  obtain ⟨a1, a2, a3, a4, a5⟩ := h.by_
  obtain ⟨b1, b2, b3, b4, b5⟩ := hg
  refine ⟨⟨b1.trans a1, b2.trans a2, b3.trans a3, Nat.le_trans a4 b4, fun j hj hn => ?_⟩⟩
  exact (b5 j (Nat.lt_of_lt_of_le hj a4) (fun e => by have := hb j e.symm; omega)).trans (a5 j hj hn)
/-- The block that a presentation given by value is put into. -/
theorem Pres.boxed {vo vp vc : Value} (h : Pres lo hi w (.agg #[vo, vp, vc]) p) (x : Ext w w') (h0 : Cell w' b 0 vo) (h1 : Cell w' b 1 vp) (h2 : Cell w' b 2 vc) : PresP 0 w'.heap.size w' (.pointer (some ⟨b, 0, none⟩)) p := by
  obtain ⟨vo', vp', vc', ps, cs, css, e, i0, i1, i2⟩ := h.ex
  injection e with e
  have e0 : vo = vo' := by have := congrArg (fun a : Array Value => a.getD 0 undef) e; simpa using this
  have e1 : vp = vp' := by have := congrArg (fun a : Array Value => a.getD 1 undef) e; simpa using this
  have e2 : vc = vc' := by have := congrArg (fun a : Array Value => a.getD 2 undef) e; simpa using this
  subst e0 e1 e2
  exact ⟨⟨b, vo, vp, vc, ps, cs, css, rfl, Nat.zero_le _, h0.lt, h0, h1, h2, (i0.same (x.same _ _)).wide, (i1.same (x.same _ _)).wide, (i2.same (x.same _ _)).wide⟩⟩
end
end Go.Pc

/-
  A list that is appended to at its end and shortened at its front: a slice of the call's own, from some place of its block on.
  Conditions: none; nothing of the program stands here.
-/
namespace Go.Pc
open Go Go.RowKit
class OwnQ (e base : outParam Nat) (w : World) (v : Value) (us : outParam (List Value)) : Prop where
  ex : (v = nilv ∧ us = []) ∨ ∃ g off cap cur, v = .slice (some ⟨g, off, none⟩) us.length cap ∧ base ≤ g ∧ w.heap[g]? = some (.cells cur e (0, 0)) ∧ us.length ≤ cap ∧ cap ≤ maxLen ∧ off + cap ≤ cur.size ∧ (cur.toList.drop off).take us.length = us
section
variable {e base lo hi : Nat} {w w' : World} {v : Value} {us : List Value} {xss : List (List Int)} {av av' : Nat → Prop}
theorem add_lit (g o n : Nat) : (Addr.mk g o none).add n = ⟨g, o + n, none⟩ := by unfold Addr.add; split <;> simp_all
theorem OwnN.toQ (h : OwnN e base w v us) : OwnQ e base w v us := by
  rcases h.own.2 with ⟨rfl, h0⟩ | ⟨g, cap, cur, hv, hb, hg, hn, hm, hs, ht⟩
  · exact ⟨.inl ⟨rfl, List.eq_nil_of_length_eq_zero h0⟩⟩
  · exact ⟨.inr ⟨g, 0, cap, cur, hv, hb, hg, hn, hm, by simp at hs; omega, by simpa using ht⟩⟩
theorem OwnQ.lt (h : OwnQ e base w v us) : ∀ k, v.ownBlock = some k → base ≤ k ∧ k < w.heap.size := by
  intro k hk
  rcases h.ex with ⟨rfl, _⟩ | ⟨g, off, cap, cur, rfl, hb, hg, _⟩
  · cases hk
  · have : g = k := by simpa [Value.ownBlock] using hk
    subst this
    exact ⟨hb, (Array.getElem?_eq_some_iff.1 hg).1⟩
theorem OwnQ.keep (h : OwnQ e base w v us) (hb : ∀ k, v.ownBlock = some k → w'.heap[k]? = w.heap[k]?) : OwnQ e base w' v us := by
  rcases h.ex with h | ⟨g, off, cap, cur, rfl, hb', hg, h1, h2, h3, h4⟩
  · exact ⟨.inl h⟩
  · exact ⟨.inr ⟨g, off, cap, cur, rfl, hb', by rw [hb g rfl]; exact hg, h1, h2, h3, h4⟩⟩
instance (priority := low) OwnQ.ext [x : Ext w w'] [h : OwnQ e base w v us] : OwnQ e base w' v us := h.keep fun k hk => x.below.block k (h.lt k hk).2
theorem OwnQ.other {b : Nat} (h : OwnQ e base w v us) (c : Chg b w w') (hb : v.ownBlock ≠ some b) : OwnQ e base w' v us :=
  h.keep fun k hk => c.by_.block k (h.lt k hk).2 (fun e => hb (by rw [hk, e]))
theorem OwnQ.toSl (h : OwnQ e base w v us) : Sl base w.heap.size w v us := by
  rcases h.ex with ⟨rfl, rfl⟩ | ⟨g, off, cap, cur, rfl, hb, hg, h1, h2, h3, h4⟩
  · exact ⟨⟨none, 0, rfl, Nat.le_refl _, by omega, fun k u hu => by simp at hu⟩⟩
  · have hlt : g < w.heap.size := (Array.getElem?_eq_some_iff.1 hg).1
    refine ⟨⟨some ⟨g, off, none⟩, cap, rfl, h1, by simp only [maxLen] at h2; omega, fun k u hu => ⟨_, rfl, hb, hlt, ?_⟩⟩⟩
    rw [add_lit, cell_of_row w g (off + k) cur e (0, 0) hg]
    rw [← h4, List.getElem?_take, List.getElem?_drop] at hu
    split at hu
    · simpa using hu
    · cases hu
theorem cut_block (v : Value) (l h : Nat) : (cut v l h).ownBlock = v.ownBlock := by
  unfold cut
  split
  · rename_i a _ c
    unfold sliced
    split
    · cases a <;> rfl
    · cases a <;> simp [Value.ownBlock, add_block]
  · rfl
/-- The front is cut off. -/
theorem OwnQ.tail {u : Value} (h : OwnQ e base w v (u :: us)) : OwnQ e base w (cut v 1 (us.length + 1)) us := by
  rcases h.ex with ⟨_, h⟩ | ⟨g, off, cap, cur, rfl, hb, hg, h1, h2, h3, h4⟩
  · cases h
  · simp only [List.length_cons] at h1 h4
    have h5 : (cur.toList.drop (off + 1)).take us.length = us := by
      have e1 : cur.toList.drop (off + 1) = (cur.toList.drop off).drop 1 := by rw [List.drop_drop]
      have e2 : ((cur.toList.drop off).drop 1).take us.length = ((cur.toList.drop off).take (us.length + 1)).drop 1 := by rw [List.drop_take]; simp
      rw [e1, e2, h4]; rfl
    refine ⟨.inr ?_⟩
    by_cases hc : cap = 1
    · have hz : us = [] := List.eq_nil_of_length_eq_zero (by omega)
      subst hz
      refine ⟨g, off, 0, cur, ?_, hb, hg, Nat.le_refl _, by simp [maxLen], by omega, by simp⟩
      simp [cut, sliced, hc]
    · refine ⟨g, off + 1, cap - 1, cur, ?_, hb, hg, by omega, by omega, by omega, h5⟩
      simp [cut, sliced, hc, add_lit]
variable {P : Program} {ty : TypeId}
theorem run_appendQ {t bytes : Nat} {z y u : Value} (ht : P.underlying t = some (.slice e)) (he : ElT P e 1 bytes z) (hz : z.cells.size = 1) (hv : OwnQ e base w v us) (hy : Sl lo hi w y [u])
    (h1 : u.oneCell' = true) (hb : (us.length + 1) * bytes ≤ 140737488355328) (hl : us.length + 1 ≤ maxLen) (hbase : base ≤ w.heap.size) :
    ∃ v' w', (Builtin.append_ #[t, t] ty #[v, y]).run P w = .ok v' w' ∧ OwnQ e base w' v' (us ++ [u]) ∧ w.grownBy w' v.ownBlock ∧ (v'.ownBlock = v.ownBlock ∨ v'.ownBlock = some w.heap.size) := by
  rcases hv.ex with ⟨rfl, rfl⟩ | ⟨g, off, cap, cur, rfl, hb', hg, hn, hm, hs, hk⟩
  · obtain ⟨v', w', h2, h3, h4, h5⟩ := run_append (P := P) (ty := ty) ht he hz (OwnN.nil e base w) hy (fun a ha => by rw [List.mem_singleton.1 ha]; exact h1) (by simpa using hb) (by simpa using hl) hbase
    exact ⟨v', w', h2, h3.toQ, h4, h5⟩
  · obtain ⟨i, hi', hsz, hby, hz'⟩ := he.ex
    obtain ⟨A, c, rfl, hc, hmx, hcell⟩ := hy.ex
    obtain ⟨ad, rfl, _, _, hcu⟩ := hcell 0 u rfl
    have hlt : g < w.heap.size := (Array.getElem?_eq_some_iff.1 hg).1
    have hsrc : Src P i.size t (.slice (some ad) 1 c) 1 [u] w := Src.ofSlice w ht ad 1 c [u] (by simp [hsz]) (fun j x hx => by
      cases j with
      | zero => simp at hx; subst hx; exact hcu
      | succ j => simp at hx) (fun a ha => by rw [List.mem_singleton.1 ha]; exact h1)
    have holds : ∀ j x, us[j]? = some x → cur[off + j]? = some x := fun j x hx => by
      rw [← hk, List.getElem?_take, List.getElem?_drop] at hx
      split at hx
      · simpa using hx
      · cases hx
    by_cases hfit : us.length + 1 ≤ cap
    · have hidx : off + us.length < cur.size := by omega
      have hr := run_append_room_src (P := P) w t t ty e i ht hi' g off us.length cap _ 1 [u] hsrc hfit
        (fun j hj => by
          have : j = 0 := by simpa using hj
          subst this
          rw [hsz, Nat.mul_one, Nat.add_zero, cell_of_row w g _ cur e (0, 0) hg]; simp [hidx])
        (fun j hj => by simp [World.frozen?, hg])
      refine ⟨_, _, hr, ⟨.inr ⟨g, off, cap, cur.setIfInBounds (off + us.length) u, by simp, hb', ?_, by simpa using hfit, hm, by simpa using hs, ?_⟩⟩, ?_, .inl rfl⟩
      · rw [hsz, Nat.mul_one]
        show (w.setCell ⟨g, off + us.length, none⟩ u).heap[g]? = _
        simp [World.setCell, Array.getElem?_modify, hg]
      · rw [Array.toList_setIfInBounds]
        apply List.ext_getElem?
        intro j
        rw [List.getElem?_take, List.getElem?_drop, List.length_append, List.length_singleton]
        by_cases hj : j < us.length
        · rw [if_pos (by omega), List.getElem?_set_ne (by omega), List.getElem?_append_left hj]
          have := holds j us[j] (List.getElem?_eq_getElem hj)
          rw [List.getElem?_eq_getElem hj]
          simpa using this
        · by_cases hj2 : j = us.length
          · subst hj2
            simp [hidx]
          · rw [if_neg (by omega)]
            symm
            exact List.getElem?_eq_none (by simp; omega)
      · rw [hsz, Nat.mul_one]
        show w.grownBy (w.setCell ⟨g, off + us.length, none⟩ u) (some g)
        exact ⟨rfl, rfl, rfl, by simp [World.setCell], fun k hk hne => Below.heap_setCell _ _ _ _ (by intro e; subst e; exact hne rfl)⟩
    · have hold : (Builtin.firstCells i.size us.length (.slice (some ⟨g, off, none⟩) us.length cap)).run P w.drew = .ok us.toArray w.drew :=
        run_firstCells_some w.drew i.size us.length ⟨g, off, none⟩ us.length cap us (by simp [hsz]) (fun j x hx => by
          rw [add_lit]
          have h6 := holds j x hx
          have := cell_of_row w g (off + j) cur e (0, 0) hg
          rw [h6] at this
          simpa using this)
      have hr := run_append_grow_src (P := P) w t t ty e i z ht hi' hz' (some ⟨g, off, none⟩) us.length cap us hold _ 1 [u] hsrc (by omega) (by simp only [maxLen] at hl; omega)
        (growslice_fits (by omega) (by rw [hby]; exact hb))
      have hge := grownCap_ge w (us.length + 1) cap e
      have hcm := grownCap_le_maxLen w (us.length + 1) cap e hl
      refine ⟨_, _, hr, ⟨.inr ⟨w.heap.size, 0, _, _, by simp, hbase, heap_alloc_new w.drew _, ?_, hcm, ?_, ?_⟩⟩, ?_, .inr rfl⟩
      · simpa using hge
      · simp [size_zeroCells, hz]; omega
      · rw [Array.toList_append, List.drop_zero, List.take_append_of_le_length (by simp)]
        exact List.take_of_length_le (by simp)
      · have hx : Ext w (w.drew.alloc (.cells ((us ++ [u]).toArray ++ Builtin.zeroCells z.cells (grownCap w (us.length + 1) cap e - (us.length + 1))) e)) := (Ext.drew w).trans (Ext.alloc _ _)
        exact ⟨hx.below.os, hx.below.tape, hx.below.output, hx.below.size, fun k hk _ => hx.below.block k hk⟩
structure QLst (e base : Nat) (av : Nat → Prop) (w : World) (v : Value) (us : List Value) (xss : List (List Int)) : Prop where
  own : OwnQ e base w v us
  rows : RowsAp (fun g => av g ∨ v.ownBlock = some g) w us xss
  free : ∀ g, v.ownBlock = some g → ¬ av g
  bd : ∀ g, av g → g < w.heap.size
theorem QLst.len (h : QLst e base av w v us xss) : us.length = xss.length := h.rows.len
theorem QLst.lt (h : QLst e base av w v us xss) {g : Nat} (hg : v.ownBlock = some g) : base ≤ g ∧ g < w.heap.size := h.own.lt g hg
theorem QLst.ext (h : QLst e base av w v us xss) (x : Ext w w') : QLst e base av w' v us xss := by
  have := h.own
  exact ⟨inferInstance, h.rows.ext x, h.free, fun g hg => Nat.lt_of_lt_of_le (h.bd g hg) x.size⟩
theorem QLst.chg {g : Nat} (h : QLst e base av w v us xss) (c : Chg g w w') (hg : av g) : QLst e base av w' v us xss :=
  ⟨h.own.other c (fun e => h.free g e hg), h.rows.chg c (.inl hg), h.free, fun g hg => Nat.lt_of_lt_of_le (h.bd g hg) c.size⟩
theorem QLst.toRows (h : QLst e base av w v us xss) : Rows 0 w.heap.size w v us xss := h.rows.rows h.own.toSl
theorem QLst.tail {u : Value} {xs : List Int} (h : QLst e base av w v (u :: us) (xs :: xss)) : QLst e base av w (cut v 1 (us.length + 1)) us xss :=
  ⟨h.own.tail, by rw [cut_block]; exact h.rows.tail, by rw [cut_block]; exact h.free, h.bd⟩
theorem QLst.push {v' u : Value} {xs : List Int} (h : QLst e base av w v us xss) (hu : IntsAp (fun g => av g ∨ v.ownBlock = some g) w u xs)
    (ho : OwnQ e base w' v' (us ++ [u])) (hg : w.grownBy w' v.ownBlock) (hv : v'.ownBlock = v.ownBlock ∨ v'.ownBlock = some w.heap.size) : QLst e base av w' v' (us ++ [u]) (xss ++ [xs]) := by
  refine ⟨ho, ?_, fun g hg' => ?_, fun g hg' => Nat.lt_of_lt_of_le (h.bd g hg') hg.size⟩
  · have h1 : RowsAp (fun g => (av g ∨ v.ownBlock = some g) ∨ v'.ownBlock = some g) w (us ++ [u]) (xss ++ [xs]) := by
      refine (h.rows.push hu).weak fun g hg' => ?_
      rcases hg' with hg' | hg'
      · exact .inl hg'
      · rcases hv with e | e
        · exact .inl (.inr (by rw [← e]; exact hg'))
        · rw [e] at hg'; injection hg' with hg'; exact .inr (by omega)
    refine (h1.grown hg (fun g e => .inl (.inr e))).weak fun g hg' => .inl ?_
    exact hg'.imp .inl id
  · rcases hv with e | e
    · exact h.free g (by rw [← e]; exact hg')
    · rw [e] at hg'; injection hg' with hg'
      intro ha
      have := h.bd g ha
      omega
end
section
variable {P : Program} {N : Nat} {ops : Array Oper} {π : List Nat} {K : Env → World → Prop} {ρ : Env} {w w0 : World} {l : List Oper}
variable {i : Nat} {ty : TypeId} {pos : String} {after : Array Edge} {g : Option (Nat × Bool)} {d : Nat}
theorem st_appendQ {s x : Operand} {t e bytes lo hi base : Nat} {z v y u : Value} {us : List Value} [ht : SlT P t e] [he : ElT P e 1 bytes z] [hv : OwnQ e base w v us] [hy : Sl lo hi w y [u]]
    (hs : ev ρ s = v) (hx : ev ρ x = y) (hz : z.cells.size = 1) (h1 : u.oneCell' = true) (hb : (us.length + 1) * bytes ≤ 140737488355328) (hl : us.length + 1 ≤ maxLen) (hbase : base ≤ w.heap.size) (hg : Wants ops ρ g)
    (next : ∀ v' w', OwnQ e base w' v' (us ++ [u]) → w.grownBy w' v.ownBlock → (v'.ownBlock = v.ownBlock ∨ v'.ownBlock = some w.heap.size) → rops P N ops K l (put ρ d v') w') :
    rops P N ops K (⟨some d, .call { callee := .builtin .append, args := #[s, x], argTypes := #[t, t] }, ty, pos, after, g⟩ :: l) ρ w := by
  obtain ⟨v', w', hrun, h2, h3, h4⟩ := run_appendQ (P := P) (ty := ty) ht.eq he hz hv hy h1 hb hl hbase
  exact st_ex (v := v') (w' := w') hg ⟨fun _ _ _ _ => by simp [execOp, resolve, invoke, builtin, hs, hx, hrun]⟩ (next v' w' h2 h3 h4)
theorem z_appendQ {s x : Operand} {b t e bytes lo hi' base : Nat} {z v y u : Value} {us : List Value} [ht : SlT P t e] [he : ElT P e 1 bytes z] [hv : OwnQ e base w v us] [hy : Sl lo hi' w y [u]] (hi : opAt ops π i = some ⟨some d, .call { callee := .builtin .append, args := #[s, x], argTypes := #[t, t] }, ty, pos, after, g⟩ := by exact rfl)
    (hs : ev ρ s = v) (hx : ev ρ x = y) (hz : z.cells.size = 1) (h1 : u.oneCell' = true) (hb : (us.length + 1) * bytes ≤ 140737488355328) (hl : us.length + 1 ≤ maxLen) (hbase : base ≤ w.heap.size) (hvb : ∀ g, v.ownBlock = some g → g = b)
    (next : ∀ v' w', OwnQ e base w' v' (us ++ [u]) → w.grownBy w' v.ownBlock → (v'.ownBlock = v.ownBlock ∨ v'.ownBlock = some w.heap.size) → dops P N ops π (Chg b w0) K (i + 1) (put ρ d v') w')
    (hn : nextOk ops π i = true := by decide +kernel) (hd : d < N := by decide) (hg : Wants ops ρ g := by first | exact True.intro | exact ⟨_, rfl, by ((try simp only [ev_tmp, ev_const, ev_func, get_put, get_args, get_putL, get_putL_nil, Nat.reduceEqDiff, reduceIte, List.getD_cons_zero, List.getD_cons_succ, List.getD_nil, Bool.not_true, Bool.not_false]); first | done | with_reducible rfl)⟩) :
    dops P N ops π (Chg b w0) K i ρ w := by
  obtain ⟨v', w', hrun, h2, h3, h4⟩ := run_appendQ (P := P) (ty := ty) ht.eq he hz hv hy h1 hb hl hbase
  have hex : Ex P (.call { callee := .builtin .append, args := #[s, x], argTypes := #[t, t] }) ty ρ w v' w' := by
    constructor; intro _ _ _ _
    simp [execOp, resolve, invoke, builtin, hs, hx, hrun]
  refine dt_ex hi hn hd hg hex (fun hS => hS.trans ⟨?_⟩) (next v' w' h2 h3 h4)
  obtain ⟨a1, a2, a3, a4, a5⟩ := h3
  exact ⟨a1, a2, a3, a4, fun j hj hne => a5 j hj (fun e => hne (by rw [hvb j e.symm]))⟩
/-- A slice of one value, the call's own. -/
theorem st_slice1o {t e bytes : Nat} {x : Operand} {u z : Value} [ht : SlT P t e] [he : ElT P e 1 bytes z] (h : ev ρ x = u) (hu : u.cells = #[u]) (hz : z.cells = #[z]) (hg : Wants ops ρ g)
    (next : ∀ w' v, Ext w w' → w'.heap.size = w.heap.size + 1 → Own e w.heap.size w' v [u] → rops P N ops K l (put ρ d v) w') : rops P N ops K (⟨some d, .buildSlice t 1 #[(0, x)], ty, pos, after, g⟩ :: l) ρ w := by
  obtain ⟨i, hi, hs, hby, hz'⟩ := he.ex
  refine st_ex (v := .slice (some ⟨w.heap.size, 0, none⟩) 1 1) (w' := w.alloc (.cells #[u] e)) hg ⟨fun _ _ _ _ => ?_⟩ (next _ _ (Ext.alloc _ _) (by simp) ?_)
  · simp [execOp, h, Instr.buildSlice, run_underlying ht.eq, sizeOf, typeInfo, hi, hs, zeroValue, hz', hz, Instr.fill, hu, newRow]
    refine congrArg (fun a => w.alloc (Obj.cells a e)) (Array.ext (by simp) fun j h1 h2 => ?_)
    have : j = 0 := by simp at h2; omega
    subst this
    simp
  · have := own_alloc w [u] e (by simp [maxLen])
    simpa using this
end
end Go.Pc

/-
  Arguments that read as slices of integers, slices of slices, slices of slices of slices: what the calculus knows of them.
  Conditions: none; nothing of the program stands here.
-/
namespace Go.Pc
open Go Go.RowKit Go.Deep Go.ChangeShapes Go.WideShapes
section
variable {H : Type} {enc : TypeId × Value → H} {P : Program} {w : World} {base : Nat} {held : Bool} {fuel : Nat} {v : Value} {x : DataW H × List MemPlace}
theorem ints_of_trod {t e : TypeId} (ht : P.underlying t = some (.slice e)) (he : P.underlying e = some (.int .i64)) (hc : P.cellsOf e = 1) (h : DataW.trod enc P w base (fun _ => true) held fuel t [v] = some x) : ∃ xs, Ints 0 w.heap.size w v xs := by
  rcases open_ints ht he hc h with ⟨hcs, _⟩ | ⟨a, len, cap, zs, hcs, _, hl, hm, hz, _, hcell, _⟩
  · have : v = nilv := by simpa using hcs
    subst this
    exact ⟨[], (Ints.nil_ w).mono (Nat.le_refl 0) (Nat.zero_le _)⟩
  · have : v = .slice (some a) len cap := by simpa using hcs
    subst this
    simp only [if_true] at hz
    have hlen : (zs.take len).length = len := by rw [List.length_take]; omega
    refine ⟨zs.take len, ⟨⟨some a, cap, by rw [List.length_map, hlen], by rw [List.length_map, hlen]; omega, by simp only [maxLen] at hm; omega, fun k u hu => ?_⟩⟩⟩
    rw [List.getElem?_map, List.getElem?_take] at hu
    split at hu
    · have hk : k < zs.length := by omega
      have hck := hcell k hk
      rw [List.getElem?_eq_getElem hk] at hu
      simp only [Option.map_some, Option.some.injEq] at hu
      have e : zs.getD k 0 = zs[k] := by simp [hk]
      rw [e, hu] at hck
      exact ⟨a, rfl, Nat.zero_le _, by have := block_lt hck; rwa [add_block] at this, hck⟩
    · cases hu
theorem sl_of {a : Addr} {len cap m : Nat} {V : Nat → Value} (hl : len ≤ cap) (hm : cap ≤ maxLen) (hlm : len ≤ m) (hx : ∀ i, i < m → w.cell? (a.add i) = some (V i)) : Sl 0 w.heap.size w (.slice (some a) len cap) ((List.range len).map V) := by
  refine ⟨⟨some a, cap, by simp, by simpa using hl, by simp only [maxLen] at hm; omega, fun k u hu => ?_⟩⟩
  rw [List.getElem?_map] at hu
  by_cases hk : k < len
  · rw [List.getElem?_range hk] at hu
    simp only [Option.map_some, Option.some.injEq] at hu
    have hck := hx k (by omega)
    rw [hu] at hck
    exact ⟨a, rfl, Nat.zero_le _, by have := block_lt hck; rwa [add_block] at this, hck⟩
  · rw [List.getElem?_eq_none (by simp; omega)] at hu; cases hu
theorem getD_map_range {α : Type} {n i : Nat} {f : Nat → α} {d : α} (h : i < n) : ((List.range n).map f).getD i d = f i := by simp [h]
theorem getD_map_range' {α : Type} {n i : Nat} {f : Nat → α} {d : α} (h : ¬ i < n) : ((List.range n).map f).getD i d = d := by
  rw [List.getD_eq_getElem?_getD, List.getElem?_eq_none (by simp; omega)]; rfl
theorem Rows.nil_ (w : World) : Rows 0 w.heap.size w nilv [] [] :=
  ⟨⟨⟨none, 0, rfl, Nat.le_refl _, by omega, fun k u hu => by simp at hu⟩⟩, rfl, fun i => by simpa using (Ints.nil_ w).mono (Nat.le_refl 0) (Nat.zero_le _)⟩
theorem rows_of_trod {t e q : TypeId} (ht : P.underlying t = some (.slice e)) (he : P.underlying e = some (.slice q)) (hq : P.underlying q = some (.int .i64)) (ce : P.cellsOf e = 1) (cq : P.cellsOf q = 1)
    (h : DataW.trod enc P w base (fun _ => true) held fuel t [v] = some x) : ∃ us xss, Rows 0 w.heap.size w v us xss := by
  rcases open_slice1 ht ce h with ⟨hcs, _⟩ | ⟨a, len, cap, m, n, V, D, Pl, hcs, _, hl, hm, hmm, _, hx⟩
  · have : v = nilv := by simpa using hcs
    subst this
    exact ⟨[], [], Rows.nil_ w⟩
  · have : v = .slice (some a) len cap := by simpa using hcs
    subst this
    simp only [if_true] at hmm
    have hlm : len ≤ m := by omega
    obtain ⟨X, hX⟩ := choose_lt (α := List Int) (n := len) (p := fun i xs => Ints 0 w.heap.size w (V i) xs) fun i hi => ints_of_trod he hq cq (hx i (by omega)).2
    refine ⟨(List.range len).map V, (List.range len).map X, sl_of hl hm hlm fun i hi => (hx i hi).1, by simp, fun i => ?_⟩
    by_cases hi : i < len
    · rw [getD_map_range hi, getD_map_range hi]; exact hX i hi
    · rw [getD_map_range' hi, getD_map_range' hi]; exact (Ints.nil_ w).mono (Nat.le_refl 0) (Nat.zero_le _)
theorem rowss_of_trod {t e q r : TypeId} (ht : P.underlying t = some (.slice e)) (he : P.underlying e = some (.slice q)) (hq : P.underlying q = some (.slice r)) (hr : P.underlying r = some (.int .i64)) (ce : P.cellsOf e = 1) (cq : P.cellsOf q = 1) (cr : P.cellsOf r = 1)
    (h : DataW.trod enc P w base (fun _ => true) held fuel t [v] = some x) : ∃ us uss xsss, Rowss 0 w.heap.size w v us uss xsss := by
  rcases open_slice1 ht ce h with ⟨hcs, _⟩ | ⟨a, len, cap, m, n, V, D, Pl, hcs, _, hl, hm, hmm, _, hx⟩
  · have : v = nilv := by simpa using hcs
    subst this
    exact ⟨[], [], [], ⟨⟨none, 0, rfl, Nat.le_refl _, by omega, fun k u hu => by simp at hu⟩⟩, rfl, rfl, fun i => by simpa using Rows.nil_ w⟩
  · have : v = .slice (some a) len cap := by simpa using hcs
    subst this
    simp only [if_true] at hmm
    have hlm : len ≤ m := by omega
    obtain ⟨X, hX⟩ := choose_lt (α := List Value × List (List Int)) (n := len) (p := fun i y => Rows 0 w.heap.size w (V i) y.1 y.2) fun i hi => by
      obtain ⟨us, xss, hR⟩ := rows_of_trod he hq hr cq cr (hx i (by omega)).2
      exact ⟨(us, xss), hR⟩
    refine ⟨(List.range len).map V, (List.range len).map fun i => (X i).1, (List.range len).map fun i => (X i).2, sl_of hl hm hlm fun i hi => (hx i hi).1, by simp, by simp, fun i => ?_⟩
    by_cases hi : i < len
    · rw [getD_map_range hi, getD_map_range hi, getD_map_range hi]; exact hX i hi
    · rw [getD_map_range' hi, getD_map_range' hi, getD_map_range' hi]; exact Rows.nil_ w
end
end Go.Pc

/-
  Walks: the reference's small functions on lists (In, Own, Unit, Same, Zero, ..).
  Conditions: stated at each theorem: what the arguments read as, and that lists are short.
-/
namespace Go.Proofs.Ytjcmdmjlhngjcaa
open Go Go.Pc
set_option maxHeartbeats 400000 in
theorem l01Own_ok {w : World} {v : Value} {xs : List Int} {lo hi : Nat} [hx : Ints lo hi w v xs] (hl : xs.length ≤ 2000000) :
    Calls Try.prog 52 #[v] w (Ret fun v' w' => Ext w w' ∧ Fr w.heap.size w' v' xs) := by
  refine enter (args := [v]) (l := [.tmp 2]) Try.func52 rfl rfl Try.ntmps52 (by simp) ?_
  repeat (first | (show rops _ _ _ _ (_ :: _) _ _; first | refine ra (next := ?_) | refine rk (next := ?_) | refine rku (next := ?_)) | refine st_end ?_ | refine thn_normal ?_ | refine r_seq ?_ | refine r_region rfl ?_ | refine thn_exit ?_ | refine thn_ret ?_ | refine inBlk_normal ?_ | refine inBlk_ret ?_ | refine inBlk_hit ?_ | refine inBlk_miss (by decide) ?_ | refine forQ_exit ?_ | refine forQ_ret ?_ | refine loopQ_exit ?_ | refine loopQ_ret ?_ | refine r_block ?_ | refine r_skip ?_ | refine r_exit ?_ | refine r_ret ?_ | (show rwp _ _ (.cond _ _ _) _ _ _; first | refine c_t (h := ?_) | refine c_f (h := ?_)))
  refine st_slice0 (by first | exact True.intro | exact ⟨_, rfl, by ((try simp only [ev_tmp, ev_const, ev_func, get_put, get_args, get_putL, get_putL_nil, Nat.reduceEqDiff, reduceIte, List.getD_cons_zero, List.getD_cons_succ, List.getD_nil, Bool.not_true, Bool.not_false]); first | done | with_reducible rfl)⟩) fun w1 v1 he1 hs1 ho1 => ?_
  repeat (first | (show rops _ _ _ _ (_ :: _) _ _; first | refine ra (next := ?_) | refine rk (next := ?_) | refine rku (next := ?_)) | refine st_end ?_ | refine thn_normal ?_ | refine r_seq ?_ | refine r_region rfl ?_ | refine thn_exit ?_ | refine thn_ret ?_ | refine inBlk_normal ?_ | refine inBlk_ret ?_ | refine inBlk_hit ?_ | refine inBlk_miss (by decide) ?_ | refine forQ_exit ?_ | refine forQ_ret ?_ | refine loopQ_exit ?_ | refine loopQ_ret ?_ | refine r_block ?_ | refine r_skip ?_ | refine r_exit ?_ | refine r_ret ?_ | (show rwp _ _ (.cond _ _ _) _ _ _; first | refine c_t (h := ?_) | refine c_f (h := ?_)))
  have hN := ho1.toN
  have hsl : Sl lo hi w1 v _ := Sl.ext (h := hx.sl)
  refine st_append (hv := hN) (hy := hsl) (by ((try simp only [ev_tmp, ev_const, ev_func, get_put, get_args, get_putL, get_putL_nil, Nat.reduceEqDiff, reduceIte, List.getD_cons_zero, List.getD_cons_succ, List.getD_nil]); first | done | with_reducible rfl)) (by ((try simp only [ev_tmp, ev_const, ev_func, get_put, get_args, get_putL, get_putL_nil, Nat.reduceEqDiff, reduceIte, List.getD_cons_zero, List.getD_cons_succ, List.getD_nil]); first | done | with_reducible rfl)) rfl (oneCells xs) (by simp; omega) (by simp [maxLen]; omega) (by omega) (by first | exact True.intro | exact ⟨_, rfl, by ((try simp only [ev_tmp, ev_const, ev_func, get_put, get_args, get_putL, get_putL_nil, Nat.reduceEqDiff, reduceIte, List.getD_cons_zero, List.getD_cons_succ, List.getD_nil, Bool.not_true, Bool.not_false]); first | done | with_reducible rfl)⟩) fun v2 w2 ho2 hg2 ha2 => ?_
  repeat (first | (show rops _ _ _ _ (_ :: _) _ _; first | refine ra (next := ?_) | refine rk (next := ?_) | refine rku (next := ?_)) | refine st_end ?_ | refine thn_normal ?_ | refine r_seq ?_ | refine r_region rfl ?_ | refine thn_exit ?_ | refine thn_ret ?_ | refine inBlk_normal ?_ | refine inBlk_ret ?_ | refine inBlk_hit ?_ | refine inBlk_miss (by decide) ?_ | refine forQ_exit ?_ | refine forQ_ret ?_ | refine loopQ_exit ?_ | refine loopQ_ret ?_ | refine r_block ?_ | refine r_skip ?_ | refine r_exit ?_ | refine r_ret ?_ | (show rwp _ _ (.cond _ _ _) _ _ _; first | refine c_t (h := ?_) | refine c_f (h := ?_)))
  have hN2 : OwnN 2 w.heap.size w2 v2 (xs.map (Value.int .i64)) := by simpa using ho2
  refine ret1 ⟨?_, hN2.toFr⟩
  obtain ⟨cap, cur, hv1, _⟩ := ho1.ex
  exact ⟨he1.below.grown hg2 (by omega) (fun k hk => by rw [hv1] at hk; simp [Value.ownBlock] at hk; omega)⟩
set_option maxHeartbeats 400000 in
theorem l07Unit_ok {w : World} {n i : Nat} {kn ki : Int} (hkn : kn = n) (hki : ki = i) (hn : n ≤ 2000000) (hi : i < n) :
    Calls Try.prog 69 #[.int .i64 kn, .int .i64 ki] w (Ret fun v' w' => Ext w w' ∧ Fr w.heap.size w' v' ((zeros n).set i 1)) := by
  subst hkn hki
  refine enter (args := [.int .i64 n, .int .i64 i]) (l := [.tmp 4]) Try.func69 rfl rfl Try.ntmps69 (by simp) ?_
  repeat (first | (show rops _ _ _ _ (_ :: _) _ _; first | refine ra (next := ?_) | refine rk (next := ?_) | refine rku (next := ?_)) | refine st_end ?_ | refine thn_normal ?_ | refine r_seq ?_ | refine r_region rfl ?_ | refine thn_exit ?_ | refine thn_ret ?_ | refine inBlk_normal ?_ | refine inBlk_ret ?_ | refine inBlk_hit ?_ | refine inBlk_miss (by decide) ?_ | refine forQ_exit ?_ | refine forQ_ret ?_ | refine loopQ_exit ?_ | refine loopQ_ret ?_ | refine r_block ?_ | refine r_skip ?_ | refine r_exit ?_ | refine r_ret ?_ | (show rwp _ _ (.cond _ _ _) _ _ _; first | refine c_t (h := ?_) | refine c_f (h := ?_)))
  refine st_make_int (by ((try simp only [ev_tmp, ev_const, ev_func, get_put, get_args, get_putL, get_putL_nil, Nat.reduceEqDiff, reduceIte, List.getD_cons_zero, List.getD_cons_succ, List.getD_nil]); first | done | with_reducible rfl)) (by ((try simp only [ev_tmp, ev_const, ev_func, get_put, get_args, get_putL, get_putL_nil, Nat.reduceEqDiff, reduceIte, List.getD_cons_zero, List.getD_cons_succ, List.getD_nil]); first | done | with_reducible rfl)) (by omega) (by omega) (by first | exact True.intro | exact ⟨_, rfl, by ((try simp only [ev_tmp, ev_const, ev_func, get_put, get_args, get_putL, get_putL_nil, Nat.reduceEqDiff, reduceIte, List.getD_cons_zero, List.getD_cons_succ, List.getD_nil, Bool.not_true, Bool.not_false]); first | done | with_reducible rfl)⟩) fun w1 v1 he1 hs1 ho1 => ?_
  have hlen : (List.replicate n (0 : Int)).length = n := by simp
  repeat (first | (show rops _ _ _ _ (_ :: _) _ _; first | refine ra (next := ?_) | refine rk (next := ?_) | refine rku (next := ?_)) | refine st_end ?_ | refine thn_normal ?_ | refine r_seq ?_ | refine r_region rfl ?_ | refine thn_exit ?_ | refine thn_ret ?_ | refine inBlk_normal ?_ | refine inBlk_ret ?_ | refine inBlk_hit ?_ | refine inBlk_miss (by decide) ?_ | refine forQ_exit ?_ | refine forQ_ret ?_ | refine loopQ_exit ?_ | refine loopQ_ret ?_ | refine r_block ?_ | refine r_skip ?_ | refine r_exit ?_ | refine r_ret ?_ | (show rwp _ _ (.cond _ _ _) _ _ _; first | refine c_t (h := ?_) | refine c_f (h := ?_)))
  refine st_store_int (by ((try simp only [ev_tmp, ev_const, ev_func, get_put, get_args, get_putL, get_putL_nil, Nat.reduceEqDiff, reduceIte, List.getD_cons_zero, List.getD_cons_succ, List.getD_nil]); first | done | with_reducible rfl)) (by ((try simp only [ev_tmp, ev_const, ev_func, get_put, get_args, get_putL, get_putL_nil, Nat.reduceEqDiff, reduceIte, List.getD_cons_zero, List.getD_cons_succ, List.getD_nil]); first | done | with_reducible rfl)) ?_ (by first | exact True.intro | exact ⟨_, rfl, by ((try simp only [ev_tmp, ev_const, ev_func, get_put, get_args, get_putL, get_putL_nil, Nat.reduceEqDiff, reduceIte, List.getD_cons_zero, List.getD_cons_succ, List.getD_nil, Bool.not_true, Bool.not_false]); first | done | with_reducible rfl)⟩) fun w2 hc2 hs2 ho2 => ?_
  · omega
  repeat (first | (show rops _ _ _ _ (_ :: _) _ _; first | refine ra (next := ?_) | refine rk (next := ?_) | refine rku (next := ?_)) | refine st_end ?_ | refine thn_normal ?_ | refine r_seq ?_ | refine r_region rfl ?_ | refine thn_exit ?_ | refine thn_ret ?_ | refine inBlk_normal ?_ | refine inBlk_ret ?_ | refine inBlk_hit ?_ | refine inBlk_miss (by decide) ?_ | refine forQ_exit ?_ | refine forQ_ret ?_ | refine loopQ_exit ?_ | refine loopQ_ret ?_ | refine r_block ?_ | refine r_skip ?_ | refine r_exit ?_ | refine r_ret ?_ | (show rwp _ _ (.cond _ _ _) _ _ _; first | refine c_t (h := ?_) | refine c_f (h := ?_)))
  exact ret1 ⟨hc2.ext he1 (Nat.le_refl _), ho2.toFr (Nat.le_refl _)⟩
theorem take_succ_eq {xs ys : List Int} {k : Nat} (h : xs.take k = ys.take k) (hk : k < xs.length) (hl : xs.length = ys.length) (e : xs.getD k 0 = ys.getD k 0) : xs.take (k + 1) = ys.take (k + 1) := by
  rw [List.take_succ_eq_append_getElem hk, List.take_succ_eq_append_getElem (by omega), h]
  simp [hk, show k < ys.length by omega] at e
  rw [e]
set_option maxHeartbeats 400000 in
theorem l01Same_ok {w : World} {va vb : Value} {xs ys : List Int} {lo hi lo' hi' : Nat} [hx : Ints lo hi w va xs] [hy : Ints lo' hi' w vb ys] (hm : xs.length ≤ 2000000) :
    Calls Try.prog 35 #[va, vb] w (Ret fun v w' => ∃ b, v = .bool b ∧ (b = true ↔ xs = ys) ∧ Ext w w') := by
  refine enter (args := [va, vb]) (l := [.tmp 4]) Try.func35 rfl rfl Try.ntmps35 (by simp) ?_
  repeat (first | (show rops _ _ _ _ (_ :: _) _ _; first | refine ra (next := ?_) | refine rk (next := ?_) | refine rku (next := ?_)) | refine st_end ?_ | refine thn_normal ?_ | refine r_seq ?_ | refine r_region rfl ?_ | refine thn_exit ?_ | refine thn_ret ?_ | refine inBlk_normal ?_ | refine inBlk_ret ?_ | refine inBlk_hit ?_ | refine inBlk_miss (by decide) ?_ | refine forQ_exit ?_ | refine forQ_ret ?_ | refine loopQ_exit ?_ | refine loopQ_ret ?_ | refine r_block ?_ | refine r_skip ?_ | refine r_exit ?_ | refine r_ret ?_ | (show rwp _ _ (.cond _ _ _) _ _ _; first | refine c_t (h := ?_) | refine c_f (h := ?_)))
  refine c_if (fun h1 => ?_) (fun h1 => ?_)
  · repeat (first | (show rops _ _ _ _ (_ :: _) _ _; first | refine ra (next := ?_) | refine rk (next := ?_) | refine rku (next := ?_)) | refine st_end ?_ | refine thn_normal ?_ | refine r_seq ?_ | refine r_region rfl ?_ | refine thn_exit ?_ | refine thn_ret ?_ | refine inBlk_normal ?_ | refine inBlk_ret ?_ | refine inBlk_hit ?_ | refine inBlk_miss (by decide) ?_ | refine forQ_exit ?_ | refine forQ_ret ?_ | refine loopQ_exit ?_ | refine loopQ_ret ?_ | refine r_block ?_ | refine r_skip ?_ | refine r_exit ?_ | refine r_ret ?_ | (show rwp _ _ (.cond _ _ _) _ _ _; first | refine c_t (h := ?_) | refine c_f (h := ?_)))
    refine ret1 ⟨_, rfl, ?_, Ext.refl _⟩
    simp only [Bool.false_eq_true, false_iff]
    rintro rfl
    simp at h1
  · repeat (first | (show rops _ _ _ _ (_ :: _) _ _; first | refine ra (next := ?_) | refine rk (next := ?_) | refine rku (next := ?_)) | refine st_end ?_ | refine thn_normal ?_ | refine r_seq ?_ | refine r_region rfl ?_ | refine thn_exit ?_ | refine thn_ret ?_ | refine inBlk_normal ?_ | refine inBlk_ret ?_ | refine inBlk_hit ?_ | refine inBlk_miss (by decide) ?_ | refine forQ_exit ?_ | refine forQ_ret ?_ | refine loopQ_exit ?_ | refine loopQ_ret ?_ | refine r_block ?_ | refine r_skip ?_ | refine r_exit ?_ | refine r_ret ?_ | (show rwp _ _ (.cond _ _ _) _ _ _; first | refine c_t (h := ?_) | refine c_f (h := ?_)))
    refine r_for xs.length (fun k ρ w' => Has ρ [(0, va), (1, vb), (5, .int .i64 k)] ∧ Ext w w' ∧ xs.take k = ys.take k) ?_ ?_
    · refine ⟨?_, Ext.refl _, rfl⟩
      simp only [Has, ev_tmp, ev_const, ev_func, get_put, get_args, get_putL, get_putL_nil, Nat.reduceEqDiff, reduceIte, List.getD_cons_zero, List.getD_cons_succ, List.getD_nil]; simp
    · rintro k ρ w1 hk ⟨hH, he, ht⟩
      refine rwp_has hH fun ρ0 => ?_
      repeat (first | (show rops _ _ _ _ (_ :: _) _ _; first | refine ra (next := ?_) | refine rk (next := ?_) | refine rku (next := ?_)) | refine st_end ?_ | refine thn_normal ?_ | refine r_seq ?_ | refine r_region rfl ?_ | refine thn_exit ?_ | refine thn_ret ?_ | refine inBlk_normal ?_ | refine inBlk_ret ?_ | refine inBlk_hit ?_ | refine inBlk_miss (by decide) ?_ | refine forQ_exit ?_ | refine forQ_ret ?_ | refine loopQ_exit ?_ | refine loopQ_ret ?_ | refine r_block ?_ | refine r_skip ?_ | refine r_exit ?_ | refine r_ret ?_ | (show rwp _ _ (.cond _ _ _) _ _ _; first | refine c_t (h := ?_) | refine c_f (h := ?_)))
      refine c_if (fun h2 => ?_) (fun h2 => ?_)
      · repeat (first | (show rops _ _ _ _ (_ :: _) _ _; first | refine ra (next := ?_) | refine rk (next := ?_) | refine rku (next := ?_)) | refine st_end ?_ | refine thn_normal ?_ | refine r_seq ?_ | refine r_region rfl ?_ | refine thn_exit ?_ | refine thn_ret ?_ | refine inBlk_normal ?_ | refine inBlk_ret ?_ | refine inBlk_hit ?_ | refine inBlk_miss (by decide) ?_ | refine forQ_exit ?_ | refine forQ_ret ?_ | refine loopQ_exit ?_ | refine loopQ_ret ?_ | refine r_block ?_ | refine r_skip ?_ | refine r_exit ?_ | refine r_ret ?_ | (show rwp _ _ (.cond _ _ _) _ _ _; first | refine c_t (h := ?_) | refine c_f (h := ?_)))
        refine d_region fun w2 he2 _ => ?_
        repeat (first | refine da (next := ?_) | refine dsk (next := ?_) | refine dsku (next := ?_))
        refine d_end (h := ?_)
        repeat (first | (show rops _ _ _ _ (_ :: _) _ _; first | refine ra (next := ?_) | refine rk (next := ?_) | refine rku (next := ?_)) | refine st_end ?_ | refine thn_normal ?_ | refine r_seq ?_ | refine r_region rfl ?_ | refine thn_exit ?_ | refine thn_ret ?_ | refine inBlk_normal ?_ | refine inBlk_ret ?_ | refine inBlk_hit ?_ | refine inBlk_miss (by decide) ?_ | refine forQ_exit ?_ | refine forQ_ret ?_ | refine loopQ_exit ?_ | refine loopQ_ret ?_ | refine r_block ?_ | refine r_skip ?_ | refine r_exit ?_ | refine r_ret ?_ | (show rwp _ _ (.cond _ _ _) _ _ _; first | refine c_t (h := ?_) | refine c_f (h := ?_)))
        refine c_if (fun h3 => ?_) (fun h3 => ?_)
        · repeat (first | (show rops _ _ _ _ (_ :: _) _ _; first | refine ra (next := ?_) | refine rk (next := ?_) | refine rku (next := ?_)) | refine st_end ?_ | refine thn_normal ?_ | refine r_seq ?_ | refine r_region rfl ?_ | refine thn_exit ?_ | refine thn_ret ?_ | refine inBlk_normal ?_ | refine inBlk_ret ?_ | refine inBlk_hit ?_ | refine inBlk_miss (by decide) ?_ | refine forQ_exit ?_ | refine forQ_ret ?_ | refine loopQ_exit ?_ | refine loopQ_ret ?_ | refine r_block ?_ | refine r_skip ?_ | refine r_exit ?_ | refine r_ret ?_ | (show rwp _ _ (.cond _ _ _) _ _ _; first | refine c_t (h := ?_) | refine c_f (h := ?_)))
          refine ret1 ⟨_, rfl, ?_, he.trans he2⟩
          simp only [Bool.false_eq_true, false_iff]
          rintro rfl
          exact h3 rfl
        · repeat (first | (show rops _ _ _ _ (_ :: _) _ _; first | refine ra (next := ?_) | refine rk (next := ?_) | refine rku (next := ?_)) | refine st_end ?_ | refine thn_normal ?_ | refine r_seq ?_ | refine r_region rfl ?_ | refine thn_exit ?_ | refine thn_ret ?_ | refine inBlk_normal ?_ | refine inBlk_ret ?_ | refine inBlk_hit ?_ | refine inBlk_miss (by decide) ?_ | refine forQ_exit ?_ | refine forQ_ret ?_ | refine loopQ_exit ?_ | refine loopQ_ret ?_ | refine r_block ?_ | refine r_skip ?_ | refine r_exit ?_ | refine r_ret ?_ | (show rwp _ _ (.cond _ _ _) _ _ _; first | refine c_t (h := ?_) | refine c_f (h := ?_)))
          refine forQ_normal (by omega) ⟨?_, he.trans he2, take_succ_eq ht (by omega) (by omega) ?_⟩
          · simp only [Has, ev_tmp, ev_const, ev_func, get_put, get_args, get_putL, get_putL_nil, Nat.reduceEqDiff, reduceIte, List.getD_cons_zero, List.getD_cons_succ, List.getD_nil]; simp
          · exact Decidable.not_not.1 h3
      · repeat (first | (show rops _ _ _ _ (_ :: _) _ _; first | refine ra (next := ?_) | refine rk (next := ?_) | refine rku (next := ?_)) | refine st_end ?_ | refine thn_normal ?_ | refine r_seq ?_ | refine r_region rfl ?_ | refine thn_exit ?_ | refine thn_ret ?_ | refine inBlk_normal ?_ | refine inBlk_ret ?_ | refine inBlk_hit ?_ | refine inBlk_miss (by decide) ?_ | refine forQ_exit ?_ | refine forQ_ret ?_ | refine loopQ_exit ?_ | refine loopQ_ret ?_ | refine r_block ?_ | refine r_skip ?_ | refine r_exit ?_ | refine r_ret ?_ | (show rwp _ _ (.cond _ _ _) _ _ _; first | refine c_t (h := ?_) | refine c_f (h := ?_)))
        refine ret1 ⟨_, rfl, ?_, he⟩
        have : k = xs.length := by omega
        subst this
        simp only [true_iff]
        rw [List.take_of_length_le (Nat.le_refl _), List.take_of_length_le (by omega)] at ht
        exact ht
set_option maxHeartbeats 400000 in
theorem eqInt64S_ok {w : World} {va vb : Value} {xs ys : List Int} {lo hi lo' hi' : Nat} [hx : Ints lo hi w va xs] [hy : Ints lo' hi' w vb ys] (hm : xs.length ≤ 2000000) :
    Calls Try.prog 19 #[va, vb] w (Ret fun v w' => ∃ b, v = .bool b ∧ (b = true ↔ xs = ys) ∧ Ext w w') := by
  refine enter (args := [va, vb]) (l := [.tmp 4]) Try.func19 rfl rfl Try.ntmps19 (by simp) ?_
  repeat (first | (show rops _ _ _ _ (_ :: _) _ _; first | refine ra (next := ?_) | refine rk (next := ?_) | refine rku (next := ?_)) | refine st_end ?_ | refine thn_normal ?_ | refine r_seq ?_ | refine r_region rfl ?_ | refine thn_exit ?_ | refine thn_ret ?_ | refine inBlk_normal ?_ | refine inBlk_ret ?_ | refine inBlk_hit ?_ | refine inBlk_miss (by decide) ?_ | refine forQ_exit ?_ | refine forQ_ret ?_ | refine loopQ_exit ?_ | refine loopQ_ret ?_ | refine r_block ?_ | refine r_skip ?_ | refine r_exit ?_ | refine r_ret ?_ | (show rwp _ _ (.cond _ _ _) _ _ _; first | refine c_t (h := ?_) | refine c_f (h := ?_)))
  refine c_if (fun h1 => ?_) (fun h1 => ?_)
  · repeat (first | (show rops _ _ _ _ (_ :: _) _ _; first | refine ra (next := ?_) | refine rk (next := ?_) | refine rku (next := ?_)) | refine st_end ?_ | refine thn_normal ?_ | refine r_seq ?_ | refine r_region rfl ?_ | refine thn_exit ?_ | refine thn_ret ?_ | refine inBlk_normal ?_ | refine inBlk_ret ?_ | refine inBlk_hit ?_ | refine inBlk_miss (by decide) ?_ | refine forQ_exit ?_ | refine forQ_ret ?_ | refine loopQ_exit ?_ | refine loopQ_ret ?_ | refine r_block ?_ | refine r_skip ?_ | refine r_exit ?_ | refine r_ret ?_ | (show rwp _ _ (.cond _ _ _) _ _ _; first | refine c_t (h := ?_) | refine c_f (h := ?_)))
    refine ret1 ⟨_, rfl, ?_, Ext.refl _⟩
    simp only [Bool.false_eq_true, false_iff]
    rintro rfl
    simp at h1
  · repeat (first | (show rops _ _ _ _ (_ :: _) _ _; first | refine ra (next := ?_) | refine rk (next := ?_) | refine rku (next := ?_)) | refine st_end ?_ | refine thn_normal ?_ | refine r_seq ?_ | refine r_region rfl ?_ | refine thn_exit ?_ | refine thn_ret ?_ | refine inBlk_normal ?_ | refine inBlk_ret ?_ | refine inBlk_hit ?_ | refine inBlk_miss (by decide) ?_ | refine forQ_exit ?_ | refine forQ_ret ?_ | refine loopQ_exit ?_ | refine loopQ_ret ?_ | refine r_block ?_ | refine r_skip ?_ | refine r_exit ?_ | refine r_ret ?_ | (show rwp _ _ (.cond _ _ _) _ _ _; first | refine c_t (h := ?_) | refine c_f (h := ?_)))
    refine r_for xs.length (fun k ρ w' => Has ρ [(0, va), (1, vb), (5, .int .i64 k)] ∧ Ext w w' ∧ xs.take k = ys.take k) ?_ ?_
    · refine ⟨?_, Ext.refl _, rfl⟩
      simp only [Has, ev_tmp, ev_const, ev_func, get_put, get_args, get_putL, get_putL_nil, Nat.reduceEqDiff, reduceIte, List.getD_cons_zero, List.getD_cons_succ, List.getD_nil]; simp
    · rintro k ρ w1 hk ⟨hH, he, ht⟩
      refine rwp_has hH fun ρ0 => ?_
      repeat (first | (show rops _ _ _ _ (_ :: _) _ _; first | refine ra (next := ?_) | refine rk (next := ?_) | refine rku (next := ?_)) | refine st_end ?_ | refine thn_normal ?_ | refine r_seq ?_ | refine r_region rfl ?_ | refine thn_exit ?_ | refine thn_ret ?_ | refine inBlk_normal ?_ | refine inBlk_ret ?_ | refine inBlk_hit ?_ | refine inBlk_miss (by decide) ?_ | refine forQ_exit ?_ | refine forQ_ret ?_ | refine loopQ_exit ?_ | refine loopQ_ret ?_ | refine r_block ?_ | refine r_skip ?_ | refine r_exit ?_ | refine r_ret ?_ | (show rwp _ _ (.cond _ _ _) _ _ _; first | refine c_t (h := ?_) | refine c_f (h := ?_)))
      refine c_if (fun h2 => ?_) (fun h2 => ?_)
      · repeat (first | (show rops _ _ _ _ (_ :: _) _ _; first | refine ra (next := ?_) | refine rk (next := ?_) | refine rku (next := ?_)) | refine st_end ?_ | refine thn_normal ?_ | refine r_seq ?_ | refine r_region rfl ?_ | refine thn_exit ?_ | refine thn_ret ?_ | refine inBlk_normal ?_ | refine inBlk_ret ?_ | refine inBlk_hit ?_ | refine inBlk_miss (by decide) ?_ | refine forQ_exit ?_ | refine forQ_ret ?_ | refine loopQ_exit ?_ | refine loopQ_ret ?_ | refine r_block ?_ | refine r_skip ?_ | refine r_exit ?_ | refine r_ret ?_ | (show rwp _ _ (.cond _ _ _) _ _ _; first | refine c_t (h := ?_) | refine c_f (h := ?_)))
        refine d_region fun w2 he2 _ => ?_
        repeat (first | refine da (next := ?_) | refine dsk (next := ?_) | refine dsku (next := ?_))
        refine d_end (h := ?_)
        repeat (first | (show rops _ _ _ _ (_ :: _) _ _; first | refine ra (next := ?_) | refine rk (next := ?_) | refine rku (next := ?_)) | refine st_end ?_ | refine thn_normal ?_ | refine r_seq ?_ | refine r_region rfl ?_ | refine thn_exit ?_ | refine thn_ret ?_ | refine inBlk_normal ?_ | refine inBlk_ret ?_ | refine inBlk_hit ?_ | refine inBlk_miss (by decide) ?_ | refine forQ_exit ?_ | refine forQ_ret ?_ | refine loopQ_exit ?_ | refine loopQ_ret ?_ | refine r_block ?_ | refine r_skip ?_ | refine r_exit ?_ | refine r_ret ?_ | (show rwp _ _ (.cond _ _ _) _ _ _; first | refine c_t (h := ?_) | refine c_f (h := ?_)))
        refine c_if (fun h3 => ?_) (fun h3 => ?_)
        · repeat (first | (show rops _ _ _ _ (_ :: _) _ _; first | refine ra (next := ?_) | refine rk (next := ?_) | refine rku (next := ?_)) | refine st_end ?_ | refine thn_normal ?_ | refine r_seq ?_ | refine r_region rfl ?_ | refine thn_exit ?_ | refine thn_ret ?_ | refine inBlk_normal ?_ | refine inBlk_ret ?_ | refine inBlk_hit ?_ | refine inBlk_miss (by decide) ?_ | refine forQ_exit ?_ | refine forQ_ret ?_ | refine loopQ_exit ?_ | refine loopQ_ret ?_ | refine r_block ?_ | refine r_skip ?_ | refine r_exit ?_ | refine r_ret ?_ | (show rwp _ _ (.cond _ _ _) _ _ _; first | refine c_t (h := ?_) | refine c_f (h := ?_)))
          refine ret1 ⟨_, rfl, ?_, he.trans he2⟩
          simp only [Bool.false_eq_true, false_iff]
          rintro rfl
          exact h3 rfl
        · repeat (first | (show rops _ _ _ _ (_ :: _) _ _; first | refine ra (next := ?_) | refine rk (next := ?_) | refine rku (next := ?_)) | refine st_end ?_ | refine thn_normal ?_ | refine r_seq ?_ | refine r_region rfl ?_ | refine thn_exit ?_ | refine thn_ret ?_ | refine inBlk_normal ?_ | refine inBlk_ret ?_ | refine inBlk_hit ?_ | refine inBlk_miss (by decide) ?_ | refine forQ_exit ?_ | refine forQ_ret ?_ | refine loopQ_exit ?_ | refine loopQ_ret ?_ | refine r_block ?_ | refine r_skip ?_ | refine r_exit ?_ | refine r_ret ?_ | (show rwp _ _ (.cond _ _ _) _ _ _; first | refine c_t (h := ?_) | refine c_f (h := ?_)))
          refine forQ_normal (by omega) ⟨?_, he.trans he2, take_succ_eq ht (by omega) (by omega) ?_⟩
          · simp only [Has, ev_tmp, ev_const, ev_func, get_put, get_args, get_putL, get_putL_nil, Nat.reduceEqDiff, reduceIte, List.getD_cons_zero, List.getD_cons_succ, List.getD_nil]; simp
          · exact Decidable.not_not.1 h3
      · repeat (first | (show rops _ _ _ _ (_ :: _) _ _; first | refine ra (next := ?_) | refine rk (next := ?_) | refine rku (next := ?_)) | refine st_end ?_ | refine thn_normal ?_ | refine r_seq ?_ | refine r_region rfl ?_ | refine thn_exit ?_ | refine thn_ret ?_ | refine inBlk_normal ?_ | refine inBlk_ret ?_ | refine inBlk_hit ?_ | refine inBlk_miss (by decide) ?_ | refine forQ_exit ?_ | refine forQ_ret ?_ | refine loopQ_exit ?_ | refine loopQ_ret ?_ | refine r_block ?_ | refine r_skip ?_ | refine r_exit ?_ | refine r_ret ?_ | (show rwp _ _ (.cond _ _ _) _ _ _; first | refine c_t (h := ?_) | refine c_f (h := ?_)))
        refine ret1 ⟨_, rfl, ?_, he⟩
        have : k = xs.length := by omega
        subst this
        simp only [true_iff]
        rw [List.take_of_length_le (Nat.le_refl _), List.take_of_length_le (by omega)] at ht
        exact ht
end Go.Proofs.Ytjcmdmjlhngjcaa

/-
  Walks: the reference's remainder and inverse of numbers (l01Mod, l01Inv) and the comparison of two lists of lists (l01Same2).
  Conditions: stated at each theorem.
-/
namespace Go.Proofs.Ytjcmdmjlhngjcaa
open Go Go.Pc
theorem l01Mod_ok {w : World} {a m : Int} (ha : 0 ≤ a ∧ a ≤ 2000000) (hm : 1 ≤ m ∧ m ≤ 2000000) :
    Calls Try.prog 56 #[.int .i64 a, .int .i64 m] w (Ret fun v w' => v = .int .i64 (a % m) ∧ Ext w w') := by
  refine enter (args := [.int .i64 a, .int .i64 m]) (l := [.tmp 4]) Try.func56 rfl rfl Try.ntmps56 (by simp) ?_
  repeat (first | (show rops _ _ _ _ (_ :: _) _ _; first | refine ra (next := ?_) | refine rk (next := ?_) | refine rku (next := ?_)) | refine st_end ?_ | refine thn_normal ?_ | refine r_seq ?_ | refine r_region rfl ?_ | refine thn_exit ?_ | refine thn_ret ?_ | refine inBlk_normal ?_ | refine inBlk_ret ?_ | refine inBlk_hit ?_ | refine inBlk_miss (by decide) ?_ | refine forQ_exit ?_ | refine forQ_ret ?_ | refine loopQ_exit ?_ | refine loopQ_ret ?_ | refine r_block ?_ | refine r_skip ?_ | refine r_exit ?_ | refine r_ret ?_ | (show rwp _ _ (.cond _ _ _) _ _ _; first | refine c_t (h := ?_) | refine c_f (h := ?_)))
  have h0 := Int.emod_nonneg a (show m ≠ 0 by omega)
  refine c_if (fun h4 => ?_) (fun h4 => ?_)
  · omega
  · repeat (first | (show rops _ _ _ _ (_ :: _) _ _; first | refine ra (next := ?_) | refine rk (next := ?_) | refine rku (next := ?_)) | refine st_end ?_ | refine thn_normal ?_ | refine r_seq ?_ | refine r_region rfl ?_ | refine thn_exit ?_ | refine thn_ret ?_ | refine inBlk_normal ?_ | refine inBlk_ret ?_ | refine inBlk_hit ?_ | refine inBlk_miss (by decide) ?_ | refine forQ_exit ?_ | refine forQ_ret ?_ | refine loopQ_exit ?_ | refine loopQ_ret ?_ | refine r_block ?_ | refine r_skip ?_ | refine r_exit ?_ | refine r_ret ?_ | (show rwp _ _ (.cond _ _ _) _ _ _; first | refine c_t (h := ?_) | refine c_f (h := ?_)))
    exact ret1 ⟨rfl, Ext.refl _⟩
theorem inv_ex {a q : Int} (hq : q = 2 ∨ q = 3 ∨ q = 5 ∨ q = 7) (ha : 1 ≤ a ∧ a < q) : ∃ x, 1 ≤ x ∧ x < q ∧ (a * x) % q = 1 := by
  have h : a = 1 ∨ a = 2 ∨ a = 3 ∨ a = 4 ∨ a = 5 ∨ a = 6 := by omega
  rcases hq with rfl | rfl | rfl | rfl <;> rcases h with rfl | rfl | rfl | rfl | rfl | rfl <;>
    first
      | omega
      | exact ⟨1, by decide⟩
      | exact ⟨2, by decide⟩
      | exact ⟨3, by decide⟩
      | exact ⟨4, by decide⟩
      | exact ⟨5, by decide⟩
      | exact ⟨6, by decide⟩
set_option maxHeartbeats 1000000 in
theorem l01Inv_ok {w : World} {a q : Int} (hq : q = 2 ∨ q = 3 ∨ q = 5 ∨ q = 7) (ha : 1 ≤ a ∧ a < q) :
    Calls Try.prog 39 #[.int .i64 a, .int .i64 q] w (Ret fun v w' => ∃ x, v = .int .i64 x ∧ 1 ≤ x ∧ x < q ∧ (a * x) % q = 1 ∧ Ext w w') := by
  refine enter (args := [.int .i64 a, .int .i64 q]) (l := [.tmp 4]) Try.func39 rfl rfl Try.ntmps39 (by simp) ?_
  repeat (first | (show rops _ _ _ _ (_ :: _) _ _; first | refine ra (next := ?_) | refine rk (next := ?_) | refine rku (next := ?_)) | refine st_end ?_ | refine thn_normal ?_ | refine r_seq ?_ | refine r_region rfl ?_ | refine thn_exit ?_ | refine thn_ret ?_ | refine inBlk_normal ?_ | refine inBlk_ret ?_ | refine inBlk_hit ?_ | refine inBlk_miss (by decide) ?_ | refine forQ_exit ?_ | refine forQ_ret ?_ | refine loopQ_exit ?_ | refine loopQ_ret ?_ | refine r_block ?_ | refine r_skip ?_ | refine r_exit ?_ | refine r_ret ?_ | (show rwp _ _ (.cond _ _ _) _ _ _; first | refine c_t (h := ?_) | refine c_f (h := ?_)))
  have hq7 : q ≤ 7 := by omega
  refine r_for (q - 1).toNat (fun k ρ w' => Has ρ [(0, .int .i64 a), (1, .int .i64 q), (5, .int .i64 (1 + k : Nat))] ∧ Ext w w' ∧ ∀ j : Int, 1 ≤ j → j < 1 + k → (a * j) % q ≠ 1) ?_ ?_
  · refine ⟨?_, Ext.refl _, fun j h1 h2 => by omega⟩
    ((try simp only [Has, ev_tmp, ev_const, ev_func, get_put, get_args, get_putL, get_putL_nil, Nat.reduceEqDiff, reduceIte, List.getD_cons_zero, List.getD_cons_succ, List.getD_nil]); repeat' (first | exact True.intro | apply And.intro | with_reducible rfl | exact int_congr (by first | omega | rfl)))
  rintro k ρ w1 hk ⟨hH, he1, hI⟩
  refine rwp_has hH fun ρ0 => ?_
  repeat (first | (show rops _ _ _ _ (_ :: _) _ _; first | refine ra (next := ?_) | refine rk (next := ?_) | refine rku (next := ?_)) | refine st_end ?_ | refine thn_normal ?_ | refine r_seq ?_ | refine r_region rfl ?_ | refine thn_exit ?_ | refine thn_ret ?_ | refine inBlk_normal ?_ | refine inBlk_ret ?_ | refine inBlk_hit ?_ | refine inBlk_miss (by decide) ?_ | refine forQ_exit ?_ | refine forQ_ret ?_ | refine loopQ_exit ?_ | refine loopQ_ret ?_ | refine r_block ?_ | refine r_skip ?_ | refine r_exit ?_ | refine r_ret ?_ | (show rwp _ _ (.cond _ _ _) _ _ _; first | refine c_t (h := ?_) | refine c_f (h := ?_)))
  refine c_if (fun h4 => ?_) (fun h4 => ?_)
  · repeat (first | (show rops _ _ _ _ (_ :: _) _ _; first | refine ra (next := ?_) | refine rk (next := ?_) | refine rku (next := ?_)) | refine st_end ?_ | refine thn_normal ?_ | refine r_seq ?_ | refine r_region rfl ?_ | refine thn_exit ?_ | refine thn_ret ?_ | refine inBlk_normal ?_ | refine inBlk_ret ?_ | refine inBlk_hit ?_ | refine inBlk_miss (by decide) ?_ | refine forQ_exit ?_ | refine forQ_ret ?_ | refine loopQ_exit ?_ | refine loopQ_ret ?_ | refine r_block ?_ | refine r_skip ?_ | refine r_exit ?_ | refine r_ret ?_ | (show rwp _ _ (.cond _ _ _) _ _ _; first | refine c_t (h := ?_) | refine c_f (h := ?_)))
    refine rc (l01Mod_ok (a := a) (m := q) ?_ ?_) (next := fun v2 w2 h2 => ?_)
    · omega
    · omega
    obtain ⟨rfl, he2⟩ := h2
    rw [Int.emod_eq_of_lt (by omega) ha.2]
    have hb : 0 ≤ a * ((1 + k : Nat) : Int) ∧ a * ((1 + k : Nat) : Int) ≤ 7 * 7 :=
      ⟨Int.mul_nonneg (by omega) (by omega), Int.mul_le_mul (by omega) (by omega) (by omega) (by omega)⟩
    repeat (first | (show rops _ _ _ _ (_ :: _) _ _; first | refine ra (next := ?_) | refine rk (next := ?_) | refine rku (next := ?_)) | refine st_end ?_ | refine thn_normal ?_ | refine r_seq ?_ | refine r_region rfl ?_ | refine thn_exit ?_ | refine thn_ret ?_ | refine inBlk_normal ?_ | refine inBlk_ret ?_ | refine inBlk_hit ?_ | refine inBlk_miss (by decide) ?_ | refine forQ_exit ?_ | refine forQ_ret ?_ | refine loopQ_exit ?_ | refine loopQ_ret ?_ | refine r_block ?_ | refine r_skip ?_ | refine r_exit ?_ | refine r_ret ?_ | (show rwp _ _ (.cond _ _ _) _ _ _; first | refine c_t (h := ?_) | refine c_f (h := ?_)))
    refine ra (h := rd_mul (by ((try simp only [ev_tmp, ev_const, ev_func, get_put, get_args, get_putL, get_putL_nil, Nat.reduceEqDiff, reduceIte, List.getD_cons_zero, List.getD_cons_succ, List.getD_nil]); first | done | with_reducible rfl)) (by ((try simp only [ev_tmp, ev_const, ev_func, get_put, get_args, get_putL, get_putL_nil, Nat.reduceEqDiff, reduceIte, List.getD_cons_zero, List.getD_cons_succ, List.getD_nil]); first | done | with_reducible rfl)) ?_) (next := ?_)
    · omega
    repeat (first | (show rops _ _ _ _ (_ :: _) _ _; first | refine ra (next := ?_) | refine rk (next := ?_) | refine rku (next := ?_)) | refine st_end ?_ | refine thn_normal ?_ | refine r_seq ?_ | refine r_region rfl ?_ | refine thn_exit ?_ | refine thn_ret ?_ | refine inBlk_normal ?_ | refine inBlk_ret ?_ | refine inBlk_hit ?_ | refine inBlk_miss (by decide) ?_ | refine forQ_exit ?_ | refine forQ_ret ?_ | refine loopQ_exit ?_ | refine loopQ_ret ?_ | refine r_block ?_ | refine r_skip ?_ | refine r_exit ?_ | refine r_ret ?_ | (show rwp _ _ (.cond _ _ _) _ _ _; first | refine c_t (h := ?_) | refine c_f (h := ?_)))
    refine c_if (fun h5 => ?_) (fun h5 => ?_)
    · repeat (first | (show rops _ _ _ _ (_ :: _) _ _; first | refine ra (next := ?_) | refine rk (next := ?_) | refine rku (next := ?_)) | refine st_end ?_ | refine thn_normal ?_ | refine r_seq ?_ | refine r_region rfl ?_ | refine thn_exit ?_ | refine thn_ret ?_ | refine inBlk_normal ?_ | refine inBlk_ret ?_ | refine inBlk_hit ?_ | refine inBlk_miss (by decide) ?_ | refine forQ_exit ?_ | refine forQ_ret ?_ | refine loopQ_exit ?_ | refine loopQ_ret ?_ | refine r_block ?_ | refine r_skip ?_ | refine r_exit ?_ | refine r_ret ?_ | (show rwp _ _ (.cond _ _ _) _ _ _; first | refine c_t (h := ?_) | refine c_f (h := ?_)))
      exact ret1 ⟨_, rfl, by omega, by omega, h5, he1.trans he2⟩
    · repeat (first | (show rops _ _ _ _ (_ :: _) _ _; first | refine ra (next := ?_) | refine rk (next := ?_) | refine rku (next := ?_)) | refine st_end ?_ | refine thn_normal ?_ | refine r_seq ?_ | refine r_region rfl ?_ | refine thn_exit ?_ | refine thn_ret ?_ | refine inBlk_normal ?_ | refine inBlk_ret ?_ | refine inBlk_hit ?_ | refine inBlk_miss (by decide) ?_ | refine forQ_exit ?_ | refine forQ_ret ?_ | refine loopQ_exit ?_ | refine loopQ_ret ?_ | refine r_block ?_ | refine r_skip ?_ | refine r_exit ?_ | refine r_ret ?_ | (show rwp _ _ (.cond _ _ _) _ _ _; first | refine c_t (h := ?_) | refine c_f (h := ?_)))
      refine forQ_normal (by omega) ⟨?_, he1.trans he2, fun j h1 h2 => ?_⟩
      · ((try simp only [Has, ev_tmp, ev_const, ev_func, get_put, get_args, get_putL, get_putL_nil, Nat.reduceEqDiff, reduceIte, List.getD_cons_zero, List.getD_cons_succ, List.getD_nil]); repeat' (first | exact True.intro | apply And.intro | with_reducible rfl | exact int_congr (by first | omega | rfl)))
      · by_cases e : j = (1 + k : Nat)
        · subst e; exact h5
        · exact hI j h1 (by omega)
  · exfalso
    obtain ⟨x, h1, h2, h3⟩ := inv_ex hq ha
    exact hI x h1 (by omega) h3
set_option maxHeartbeats 1000000 in
theorem l01Same2_ok {w : World} {va vb : Value} {us vs : List Value} {xss yss : List (List Int)} {lo hi lo1 hi1 : Nat} [hx : Pc.Rows lo hi w va us xss] [hy : Pc.Rows lo1 hi1 w vb vs yss] (hm : ∀ i, (xss.getD i []).length ≤ 2000000) (hl : xss.length ≤ 10000000) :
    Calls Try.prog 24 #[va, vb] w (Ret fun v w' => ∃ b, v = .bool b ∧ (b = true ↔ xss = yss) ∧ Ext w w') := by
  have hul := hx.vals.len
  have hvl := hy.vals.len
  refine enter (args := [va, vb]) (l := [.tmp 4]) Try.func24 rfl rfl Try.ntmps24 (by simp) ?_
  repeat (first | (show rops _ _ _ _ (_ :: _) _ _; first | refine ra (next := ?_) | refine rk (next := ?_) | refine rku (next := ?_)) | refine st_end ?_ | refine thn_normal ?_ | refine r_seq ?_ | refine r_region rfl ?_ | refine thn_exit ?_ | refine thn_ret ?_ | refine inBlk_normal ?_ | refine inBlk_ret ?_ | refine inBlk_hit ?_ | refine inBlk_miss (by decide) ?_ | refine forQ_exit ?_ | refine forQ_ret ?_ | refine loopQ_exit ?_ | refine loopQ_ret ?_ | refine r_block ?_ | refine r_skip ?_ | refine r_exit ?_ | refine r_ret ?_ | (show rwp _ _ (.cond _ _ _) _ _ _; first | refine c_t (h := ?_) | refine c_f (h := ?_)))
  refine c_if (fun h1 => ?_) (fun h1 => ?_)
  · repeat (first | (show rops _ _ _ _ (_ :: _) _ _; first | refine ra (next := ?_) | refine rk (next := ?_) | refine rku (next := ?_)) | refine st_end ?_ | refine thn_normal ?_ | refine r_seq ?_ | refine r_region rfl ?_ | refine thn_exit ?_ | refine thn_ret ?_ | refine inBlk_normal ?_ | refine inBlk_ret ?_ | refine inBlk_hit ?_ | refine inBlk_miss (by decide) ?_ | refine forQ_exit ?_ | refine forQ_ret ?_ | refine loopQ_exit ?_ | refine loopQ_ret ?_ | refine r_block ?_ | refine r_skip ?_ | refine r_exit ?_ | refine r_ret ?_ | (show rwp _ _ (.cond _ _ _) _ _ _; first | refine c_t (h := ?_) | refine c_f (h := ?_)))
    refine ret1 ⟨_, rfl, ?_, Ext.refl _⟩
    simp only [Bool.false_eq_true, false_iff]
    rintro rfl
    omega
  · have hxy : xss.length = yss.length := by omega
    repeat (first | (show rops _ _ _ _ (_ :: _) _ _; first | refine ra (next := ?_) | refine rk (next := ?_) | refine rku (next := ?_)) | refine st_end ?_ | refine thn_normal ?_ | refine r_seq ?_ | refine r_region rfl ?_ | refine thn_exit ?_ | refine thn_ret ?_ | refine inBlk_normal ?_ | refine inBlk_ret ?_ | refine inBlk_hit ?_ | refine inBlk_miss (by decide) ?_ | refine forQ_exit ?_ | refine forQ_ret ?_ | refine loopQ_exit ?_ | refine loopQ_ret ?_ | refine r_block ?_ | refine r_skip ?_ | refine r_exit ?_ | refine r_ret ?_ | (show rwp _ _ (.cond _ _ _) _ _ _; first | refine c_t (h := ?_) | refine c_f (h := ?_)))
    refine r_for xss.length (fun k ρ w' => Has ρ [(0, va), (1, vb), (5, .int .i64 k)] ∧ Ext w w' ∧ ∀ i, i < k → xss.getD i [] = yss.getD i []) ?_ ?_
    · refine ⟨?_, Ext.refl _, fun i hi => by omega⟩
      ((try simp only [Has, ev_tmp, ev_const, ev_func, get_put, get_args, get_putL, get_putL_nil, Nat.reduceEqDiff, reduceIte, List.getD_cons_zero, List.getD_cons_succ, List.getD_nil]); repeat' (first | exact True.intro | apply And.intro | with_reducible rfl | exact int_congr (by first | omega | rfl)))
    rintro k ρ w1 hk ⟨hH, he1, hI⟩
    refine rwp_has hH fun ρ0 => ?_
    repeat (first | (show rops _ _ _ _ (_ :: _) _ _; first | refine ra (next := ?_) | refine rk (next := ?_) | refine rku (next := ?_)) | refine st_end ?_ | refine thn_normal ?_ | refine r_seq ?_ | refine r_region rfl ?_ | refine thn_exit ?_ | refine thn_ret ?_ | refine inBlk_normal ?_ | refine inBlk_ret ?_ | refine inBlk_hit ?_ | refine inBlk_miss (by decide) ?_ | refine forQ_exit ?_ | refine forQ_ret ?_ | refine loopQ_exit ?_ | refine loopQ_ret ?_ | refine r_block ?_ | refine r_skip ?_ | refine r_exit ?_ | refine r_ret ?_ | (show rwp _ _ (.cond _ _ _) _ _ _; first | refine c_t (h := ?_) | refine c_f (h := ?_)))
    refine c_if (fun h4 => ?_) (fun h4 => ?_)
    · repeat (first | (show rops _ _ _ _ (_ :: _) _ _; first | refine ra (next := ?_) | refine rk (next := ?_) | refine rku (next := ?_)) | refine st_end ?_ | refine thn_normal ?_ | refine r_seq ?_ | refine r_region rfl ?_ | refine thn_exit ?_ | refine thn_ret ?_ | refine inBlk_normal ?_ | refine inBlk_ret ?_ | refine inBlk_hit ?_ | refine inBlk_miss (by decide) ?_ | refine forQ_exit ?_ | refine forQ_ret ?_ | refine loopQ_exit ?_ | refine loopQ_ret ?_ | refine r_block ?_ | refine r_skip ?_ | refine r_exit ?_ | refine r_ret ?_ | (show rwp _ _ (.cond _ _ _) _ _ _; first | refine c_t (h := ?_) | refine c_f (h := ?_)))
      refine d_region fun w2 he2 _ => ?_
      repeat (first | refine da (next := ?_) | refine dsk (next := ?_) | refine dsku (next := ?_))
      refine dc (l01Same_ok (xs := xss.getD k []) (ys := yss.getD k []) (hm k)) (next := fun v3 w3 h3 => ?_)
      obtain ⟨b3, rfl, hb3, he3⟩ := h3
      refine ⟨fun h => h.trans he3, ?_⟩
      repeat (first | refine da (next := ?_) | refine dsk (next := ?_) | refine dsku (next := ?_))
      refine d_end (h := ?_)
      repeat (first | (show rops _ _ _ _ (_ :: _) _ _; first | refine ra (next := ?_) | refine rk (next := ?_) | refine rku (next := ?_)) | refine st_end ?_ | refine thn_normal ?_ | refine r_seq ?_ | refine r_region rfl ?_ | refine thn_exit ?_ | refine thn_ret ?_ | refine inBlk_normal ?_ | refine inBlk_ret ?_ | refine inBlk_hit ?_ | refine inBlk_miss (by decide) ?_ | refine forQ_exit ?_ | refine forQ_ret ?_ | refine loopQ_exit ?_ | refine loopQ_ret ?_ | refine r_block ?_ | refine r_skip ?_ | refine r_exit ?_ | refine r_ret ?_ | (show rwp _ _ (.cond _ _ _) _ _ _; first | refine c_t (h := ?_) | refine c_f (h := ?_)))
      refine c_b (fun h5 => ?_) (fun h5 => ?_)
      · repeat (first | (show rops _ _ _ _ (_ :: _) _ _; first | refine ra (next := ?_) | refine rk (next := ?_) | refine rku (next := ?_)) | refine st_end ?_ | refine thn_normal ?_ | refine r_seq ?_ | refine r_region rfl ?_ | refine thn_exit ?_ | refine thn_ret ?_ | refine inBlk_normal ?_ | refine inBlk_ret ?_ | refine inBlk_hit ?_ | refine inBlk_miss (by decide) ?_ | refine forQ_exit ?_ | refine forQ_ret ?_ | refine loopQ_exit ?_ | refine loopQ_ret ?_ | refine r_block ?_ | refine r_skip ?_ | refine r_exit ?_ | refine r_ret ?_ | (show rwp _ _ (.cond _ _ _) _ _ _; first | refine c_t (h := ?_) | refine c_f (h := ?_)))
        refine ret1 ⟨_, rfl, ?_, (he1.trans he2).trans he3⟩
        simp only [Bool.false_eq_true, false_iff]
        rintro rfl
        have := hb3.2 rfl
        rw [this] at h5; cases h5
      · have h6 := hb3.1 (by simpa using h5)
        repeat (first | (show rops _ _ _ _ (_ :: _) _ _; first | refine ra (next := ?_) | refine rk (next := ?_) | refine rku (next := ?_)) | refine st_end ?_ | refine thn_normal ?_ | refine r_seq ?_ | refine r_region rfl ?_ | refine thn_exit ?_ | refine thn_ret ?_ | refine inBlk_normal ?_ | refine inBlk_ret ?_ | refine inBlk_hit ?_ | refine inBlk_miss (by decide) ?_ | refine forQ_exit ?_ | refine forQ_ret ?_ | refine loopQ_exit ?_ | refine loopQ_ret ?_ | refine r_block ?_ | refine r_skip ?_ | refine r_exit ?_ | refine r_ret ?_ | (show rwp _ _ (.cond _ _ _) _ _ _; first | refine c_t (h := ?_) | refine c_f (h := ?_)))
        refine forQ_normal (by omega) ⟨?_, (he1.trans he2).trans he3, fun i hi => ?_⟩
        · ((try simp only [Has, ev_tmp, ev_const, ev_func, get_put, get_args, get_putL, get_putL_nil, Nat.reduceEqDiff, reduceIte, List.getD_cons_zero, List.getD_cons_succ, List.getD_nil]); repeat' (first | exact True.intro | apply And.intro | with_reducible rfl | exact int_congr (by first | omega | rfl)))
        · by_cases e : i = k
          · subst e; exact h6
          · exact hI i (by omega)
    · repeat (first | (show rops _ _ _ _ (_ :: _) _ _; first | refine ra (next := ?_) | refine rk (next := ?_) | refine rku (next := ?_)) | refine st_end ?_ | refine thn_normal ?_ | refine r_seq ?_ | refine r_region rfl ?_ | refine thn_exit ?_ | refine thn_ret ?_ | refine inBlk_normal ?_ | refine inBlk_ret ?_ | refine inBlk_hit ?_ | refine inBlk_miss (by decide) ?_ | refine forQ_exit ?_ | refine forQ_ret ?_ | refine loopQ_exit ?_ | refine loopQ_ret ?_ | refine r_block ?_ | refine r_skip ?_ | refine r_exit ?_ | refine r_ret ?_ | (show rwp _ _ (.cond _ _ _) _ _ _; first | refine c_t (h := ?_) | refine c_f (h := ?_)))
      refine ret1 ⟨_, rfl, ?_, he1⟩
      simp only [true_iff]
      apply List.ext_getElem hxy
      intro i h1 h2
      have := hI i (by omega)
      simpa [h1, h2] using this
set_option maxHeartbeats 1000000 in
theorem eqInt64SS_ok {w : World} {va vb : Value} {us vs : List Value} {xss yss : List (List Int)} {lo hi lo1 hi1 : Nat} [hx : Pc.Rows lo hi w va us xss] [hy : Pc.Rows lo1 hi1 w vb vs yss] (hm : ∀ i, (xss.getD i []).length ≤ 2000000) (hl : xss.length ≤ 10000000) :
    Calls Try.prog 11 #[va, vb] w (Ret fun v w' => ∃ b, v = .bool b ∧ (b = true ↔ xss = yss) ∧ Ext w w') := by
  have hul := hx.vals.len
  have hvl := hy.vals.len
  refine enter (args := [va, vb]) (l := [.tmp 4]) Try.func11 rfl rfl Try.ntmps11 (by simp) ?_
  repeat (first | (show rops _ _ _ _ (_ :: _) _ _; first | refine ra (next := ?_) | refine rk (next := ?_) | refine rku (next := ?_)) | refine st_end ?_ | refine thn_normal ?_ | refine r_seq ?_ | refine r_region rfl ?_ | refine thn_exit ?_ | refine thn_ret ?_ | refine inBlk_normal ?_ | refine inBlk_ret ?_ | refine inBlk_hit ?_ | refine inBlk_miss (by decide) ?_ | refine forQ_exit ?_ | refine forQ_ret ?_ | refine loopQ_exit ?_ | refine loopQ_ret ?_ | refine r_block ?_ | refine r_skip ?_ | refine r_exit ?_ | refine r_ret ?_ | (show rwp _ _ (.cond _ _ _) _ _ _; first | refine c_t (h := ?_) | refine c_f (h := ?_)))
  refine c_if (fun h1 => ?_) (fun h1 => ?_)
  · repeat (first | (show rops _ _ _ _ (_ :: _) _ _; first | refine ra (next := ?_) | refine rk (next := ?_) | refine rku (next := ?_)) | refine st_end ?_ | refine thn_normal ?_ | refine r_seq ?_ | refine r_region rfl ?_ | refine thn_exit ?_ | refine thn_ret ?_ | refine inBlk_normal ?_ | refine inBlk_ret ?_ | refine inBlk_hit ?_ | refine inBlk_miss (by decide) ?_ | refine forQ_exit ?_ | refine forQ_ret ?_ | refine loopQ_exit ?_ | refine loopQ_ret ?_ | refine r_block ?_ | refine r_skip ?_ | refine r_exit ?_ | refine r_ret ?_ | (show rwp _ _ (.cond _ _ _) _ _ _; first | refine c_t (h := ?_) | refine c_f (h := ?_)))
    refine ret1 ⟨_, rfl, ?_, Ext.refl _⟩
    simp only [Bool.false_eq_true, false_iff]
    rintro rfl
    omega
  · have hxy : xss.length = yss.length := by omega
    repeat (first | (show rops _ _ _ _ (_ :: _) _ _; first | refine ra (next := ?_) | refine rk (next := ?_) | refine rku (next := ?_)) | refine st_end ?_ | refine thn_normal ?_ | refine r_seq ?_ | refine r_region rfl ?_ | refine thn_exit ?_ | refine thn_ret ?_ | refine inBlk_normal ?_ | refine inBlk_ret ?_ | refine inBlk_hit ?_ | refine inBlk_miss (by decide) ?_ | refine forQ_exit ?_ | refine forQ_ret ?_ | refine loopQ_exit ?_ | refine loopQ_ret ?_ | refine r_block ?_ | refine r_skip ?_ | refine r_exit ?_ | refine r_ret ?_ | (show rwp _ _ (.cond _ _ _) _ _ _; first | refine c_t (h := ?_) | refine c_f (h := ?_)))
    refine r_for xss.length (fun k ρ w' => Has ρ [(0, va), (1, vb), (5, .int .i64 k)] ∧ Ext w w' ∧ ∀ i, i < k → xss.getD i [] = yss.getD i []) ?_ ?_
    · refine ⟨?_, Ext.refl _, fun i hi => by omega⟩
      ((try simp only [Has, ev_tmp, ev_const, ev_func, get_put, get_args, get_putL, get_putL_nil, Nat.reduceEqDiff, reduceIte, List.getD_cons_zero, List.getD_cons_succ, List.getD_nil]); repeat' (first | exact True.intro | apply And.intro | with_reducible rfl | exact int_congr (by first | omega | rfl)))
    rintro k ρ w1 hk ⟨hH, he1, hI⟩
    refine rwp_has hH fun ρ0 => ?_
    repeat (first | (show rops _ _ _ _ (_ :: _) _ _; first | refine ra (next := ?_) | refine rk (next := ?_) | refine rku (next := ?_)) | refine st_end ?_ | refine thn_normal ?_ | refine r_seq ?_ | refine r_region rfl ?_ | refine thn_exit ?_ | refine thn_ret ?_ | refine inBlk_normal ?_ | refine inBlk_ret ?_ | refine inBlk_hit ?_ | refine inBlk_miss (by decide) ?_ | refine forQ_exit ?_ | refine forQ_ret ?_ | refine loopQ_exit ?_ | refine loopQ_ret ?_ | refine r_block ?_ | refine r_skip ?_ | refine r_exit ?_ | refine r_ret ?_ | (show rwp _ _ (.cond _ _ _) _ _ _; first | refine c_t (h := ?_) | refine c_f (h := ?_)))
    refine c_if (fun h4 => ?_) (fun h4 => ?_)
    · repeat (first | (show rops _ _ _ _ (_ :: _) _ _; first | refine ra (next := ?_) | refine rk (next := ?_) | refine rku (next := ?_)) | refine st_end ?_ | refine thn_normal ?_ | refine r_seq ?_ | refine r_region rfl ?_ | refine thn_exit ?_ | refine thn_ret ?_ | refine inBlk_normal ?_ | refine inBlk_ret ?_ | refine inBlk_hit ?_ | refine inBlk_miss (by decide) ?_ | refine forQ_exit ?_ | refine forQ_ret ?_ | refine loopQ_exit ?_ | refine loopQ_ret ?_ | refine r_block ?_ | refine r_skip ?_ | refine r_exit ?_ | refine r_ret ?_ | (show rwp _ _ (.cond _ _ _) _ _ _; first | refine c_t (h := ?_) | refine c_f (h := ?_)))
      refine d_region fun w2 he2 _ => ?_
      repeat (first | refine da (next := ?_) | refine dsk (next := ?_) | refine dsku (next := ?_))
      refine dc (eqInt64S_ok (xs := xss.getD k []) (ys := yss.getD k []) (hm k)) (next := fun v3 w3 h3 => ?_)
      obtain ⟨b3, rfl, hb3, he3⟩ := h3
      refine ⟨fun h => h.trans he3, ?_⟩
      repeat (first | refine da (next := ?_) | refine dsk (next := ?_) | refine dsku (next := ?_))
      refine d_end (h := ?_)
      repeat (first | (show rops _ _ _ _ (_ :: _) _ _; first | refine ra (next := ?_) | refine rk (next := ?_) | refine rku (next := ?_)) | refine st_end ?_ | refine thn_normal ?_ | refine r_seq ?_ | refine r_region rfl ?_ | refine thn_exit ?_ | refine thn_ret ?_ | refine inBlk_normal ?_ | refine inBlk_ret ?_ | refine inBlk_hit ?_ | refine inBlk_miss (by decide) ?_ | refine forQ_exit ?_ | refine forQ_ret ?_ | refine loopQ_exit ?_ | refine loopQ_ret ?_ | refine r_block ?_ | refine r_skip ?_ | refine r_exit ?_ | refine r_ret ?_ | (show rwp _ _ (.cond _ _ _) _ _ _; first | refine c_t (h := ?_) | refine c_f (h := ?_)))
      refine c_b (fun h5 => ?_) (fun h5 => ?_)
      · repeat (first | (show rops _ _ _ _ (_ :: _) _ _; first | refine ra (next := ?_) | refine rk (next := ?_) | refine rku (next := ?_)) | refine st_end ?_ | refine thn_normal ?_ | refine r_seq ?_ | refine r_region rfl ?_ | refine thn_exit ?_ | refine thn_ret ?_ | refine inBlk_normal ?_ | refine inBlk_ret ?_ | refine inBlk_hit ?_ | refine inBlk_miss (by decide) ?_ | refine forQ_exit ?_ | refine forQ_ret ?_ | refine loopQ_exit ?_ | refine loopQ_ret ?_ | refine r_block ?_ | refine r_skip ?_ | refine r_exit ?_ | refine r_ret ?_ | (show rwp _ _ (.cond _ _ _) _ _ _; first | refine c_t (h := ?_) | refine c_f (h := ?_)))
        refine ret1 ⟨_, rfl, ?_, (he1.trans he2).trans he3⟩
        simp only [Bool.false_eq_true, false_iff]
        rintro rfl
        have := hb3.2 rfl
        rw [this] at h5; cases h5
      · have h6 := hb3.1 (by simpa using h5)
        repeat (first | (show rops _ _ _ _ (_ :: _) _ _; first | refine ra (next := ?_) | refine rk (next := ?_) | refine rku (next := ?_)) | refine st_end ?_ | refine thn_normal ?_ | refine r_seq ?_ | refine r_region rfl ?_ | refine thn_exit ?_ | refine thn_ret ?_ | refine inBlk_normal ?_ | refine inBlk_ret ?_ | refine inBlk_hit ?_ | refine inBlk_miss (by decide) ?_ | refine forQ_exit ?_ | refine forQ_ret ?_ | refine loopQ_exit ?_ | refine loopQ_ret ?_ | refine r_block ?_ | refine r_skip ?_ | refine r_exit ?_ | refine r_ret ?_ | (show rwp _ _ (.cond _ _ _) _ _ _; first | refine c_t (h := ?_) | refine c_f (h := ?_)))
        refine forQ_normal (by omega) ⟨?_, (he1.trans he2).trans he3, fun i hi => ?_⟩
        · ((try simp only [Has, ev_tmp, ev_const, ev_func, get_put, get_args, get_putL, get_putL_nil, Nat.reduceEqDiff, reduceIte, List.getD_cons_zero, List.getD_cons_succ, List.getD_nil]); repeat' (first | exact True.intro | apply And.intro | with_reducible rfl | exact int_congr (by first | omega | rfl)))
        · by_cases e : i = k
          · subst e; exact h6
          · exact hI i (by omega)
    · repeat (first | (show rops _ _ _ _ (_ :: _) _ _; first | refine ra (next := ?_) | refine rk (next := ?_) | refine rku (next := ?_)) | refine st_end ?_ | refine thn_normal ?_ | refine r_seq ?_ | refine r_region rfl ?_ | refine thn_exit ?_ | refine thn_ret ?_ | refine inBlk_normal ?_ | refine inBlk_ret ?_ | refine inBlk_hit ?_ | refine inBlk_miss (by decide) ?_ | refine forQ_exit ?_ | refine forQ_ret ?_ | refine loopQ_exit ?_ | refine loopQ_ret ?_ | refine r_block ?_ | refine r_skip ?_ | refine r_exit ?_ | refine r_ret ?_ | (show rwp _ _ (.cond _ _ _) _ _ _; first | refine c_t (h := ?_) | refine c_f (h := ?_)))
      refine ret1 ⟨_, rfl, ?_, he1⟩
      simp only [true_iff]
      apply List.ext_getElem hxy
      intro i h1 h2
      have := hI i (by omega)
      simpa [h1, h2] using this
end Go.Proofs.Ytjcmdmjlhngjcaa

/-
  Walk: the reference's copy of a list of lists (l01Own2).
  Conditions: the lists are short.
-/
namespace Go.Proofs.Ytjcmdmjlhngjcaa
open Go Go.Pc
set_option maxHeartbeats 1000000 in
theorem l01Own2_ok {w : World} {va : Value} {us : List Value} {xss : List (List Int)} {lo hi : Nat} [hx : Pc.Rows lo hi w va us xss] (hm : ∀ i, (xss.getD i []).length ≤ 2000000) (hl : xss.length ≤ 2000000) :
    Calls Try.prog 36 #[va] w (Ret fun v w' => Ext w w' ∧ ∃ us', Lst 22 w.heap.size (· < w.heap.size) w' v us' xss) := by
  have hul := hx.vals.len
  refine enter (args := [va]) (l := [.tmp 2]) Try.func36 rfl rfl Try.ntmps36 (by simp) ?_
  repeat (first | (show rops _ _ _ _ (_ :: _) _ _; first | refine ra (next := ?_) | refine rk (next := ?_) | refine rku (next := ?_)) | refine st_end ?_ | refine thn_normal ?_ | refine r_seq ?_ | refine r_region rfl ?_ | refine thn_exit ?_ | refine thn_ret ?_ | refine inBlk_normal ?_ | refine inBlk_ret ?_ | refine inBlk_hit ?_ | refine inBlk_miss (by decide) ?_ | refine forQ_exit ?_ | refine forQ_ret ?_ | refine loopQ_exit ?_ | refine loopQ_ret ?_ | refine r_block ?_ | refine r_skip ?_ | refine r_exit ?_ | refine r_ret ?_ | (show rwp _ _ (.cond _ _ _) _ _ _; first | refine c_t (h := ?_) | refine c_f (h := ?_)))
  refine st_slice0 (by first | exact True.intro | exact ⟨_, rfl, by ((try simp only [ev_tmp, ev_const, ev_func, get_put, get_args, get_putL, get_putL_nil, Nat.reduceEqDiff, reduceIte, List.getD_cons_zero, List.getD_cons_succ, List.getD_nil, Bool.not_true, Bool.not_false]); first | done | with_reducible rfl)⟩) fun w1 v1 he1 hs1 ho1 => ?_
  repeat (first | (show rops _ _ _ _ (_ :: _) _ _; first | refine ra (next := ?_) | refine rk (next := ?_) | refine rku (next := ?_)) | refine st_end ?_ | refine thn_normal ?_ | refine r_seq ?_ | refine r_region rfl ?_ | refine thn_exit ?_ | refine thn_ret ?_ | refine inBlk_normal ?_ | refine inBlk_ret ?_ | refine inBlk_hit ?_ | refine inBlk_miss (by decide) ?_ | refine forQ_exit ?_ | refine forQ_ret ?_ | refine loopQ_exit ?_ | refine loopQ_ret ?_ | refine r_block ?_ | refine r_skip ?_ | refine r_exit ?_ | refine r_ret ?_ | (show rwp _ _ (.cond _ _ _) _ _ _; first | refine c_t (h := ?_) | refine c_f (h := ?_)))
  refine r_for xss.length (fun k ρ w' => ∃ v' us', Has ρ [(0, va), (3, v'), (4, .int .i64 k)] ∧ Ext w w' ∧ Lst 22 w.heap.size (· < w.heap.size) w' v' us' (xss.take k)) ?_ ?_
  · refine ⟨v1, [], ?_, he1, ?_⟩
    · ((try simp only [Has, ev_tmp, ev_const, ev_func, get_put, get_args, get_putL, get_putL_nil, Nat.reduceEqDiff, reduceIte, List.getD_cons_zero, List.getD_cons_succ, List.getD_nil]); repeat' (first | exact True.intro | apply And.intro | with_reducible rfl | exact int_congr (by first | omega | rfl)))
    · simpa using Lst.start ho1 (Nat.le_refl _) (by omega) (fun g hg => by have := he1.size; omega)
  rintro k ρ w2 hk ⟨v2, us2, hH, he2, hL⟩
  refine rwp_has hH fun ρ0 => ?_
  repeat (first | (show rops _ _ _ _ (_ :: _) _ _; first | refine ra (next := ?_) | refine rk (next := ?_) | refine rku (next := ?_)) | refine st_end ?_ | refine thn_normal ?_ | refine r_seq ?_ | refine r_region rfl ?_ | refine thn_exit ?_ | refine thn_ret ?_ | refine inBlk_normal ?_ | refine inBlk_ret ?_ | refine inBlk_hit ?_ | refine inBlk_miss (by decide) ?_ | refine forQ_exit ?_ | refine forQ_ret ?_ | refine loopQ_exit ?_ | refine loopQ_ret ?_ | refine r_block ?_ | refine r_skip ?_ | refine r_exit ?_ | refine r_ret ?_ | (show rwp _ _ (.cond _ _ _) _ _ _; first | refine c_t (h := ?_) | refine c_f (h := ?_)))
  refine c_if (fun h4 => ?_) (fun h4 => ?_)
  · repeat (first | (show rops _ _ _ _ (_ :: _) _ _; first | refine ra (next := ?_) | refine rk (next := ?_) | refine rku (next := ?_)) | refine st_end ?_ | refine thn_normal ?_ | refine r_seq ?_ | refine r_region rfl ?_ | refine thn_exit ?_ | refine thn_ret ?_ | refine inBlk_normal ?_ | refine inBlk_ret ?_ | refine inBlk_hit ?_ | refine inBlk_miss (by decide) ?_ | refine forQ_exit ?_ | refine forQ_ret ?_ | refine loopQ_exit ?_ | refine loopQ_ret ?_ | refine r_block ?_ | refine r_skip ?_ | refine r_exit ?_ | refine r_ret ?_ | (show rwp _ _ (.cond _ _ _) _ _ _; first | refine c_t (h := ?_) | refine c_f (h := ?_)))
    refine rc (l01Own_ok (xs := xss.getD k []) (hm k)) (next := fun v3 w3 h3 => ?_)
    obtain ⟨he3, hf3⟩ := h3
    repeat (first | (show rops _ _ _ _ (_ :: _) _ _; first | refine ra (next := ?_) | refine rk (next := ?_) | refine rku (next := ?_)) | refine st_end ?_ | refine thn_normal ?_ | refine r_seq ?_ | refine r_region rfl ?_ | refine thn_exit ?_ | refine thn_ret ?_ | refine inBlk_normal ?_ | refine inBlk_ret ?_ | refine inBlk_hit ?_ | refine inBlk_miss (by decide) ?_ | refine forQ_exit ?_ | refine forQ_ret ?_ | refine loopQ_exit ?_ | refine loopQ_ret ?_ | refine r_block ?_ | refine r_skip ?_ | refine r_exit ?_ | refine r_ret ?_ | (show rwp _ _ (.cond _ _ _) _ _ _; first | refine c_t (h := ?_) | refine c_f (h := ?_)))
    refine st_slice1 (u := v3) (by ((try simp only [ev_tmp, ev_const, ev_func, get_put, get_args, get_putL, get_putL_nil, Nat.reduceEqDiff, reduceIte, List.getD_cons_zero, List.getD_cons_succ, List.getD_nil]); first | done | with_reducible rfl)) ?_ ?_ (by first | exact True.intro | exact ⟨_, rfl, by ((try simp only [ev_tmp, ev_const, ev_func, get_put, get_args, get_putL, get_putL_nil, Nat.reduceEqDiff, reduceIte, List.getD_cons_zero, List.getD_cons_succ, List.getD_nil, Bool.not_true, Bool.not_false]); first | done | with_reducible rfl)⟩) fun w4 v4 he4 hs4 ho4 => ?_
    · exact hf3.ints.sl.cells
    · rfl
    repeat (first | (show rops _ _ _ _ (_ :: _) _ _; first | refine ra (next := ?_) | refine rk (next := ?_) | refine rku (next := ?_)) | refine st_end ?_ | refine thn_normal ?_ | refine r_seq ?_ | refine r_region rfl ?_ | refine thn_exit ?_ | refine thn_ret ?_ | refine inBlk_normal ?_ | refine inBlk_ret ?_ | refine inBlk_hit ?_ | refine inBlk_miss (by decide) ?_ | refine forQ_exit ?_ | refine forQ_ret ?_ | refine loopQ_exit ?_ | refine loopQ_ret ?_ | refine r_block ?_ | refine r_skip ?_ | refine r_exit ?_ | refine r_ret ?_ | (show rwp _ _ (.cond _ _ _) _ _ _; first | refine c_t (h := ?_) | refine c_f (h := ?_)))
    have hL4 := (hL.ext he3).ext he4
    have hO4 := hL4.own
    have hl2 : us2.length ≤ 2000000 := by rw [hL.len, List.length_take]; omega
    have hz2 := he2.size
    have hz3 := he3.size
    refine st_append (hv := hO4) (hy := ho4) (by ((try simp only [ev_tmp, ev_const, ev_func, get_put, get_args, get_putL, get_putL_nil, Nat.reduceEqDiff, reduceIte, List.getD_cons_zero, List.getD_cons_succ, List.getD_nil]); first | done | with_reducible rfl)) (by ((try simp only [ev_tmp, ev_const, ev_func, get_put, get_args, get_putL, get_putL_nil, Nat.reduceEqDiff, reduceIte, List.getD_cons_zero, List.getD_cons_succ, List.getD_nil]); first | done | with_reducible rfl)) rfl ?_ ?_ ?_ ?_ (by first | exact True.intro | exact ⟨_, rfl, by ((try simp only [ev_tmp, ev_const, ev_func, get_put, get_args, get_putL, get_putL_nil, Nat.reduceEqDiff, reduceIte, List.getD_cons_zero, List.getD_cons_succ, List.getD_nil, Bool.not_true, Bool.not_false]); first | done | with_reducible rfl)⟩) fun v5 w5 ho5 hg5 ha5 => ?_
    · intro u hu
      rw [List.mem_singleton.1 hu]
      exact hf3.ints.sl.one
    · simp; omega
    · simp [maxLen]; omega
    · omega
    have hr4 : Ints w2.heap.size w3.heap.size w4 v3 (xss.getD k []) := inferInstance
    have hL5 := hL4.push ⟨_, _, hr4, he4.size, fun g hg => .inl (hg.elim (fun hg => by omega) (fun hg => (hL.own.lt g hg).2))⟩ ho5 hg5 ha5
    repeat (first | (show rops _ _ _ _ (_ :: _) _ _; first | refine ra (next := ?_) | refine rk (next := ?_) | refine rku (next := ?_)) | refine st_end ?_ | refine thn_normal ?_ | refine r_seq ?_ | refine r_region rfl ?_ | refine thn_exit ?_ | refine thn_ret ?_ | refine inBlk_normal ?_ | refine inBlk_ret ?_ | refine inBlk_hit ?_ | refine inBlk_miss (by decide) ?_ | refine forQ_exit ?_ | refine forQ_ret ?_ | refine loopQ_exit ?_ | refine loopQ_ret ?_ | refine r_block ?_ | refine r_skip ?_ | refine r_exit ?_ | refine r_ret ?_ | (show rwp _ _ (.cond _ _ _) _ _ _; first | refine c_t (h := ?_) | refine c_f (h := ?_)))
    refine forQ_normal (by omega) ⟨v5, us2 ++ [v3], ?_, ?_, ?_⟩
    · ((try simp only [Has, ev_tmp, ev_const, ev_func, get_put, get_args, get_putL, get_putL_nil, Nat.reduceEqDiff, reduceIte, List.getD_cons_zero, List.getD_cons_succ, List.getD_nil]); repeat' (first | exact True.intro | apply And.intro | with_reducible rfl | exact int_congr (by first | omega | rfl)))
    · exact ⟨((he2.trans he3).trans he4).below.grown hg5 (by omega) (fun k hk => (hL.own.lt k hk).1)⟩
    · rw [List.take_succ_eq_append_getElem (by omega)]
      simpa [show k < xss.length by omega] using hL5
  · repeat (first | (show rops _ _ _ _ (_ :: _) _ _; first | refine ra (next := ?_) | refine rk (next := ?_) | refine rku (next := ?_)) | refine st_end ?_ | refine thn_normal ?_ | refine r_seq ?_ | refine r_region rfl ?_ | refine thn_exit ?_ | refine thn_ret ?_ | refine inBlk_normal ?_ | refine inBlk_ret ?_ | refine inBlk_hit ?_ | refine inBlk_miss (by decide) ?_ | refine forQ_exit ?_ | refine forQ_ret ?_ | refine loopQ_exit ?_ | refine loopQ_ret ?_ | refine r_block ?_ | refine r_skip ?_ | refine r_exit ?_ | refine r_ret ?_ | (show rwp _ _ (.cond _ _ _) _ _ _; first | refine c_t (h := ?_) | refine c_f (h := ?_)))
    refine ret1 ⟨he2, us2, ?_⟩
    rw [show k = xss.length by omega, List.take_length] at hL
    exact hL
end Go.Proofs.Ytjcmdmjlhngjcaa

/-
  Walks: the reference's checks of a presentation (l01Prime, l07Product, l07Exponents, IsPresentation).
  Conditions: stated at each theorem.
-/
namespace Go.Proofs.Ytjcmdmjlhngjcaa
open Go Go.Pc
theorem l01In_ok {n l h : Int} {w : World} : Calls Try.prog 50 #[.int .i64 n, .int .i64 l, .int .i64 h] w (Ret fun v w' => ∃ b, v = .bool b ∧ (b = true ↔ l ≤ n ∧ n ≤ h) ∧ Ext w w') := by
  refine enter (args := [.int .i64 n, .int .i64 l, .int .i64 h]) (l := [.tmp 6]) Try.func50 rfl rfl Try.ntmps50 (by simp) ?_
  repeat (first | (show rops _ _ _ _ (_ :: _) _ _; first | refine ra (next := ?_) | refine rk (next := ?_) | refine rku (next := ?_)) | refine st_end ?_ | refine thn_normal ?_ | refine r_seq ?_ | refine r_region rfl ?_ | refine thn_exit ?_ | refine thn_ret ?_ | refine inBlk_normal ?_ | refine inBlk_ret ?_ | refine inBlk_hit ?_ | refine inBlk_miss (by decide) ?_ | refine forQ_exit ?_ | refine forQ_ret ?_ | refine loopQ_exit ?_ | refine loopQ_ret ?_ | refine r_block ?_ | refine r_skip ?_ | refine r_exit ?_ | refine r_ret ?_ | (show rwp _ _ (.cond _ _ _) _ _ _; first | refine c_t (h := ?_) | refine c_f (h := ?_)))
  refine spd (fun h1 => ?_) (fun h1 => ?_)
  · repeat (first | (show rops _ _ _ _ (_ :: _) _ _; first | refine ra (next := ?_) | refine rk (next := ?_) | refine rku (next := ?_)) | refine st_end ?_ | refine thn_normal ?_ | refine r_seq ?_ | refine r_region rfl ?_ | refine thn_exit ?_ | refine thn_ret ?_ | refine inBlk_normal ?_ | refine inBlk_ret ?_ | refine inBlk_hit ?_ | refine inBlk_miss (by decide) ?_ | refine forQ_exit ?_ | refine forQ_ret ?_ | refine loopQ_exit ?_ | refine loopQ_ret ?_ | refine r_block ?_ | refine r_skip ?_ | refine r_exit ?_ | refine r_ret ?_ | (show rwp _ _ (.cond _ _ _) _ _ _; first | refine c_t (h := ?_) | refine c_f (h := ?_)))
    refine ret1 ⟨_, rfl, ?_, Ext.refl _⟩
    simp [h1]
  · repeat (first | (show rops _ _ _ _ (_ :: _) _ _; first | refine ra (next := ?_) | refine rk (next := ?_) | refine rku (next := ?_)) | refine st_end ?_ | refine thn_normal ?_ | refine r_seq ?_ | refine r_region rfl ?_ | refine thn_exit ?_ | refine thn_ret ?_ | refine inBlk_normal ?_ | refine inBlk_ret ?_ | refine inBlk_hit ?_ | refine inBlk_miss (by decide) ?_ | refine forQ_exit ?_ | refine forQ_ret ?_ | refine loopQ_exit ?_ | refine loopQ_ret ?_ | refine r_block ?_ | refine r_skip ?_ | refine r_exit ?_ | refine r_ret ?_ | (show rwp _ _ (.cond _ _ _) _ _ _; first | refine c_t (h := ?_) | refine c_f (h := ?_)))
    refine ret1 ⟨_, rfl, ?_, Ext.refl _⟩
    simp [h1]
theorem l01Prime_ok {n : Int} {w : World} : Calls Try.prog 30 #[.int .i64 n] w (Ret fun v w' => ∃ b, v = .bool b ∧ (b = true ↔ (n = 2 ∨ n = 3 ∨ n = 5 ∨ n = 7)) ∧ Ext w w') := by
  refine enter (args := [.int .i64 n]) (l := [.tmp 2]) Try.func30 rfl rfl Try.ntmps30 (by simp) ?_
  repeat (first | (show rops _ _ _ _ (_ :: _) _ _; first | refine ra (next := ?_) | refine rk (next := ?_) | refine rku (next := ?_)) | refine st_end ?_ | refine thn_normal ?_ | refine r_seq ?_ | refine r_region rfl ?_ | refine thn_exit ?_ | refine thn_ret ?_ | refine inBlk_normal ?_ | refine inBlk_ret ?_ | refine inBlk_hit ?_ | refine inBlk_miss (by decide) ?_ | refine forQ_exit ?_ | refine forQ_ret ?_ | refine loopQ_exit ?_ | refine loopQ_ret ?_ | refine r_block ?_ | refine r_skip ?_ | refine r_exit ?_ | refine r_ret ?_ | (show rwp _ _ (.cond _ _ _) _ _ _; first | refine c_t (h := ?_) | refine c_f (h := ?_)))
  refine spd (fun h1 => ?_) (fun h1 => ?_)
  · repeat (first | (show rops _ _ _ _ (_ :: _) _ _; first | refine ra (next := ?_) | refine rk (next := ?_) | refine rku (next := ?_)) | refine st_end ?_ | refine thn_normal ?_ | refine r_seq ?_ | refine r_region rfl ?_ | refine thn_exit ?_ | refine thn_ret ?_ | refine inBlk_normal ?_ | refine inBlk_ret ?_ | refine inBlk_hit ?_ | refine inBlk_miss (by decide) ?_ | refine forQ_exit ?_ | refine forQ_ret ?_ | refine loopQ_exit ?_ | refine loopQ_ret ?_ | refine r_block ?_ | refine r_skip ?_ | refine r_exit ?_ | refine r_ret ?_ | (show rwp _ _ (.cond _ _ _) _ _ _; first | refine c_t (h := ?_) | refine c_f (h := ?_)))
    refine ret1 ⟨_, rfl, ?_, Ext.refl _⟩
    simp [h1]
  · repeat (first | (show rops _ _ _ _ (_ :: _) _ _; first | refine ra (next := ?_) | refine rk (next := ?_) | refine rku (next := ?_)) | refine st_end ?_ | refine thn_normal ?_ | refine r_seq ?_ | refine r_region rfl ?_ | refine thn_exit ?_ | refine thn_ret ?_ | refine inBlk_normal ?_ | refine inBlk_ret ?_ | refine inBlk_hit ?_ | refine inBlk_miss (by decide) ?_ | refine forQ_exit ?_ | refine forQ_ret ?_ | refine loopQ_exit ?_ | refine loopQ_ret ?_ | refine r_block ?_ | refine r_skip ?_ | refine r_exit ?_ | refine r_ret ?_ | (show rwp _ _ (.cond _ _ _) _ _ _; first | refine c_t (h := ?_) | refine c_f (h := ?_)))
    refine spd (fun h2 => ?_) (fun h2 => ?_)
    · repeat (first | (show rops _ _ _ _ (_ :: _) _ _; first | refine ra (next := ?_) | refine rk (next := ?_) | refine rku (next := ?_)) | refine st_end ?_ | refine thn_normal ?_ | refine r_seq ?_ | refine r_region rfl ?_ | refine thn_exit ?_ | refine thn_ret ?_ | refine inBlk_normal ?_ | refine inBlk_ret ?_ | refine inBlk_hit ?_ | refine inBlk_miss (by decide) ?_ | refine forQ_exit ?_ | refine forQ_ret ?_ | refine loopQ_exit ?_ | refine loopQ_ret ?_ | refine r_block ?_ | refine r_skip ?_ | refine r_exit ?_ | refine r_ret ?_ | (show rwp _ _ (.cond _ _ _) _ _ _; first | refine c_t (h := ?_) | refine c_f (h := ?_)))
      refine ret1 ⟨_, rfl, ?_, Ext.refl _⟩
      simp [h2]
    · repeat (first | (show rops _ _ _ _ (_ :: _) _ _; first | refine ra (next := ?_) | refine rk (next := ?_) | refine rku (next := ?_)) | refine st_end ?_ | refine thn_normal ?_ | refine r_seq ?_ | refine r_region rfl ?_ | refine thn_exit ?_ | refine thn_ret ?_ | refine inBlk_normal ?_ | refine inBlk_ret ?_ | refine inBlk_hit ?_ | refine inBlk_miss (by decide) ?_ | refine forQ_exit ?_ | refine forQ_ret ?_ | refine loopQ_exit ?_ | refine loopQ_ret ?_ | refine r_block ?_ | refine r_skip ?_ | refine r_exit ?_ | refine r_ret ?_ | (show rwp _ _ (.cond _ _ _) _ _ _; first | refine c_t (h := ?_) | refine c_f (h := ?_)))
      refine spd (fun h3 => ?_) (fun h3 => ?_)
      · repeat (first | (show rops _ _ _ _ (_ :: _) _ _; first | refine ra (next := ?_) | refine rk (next := ?_) | refine rku (next := ?_)) | refine st_end ?_ | refine thn_normal ?_ | refine r_seq ?_ | refine r_region rfl ?_ | refine thn_exit ?_ | refine thn_ret ?_ | refine inBlk_normal ?_ | refine inBlk_ret ?_ | refine inBlk_hit ?_ | refine inBlk_miss (by decide) ?_ | refine forQ_exit ?_ | refine forQ_ret ?_ | refine loopQ_exit ?_ | refine loopQ_ret ?_ | refine r_block ?_ | refine r_skip ?_ | refine r_exit ?_ | refine r_ret ?_ | (show rwp _ _ (.cond _ _ _) _ _ _; first | refine c_t (h := ?_) | refine c_f (h := ?_)))
        refine ret1 ⟨_, rfl, ?_, Ext.refl _⟩
        simp [h3]
      · repeat (first | (show rops _ _ _ _ (_ :: _) _ _; first | refine ra (next := ?_) | refine rk (next := ?_) | refine rku (next := ?_)) | refine st_end ?_ | refine thn_normal ?_ | refine r_seq ?_ | refine r_region rfl ?_ | refine thn_exit ?_ | refine thn_ret ?_ | refine inBlk_normal ?_ | refine inBlk_ret ?_ | refine inBlk_hit ?_ | refine inBlk_miss (by decide) ?_ | refine forQ_exit ?_ | refine forQ_ret ?_ | refine loopQ_exit ?_ | refine loopQ_ret ?_ | refine r_block ?_ | refine r_skip ?_ | refine r_exit ?_ | refine r_ret ?_ | (show rwp _ _ (.cond _ _ _) _ _ _; first | refine c_t (h := ?_) | refine c_f (h := ?_)))
        refine ret1 ⟨_, rfl, ?_, Ext.refl _⟩
        simp [h1, h2, h3]
def capMul (a o : Int) : Int := if a ≤ 729 then a * o else a
theorem capMul_foldl : ∀ (l : List Int) (a : Int), (∀ o ∈ l, 1 ≤ o) → 1 ≤ a → (l.foldl capMul a ≤ 729 ↔ l.foldl (· * ·) a ≤ 729) ∧ a ≤ l.foldl (· * ·) a ∧ (l.foldl capMul a ≤ 729 → l.foldl capMul a = l.foldl (· * ·) a)
  | [], a, _, _ => by simp
  | o :: l, a, ho, ha => by
    have h1 := ho o (by simp)
    have hao : a ≤ a * o := by
      have := Int.mul_le_mul_of_nonneg_left h1 (show 0 ≤ a by omega)
      rw [Int.mul_one] at this; exact this
    have ih := fun b hb => capMul_foldl l b (fun x hx => ho x (by simp [hx])) hb
    simp only [List.foldl_cons, capMul]
    have i2 := ih (a * o) (by omega)
    by_cases h : a ≤ 729
    · rw [if_pos h]
      exact ⟨i2.1, by omega, i2.2.2⟩
    · rw [if_neg h]
      have i1 := ih a ha
      have hcap : ¬ l.foldl capMul a ≤ 729 := by rw [i1.1]; omega
      exact ⟨⟨fun h => absurd h hcap, fun h => by omega⟩, by omega, fun h => absurd h hcap⟩
theorem capMul_bd : ∀ (l : List Int) (a : Int), (∀ o ∈ l, 1 ≤ o ∧ o ≤ 7) → 1 ≤ a → a ≤ 5103 → 1 ≤ l.foldl capMul a ∧ l.foldl capMul a ≤ 5103
  | [], a, _, h1, h2 => ⟨h1, h2⟩
  | o :: l, a, ho, h1, h2 => by
    have h := ho o (by simp)
    simp only [List.foldl_cons]
    have hc : 1 ≤ capMul a o ∧ capMul a o ≤ 5103 := by
      unfold capMul
      split
      · have e1 := Int.mul_le_mul_of_nonneg_left h.1 (show 0 ≤ a by omega)
        have e2 : a * o ≤ 729 * 7 := Int.mul_le_mul (by omega) h.2 (by omega) (by omega)
        omega
      · omega
    exact capMul_bd l _ (fun x hx => ho x (by simp [hx])) hc.1 hc.2
theorem foldl_take_succ {α β : Type} (f : β → α → β) (b : β) (d : α) (l : List α) (k : Nat) (hk : k < l.length) : (l.take (k + 1)).foldl f b = f ((l.take k).foldl f b) (l.getD k d) := by
  rw [List.take_succ_eq_append_getElem hk, List.foldl_append]; simp [hk]
set_option maxHeartbeats 400000 in
theorem l07Product_ok {w : World} {v : Value} {xs : List Int} {lo hi : Nat} [hx : Ints lo hi w v xs] (ho : ∀ o ∈ xs, 1 ≤ o ∧ o ≤ 7) (hl : xs.length ≤ 2000000) :
    Calls Try.prog 31 #[v] w (Ret fun v' w' => v' = .int .i64 (xs.foldl capMul 1) ∧ Ext w w') := by
  refine enter (args := [v]) (l := [.tmp 2]) Try.func31 rfl rfl Try.ntmps31 (by simp) ?_
  repeat (first | (show rops _ _ _ _ (_ :: _) _ _; first | refine ra (next := ?_) | refine rk (next := ?_) | refine rku (next := ?_)) | refine st_end ?_ | refine thn_normal ?_ | refine r_seq ?_ | refine r_region rfl ?_ | refine thn_exit ?_ | refine thn_ret ?_ | refine inBlk_normal ?_ | refine inBlk_ret ?_ | refine inBlk_hit ?_ | refine inBlk_miss (by decide) ?_ | refine forQ_exit ?_ | refine forQ_ret ?_ | refine loopQ_exit ?_ | refine loopQ_ret ?_ | refine r_block ?_ | refine r_skip ?_ | refine r_exit ?_ | refine r_ret ?_ | (show rwp _ _ (.cond _ _ _) _ _ _; first | refine c_t (h := ?_) | refine c_f (h := ?_)))
  refine r_for xs.length (fun k ρ w' => Has ρ [(0, v), (3, .int .i64 ((xs.take k).foldl capMul 1)), (4, .int .i64 k)] ∧ Ext w w') ?_ ?_
  · refine ⟨?_, Ext.refl _⟩
    ((try simp only [Has, ev_tmp, ev_const, ev_func, get_put, get_args, get_putL, get_putL_nil, Nat.reduceEqDiff, reduceIte, List.getD_cons_zero, List.getD_cons_succ, List.getD_nil]); repeat' (first | exact True.intro | apply And.intro | with_reducible rfl | exact int_congr (by first | omega | rfl)))
  · rintro k ρ w1 hk ⟨hH, he⟩
    refine rwp_has hH fun ρ0 => ?_
    repeat (first | (show rops _ _ _ _ (_ :: _) _ _; first | refine ra (next := ?_) | refine rk (next := ?_) | refine rku (next := ?_)) | refine st_end ?_ | refine thn_normal ?_ | refine r_seq ?_ | refine r_region rfl ?_ | refine thn_exit ?_ | refine thn_ret ?_ | refine inBlk_normal ?_ | refine inBlk_ret ?_ | refine inBlk_hit ?_ | refine inBlk_miss (by decide) ?_ | refine forQ_exit ?_ | refine forQ_ret ?_ | refine loopQ_exit ?_ | refine loopQ_ret ?_ | refine r_block ?_ | refine r_skip ?_ | refine r_exit ?_ | refine r_ret ?_ | (show rwp _ _ (.cond _ _ _) _ _ _; first | refine c_t (h := ?_) | refine c_f (h := ?_)))
    refine c_if (fun h1 => ?_) (fun h1 => ?_)
    · have hkl : k < xs.length := by omega
      have hb := capMul_bd (xs.take k) 1 (fun o h => ho o (List.mem_of_mem_take h)) (by omega) (by omega)
      have hok := ho (xs.getD k 0) (by simp [hkl])
      have hsucc := foldl_take_succ capMul 1 0 xs k hkl
      repeat (first | (show rops _ _ _ _ (_ :: _) _ _; first | refine ra (next := ?_) | refine rk (next := ?_) | refine rku (next := ?_)) | refine st_end ?_ | refine thn_normal ?_ | refine r_seq ?_ | refine r_region rfl ?_ | refine thn_exit ?_ | refine thn_ret ?_ | refine inBlk_normal ?_ | refine inBlk_ret ?_ | refine inBlk_hit ?_ | refine inBlk_miss (by decide) ?_ | refine forQ_exit ?_ | refine forQ_ret ?_ | refine loopQ_exit ?_ | refine loopQ_ret ?_ | refine r_block ?_ | refine r_skip ?_ | refine r_exit ?_ | refine r_ret ?_ | (show rwp _ _ (.cond _ _ _) _ _ _; first | refine c_t (h := ?_) | refine c_f (h := ?_)))
      refine c_if (fun h2 => ?_) (fun h2 => ?_)
      · have e1 := Int.mul_le_mul_of_nonneg_left hok.1 (show 0 ≤ (xs.take k).foldl capMul 1 by omega)
        have e2 : (xs.take k).foldl capMul 1 * xs.getD k 0 ≤ 729 * 7 := Int.mul_le_mul (by omega) hok.2 (by omega) (by omega)
        have hc : capMul ((xs.take k).foldl capMul 1) (xs.getD k 0) = (xs.take k).foldl capMul 1 * xs.getD k 0 := if_pos h2
        rw [hc] at hsucc
        repeat (first | (show rops _ _ _ _ (_ :: _) _ _; first | refine ra (next := ?_) | refine rk (next := ?_) | refine rku (next := ?_)) | refine st_end ?_ | refine thn_normal ?_ | refine r_seq ?_ | refine r_region rfl ?_ | refine thn_exit ?_ | refine thn_ret ?_ | refine inBlk_normal ?_ | refine inBlk_ret ?_ | refine inBlk_hit ?_ | refine inBlk_miss (by decide) ?_ | refine forQ_exit ?_ | refine forQ_ret ?_ | refine loopQ_exit ?_ | refine loopQ_ret ?_ | refine r_block ?_ | refine r_skip ?_ | refine r_exit ?_ | refine r_ret ?_ | (show rwp _ _ (.cond _ _ _) _ _ _; first | refine c_t (h := ?_) | refine c_f (h := ?_)))
        refine ra (h := rd_mul (by ((try simp only [ev_tmp, ev_const, ev_func, get_put, get_args, get_putL, get_putL_nil, Nat.reduceEqDiff, reduceIte, List.getD_cons_zero, List.getD_cons_succ, List.getD_nil]); first | done | with_reducible rfl)) (by ((try simp only [ev_tmp, ev_const, ev_func, get_put, get_args, get_putL, get_putL_nil, Nat.reduceEqDiff, reduceIte, List.getD_cons_zero, List.getD_cons_succ, List.getD_nil]); first | done | with_reducible rfl)) ?_) (next := ?_)
        · omega
        repeat (first | (show rops _ _ _ _ (_ :: _) _ _; first | refine ra (next := ?_) | refine rk (next := ?_) | refine rku (next := ?_)) | refine st_end ?_ | refine thn_normal ?_ | refine r_seq ?_ | refine r_region rfl ?_ | refine thn_exit ?_ | refine thn_ret ?_ | refine inBlk_normal ?_ | refine inBlk_ret ?_ | refine inBlk_hit ?_ | refine inBlk_miss (by decide) ?_ | refine forQ_exit ?_ | refine forQ_ret ?_ | refine loopQ_exit ?_ | refine loopQ_ret ?_ | refine r_block ?_ | refine r_skip ?_ | refine r_exit ?_ | refine r_ret ?_ | (show rwp _ _ (.cond _ _ _) _ _ _; first | refine c_t (h := ?_) | refine c_f (h := ?_)))
        refine forQ_normal hkl ⟨?_, he⟩
        rw [hsucc]
        ((try simp only [Has, ev_tmp, ev_const, ev_func, get_put, get_args, get_putL, get_putL_nil, Nat.reduceEqDiff, reduceIte, List.getD_cons_zero, List.getD_cons_succ, List.getD_nil]); repeat' (first | exact True.intro | apply And.intro | with_reducible rfl | exact int_congr (by first | omega | rfl)))
      · have hc : capMul ((xs.take k).foldl capMul 1) (xs.getD k 0) = (xs.take k).foldl capMul 1 := if_neg h2
        rw [hc] at hsucc
        repeat (first | (show rops _ _ _ _ (_ :: _) _ _; first | refine ra (next := ?_) | refine rk (next := ?_) | refine rku (next := ?_)) | refine st_end ?_ | refine thn_normal ?_ | refine r_seq ?_ | refine r_region rfl ?_ | refine thn_exit ?_ | refine thn_ret ?_ | refine inBlk_normal ?_ | refine inBlk_ret ?_ | refine inBlk_hit ?_ | refine inBlk_miss (by decide) ?_ | refine forQ_exit ?_ | refine forQ_ret ?_ | refine loopQ_exit ?_ | refine loopQ_ret ?_ | refine r_block ?_ | refine r_skip ?_ | refine r_exit ?_ | refine r_ret ?_ | (show rwp _ _ (.cond _ _ _) _ _ _; first | refine c_t (h := ?_) | refine c_f (h := ?_)))
        refine forQ_normal hkl ⟨?_, he⟩
        rw [hsucc]
        ((try simp only [Has, ev_tmp, ev_const, ev_func, get_put, get_args, get_putL, get_putL_nil, Nat.reduceEqDiff, reduceIte, List.getD_cons_zero, List.getD_cons_succ, List.getD_nil]); repeat' (first | exact True.intro | apply And.intro | with_reducible rfl | exact int_congr (by first | omega | rfl)))
    · repeat (first | (show rops _ _ _ _ (_ :: _) _ _; first | refine ra (next := ?_) | refine rk (next := ?_) | refine rku (next := ?_)) | refine st_end ?_ | refine thn_normal ?_ | refine r_seq ?_ | refine r_region rfl ?_ | refine thn_exit ?_ | refine thn_ret ?_ | refine inBlk_normal ?_ | refine inBlk_ret ?_ | refine inBlk_hit ?_ | refine inBlk_miss (by decide) ?_ | refine forQ_exit ?_ | refine forQ_ret ?_ | refine loopQ_exit ?_ | refine loopQ_ret ?_ | refine r_block ?_ | refine r_skip ?_ | refine r_exit ?_ | refine r_ret ?_ | (show rwp _ _ (.cond _ _ _) _ _ _; first | refine c_t (h := ?_) | refine c_f (h := ?_)))
      have : k = xs.length := by omega
      subst this
      refine ret1 ⟨?_, he⟩
      rw [List.take_of_length_le (Nat.le_refl _)]
/-- The entries of a vector under a list of orders. -/
def ExpP (os v : List Int) (z : Int) : Prop := v.length = os.length ∧ ∀ i, i < v.length → (0 ≤ v.getD i 0 ∧ v.getD i 0 ≤ os.getD i 0 - 1) ∧ ((i : Int) ≤ z → v.getD i 0 = 0)
set_option maxHeartbeats 1000000 in
theorem l07Exponents_ok {w : World} {vo vv : Value} {os xs : List Int} {z : Int} {lo hi lo1 hi1 : Nat} [ho : Ints lo hi w vo os] [hx : Ints lo1 hi1 w vv xs] (hb : ∀ i, i < os.length → 0 ≤ os.getD i 0 ∧ os.getD i 0 ≤ 2000000) (hl : os.length ≤ 2000000) :
    Calls Try.prog 32 #[vo, vv, .int .i64 z] w (Ret fun v' w' => ∃ b, v' = .bool b ∧ (b = true ↔ ExpP os xs z) ∧ Ext w w') := by
  refine enter (args := [vo, vv, .int .i64 z]) (l := [.tmp 6]) Try.func32 rfl rfl Try.ntmps32 (by simp) ?_
  repeat (first | (show rops _ _ _ _ (_ :: _) _ _; first | refine ra (next := ?_) | refine rk (next := ?_) | refine rku (next := ?_)) | refine st_end ?_ | refine thn_normal ?_ | refine r_seq ?_ | refine r_region rfl ?_ | refine thn_exit ?_ | refine thn_ret ?_ | refine inBlk_normal ?_ | refine inBlk_ret ?_ | refine inBlk_hit ?_ | refine inBlk_miss (by decide) ?_ | refine forQ_exit ?_ | refine forQ_ret ?_ | refine loopQ_exit ?_ | refine loopQ_ret ?_ | refine r_block ?_ | refine r_skip ?_ | refine r_exit ?_ | refine r_ret ?_ | (show rwp _ _ (.cond _ _ _) _ _ _; first | refine c_t (h := ?_) | refine c_f (h := ?_)))
  refine c_if (fun h1 => ?_) (fun h1 => ?_)
  · repeat (first | (show rops _ _ _ _ (_ :: _) _ _; first | refine ra (next := ?_) | refine rk (next := ?_) | refine rku (next := ?_)) | refine st_end ?_ | refine thn_normal ?_ | refine r_seq ?_ | refine r_region rfl ?_ | refine thn_exit ?_ | refine thn_ret ?_ | refine inBlk_normal ?_ | refine inBlk_ret ?_ | refine inBlk_hit ?_ | refine inBlk_miss (by decide) ?_ | refine forQ_exit ?_ | refine forQ_ret ?_ | refine loopQ_exit ?_ | refine loopQ_ret ?_ | refine r_block ?_ | refine r_skip ?_ | refine r_exit ?_ | refine r_ret ?_ | (show rwp _ _ (.cond _ _ _) _ _ _; first | refine c_t (h := ?_) | refine c_f (h := ?_)))
    refine ret1 ⟨_, rfl, ?_, Ext.refl _⟩
    simp only [Bool.false_eq_true, false_iff]
    rintro ⟨h, _⟩
    exact h1 (by rw [h])
  · repeat (first | (show rops _ _ _ _ (_ :: _) _ _; first | refine ra (next := ?_) | refine rk (next := ?_) | refine rku (next := ?_)) | refine st_end ?_ | refine thn_normal ?_ | refine r_seq ?_ | refine r_region rfl ?_ | refine thn_exit ?_ | refine thn_ret ?_ | refine inBlk_normal ?_ | refine inBlk_ret ?_ | refine inBlk_hit ?_ | refine inBlk_miss (by decide) ?_ | refine forQ_exit ?_ | refine forQ_ret ?_ | refine loopQ_exit ?_ | refine loopQ_ret ?_ | refine r_block ?_ | refine r_skip ?_ | refine r_exit ?_ | refine r_ret ?_ | (show rwp _ _ (.cond _ _ _) _ _ _; first | refine c_t (h := ?_) | refine c_f (h := ?_)))
    refine r_for xs.length (fun k ρ w' => Has ρ [(0, vo), (1, vv), (2, .int .i64 z), (7, .int .i64 k)] ∧ Ext w w' ∧ ∀ i, i < k → (0 ≤ xs.getD i 0 ∧ xs.getD i 0 ≤ os.getD i 0 - 1) ∧ ((i : Int) ≤ z → xs.getD i 0 = 0)) ?_ ?_
    · refine ⟨?_, Ext.refl _, fun i hi => by omega⟩
      ((try simp only [Has, ev_tmp, ev_const, ev_func, get_put, get_args, get_putL, get_putL_nil, Nat.reduceEqDiff, reduceIte, List.getD_cons_zero, List.getD_cons_succ, List.getD_nil]); repeat' (first | exact True.intro | apply And.intro | with_reducible rfl | exact int_congr (by first | omega | rfl)))
    · rintro k ρ w1 hk ⟨hH, he, hpre⟩
      refine rwp_has hH fun ρ0 => ?_
      repeat (first | (show rops _ _ _ _ (_ :: _) _ _; first | refine ra (next := ?_) | refine rk (next := ?_) | refine rku (next := ?_)) | refine st_end ?_ | refine thn_normal ?_ | refine r_seq ?_ | refine r_region rfl ?_ | refine thn_exit ?_ | refine thn_ret ?_ | refine inBlk_normal ?_ | refine inBlk_ret ?_ | refine inBlk_hit ?_ | refine inBlk_miss (by decide) ?_ | refine forQ_exit ?_ | refine forQ_ret ?_ | refine loopQ_exit ?_ | refine loopQ_ret ?_ | refine r_block ?_ | refine r_skip ?_ | refine r_exit ?_ | refine r_ret ?_ | (show rwp _ _ (.cond _ _ _) _ _ _; first | refine c_t (h := ?_) | refine c_f (h := ?_)))
      refine c_if (fun h2 => ?_) (fun h2 => ?_)
      · have hkl : k < xs.length := by omega
        have hko : k < os.length := by omega
        have hbk := hb k hko
        repeat (first | (show rops _ _ _ _ (_ :: _) _ _; first | refine ra (next := ?_) | refine rk (next := ?_) | refine rku (next := ?_)) | refine st_end ?_ | refine thn_normal ?_ | refine r_seq ?_ | refine r_region rfl ?_ | refine thn_exit ?_ | refine thn_ret ?_ | refine inBlk_normal ?_ | refine inBlk_ret ?_ | refine inBlk_hit ?_ | refine inBlk_miss (by decide) ?_ | refine forQ_exit ?_ | refine forQ_ret ?_ | refine loopQ_exit ?_ | refine loopQ_ret ?_ | refine r_block ?_ | refine r_skip ?_ | refine r_exit ?_ | refine r_ret ?_ | (show rwp _ _ (.cond _ _ _) _ _ _; first | refine c_t (h := ?_) | refine c_f (h := ?_)))
        refine d_region fun w2 he2 _ => ?_
        repeat (first | refine da (next := ?_) | refine dsk (next := ?_) | refine dsku (next := ?_))
        refine dc l01In_ok (next := fun v3 w3 h3 => ?_)
        obtain ⟨b3, rfl, hb3, he3⟩ := h3
        refine ⟨fun h => h.trans he3, ?_⟩
        have hE := (he.trans he2).trans he3
        have close_no : ∀ (hneg : ¬ ((0 ≤ xs.getD k 0 ∧ xs.getD k 0 ≤ os.getD k 0 - 1) ∧ ((k : Int) ≤ z → xs.getD k 0 = 0))), (false = true ↔ ExpP os xs z) := by
          intro hneg
          simp only [Bool.false_eq_true, false_iff]
          rintro ⟨_, h⟩
          exact hneg (h k hkl)
        refine da (next := ?_)
        refine da (next := ?_)
        refine dsp (fun h5 => ?_) (fun h5 => ?_)
        · repeat (first | refine da (next := ?_) | refine dsk (next := ?_) | refine dsku (next := ?_))
          refine d_end (h := ?_)
          repeat (first | (show rops _ _ _ _ (_ :: _) _ _; first | refine ra (next := ?_) | refine rk (next := ?_) | refine rku (next := ?_)) | refine st_end ?_ | refine thn_normal ?_ | refine r_seq ?_ | refine r_region rfl ?_ | refine thn_exit ?_ | refine thn_ret ?_ | refine inBlk_normal ?_ | refine inBlk_ret ?_ | refine inBlk_hit ?_ | refine inBlk_miss (by decide) ?_ | refine forQ_exit ?_ | refine forQ_ret ?_ | refine loopQ_exit ?_ | refine loopQ_ret ?_ | refine r_block ?_ | refine r_skip ?_ | refine r_exit ?_ | refine r_ret ?_ | (show rwp _ _ (.cond _ _ _) _ _ _; first | refine c_t (h := ?_) | refine c_f (h := ?_)))
          refine ret1 ⟨_, rfl, close_no ?_, hE⟩
          rintro ⟨h, _⟩
          rw [hb3.2 h] at h5; cases h5
        · have h6 := hb3.1 (by simpa using h5)
          repeat (first | refine da (next := ?_) | refine dsk (next := ?_) | refine dsku (next := ?_))
          refine dspd (fun h7 => ?_) (fun h7 => ?_)
          · repeat (first | refine da (next := ?_) | refine dsk (next := ?_) | refine dsku (next := ?_))
            refine d_end (h := ?_)
            repeat (first | (show rops _ _ _ _ (_ :: _) _ _; first | refine ra (next := ?_) | refine rk (next := ?_) | refine rku (next := ?_)) | refine st_end ?_ | refine thn_normal ?_ | refine r_seq ?_ | refine r_region rfl ?_ | refine thn_exit ?_ | refine thn_ret ?_ | refine inBlk_normal ?_ | refine inBlk_ret ?_ | refine inBlk_hit ?_ | refine inBlk_miss (by decide) ?_ | refine forQ_exit ?_ | refine forQ_ret ?_ | refine loopQ_exit ?_ | refine loopQ_ret ?_ | refine r_block ?_ | refine r_skip ?_ | refine r_exit ?_ | refine r_ret ?_ | (show rwp _ _ (.cond _ _ _) _ _ _; first | refine c_t (h := ?_) | refine c_f (h := ?_)))
            refine c_if (fun h8 => ?_) (fun h8 => ?_)
            · repeat (first | (show rops _ _ _ _ (_ :: _) _ _; first | refine ra (next := ?_) | refine rk (next := ?_) | refine rku (next := ?_)) | refine st_end ?_ | refine thn_normal ?_ | refine r_seq ?_ | refine r_region rfl ?_ | refine thn_exit ?_ | refine thn_ret ?_ | refine inBlk_normal ?_ | refine inBlk_ret ?_ | refine inBlk_hit ?_ | refine inBlk_miss (by decide) ?_ | refine forQ_exit ?_ | refine forQ_ret ?_ | refine loopQ_exit ?_ | refine loopQ_ret ?_ | refine r_block ?_ | refine r_skip ?_ | refine r_exit ?_ | refine r_ret ?_ | (show rwp _ _ (.cond _ _ _) _ _ _; first | refine c_t (h := ?_) | refine c_f (h := ?_)))
              refine ret1 ⟨_, rfl, close_no ?_, hE⟩
              rintro ⟨_, h⟩
              exact h8 (h h7)
            · repeat (first | (show rops _ _ _ _ (_ :: _) _ _; first | refine ra (next := ?_) | refine rk (next := ?_) | refine rku (next := ?_)) | refine st_end ?_ | refine thn_normal ?_ | refine r_seq ?_ | refine r_region rfl ?_ | refine thn_exit ?_ | refine thn_ret ?_ | refine inBlk_normal ?_ | refine inBlk_ret ?_ | refine inBlk_hit ?_ | refine inBlk_miss (by decide) ?_ | refine forQ_exit ?_ | refine forQ_ret ?_ | refine loopQ_exit ?_ | refine loopQ_ret ?_ | refine r_block ?_ | refine r_skip ?_ | refine r_exit ?_ | refine r_ret ?_ | (show rwp _ _ (.cond _ _ _) _ _ _; first | refine c_t (h := ?_) | refine c_f (h := ?_)))
              refine forQ_normal hkl ⟨?_, hE, fun i hi => ?_⟩
              · ((try simp only [Has, ev_tmp, ev_const, ev_func, get_put, get_args, get_putL, get_putL_nil, Nat.reduceEqDiff, reduceIte, List.getD_cons_zero, List.getD_cons_succ, List.getD_nil]); repeat' (first | exact True.intro | apply And.intro | with_reducible rfl | exact int_congr (by first | omega | rfl)))
              · by_cases e : i = k
                · subst e; exact ⟨h6, fun _ => Decidable.not_not.1 h8⟩
                · exact hpre i (by omega)
          · repeat (first | refine da (next := ?_) | refine dsk (next := ?_) | refine dsku (next := ?_))
            refine d_end (h := ?_)
            repeat (first | (show rops _ _ _ _ (_ :: _) _ _; first | refine ra (next := ?_) | refine rk (next := ?_) | refine rku (next := ?_)) | refine st_end ?_ | refine thn_normal ?_ | refine r_seq ?_ | refine r_region rfl ?_ | refine thn_exit ?_ | refine thn_ret ?_ | refine inBlk_normal ?_ | refine inBlk_ret ?_ | refine inBlk_hit ?_ | refine inBlk_miss (by decide) ?_ | refine forQ_exit ?_ | refine forQ_ret ?_ | refine loopQ_exit ?_ | refine loopQ_ret ?_ | refine r_block ?_ | refine r_skip ?_ | refine r_exit ?_ | refine r_ret ?_ | (show rwp _ _ (.cond _ _ _) _ _ _; first | refine c_t (h := ?_) | refine c_f (h := ?_)))
            refine forQ_normal hkl ⟨?_, hE, fun i hi => ?_⟩
            · ((try simp only [Has, ev_tmp, ev_const, ev_func, get_put, get_args, get_putL, get_putL_nil, Nat.reduceEqDiff, reduceIte, List.getD_cons_zero, List.getD_cons_succ, List.getD_nil]); repeat' (first | exact True.intro | apply And.intro | with_reducible rfl | exact int_congr (by first | omega | rfl)))
            · by_cases e : i = k
              · subst e; exact ⟨h6, fun h => absurd h h7⟩
              · exact hpre i (by omega)
      · repeat (first | (show rops _ _ _ _ (_ :: _) _ _; first | refine ra (next := ?_) | refine rk (next := ?_) | refine rku (next := ?_)) | refine st_end ?_ | refine thn_normal ?_ | refine r_seq ?_ | refine r_region rfl ?_ | refine thn_exit ?_ | refine thn_ret ?_ | refine inBlk_normal ?_ | refine inBlk_ret ?_ | refine inBlk_hit ?_ | refine inBlk_miss (by decide) ?_ | refine forQ_exit ?_ | refine forQ_ret ?_ | refine loopQ_exit ?_ | refine loopQ_ret ?_ | refine r_block ?_ | refine r_skip ?_ | refine r_exit ?_ | refine r_ret ?_ | (show rwp _ _ (.cond _ _ _) _ _ _; first | refine c_t (h := ?_) | refine c_f (h := ?_)))
        refine ret1 ⟨_, rfl, ?_, he⟩
        simp only [true_iff]
        exact ⟨by omega, fun i hi => hpre i (by omega)⟩
end Go.Proofs.Ytjcmdmjlhngjcaa
