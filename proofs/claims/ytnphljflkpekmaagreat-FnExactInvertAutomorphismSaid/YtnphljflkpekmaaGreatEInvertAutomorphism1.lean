/-
  Texts of one proof, put together by program: Aut, W20, W23, W30, W31, W32, W45, I20, Copy, I30, I31, I32, I33, I34, I47.
  Conditions: those told at each part.
-/
import Derived.Test.YtnphljflkpekmaaGreatB5
import Derived.Laws.CopyRow
set_option linter.unusedVariables false
set_option linter.unusedSimpArgs false
set_option linter.unusedSectionVars false
set_option linter.constructorNameAsVariable false
set_option linter.unnecessarySimpa false
set_option linter.deprecated false
/-
  Plain mathematics: homomorphisms by images; automorphisms are one to one, and each comes back.
  Conditions: none; nothing of the program stands here.
-/
namespace Go.Proofs.YtnphljflkpekmaaGreat
open Go Go.Pc Go.Pc.Grp
/-- Of n + 1 numbers below n two are the same. -/
theorem pigeon : ∀ (n : Nat) (g : Nat → Nat), (∀ i, i ≤ n → g i < n) → ∃ a b, a < b ∧ b ≤ n ∧ g a = g b
  | 0, g, h => absurd (h 0 (Nat.le_refl _)) (Nat.not_lt_zero _)
  | n + 1, g, h => by
    by_cases e : ∃ a, a ≤ n ∧ g a = g (n + 1)
    · obtain ⟨a, ha, e⟩ := e
      exact ⟨a, n + 1, by omega, Nat.le_refl _, e⟩
    · obtain ⟨a, b, h1, h2, h3⟩ := pigeon n (fun i => if g (n + 1) < g i then g i - 1 else g i) (fun i hi => by
        have h1 := h i (by omega)
        have h2 := h (n + 1) (Nat.le_refl _)
        have h3 : g i ≠ g (n + 1) := fun k => e ⟨i, hi, k⟩
        split <;> omega)
      have ha : g a ≠ g (n + 1) := fun k => e ⟨a, by omega, k⟩
      have hb : g b ≠ g (n + 1) := fun k => e ⟨b, h2, k⟩
      refine ⟨a, b, h1, by omega, ?_⟩
      split at h3 <;> split at h3 <;> omega
def itF {α : Type} (f : α → α) : Nat → α → α
  | 0, x => x
  | k + 1, x => f (itF f k x)
theorem itF_add {α : Type} (f : α → α) (b : Nat) (x : α) : ∀ a, itF f (a + b) x = itF f a (itF f b x)
  | 0 => by rw [Nat.zero_add]; rfl
  | a + 1 => by rw [Nat.add_right_comm]; exact congrArg f (itF_add f b x a)
theorem itF_comm {α : Type} (f : α → α) (x : α) (k : Nat) : itF f (k + 1) x = itF f k (f x) := itF_add f 1 x k
theorem itF_mul {α : Type} {f : α → α} {m : Nat} {x : α} (h : itF f m x = x) : ∀ k, itF f (m * k) x = x
  | 0 => rfl
  | k + 1 => by rw [Nat.mul_succ, itF_add, h]; exact itF_mul h k
/-- What is onto a finite set brings each element back. -/
theorem period {α : Type} {f : α → α} {num : α → Nat} {n : Nat} (hn : ∀ x, num x < n) (hi : ∀ x y, num x = num y → x = y) (hs : ∀ y, ∃ x, f x = y) (x : α) : ∃ m, 1 ≤ m ∧ itF f m x = x := by
  obtain ⟨g, hg⟩ : ∃ g : α → α, ∀ y, f (g y) = y := ⟨fun y => Classical.choose (hs y), fun y => Classical.choose_spec (hs y)⟩
  have hk : ∀ k y, itF f k (itF g k y) = y := by
    intro k
    induction k with
    | zero => exact fun y => rfl
    | succ k ih =>
      intro y
      rw [itF_comm]
      show itF f k (f (g (itF g k y))) = y
      rw [hg]
      exact ih y
  obtain ⟨a, b, hab, _, e⟩ := pigeon n (fun i => num (itF g i x)) (fun i _ => hn _)
  have e' : itF g a x = itF g b x := hi _ _ e
  refine ⟨b - a, by omega, ?_⟩
  have h1 : itF g (b - a) x = x := by
    have h2 := congrArg (itF f a) e'
    have h3 : itF g b x = itF g a (itF g (b - a) x) := by
      rw [← itF_add, show a + (b - a) = b by omega]
    rw [h3, hk, hk] at h2
    exact h2.symm
  have h3 := hk (b - a) x
  rwa [h1] at h3
theorem periods {α : Type} {f : α → α} (h : ∀ x : α, ∃ m, 1 ≤ m ∧ itF f m x = x) : ∀ l : List α, ∃ m, 1 ≤ m ∧ ∀ x, x ∈ l → itF f m x = x
  | [] => ⟨1, Nat.le_refl _, fun x hx => absurd hx List.not_mem_nil⟩
  | y :: l => by
    obtain ⟨m, hm, h1⟩ := periods h l
    obtain ⟨k, hk, h2⟩ := h y
    refine ⟨m * k, Nat.mul_pos hm hk, fun x hx => ?_⟩
    rcases List.mem_cons.1 hx with rfl | hx
    · rw [Nat.mul_comm]; exact itF_mul h2 m
    · exact itF_mul (h1 x hx) k
theorem period_inj {α : Type} {f : α → α} (h : ∀ x : α, ∃ m, 1 ≤ m ∧ itF f m x = x) {x y : α} (e : f x = f y) : x = y := by
  obtain ⟨m, hm, k⟩ := periods h [x, y]
  have h1 := k x (by simp)
  have h2 := k y (by simp)
  obtain ⟨j, rfl⟩ : ∃ j, m = j + 1 := ⟨m - 1, by omega⟩
  rw [itF_comm, e] at h1
  rw [itF_comm, h1] at h2
  exact h2
/-! ### homomorphisms by images -/
theorem inR_nonneg {p : Pr} {x : List Int} (h : InR p x) (i : Nat) : 0 ≤ x.getD i 0 := by
  by_cases hi : i < p.n
  · exact (h.rng i hi).1
  · rw [List.getD_eq_getElem?_getD, List.getElem?_eq_none (by rw [h.len]; omega)]
    exact Int.le_refl _
section
variable {q : Pr} [hq : ConAll q]
theorem prodTo_phi (ys : List (El q)) {x : List Int} (h : ∀ i, 0 ≤ x.getD i 0) : ∀ k, prodTo ys x k = phi (fun j => ys.getD j 1) x 0 k
  | 0 => rfl
  | k + 1 => by
    rw [phi_last, Nat.zero_add]
    show prodTo ys x k * pwz (ys.getD k 1) (x.getD k 0) = _
    rw [pwz_of _ (h k), prodTo_phi ys h k]
theorem letV_neg (ys : List (El q)) {a : Int} (ha : a ≠ 0) : letV ys (-a) = (letV ys a)⁻¹ := by
  unfold letV
  by_cases h : 0 < a
  · rw [if_neg (by omega), if_pos h, show - -a - 1 = a - 1 by omega]
  · rw [if_pos (by omega), if_neg h, Grp.inv_inv]
theorem evalW_one (ys : List (El q)) (a : Int) : evalW ys [a] = letV ys a := by
  show 1 * letV ys a = _
  rw [Grp.one_mul]
theorem evalW_inv (ys : List (El q)) : ∀ w : List Int, (∀ a, a ∈ w → a ≠ 0) → evalW ys (invW w) * evalW ys w = 1
  | [], _ => Grp.one_mul _
  | l :: w, h => by
    have e1 : invW (l :: w) = invW w ++ [-l] := by simp [invW]
    have e2 : evalW ys (l :: w) = letV ys l * evalW ys w := by rw [← evalW_one, ← evalW_append]; rfl
    rw [e1, evalW_append, evalW_one, letV_neg ys (h l List.mem_cons_self), e2, Grp.mul_assoc, ← Grp.mul_assoc (letV ys l)⁻¹, Grp.inv_mul, Grp.one_mul]
    exact evalW_inv ys w fun a ha => h a (List.mem_cons_of_mem _ ha)
theorem evalW_rel (ys : List (El q)) {u v : List Int} (hv : ∀ a, a ∈ v → a ≠ 0) (h : evalW ys (u ++ invW v) = 1) : evalW ys u = evalW ys v := by
  rw [evalW_append] at h
  have h1 := evalW_inv ys v hv
  calc evalW ys u = evalW ys u * (evalW ys (invW v) * evalW ys v) := by rw [h1, Grp.mul_one]
    _ = (evalW ys u * evalW ys (invW v)) * evalW ys v := by rw [Grp.mul_assoc]
    _ = evalW ys v := by rw [h, Grp.one_mul]
theorem evalW_full (ys : List (El q)) {x : List Int} (h : ∀ i, 0 ≤ x.getD i 0) : evalW ys (wordV x) = phi (fun j => ys.getD j 1) x 0 x.length := by
  have h1 := evalW_word (ys := ys) (x := x) (fun i _ => h i) x.length (Nat.le_refl _)
  rw [List.take_length, prodTo_phi ys h] at h1
  exact h1
variable {p : Pr}
theorem relOk_mem {ys : List (El q)} (h : RelOk p ys) {w : List Int} (hw : w ∈ rels p) : evalW ys w = 1 := by
  obtain ⟨i, hi, rfl⟩ := List.getElem_of_mem hw
  have := h i hi
  rwa [List.getD_eq_getElem?_getD, List.getElem?_eq_getElem hi] at this
theorem relP_mem {i : Nat} (hi : i < p.n) : relP p i ∈ rels p := List.mem_append.2 (.inl (List.mem_map.2 ⟨i, List.mem_range.2 hi, rfl⟩))
theorem relC_mem {i k : Nat} (hi : i < p.n) (hk : k < p.n - 1 - i) : relC p i k ∈ rels p :=
  List.mem_append.2 (.inr (List.mem_flatMap.2 ⟨i, List.mem_range.2 hi, List.mem_map.2 ⟨k, List.mem_range.2 hk, rfl⟩⟩))
theorem img_P {ys : List (El q)} (hv : Valid p) (h : RelOk p ys) {j : Nat} (hj : j < p.n) : pw (ys.getD j 1) (p.o j).toNat = phi (fun j => ys.getD j 1) (p.w j) (j + 1) (p.n - (j + 1)) := by
  have hi := hv.w_in j hj
  have h1 := relOk_mem h (relP_mem hj)
  have h2 := evalW_rel ys (u := List.replicate (p.o j).toNat ((j : Int) + 1)) (v := wordV (p.w j)) (fun a ha => (letW_word hi.len a ha).1) h1
  rw [evalW_rep, evalW_full ys (inR_nonneg hi), hi.len, phi_zu _ (by omega) (hv.w_zu j hj)] at h2
  exact h2
theorem img_C {ys : List (El q)} (hv : Valid p) (h : RelOk p ys) {j k : Nat} (hjk : j < k) (hk : k < p.n) : cj (ys.getD k 1) (ys.getD j 1) = phi (fun j => ys.getD j 1) (p.c j k) (j + 1) (p.n - (j + 1)) := by
  have hi := hv.c_in j k hjk hk
  obtain ⟨m, rfl⟩ : ∃ m, k = j + 1 + m := ⟨k - (j + 1), by omega⟩
  have ec : (p.cnj.getD j []).getD m [] = p.c j (j + 1 + m) := by
    unfold Pr.c
    congr 1
    omega
  have h1 := relOk_mem h (relC_mem (i := j) (k := m) (by omega) (by omega))
  unfold relC at h1
  rw [ec] at h1
  have h2 := evalW_rel ys (v := wordV (p.c j (j + 1 + m))) (fun a ha => (letW_word hi.len a ha).1) h1
  rw [evalW_full ys (inR_nonneg hi), hi.len, phi_zu _ (by omega) (hv.c_zu j _ hjk hk)] at h2
  rw [← h2]
  show _ = ((1 * letV ys (-(j : Int) - 1)) * letV ys (((j + 1 + m : Nat) : Int) + 1)) * letV ys ((j : Int) + 1)
  have e1 : letV ys (-(j : Int) - 1) = (ys.getD j 1)⁻¹ := by
    unfold letV
    rw [if_neg (by omega), show (-(-(j : Int) - 1) - 1).toNat = j by omega]
  have e2 : letV ys (((j + 1 + m : Nat) : Int) + 1) = ys.getD (j + 1 + m) 1 := by
    unfold letV
    rw [if_pos (by omega), show ((((j + 1 + m : Nat) : Int) + 1) - 1).toNat = j + 1 + m by omega]
  have e3 : letV ys ((j : Int) + 1) = ys.getD j 1 := by
    unfold letV
    rw [if_pos (by omega), show ((j : Int) + 1 - 1).toNat = j by omega]
  rw [e1, e2, e3, Grp.one_mul, Grp.mul_assoc]
  rfl
theorem imgE_phi {ys : List (El q)} (hl : ys.length = p.n) {x : List Int} (hx : InR p x) : imgE ys x = phi (fun j => ys.getD j 1) x 0 p.n := by
  unfold imgE
  rw [prodTo_phi ys (inR_nonneg hx), hl]
variable [hc : ConAll p]
theorem img_hom {ys : List (El q)} (hl : ys.length = p.n) (h : RelOk p ys) (x y : El p) : imgE ys (x * y).v = imgE ys x.v * imgE ys y.v := by
  have hv := hc.valid
  have h1 := dyck (fun j => ys.getD j 1) hv 0 (fun j _ hj => img_P hv h hj) (fun j k _ hjk hk => img_C hv h hjk hk) p.n 0 (Nat.le_refl _) (Nat.sub_zero _) x.v y.v x.inr y.inr x.zu y.zu
  rw [imgE_phi hl (x * y).inr, imgE_phi hl x.inr, imgE_phi hl y.inr]
  exact h1
theorem img_unit {ys : List (El q)} (hl : ys.length = p.n) {i : Nat} (hi : i < p.n) : imgE ys (gOf p 0 i : El p).v = ys.getD i 1 := by
  have key : ∀ k, k ≤ p.n → prodTo ys (gOf p 0 i : El p).v k = if i < k then ys.getD i 1 else 1 := by
    intro k
    induction k with
    | zero => exact fun _ => rfl
    | succ k ih =>
      intro hk
      show prodTo ys _ k * pwz (ys.getD k 1) ((gOf p 0 i : El p).v.getD k 0) = _
      have e : (gOf p 0 i : El p).v.getD k 0 = if k = i then 1 else 0 := by
        have := co_gOf (p := p) (e := k) hi
        rw [show (gOf p 0 i : El p).v.getD k 0 = co (gOf p 0 i) k from rfl, this]
      rw [ih (by omega), e]
      by_cases h1 : k = i
      · subst h1
        rw [if_neg (Nat.lt_irrefl _), if_pos rfl, if_pos (Nat.lt_succ_self _), Grp.one_mul]
        exact Grp.one_mul _
      · rw [if_neg h1]
        have e0 : pwz (ys.getD k 1) 0 = 1 := rfl
        rw [e0, Grp.mul_one]
        by_cases h2 : i < k
        · rw [if_pos h2, if_pos (by omega)]
        · rw [if_neg h2, if_neg (by omega)]
  unfold imgE
  rw [key _ (by omega), if_pos (by omega)]
end
/-! ### numbers -/
section
variable {p : Pr} {l : List Nat}
theorem elTo_off {d : Nat} : ∀ (k : Nat) (_ : k ≤ l.length) (t : Int), d ∉ l.take k → (elTo p l k t).getD d 0 = 0
  | 0, _, t, _ => zeros_getD _ _
  | k + 1, hk, t, h => by
    have h1 : d ∉ l.take k := fun h' => h ((take_mem_succ (by omega)).2 (.inl h'))
    have h2 : l.getD k 0 ≠ d := fun h' => h ((take_mem_succ (by omega)).2 (.inr h'.symm))
    show ((elTo p l k _).set _ _).getD d 0 = 0
    rw [Pc.getD_set_ne _ _ _ _ h2]
    exact elTo_off k (by omega) _ h1
theorem elTo_inj (hv : Valid p) (hn : l.Nodup) (hl : ∀ d, d ∈ l → d < p.n) : ∀ k, k ≤ l.length → ∀ s t : Int, 0 ≤ s → s < ordL p (l.take k) → 0 ≤ t → t < ordL p (l.take k) → elTo p l k s = elTo p l k t → s = t
  | 0, _, s, t, h1, h2, h3, h4, _ => by
    simp [ordL] at h2 h4
    omega
  | k + 1, hk, s, t, h1, h2, h3, h4, e => by
    have hkl : k < l.length := by omega
    have hdk := hl _ (getD_mem hkl)
    have ho := hv.opos hdk
    rw [ordL_take l hkl] at h2 h4
    have hnt := not_take hn hkl
    have es : elTo p l (k + 1) s = (elTo p l k (s / p.o (l.getD k 0))).set (l.getD k 0) (s % p.o (l.getD k 0)) := rfl
    have et : elTo p l (k + 1) t = (elTo p l k (t / p.o (l.getD k 0))).set (l.getD k 0) (t % p.o (l.getD k 0)) := rfl
    rw [es, et] at e
    have e1 : s % p.o (l.getD k 0) = t % p.o (l.getD k 0) := by
      have := congrArg (fun v : List Int => v.getD (l.getD k 0) 0) e
      rwa [Pc.getD_set_eq _ _ _ (by rw [elTo_len]; exact hdk), Pc.getD_set_eq _ _ _ (by rw [elTo_len]; exact hdk)] at this
    have e2 : elTo p l k (s / p.o (l.getD k 0)) = elTo p l k (t / p.o (l.getD k 0)) := by
      refine list_ext0 (by rw [elTo_len, elTo_len]) fun d _ => ?_
      by_cases h : l.getD k 0 = d
      · subst h; rw [elTo_off k (by omega) _ hnt, elTo_off k (by omega) _ hnt]
      · have := congrArg (fun v : List Int => v.getD d 0) e
        rwa [Pc.getD_set_ne _ _ _ _ h, Pc.getD_set_ne _ _ _ _ h] at this
    have e3 := elTo_inj hv hn hl k (by omega) _ _ (Int.ediv_nonneg h1 (by omega)) (Int.ediv_lt_of_lt_mul (by omega) h2) (Int.ediv_nonneg h3 (by omega)) (Int.ediv_lt_of_lt_mul (by omega) h4) e2
    rw [Int.emod_def, Int.emod_def, e3] at e1
    omega
theorem allE_inj [hc : ConAll p] {i j : Nat} (hi : i < ordN p) (hj : j < ordN p) (e : allE p i = allE p j) : i = j := by
  have h1 := congrArg (T.v (p := p) (i := 0)) e
  rw [allE_val, allE_val] at h1
  unfold ordN at hi hj
  have := elTo_inj hc.valid (l := List.range p.n) List.nodup_range (fun d hd => List.mem_range.1 hd) _ (Nat.le_refl _) (i : Int) (j : Int) (by omega) (by rw [List.take_length]; omega) (by omega) (by rw [List.take_length]; omega) h1
  omega
end
/-! ### automorphisms -/
section
variable {p : Pr} [hc : ConAll p]
theorem full_gen {ys : List (El p)} (hs : SeqEl ys) (h : ordOf p ys = ordL p (List.range p.n)) (x : El p) : Gen (fun a : El p => a ∈ ys) x := by
  have hv := hc.valid
  have hord := ordOf_rng (ys := ys) (k := ys.length) (by have := hs.len; have := hv.n6; omega) (Nat.le_refl _) fun y hy => (hs.ok.lead1 y hy).1
  rw [List.take_length] at hord
  have hsp := ord_split hs.ok
  have hone : ordL p (freeL p ys p.n) = 1 := by
    rw [← h] at hsp
    have h2 : 1 * ordOf p ys = ordL p (freeL p ys p.n) * ordOf p ys := by rw [Int.one_mul]; exact hsp
    exact (Int.eq_of_mul_eq_mul_right (by omega) h2).symm
  have hnil : freeL p ys p.n = [] := by
    by_cases e : freeL p ys p.n = []
    · exact e
    · have h2 := (foldl_ge p.o (freeL p ys p.n) 1 (Int.le_refl _) fun d hd => (hv.opos (freeL_lt hd)).1).2 e
      have h3 : ordL p (freeL p ys p.n) = (freeL p ys p.n).foldl (fun a d => a * p.o d) 1 := rfl
      omega
  have hcov := (free_nil_iff ys p.n).1 hnil
  obtain ⟨r, hr⟩ := repEx hs.ok x
  have hr1 : r = 1 := T.ext (list_ext0 (by rw [r.inr.len, (1 : El p).inr.len]) fun d hd => by
    rw [r.inr.len] at hd
    obtain ⟨y, hy, e⟩ := hcov d hd
    have h1 : r.v.getD d 0 = 0 := by rw [← e]; exact hr.zero y hy
    rw [h1]
    exact (co_one d).symm)
  have h2 := hr.mem _ (Gen.sub _) (fun y hy => Gen.of (S := fun a : El p => a ∈ ys) y hy)
  rw [hr1, Grp.mul_one] at h2
  have h3 := Gen.inv _ h2
  rwa [Grp.inv_inv] at h3
theorem aut_onto {ys : List (El p)} (hl : ys.length = p.n) (h : RelOk p ys) (hf : ordOf p (canEls (Gen (fun a : El p => a ∈ ys))) = ordL p (List.range p.n)) (z : El p) : ∃ x : El p, imgE ys x.v = z := by
  have h1 := full_gen (seqEl_can (Gen.sub (fun a : El p => a ∈ ys))) hf z
  have e1 : imgE ys (1 : El p).v = 1 := by
    have h2 := img_hom hl h (1 : El p) 1
    rw [Grp.one_mul] at h2
    have h3 := congrArg (fun a => (imgE ys (1 : El p).v)⁻¹ * a) h2
    simp only [← Grp.mul_assoc, Grp.inv_mul, Grp.one_mul] at h3
    exact h3.symm
  have hS : Pc.Sub (fun z : El p => ∃ x : El p, imgE ys x.v = z) := ⟨⟨1, e1⟩, fun a b ⟨x, hx⟩ ⟨y, hy⟩ => ⟨x * y, by rw [img_hom hl h, hx, hy]⟩, fun a ⟨x, hx⟩ => ⟨x⁻¹, by
    have h2 := img_hom hl h x⁻¹ x
    rw [Grp.inv_mul, e1, hx] at h2
    exact Grp.eq_inv_of_mul h2.symm⟩⟩
  have h2 := (gen_can (Gen.sub (fun a : El p => a ∈ ys)) z).1 h1
  refine Gen.le hS (fun a ha => ?_) z h2
  obtain ⟨i, hi, rfl⟩ := List.getElem_of_mem ha
  refine ⟨gOf p 0 i, ?_⟩
  rw [img_unit hl (by omega)]
  simp [hi]
theorem aut_period {ys : List (El p)} (hl : ys.length = p.n) (h : RelOk p ys) (hf : ordOf p (canEls (Gen (fun a : El p => a ∈ ys))) = ordL p (List.range p.n)) (x : El p) : ∃ m, 1 ≤ m ∧ itF (fun x : El p => imgE ys x.v) m x = x := by
  obtain ⟨num, hn⟩ : ∃ num : El p → Nat, ∀ x, num x < ordN p ∧ x = allE p (num x) := ⟨fun x => Classical.choose (allE_surj x), fun x => Classical.choose_spec (allE_surj x)⟩
  exact period (num := num) (fun x => (hn x).1) (fun x y e => by rw [(hn x).2, (hn y).2, e]) (aut_onto hl h hf) x
theorem aut_inj {ys : List (El p)} (hl : ys.length = p.n) (h : RelOk p ys) (hf : ordOf p (canEls (Gen (fun a : El p => a ∈ ys))) = ordL p (List.range p.n)) {x y : El p} (e : imgE ys x.v = imgE ys y.v) : x = y :=
  period_inj (f := fun x : El p => imgE ys x.v) (aut_period hl h hf) e
/-- The images that an inverse automorphism has. -/
def InV (p : Pr) (xss r : List (List Int)) (e : Int) : Prop := (∃ (_ : ConAll p) (ys zs : List (El p)), xss = vecs ys ∧ zs.length = p.n ∧ (∀ i, i < p.n → imgE ys (zs.getD i 1).v = gOf p 0 i) ∧ r = vecs zs) ∧ e = 0
end
theorem InV.uniq {p : Pr} {xss : List (List Int)} (hI : IsoP p p xss) (a b : List (List Int)) (c d : Int) (h : InV p xss a c) (k : InV p xss b d) : a = b ∧ c = d := by
  obtain ⟨⟨hc, ys, zs, h1, h2, h3, rfl⟩, rfl⟩ := h
  obtain ⟨⟨kc, ys', zs', k1, k2, k3, rfl⟩, rfl⟩ := k
  obtain rfl := vecs_inj (h1.symm.trans k1)
  obtain ⟨_, hlen, _, hq, _, hC⟩ := hI
  rw [h1] at hC hlen
  obtain ⟨hR, hf⟩ := isoC_iff.1 hC
  have hl : ys.length = p.n := by simpa using hlen
  have e : zs = zs' := by
    refine List.ext_getElem (by omega) fun i hi hi' => ?_
    have e1 := h3 i (by omega)
    have e2 := k3 i (by omega)
    have e3 := aut_inj hl hR hf (e1.trans e2.symm)
    simpa [hi, hi'] using e3
  exact ⟨by rw [e], rfl⟩
theorem InvertAutomorphism_sz0 {p : Pr} {xss r : List (List Int)} {e : Int} (hl : p.ord.length ≤ 2000000) (_ : xss.length ≤ 2000000) (h : Ans (IsoP p p xss) (InV p xss) [] r e) : r.length ≤ 2000000 ∧ ∀ i, (r.getD i []).length ≤ 2000000 := by
  rcases h with ⟨_, ⟨_, ys, zs, _, hz, _, rfl⟩, _⟩ | ⟨_, rfl, _⟩
  · have hol : p.ord.length = p.n := rfl
    refine ⟨by simp; omega, fun i => ?_⟩
    have := vecs_len zs i
    omega
  · simp
end Go.Proofs.YtnphljflkpekmaaGreat

/-
  Walks: the reference's order, index, transversal elements; Transversal.
  Conditions: stated at each theorem.
-/
namespace Go.Proofs.YtnphljflkpekmaaGreat
open Go Go.Pc
set_option maxHeartbeats 1000000 in
theorem l10Order_ok {p : Pr} (hv : Valid p) {w : World} {vp : Value} {lo hi : Nat} [hp : Pres lo hi w vp p] :
    Calls Tryz.prog 92 #[vp] w (Ret fun v w' => v = .int .i64 (ordL p (List.range p.n)) ∧ Ext w w') := by
  have hn6 := hv.n6
  have hol : p.ord.length = p.n := rfl
  have hrl : (List.range p.n).length = p.n := by simp
  obtain ⟨vo, vpw, vc, ps, cs, css, rfl, h1, h2, h3⟩ := hp.ex
  refine enter (args := [.agg #[vo, vpw, vc]]) (l := [.tmp 2]) Tryz.func92 rfl rfl Tryz.ntmps92 (by simp) ?_
  refine go ?_
  refine st_box3 (by ((try simp only [ev_tmp, ev_const, ev_func, get_put, get_args, get_putL, get_putL_nil, Nat.reduceEqDiff, reduceIte, List.getD_cons_zero, List.getD_cons_succ, List.getD_nil]); first | done | with_reducible rfl)) (by first | exact True.intro | exact ⟨_, rfl, by ((try simp only [ev_tmp, ev_const, ev_func, get_put, get_args, get_putL, get_putL_nil, Nat.reduceEqDiff, reduceIte, List.getD_cons_zero, List.getD_cons_succ, List.getD_nil, Bool.not_true, Bool.not_false]); first | done | with_reducible rfl)⟩) fun w1 b he1 hb1 hs1 hc0 hc1 hc2 => ?_
  refine go ?_
  refine r_for p.n (fun k ρ w' => Has ρ [(1, .pointer (some ⟨b, 0, none⟩)), (3, .int .i64 (ordL p ((List.range p.n).take k))), (4, .int .i64 k)] ∧ Ext w1 w') ?_ ?_
  · refine ⟨?_, Ext.refl _⟩
    exact hasP
  rintro k ρ w2 hk ⟨hH, he2⟩
  refine rwp_has hH fun ρ0 => ?_
  refine go ?_
  refine c_if (fun h4 => ?_) (fun h4 => ?_)
  · have hkn : k < p.n := by omega
    have hod := hv.opos hkn
    have hr := ordL_rng hv (l := List.range p.n) (fun d hd => List.mem_range.1 hd) (by omega) (k := k) (by omega)
    have hm : 0 ≤ ordL p ((List.range p.n).take k) * p.o k ∧ ordL p ((List.range p.n).take k) * p.o k ≤ 117649 * 7 := ⟨Int.mul_nonneg (by omega) (by omega), Int.mul_le_mul hr.2 hod.2 (by omega) (by omega)⟩
    have hmb : -9223372036854775808 ≤ ordL p ((List.range p.n).take k) * p.o k ∧ ordL p ((List.range p.n).take k) * p.o k ≤ 9223372036854775807 := ⟨by omega, by omega⟩
    have hst := ordL_take (p := p) (List.range p.n) (show k < (List.range p.n).length by omega)
    rw [show (List.range p.n).getD k 0 = k by simp [hkn]] at hst
    refine go ?_
    rw [show p.ord.getD k 0 = p.o k from rfl]
    refine ra (h := rd_mul (by ((try simp only [ev_tmp, ev_const, ev_func, get_put, get_args, get_putL, get_putL_nil, Nat.reduceEqDiff, reduceIte, List.getD_cons_zero, List.getD_cons_succ, List.getD_nil]); first | done | with_reducible rfl)) (by ((try simp only [ev_tmp, ev_const, ev_func, get_put, get_args, get_putL, get_putL_nil, Nat.reduceEqDiff, reduceIte, List.getD_cons_zero, List.getD_cons_succ, List.getD_nil]); first | done | with_reducible rfl)) hmb) (next := ?_)
    refine go ?_
    refine forQ_normal (by omega) ⟨?_, he2⟩
    rw [hst]
    exact hasP
  · refine go ?_
    have e : (List.range p.n).take k = List.range p.n := by rw [show k = p.n by omega, List.take_of_length_le (by omega)]
    rw [e]
    exact ret1 ⟨rfl, he1.trans he2⟩
end Go.Proofs.YtnphljflkpekmaaGreat

/-
  Walks: the reference's element with a number, the elements above a subgroup; Center.
  Conditions: stated at each theorem.
-/
namespace Go.Proofs.YtnphljflkpekmaaGreat
open Go Go.Pc
set_option maxHeartbeats 2000000 in
theorem l10At_ok {p : Pr} [hc : ConAll p] {t : Nat} (ht : t ≤ 1000000) {w : World} {vp : Value} {lo hi : Nat} [hp : Pres lo hi w vp p] :
    Calls Tryz.prog 93 #[vp, .int .i64 t] w (Ret fun v w' => Ext w w' ∧ Fr w.heap.size w' v (allE p t).v) := by
  have hv := hc.valid
  have hn6 := hv.n6
  have hol : p.ord.length = p.n := rfl
  rw [allE_val]
  obtain ⟨l, hl⟩ : ∃ l, List.range p.n = l := ⟨_, rfl⟩
  have hll : l.length = p.n := by rw [← hl]; simp
  have hlt : ∀ d, d ∈ l → d < p.n := fun d hd => by rw [← hl] at hd; exact List.mem_range.1 hd
  have hnd : l.Nodup := by rw [← hl]; exact List.nodup_range
  have hlg : ∀ i, i < p.n → l.getD i 0 = i := fun i hi => by rw [← hl]; simp [hi]
  rw [hl]
  replace hp := hp.wide
  obtain ⟨vo, vpw, vc, ps, cs, css, rfl, h1, h2, h3⟩ := hp.ex
  refine enter (args := [.agg #[vo, vpw, vc], .int .i64 t]) (l := [.tmp 4]) Tryz.func93 rfl rfl Tryz.ntmps93 (by simp) ?_
  refine go ?_
  refine st_box3 (by ((try simp only [ev_tmp, ev_const, ev_func, get_put, get_args, get_putL, get_putL_nil, Nat.reduceEqDiff, reduceIte, List.getD_cons_zero, List.getD_cons_succ, List.getD_nil]); first | done | with_reducible rfl)) (by first | exact True.intro | exact ⟨_, rfl, by ((try simp only [ev_tmp, ev_const, ev_func, get_put, get_args, get_putL, get_putL_nil, Nat.reduceEqDiff, reduceIte, List.getD_cons_zero, List.getD_cons_succ, List.getD_nil, Bool.not_true, Bool.not_false]); first | done | with_reducible rfl)⟩) fun w1 b he1 hb1 hs1 hc0 hc1 hc2 => ?_
  have hz1 := he1.size
  refine go ?_
  refine rc (l10One_ok (p := p)) (next := fun v2 w2 h4 => ?_)
  obtain ⟨he2, hf2⟩ := h4
  have hz2 := he2.size
  have hlen2 : Len w2 v2 p.n := by
    have h := hf2.ints
    have h5 : Len w2 v2 (1 : El p).v.length := inferInstance
    rwa [(1 : El p).inr.len] at h5
  by_cases hn0 : p.n = 0
  · refine go ?_
    refine r_for 0 (fun k ρ w' => Has ρ [(5, v2), (6, .int .i64 (-1))] ∧ w' = w2) ?_ ?_
    · refine ⟨?_, rfl⟩
      rw [hn0]
      exact hasP
    rintro k ρ w4 hk ⟨hH, rfl⟩
    refine rwp_has hH fun ρ0 => ?_
    refine go ?_
    refine c_if (fun h4 => ?_) (fun h4 => ?_)
    · omega
    refine go ?_
    refine ret1 ⟨he1.trans he2, ?_⟩
    have e : elTo p l l.length t = (1 : El p).v := list_ext0 (by rw [elTo_len, (1 : El p).inr.len]) fun d hd => by rw [elTo_len] at hd; omega
    rw [e]
    exact hf2.mono hz1
  obtain ⟨te, b2, hb2, ho2⟩ := hf2.own (by intro e; have := (1 : El p).inr.len; rw [e] at this; simp at this; omega)
  have hbl := ho2.lt
  have ho3 : OwnI te b2 w2 v2 (zeros p.n) := ho2
  have ap1 : Apart 0 w.heap.size b2 := ⟨.inr (by omega)⟩
  have ap2 : Apart b (b + 1) b2 := ⟨.inr (by omega)⟩
  have hE2 := he1.trans he2
  have hzl := zeros_len p.n
  clear hf2 ho2
  refine go ?_
  refine r_for p.n (fun k ρ w' => ∃ (tk : Int) (xs : List Int), Has ρ [(1, .int .i64 tk), (2, .pointer (some ⟨b, 0, none⟩)), (5, v2), (6, .int .i64 (p.n - 1 - k))] ∧ Chg b2 w2 w' ∧ OwnI te b2 w' v2 xs ∧ xs.length = p.n ∧ 0 ≤ tk ∧ tk ≤ 1000000 ∧ fillTo p l (p.n - k) tk xs = elTo p l l.length t) ?_ ?_
  · refine ⟨t, zeros p.n, ?_, Chg.refl _ _, ho3, hzl, by omega, by omega, ?_⟩
    · exact hasP
    · have := fill_eq hnd hlt (t : Int)
      rwa [hll] at this ⊢
  clear ho3
  rintro k ρ w4 hk ⟨tk, xs, hH, hch4, ho4, hxl, ht0, ht1, hfill⟩
  refine rwp_has hH fun ρ0 => ?_
  refine go ?_
  refine c_if (fun h4 => ?_) (fun h4 => ?_)
  · have hkn : k < p.n := by omega
    obtain ⟨i, hi⟩ : ∃ i, p.n - 1 - k = i := ⟨_, rfl⟩
    have hil : i < p.n := by omega
    have hcast : ((p.n : Int) - 1 - k) = (i : Int) := by omega
    have hod := hv.opos hil
    have hmod : 0 ≤ tk % p.o i ∧ tk % p.o i < p.o i := ⟨Int.emod_nonneg _ (by omega), Int.emod_lt_of_pos _ (by omega)⟩
    have hdiv : 0 ≤ tk / p.o i ∧ tk / p.o i ≤ 1000000 := ⟨Int.ediv_nonneg ht0 (by omega), Int.le_trans (Int.ediv_le_self _ ht0) ht1⟩
    have hstep : fillTo p l (p.n - (k + 1)) (tk / p.o i) (xs.set i (tk % p.o i)) = elTo p l l.length t := by
      rw [← hfill, show p.n - k = i + 1 by omega, show p.n - (k + 1) = i by omega]
      show _ = fillTo p l i (tk / p.o (l.getD i 0)) (xs.set (l.getD i 0) (tk % p.o (l.getD i 0)))
      rw [hlg i hil]
    rw [hcast]
    refine go ?_
    first
      | rw [show p.ord.getD i 0 = p.o i from rfl]
      | rw [show p.ord.getD ((i : Int).toNat) 0 = p.o i from rfl]
    refine go ?_
    refine st_store_int (h := ho4) (by ((try simp only [ev_tmp, ev_const, ev_func, get_put, get_args, get_putL, get_putL_nil, Nat.reduceEqDiff, reduceIte, List.getD_cons_zero, List.getD_cons_succ, List.getD_nil]); first | done | with_reducible rfl)) (by ((try simp only [ev_tmp, ev_const, ev_func, get_put, get_args, get_putL, get_putL_nil, Nat.reduceEqDiff, reduceIte, List.getD_cons_zero, List.getD_cons_succ, List.getD_nil]); first | done | with_reducible rfl)) ?_ (by first | exact True.intro | exact ⟨_, rfl, by ((try simp only [ev_tmp, ev_const, ev_func, get_put, get_args, get_putL, get_putL_nil, Nat.reduceEqDiff, reduceIte, List.getD_cons_zero, List.getD_cons_succ, List.getD_nil, Bool.not_true, Bool.not_false]); first | done | with_reducible rfl)⟩) fun w6 hc6 hs6 ho6 => ?_
    · omega
    have hch6 : Chg b2 w2 w6 := hch4.trans hc6
    clear hch4 hc6 ho4
    refine go ?_
    first
      | rw [show p.ord.getD i 0 = p.o i from rfl]
      | rw [show p.ord.getD ((i : Int).toNat) 0 = p.o i from rfl]
    refine go ?_
    refine forQ_normal (by omega) ⟨tk / p.o i, _, ?_, hch6, ho6, by simp [hxl], hdiv.1, hdiv.2, hstep⟩
    exact hasP
  · refine go ?_
    obtain rfl : k = p.n := by omega
    rw [Nat.sub_self] at hfill
    have hx : xs = elTo p l l.length t := hfill
    refine ret1 ⟨hch4.ext hE2 (by omega), ?_⟩
    rw [← hx]
    exact ho4.toFr (by omega)
end Go.Proofs.YtnphljflkpekmaaGreat

/-
  Walks: the reference's words, relators and values of words (l07Word, l06Invert, l07Relators, l10Eval, l16Relators, l10Elements).
  Conditions: stated at each theorem.
-/
namespace Go.Proofs.YtnphljflkpekmaaGreat
open Go Go.Pc
theorem app_repl (w : List Int) (m : Nat) (a : Int) : (w ++ List.replicate m a) ++ [a] = w ++ List.replicate (m + 1) a := by
  rw [List.append_assoc]
  congr 1
  exact (List.replicate_succ' (n := m) (a := a)).symm
set_option maxHeartbeats 2000000 in
theorem l07Word_ok {e : List Int} {w : World} {vx : Value} {lo hi : Nat} [hx : Ints lo hi w vx e] (hl : e.length ≤ 100) (hr : ∀ i, i < e.length → 0 ≤ e.getD i 0 ∧ e.getD i 0 ≤ 100) :
    Calls Tryz.prog 188 #[vx] w (Ret fun v w' => Ext w w' ∧ GrowI 2 w.heap.size w' v (wordV e)) := by
  have hwl : ∀ k, (wordV (e.take k)).length ≤ 10000 := fun k => by
    have h1 := wordA_len (b := 100) (e.take k) 0 fun x hx => by
      obtain ⟨i, hi, rfl⟩ := List.getElem_of_mem (List.mem_of_mem_take hx)
      have := (hr i hi).2
      simpa [hi] using this
    have h2 : (e.take k).length * 100 ≤ 100 * 100 := Nat.mul_le_mul_right _ (by rw [List.length_take]; omega)
    exact Nat.le_trans h1 h2
  refine enter (args := [vx]) (l := [.tmp 2]) Tryz.func188 rfl rfl Tryz.ntmps188 (by simp) ?_
  refine go ?_
  refine st_slice0 (by first | exact True.intro | exact ⟨_, rfl, by ((try simp only [ev_tmp, ev_const, ev_func, get_put, get_args, get_putL, get_putL_nil, Nat.reduceEqDiff, reduceIte, List.getD_cons_zero, List.getD_cons_succ, List.getD_nil, Bool.not_true, Bool.not_false]); first | done | with_reducible rfl)⟩) fun w0 v0 he0 hs0 ho0 => ?_
  refine go ?_
  refine r_for e.length (fun k ρ w' => ∃ vl, Has ρ [(0, vx), (3, vl), (4, .int .i64 k)] ∧ Ext w w' ∧ GrowI 2 w.heap.size w' vl (wordV (e.take k))) ?_ ?_
  · refine ⟨v0, ?_, he0, GrowI.start ho0 (Nat.le_refl _)⟩
    exact hasP
  clear ho0
  rintro k ρ w2 hk ⟨vl, hH, he2, hG2⟩
  refine rwp_has hH fun ρ0 => ?_
  refine go ?_
  refine c_if (fun h4 => ?_) (fun h4 => ?_)
  · have hkn : k < e.length := by omega
    have hrk := hr k hkn
    have hst := wordV_take hkn
    have hwk := hwl k
    refine go ?_
    refine r_for (e.getD k 0).toNat (fun j ρ w' => ∃ vl, Has ρ [(0, vx), (3, vl), (4, .int .i64 k), (5, .int .i64 j)] ∧ Ext w w' ∧ GrowI 2 w.heap.size w' vl (wordV (e.take k) ++ List.replicate j ((k : Int) + 1))) ?_ ?_
    · refine ⟨vl, ?_, he2, by simpa using hG2⟩
      exact hasP
    clear hG2 he2
    rintro j ρ w3 hj ⟨vl, hH3, he3, hG3⟩
    refine rwp_has hH3 fun ρ1 => ?_
    have hz3 := he3.size
    refine go ?_
    refine c_if (fun h5 => ?_) (fun h5 => ?_)
    · refine go ?_
      refine st_growi hG3 hz3 (by simp only [List.length_append, List.length_replicate]; omega) (next := fun v4 v5 w5 hG5 hx5 hz5 hgs5 => ?_)
      refine go ?_
      refine forQ_normal (by omega) ⟨v5, ?_, hx5 w he3 (Nat.le_refl _), ?_⟩
      · exact hasP
      · rw [← app_repl]; exact hG5
    · obtain rfl : j = (e.getD k 0).toNat := by omega
      rw [← hst] at hG3
      refine go ?_
      refine forQ_normal (by omega) ⟨vl, ?_, he3, hG3⟩
      exact hasP
  · obtain rfl : k = e.length := by omega
    rw [List.take_length] at hG2
    refine go ?_
    exact ret1 ⟨he2, hG2⟩
set_option maxHeartbeats 2000000 in
theorem l06Invert_ok {e : List Int} {w : World} {vx : Value} {lo hi : Nat} [hx : Ints lo hi w vx e] (hl : e.length ≤ 100000) (hr : ∀ i, i < e.length → -1000000 ≤ e.getD i 0 ∧ e.getD i 0 ≤ 1000000) :
    Calls Tryz.prog 187 #[vx] w (Ret fun v w' => Ext w w' ∧ GrowI 2 w.heap.size w' v (invW e)) := by
  refine enter (args := [vx]) (l := [.tmp 2]) Tryz.func187 rfl rfl Tryz.ntmps187 (by simp) ?_
  refine go ?_
  refine st_slice0 (by first | exact True.intro | exact ⟨_, rfl, by ((try simp only [ev_tmp, ev_const, ev_func, get_put, get_args, get_putL, get_putL_nil, Nat.reduceEqDiff, reduceIte, List.getD_cons_zero, List.getD_cons_succ, List.getD_nil, Bool.not_true, Bool.not_false]); first | done | with_reducible rfl)⟩) fun w0 v0 he0 hs0 ho0 => ?_
  refine go ?_
  refine r_for e.length (fun k ρ w' => ∃ vl, Has ρ [(0, vx), (3, vl), (4, .int .i64 ((e.length : Int) - 1 - k))] ∧ Ext w w' ∧ GrowI 2 w.heap.size w' vl (((e.map fun x => -x).reverse).take k)) ?_ ?_
  · refine ⟨v0, ?_, he0, GrowI.start ho0 (Nat.le_refl _)⟩
    exact hasP
  clear ho0
  rintro k ρ w2 hk ⟨vl, hH, he2, hG2⟩
  refine rwp_has hH fun ρ0 => ?_
  have hz2 := he2.size
  refine go ?_
  refine c_if (fun h4 => ?_) (fun h4 => ?_)
  · have hkn : k < e.length := by omega
    obtain ⟨i, hi⟩ : ∃ i, e.length - 1 - k = i := ⟨_, rfl⟩
    have hin : i < e.length := by omega
    have hcast : ((e.length : Int) - 1 - k) = (i : Int) := by omega
    have hri := hr i hin
    have hrl : ((e.map fun x => -x).reverse).length = e.length := by simp
    have hst : ((e.map fun x => -x).reverse).take (k + 1) = ((e.map fun x => -x).reverse).take k ++ [-(e.getD i 0)] := by
      rw [List.take_succ_eq_append_getElem (by omega)]
      congr 2
      rw [List.getElem_reverse, List.getElem_map]
      simp only [List.length_map]
      have e1 : e.getD i 0 = e[i] := by simp [hin]
      rw [e1]
      congr 1
      simp only [hi]
    rw [hcast]
    refine go ?_
    refine st_growi hG2 hz2 (by rw [List.length_take]; omega) (next := fun v4 v5 w5 hG5 hx5 hz5 hgs5 => ?_)
    refine go ?_
    refine forQ_normal (by omega) ⟨v5, ?_, hx5 w he2 (Nat.le_refl _), ?_⟩
    · exact hasP
    · rw [hst]; exact hG5
  · obtain rfl : k = e.length := by omega
    have e0 : ((e.map fun x => -x).reverse).take e.length = invW e := List.take_of_length_le (by simp)
    rw [e0] at hG2
    refine go ?_
    exact ret1 ⟨he2, hG2⟩
theorem ints_bd {e : List Int} {n : Nat} (hl : LetW n e) (hn : n ≤ 6) : ∀ i, i < e.length → -1000000 ≤ e.getD i 0 ∧ e.getD i 0 ≤ 1000000 := fun i hi => by
  have e1 : e.getD i 0 = e[i] := by simp [hi]
  have := hl _ (List.getElem_mem hi)
  omega
set_option maxHeartbeats 4000000 in
theorem l07Relators_ok {p : Pr} (hv : Valid p) {w : World} {vp : Value} {lo hi : Nat} [hp : Pres lo hi w vp p] :
    Calls Tryz.prog 160 #[vp] w (Ret fun v w' => Ext w w' ∧ ∃ rs, rs.map (·.2) = rels p ∧ GrowL 22 w.heap.size w' v rs) := by
  have hn6 := hv.n6
  have hol : p.ord.length = p.n := rfl
  have hwl := hv.lenw
  have hcl := hv.lenc
  replace hp := hp.wide
  obtain ⟨vo, vpw, vc, ps, cs, css, rfl, h1, h2, h3⟩ := hp.ex
  refine enter (args := [.agg #[vo, vpw, vc]]) (l := [.tmp 2]) Tryz.func160 rfl rfl Tryz.ntmps160 (by simp) ?_
  refine go ?_
  refine st_box3 (by ((try simp only [ev_tmp, ev_const, ev_func, get_put, get_args, get_putL, get_putL_nil, Nat.reduceEqDiff, reduceIte, List.getD_cons_zero, List.getD_cons_succ, List.getD_nil]); first | done | with_reducible rfl)) (by first | exact True.intro | exact ⟨_, rfl, by ((try simp only [ev_tmp, ev_const, ev_func, get_put, get_args, get_putL, get_putL_nil, Nat.reduceEqDiff, reduceIte, List.getD_cons_zero, List.getD_cons_succ, List.getD_nil, Bool.not_true, Bool.not_false]); first | done | with_reducible rfl)⟩) fun w1 b he1 hb1 hs1 hc0 hc1 hc2 => ?_
  have hz1 := he1.size
  refine go ?_
  refine st_slice0 (by first | exact True.intro | exact ⟨_, rfl, by ((try simp only [ev_tmp, ev_const, ev_func, get_put, get_args, get_putL, get_putL_nil, Nat.reduceEqDiff, reduceIte, List.getD_cons_zero, List.getD_cons_succ, List.getD_nil, Bool.not_true, Bool.not_false]); first | done | with_reducible rfl)⟩) fun w2 v2 he2 hs2 ho2 => ?_
  refine go ?_
  refine r_for p.n (fun i ρ w' => ∃ vl rs, Has ρ [(1, .pointer (some ⟨b, 0, none⟩)), (3, vl), (4, .int .i64 p.n), (5, .int .i64 i)] ∧ Ext w1 w' ∧ GrowL 22 w1.heap.size w' vl rs ∧ rs.map (·.2) = (List.range i).map (relP p)) ?_ ?_
  · refine ⟨v2, [], ?_, he2, GrowL.start ho2 (Nat.le_refl _), rfl⟩
    exact hasP
  clear ho2
  rintro i ρ w3 hi ⟨vl, rs, hH, he3, hG3, hrs3⟩
  refine rwp_has hH fun ρ0 => ?_
  have hz3 := he3.size
  have hE3 := he1.trans he3
  have hrl3 : rs.length = i := by have := congrArg List.length hrs3; simpa using this
  refine go ?_
  refine c_if (fun h4 => ?_) (fun h4 => ?_)
  · have hin : i < p.n := by omega
    have ho := hv.opos hin
    have hoi : p.ord.getD i 0 = p.o i := rfl
    refine go ?_
    refine st_slice0 (by first | exact True.intro | exact ⟨_, rfl, by ((try simp only [ev_tmp, ev_const, ev_func, get_put, get_args, get_putL, get_putL_nil, Nat.reduceEqDiff, reduceIte, List.getD_cons_zero, List.getD_cons_succ, List.getD_nil, Bool.not_true, Bool.not_false]); first | done | with_reducible rfl)⟩) fun w4 v4 he4 hs4 ho4 => ?_
    refine go ?_
    refine r_for (p.o i).toNat (fun k ρ w' => ∃ vw, Has ρ [(1, .pointer (some ⟨b, 0, none⟩)), (3, vl), (4, .int .i64 p.n), (5, .int .i64 i), (6, vw), (7, .int .i64 k)] ∧ Ext w3 w' ∧ GrowI 2 w3.heap.size w' vw (List.replicate k ((i : Int) + 1))) ?_ ?_
    · refine ⟨v4, ?_, he4, GrowI.start ho4 (Nat.le_refl _)⟩
      exact hasP
    clear ho4
    rintro k ρ w5 hk ⟨vw, hH5, he5, hG5⟩
    refine rwp_has hH5 fun ρ1 => ?_
    have hz5 := he5.size
    have hE5 := hE3.trans he5
    refine go ?_
    refine c_if (fun h6 => ?_) (fun h6 => ?_)
    · refine go ?_
      refine st_growi hG5 hz5 (by simp only [List.length_replicate]; omega) (next := fun v6 v7 w7 hG7 hx7 hz7 hgs7 => ?_)
      refine go ?_
      refine forQ_normal (by omega) ⟨v7, ?_, hx7 w3 he5 (Nat.le_refl _), ?_⟩
      · exact hasP
      · rw [List.replicate_succ']; exact hG7
    · obtain rfl : k = (p.o i).toNat := by omega
      have hiw := invec_word hv (hv.w_in i hin)
      have hpw : p.w i = p.pow.getD i [] := rfl
      rw [hpw] at hiw
      refine go ?_
      refine rc (l07Word_ok (e := p.pow.getD i []) (by omega) (fun j hj => by have := hiw.2.2 j hj; omega)) (next := fun v6 w6 h7 => ?_)
      obtain ⟨he6, hG6⟩ := h7
      have hi6 := hG6.fr.ints
      have hlw := letW_word hiw.1
      refine go ?_
      refine rc (l06Invert_ok (e := wordV (p.pow.getD i [])) (by omega) (ints_bd hlw hn6)) (next := fun v7 w7 h8 => ?_)
      obtain ⟨he7, hG7⟩ := h8
      have hG57 : GrowI 2 w3.heap.size w7 vw (List.replicate (p.o i).toNat ((i : Int) + 1)) := @GrowI.ext _ _ _ _ _ _ (he6.trans he7) hG5
      have hz7 := (he5.trans (he6.trans he7)).size
      refine go ?_
      refine st_appi hG57 hG7.fr.ints hz7 (by simp only [List.length_replicate, invW_len]; omega) (next := fun v8 w8 hG8 hx8 hz8 => ?_)
      have hx38 := hx8 w3 (he5.trans (he6.trans he7)) (Nat.le_refl _)
      refine go ?_
      refine st_grow hG3 hx38 hG8.fr hz3 (by omega) (next := fun v9 v10 w10 hG10 hx10 hz10 hgs10 => ?_)
      refine go ?_
      refine forQ_normal (by omega) ⟨v10, _, ?_, hx10 w1 (he3.trans hx38) (Nat.le_refl _), hG10, ?_⟩
      · exact hasP
      · rw [List.map_append, hrs3, List.range_succ, List.map_append]; rfl
  · obtain rfl : i = p.n := by omega
    have hrs0 : rs.map (·.2) = relL p 0 := by rw [hrs3]; simp [relL]
    have hrb : ∀ m, m ≤ p.n → (relL p m).length ≤ 100 := fun m hm => by
      have h := (rels_props hv).1
      have : (relL p m).length ≤ (rels p).length := by
        unfold rels relL
        simp only [List.length_append]
        have e : List.range p.n = List.range m ++ (List.range (p.n - m)).map (m + ·) := by
          rw [← List.range_add, show m + (p.n - m) = p.n by omega]
        rw [e, List.flatMap_append, List.length_append]
        simp only [List.length_append, List.length_map, List.length_range]
        omega
      omega
    clear hrs3
    refine go ?_
    refine r_for p.n (fun i ρ w' => ∃ vl rs, Has ρ [(1, .pointer (some ⟨b, 0, none⟩)), (3, vl), (4, .int .i64 p.n), (8, .int .i64 i)] ∧ Ext w1 w' ∧ GrowL 22 w1.heap.size w' vl rs ∧ rs.map (·.2) = relL p i) ?_ ?_
    · refine ⟨vl, rs, ?_, he3, hG3, hrs0⟩
      exact hasP
    clear hG3 he3 hrs0 hrl3 hz3 hE3
    rintro i ρ w3 hi ⟨vl, rs, hH3, he3, hG3, hrs3⟩
    refine rwp_has hH3 fun ρ1 => ?_
    have hz3 := he3.size
    have hE3 := he1.trans he3
    refine go ?_
    refine c_if (fun h5 => ?_) (fun h5 => ?_)
    · have hin : i < p.n := by omega
      refine go ?_
      refine r_for (p.n - 1 - i) (fun k ρ w' => ∃ vl rs, Has ρ [(1, .pointer (some ⟨b, 0, none⟩)), (3, vl), (4, .int .i64 p.n), (8, .int .i64 i), (9, .int .i64 ((i + 1 + k : Nat) : Int))] ∧ Ext w1 w' ∧ GrowL 22 w1.heap.size w' vl rs ∧ rs.map (·.2) = relL p i ++ relCs p i k) ?_ ?_
      · refine ⟨vl, rs, ?_, he3, hG3, by simpa [relCs] using hrs3⟩
        exact hasP
      clear hG3 he3 hrs3 hz3 hE3
      rintro k ρ w4 hk ⟨vl, rs, hH4, he4, hG4, hrs4⟩
      refine rwp_has hH4 fun ρ2 => ?_
      have hz4 := he4.size
      have hE4 := he1.trans he4
      have hrl4 : rs.length ≤ 1000 := by
        have h := congrArg List.length hrs4
        have h2 := hrb i (by omega)
        simp only [List.length_map, List.length_append, relCs, List.length_range] at h
        omega
      refine go ?_
      refine c_if (fun h6 => ?_) (fun h6 => ?_)
      · have hkn : k < p.n - 1 - i := by omega
        have hci := hv.lenci i hin
        refine go ?_
        refine st_slice3i (a := -(i : Int) - 1) (b := ((i + 1 + k : Nat) : Int) + 1) (c := (i : Int) + 1) (by ((try simp only [ev_tmp, ev_const, ev_func, get_put, get_args, get_putL, get_putL_nil, Nat.reduceEqDiff, reduceIte, List.getD_cons_zero, List.getD_cons_succ, List.getD_nil]); first | done | with_reducible rfl)) (by ((try simp only [ev_tmp, ev_const, ev_func, get_put, get_args, get_putL, get_putL_nil, Nat.reduceEqDiff, reduceIte, List.getD_cons_zero, List.getD_cons_succ, List.getD_nil]); first | done | with_reducible rfl)) (by ((try simp only [ev_tmp, ev_const, ev_func, get_put, get_args, get_putL, get_putL_nil, Nat.reduceEqDiff, reduceIte, List.getD_cons_zero, List.getD_cons_succ, List.getD_nil]); first | done | with_reducible rfl)) ?_ (by first | exact True.intro | exact ⟨_, rfl, by ((try simp only [ev_tmp, ev_const, ev_func, get_put, get_args, get_putL, get_putL_nil, Nat.reduceEqDiff, reduceIte, List.getD_cons_zero, List.getD_cons_succ, List.getD_nil, Bool.not_true, Bool.not_false]); first | done | with_reducible rfl)⟩) fun w5 v5 he5 hG5 => ?_
        · rfl
        have hiw := invec_word hv (hv.c_in i (i + 1 + k) (by omega) (by omega))
        have hw : p.c i (i + 1 + k) = (p.cnj.getD i []).getD k [] := by
          show (p.cnj.getD i []).getD (i + 1 + k - (i + 1)) [] = _
          rw [show i + 1 + k - (i + 1) = k by omega]
        rw [hw] at hiw
        have hixn : i + 1 + k - i - 1 = k := by omega
        refine go ?_
        rw [hixn]
        refine rc (l07Word_ok (e := (p.cnj.getD i []).getD k []) (by omega) (fun j hj => by have := hiw.2.2 j hj; omega)) (next := fun v6 w6 h7 => ?_)
        obtain ⟨he6, hG6⟩ := h7
        have hi6 := hG6.fr.ints
        have hlw := letW_word hiw.1
        refine go ?_
        refine rc (l06Invert_ok (e := wordV ((p.cnj.getD i []).getD k [])) (by omega) (ints_bd hlw hn6)) (next := fun v7 w7 h8 => ?_)
        obtain ⟨he7, hG7⟩ := h8
        have hG57 := @GrowI.ext _ _ _ _ _ _ (he6.trans he7) hG5
        have hz7 := (he5.trans (he6.trans he7)).size
        refine go ?_
        refine st_appi hG57 hG7.fr.ints hz7 (by simp only [List.length_cons, List.length_nil, invW_len]; omega) (next := fun v8 w8 hG8 hx8 hz8 => ?_)
        have hx48 := hx8 w4 (he5.trans (he6.trans he7)) (Nat.le_refl _)
        refine go ?_
        refine st_grow hG4 hx48 hG8.fr hz4 (by omega) (next := fun v9 v10 w10 hG10 hx10 hz10 hgs10 => ?_)
        refine go ?_
        refine forQ_normal (by omega) ⟨v10, _, ?_, hx10 w1 (he4.trans hx48) (Nat.le_refl _), hG10, ?_⟩
        · exact hasP
        · rw [List.map_append, hrs4, relCs_succ, List.append_assoc]; rfl
      · obtain rfl : k = p.n - 1 - i := by omega
        rw [← relL_succ] at hrs4
        refine go ?_
        refine forQ_normal (by omega) ⟨vl, rs, ?_, he4, hG4, hrs4⟩
        exact hasP
    · obtain rfl : i = p.n := by omega
      refine go ?_
      exact ret1 ⟨hE3, rs, hrs3, hG3.lower hz1 hE3.size⟩
end Go.Proofs.YtnphljflkpekmaaGreat

/-
  Walks: the reference's values of words, tests of homomorphisms (l10Eval, l10Elements, l16Relators, l16Apply).
  Conditions: stated at each theorem.
-/
namespace Go.Proofs.YtnphljflkpekmaaGreat
open Go Go.Pc
theorem letW_at {n : Nat} {w : List Int} (h : LetW n w) {k : Nat} (hk : k < w.length) : w.getD k 0 ≠ 0 ∧ -(n : Int) ≤ w.getD k 0 ∧ w.getD k 0 ≤ n := by
  have e1 : w.getD k 0 = w[k] := by simp [hk]
  rw [e1]
  exact h _ (List.getElem_mem hk)
set_option maxHeartbeats 2000000 in
theorem l10Eval_ok {q : Pr} [hc : ConAll q] {ys : List (El q)} {ws : List Int} (hw : LetW ys.length ws) (hwl : ws.length ≤ 100000) (hyl : ys.length ≤ 1000) {w : World} {vq vw vi : Value} {us : List Value} {xss : List (List Int)} {lo hi lo1 hi1 lo2 hi2 : Nat} [hp : Pres lo hi w vq q] [hx : Ints lo1 hi1 w vw ws] [hu : Pc.Rows lo2 hi2 w vi us xss] (hus : xss = vecs ys) :
    Calls Tryz.prog 162 #[vq, vw, vi] w (Ret fun v w' => Ext w w' ∧ Fr w.heap.size w' v (evalW ys ws).v) := by
  subst hus
  have hvl : (vecs ys).length = ys.length := by simp
  obtain ⟨vo, vpw, vc, ps, cs, css, rfl, h1, h2, h3⟩ := hp.ex
  refine enter (args := [.agg #[vo, vpw, vc], vw, vi]) (l := [.tmp 6]) Tryz.func162 rfl rfl Tryz.ntmps162 (by simp) ?_
  refine go ?_
  refine st_box3 (by ((try simp only [ev_tmp, ev_const, ev_func, get_put, get_args, get_putL, get_putL_nil, Nat.reduceEqDiff, reduceIte, List.getD_cons_zero, List.getD_cons_succ, List.getD_nil]); first | done | with_reducible rfl)) (by first | exact True.intro | exact ⟨_, rfl, by ((try simp only [ev_tmp, ev_const, ev_func, get_put, get_args, get_putL, get_putL_nil, Nat.reduceEqDiff, reduceIte, List.getD_cons_zero, List.getD_cons_succ, List.getD_nil, Bool.not_true, Bool.not_false]); first | done | with_reducible rfl)⟩) fun w1 b he1 hb1 hs1 hc0 hc1 hc2 => ?_
  have hz1 := he1.size
  refine go ?_
  refine rc (l10One_ok (p := q)) (next := fun v2 w2 h4 => ?_)
  obtain ⟨he2, hf2⟩ := h4
  refine go ?_
  refine r_for ws.length (fun k ρ w' => ∃ vr, Has ρ [(1, vw), (2, vi), (3, .pointer (some ⟨b, 0, none⟩)), (7, vr), (8, .int .i64 k)] ∧ Ext w1 w' ∧ Fr w1.heap.size w' vr (evalW ys (ws.take k)).v) ?_ ?_
  · refine ⟨v2, ?_, he2, hf2⟩
    exact hasP
  clear hf2
  rintro k ρ w3 hk ⟨vr, hH, he3, hf3⟩
  refine rwp_has hH fun ρ0 => ?_
  have hz3 := he3.size
  have hi3 := hf3.ints
  refine go ?_
  refine c_if (fun h4 => ?_) (fun h4 => ?_)
  · have hkn : k < ws.length := by omega
    have hlk := letW_at hw hkn
    have hst := evalW_take (ys := ys) hkn
    refine go ?_
    refine c_if (fun h5 => ?_) (fun h5 => ?_)
    · have hjn : ((ws.getD k 0).toNat - 1) < ys.length := by omega
      have hgj : (vecs ys).getD ((ws.getD k 0).toNat - 1) [] = (ys.getD ((ws.getD k 0).toNat - 1) 1).v := by rw [vecs_getD ys hjn, getD_one hjn]
      have hlv : letV ys (ws.getD k 0) = ys.getD ((ws.getD k 0).toNat - 1) 1 := by unfold letV; rw [if_pos (by omega), show (ws.getD k 0 - 1).toNat = (ws.getD k 0).toNat - 1 by omega]
      refine go ?_
      refine d_region fun w4 he4 _ => ?_
      refine dgo ?_
      refine dce (l08Mul_ok (p := q) (x := evalW ys (ws.take k)) (y := ys.getD ((ws.getD k 0).toNat - 1) 1) rfl hgj) (next := fun v6 w6 h6 => ?_)
      obtain ⟨he6, hf6⟩ := h6
      refine dgo ?_
      refine d_end (h := ?_)
      refine go ?_
      refine forQ_normal (by omega) ⟨v6, ?_, (he3.trans he4).trans he6, ?_⟩
      · exact hasP
      · rw [hst, hlv]
        exact hf6.mono (he3.trans he4).size
    · have hjn : ((-ws.getD k 0).toNat - 1) < ys.length := by omega
      have hgj : (vecs ys).getD ((-ws.getD k 0).toNat - 1) [] = (ys.getD ((-ws.getD k 0).toNat - 1) 1).v := by rw [vecs_getD ys hjn, getD_one hjn]
      have hlv : letV ys (ws.getD k 0) = (ys.getD ((-ws.getD k 0).toNat - 1) 1)⁻¹ := by unfold letV; rw [if_neg (by omega), show (-ws.getD k 0 - 1).toNat = (-ws.getD k 0).toNat - 1 by omega]
      refine go ?_
      refine d_region fun w4 he4 _ => ?_
      refine dgo ?_
      refine dce (l10Inv_ok (p := q) (x := ys.getD ((-ws.getD k 0).toNat - 1) 1) hgj) (next := fun v5 w5 h5 => ?_)
      obtain ⟨he5, hf5⟩ := h5
      refine dce (l08Mul_ok (p := q) (x := evalW ys (ws.take k)) (y := (ys.getD ((-ws.getD k 0).toNat - 1) 1)⁻¹) rfl rfl) (next := fun v6 w6 h6 => ?_)
      obtain ⟨he6, hf6⟩ := h6
      refine dgo ?_
      refine d_end (h := ?_)
      refine go ?_
      have hE := (he3.trans he4).trans he5
      refine forQ_normal (by omega) ⟨v6, ?_, hE.trans he6, ?_⟩
      · exact hasP
      · rw [hst, hlv]
        exact hf6.mono hE.size
  · obtain rfl : k = ws.length := by omega
    rw [List.take_length] at hf3
    refine go ?_
    exact ret1 ⟨he1.trans he3, hf3.mono hz1⟩
set_option maxHeartbeats 2000000 in
theorem l16Relators_ok {p q : Pr} (hvp : Valid p) [hc : ConAll q] {ys : List (El q)} (hyl : ys.length = p.n) {w : World} {vp vq vi : Value} {us : List Value} {xss : List (List Int)} {lo hi lo1 hi1 lo2 hi2 : Nat} [hp : Pres lo hi w vp p] [hq : Pres lo1 hi1 w vq q] [hu : Pc.Rows lo2 hi2 w vi us xss] (hus : xss = vecs ys) :
    Calls Tryz.prog 117 #[vp, vq, vi] w (Ret fun v w' => ∃ b, v = .bool b ∧ (b = true ↔ RelOk p ys) ∧ Ext w w') := by
  subst hus
  have hn6 := hvp.n6
  have hq6 := hc.valid.n6
  have hvl : (vecs ys).length = ys.length := by simp
  have hrp := rels_props hvp
  replace hp := hp.wide
  replace hq := hq.wide
  replace hu := hu.wide
  obtain ⟨vo, vpw, vc, ps, cs, css, rfl, h1, h2, h3⟩ := hp.ex
  obtain ⟨uo, upw, uc, qs, ds, dss, rfl, k1, k2, k3⟩ := hq.ex
  refine enter (args := [.agg #[vo, vpw, vc], .agg #[uo, upw, uc], vi]) (l := [.tmp 6]) Tryz.func117 rfl rfl Tryz.ntmps117 (by simp) ?_
  refine go ?_
  refine st_box3 (by ((try simp only [ev_tmp, ev_const, ev_func, get_put, get_args, get_putL, get_putL_nil, Nat.reduceEqDiff, reduceIte, List.getD_cons_zero, List.getD_cons_succ, List.getD_nil]); first | done | with_reducible rfl)) (by first | exact True.intro | exact ⟨_, rfl, by ((try simp only [ev_tmp, ev_const, ev_func, get_put, get_args, get_putL, get_putL_nil, Nat.reduceEqDiff, reduceIte, List.getD_cons_zero, List.getD_cons_succ, List.getD_nil, Bool.not_true, Bool.not_false]); first | done | with_reducible rfl)⟩) fun w0 b0 he0 hb0 hs0 ha0 ha1 ha2 => ?_
  refine go ?_
  refine st_box3 (by ((try simp only [ev_tmp, ev_const, ev_func, get_put, get_args, get_putL, get_putL_nil, Nat.reduceEqDiff, reduceIte, List.getD_cons_zero, List.getD_cons_succ, List.getD_nil]); first | done | with_reducible rfl)) (by first | exact True.intro | exact ⟨_, rfl, by ((try simp only [ev_tmp, ev_const, ev_func, get_put, get_args, get_putL, get_putL_nil, Nat.reduceEqDiff, reduceIte, List.getD_cons_zero, List.getD_cons_succ, List.getD_nil, Bool.not_true, Bool.not_false]); first | done | with_reducible rfl)⟩) fun w1 b he1 hb1 hs1 hc0 hc1 hc2 => ?_
  have hE1 := he0.trans he1
  refine go ?_
  refine rc (l07Relators_ok (p := p) hvp) (next := fun v2 w2 h4 => ?_)
  obtain ⟨he2, rs, hrs, hG2⟩ := h4
  have hR2 := hG2.rows
  rw [hrs] at hR2
  have hul2 := hR2.vals.len
  have hE2 := hE1.trans he2
  refine go ?_
  refine r_for (rels p).length (fun k ρ w' => Has ρ [(2, vi), (4, .pointer (some ⟨b, 0, none⟩)), (7, v2), (8, .int .i64 k)] ∧ Ext w2 w' ∧ ∀ j, j < k → evalW ys ((rels p).getD j []) = 1) ?_ ?_
  · refine ⟨?_, Ext.refl _, fun j hj => by omega⟩
    exact hasP
  rintro k ρ w3 hk ⟨hH, he3, hI⟩
  refine rwp_has hH fun ρ0 => ?_
  have hE3 := hE2.trans he3
  refine go ?_
  refine c_if (fun h4 => ?_) (fun h4 => ?_)
  · have hkn : k < (rels p).length := by omega
    have e1 : (rels p).getD k [] = (rels p)[k] := by simp [hkn]
    have hwk := hrp.2 _ (List.getElem_mem hkn)
    rw [← e1, ← hyl] at hwk
    have hel := (evalW ys ((rels p).getD k [])).inr.len
    refine go ?_
    refine d_region fun w4 he4 _ => ?_
    refine dgo ?_
    refine dce (l10Eval_ok (q := q) (ys := ys) (ws := (rels p).getD k []) hwk.2 (by omega) (by omega) rfl) (next := fun v5 w5 h5 => ?_)
    obtain ⟨he5, hf5⟩ := h5
    have hi5 := hf5.ints
    refine dce (l01Zero_ok (xs := (evalW ys ((rels p).getD k [])).v) (by omega)) (next := fun v6 w6 h6 => ?_)
    obtain ⟨b6, rfl, hb6, he6⟩ := h6
    rw [← el_one_iff] at hb6
    refine dgo ?_
    refine d_end (h := ?_)
    have hE6 := (he4.trans he5).trans he6
    refine go ?_
    refine c_b (fun h7 => ?_) (fun h7 => ?_)
    · refine go ?_
      refine ret1 ⟨false, rfl, ⟨fun h => (by cases h), fun h => ?_⟩, hE3.trans hE6⟩
      rw [hb6.2 (h k hkn)] at h7; cases h7
    · refine go ?_
      refine forQ_normal (by omega) ⟨?_, he3.trans hE6, fun j hj => ?_⟩
      · exact hasP
      · by_cases e : j = k
        · subst e; exact hb6.1 (by simpa using h7)
        · exact hI j (by omega)
  · refine go ?_
    exact ret1 ⟨true, rfl, ⟨fun _ j hj => hI j (by omega), fun _ => rfl⟩, hE3⟩
end Go.Proofs.YtnphljflkpekmaaGreat

/-
  Walks: the reference's IsAutomorphism, IsIsomorphism, ApplyAutomorphism, ComposeAutomorphisms.
  Conditions: stated at each theorem.
-/
namespace Go.Proofs.YtnphljflkpekmaaGreat
open Go Go.Pc
set_option maxHeartbeats 4000000 in
theorem l25Is_ok {p : Pr} [hc : ConAll p] {w : World} {vp vu : Value} {us : List Value} {xss : List (List Int)} {lo hi lo1 hi1 : Nat} [hp : Pres lo hi w vp p] [hu : Pc.Rows lo1 hi1 w vu us xss] (hxl : xss.length ≤ 2000000) :
    Calls Tryz.prog 139 #[vp, vu] w (Ret fun v w' => ∃ b, v = .bool b ∧ (b = true ↔ xss.length = p.n ∧ (∀ i, i < xss.length → InR p (xss.getD i [])) ∧ IsoC p p xss) ∧ Ext w w') := by
  have hv := hc.valid
  have hn6 := hv.n6
  have hol : p.ord.length = p.n := rfl
  replace hp := hp.wide
  replace hu := hu.wide
  obtain ⟨vo, vpw, vc, ps, cs, css, rfl, h1, h2, h3⟩ := hp.ex
  refine enter (args := [.agg #[vo, vpw, vc], vu]) (l := [.tmp 4]) Tryz.func139 rfl rfl Tryz.ntmps139 (by simp) ?_
  refine go ?_
  refine st_box3 (by ((try simp only [ev_tmp, ev_const, ev_func, get_put, get_args, get_putL, get_putL_nil, Nat.reduceEqDiff, reduceIte, List.getD_cons_zero, List.getD_cons_succ, List.getD_nil]); first | done | with_reducible rfl)) (by first | exact True.intro | exact ⟨_, rfl, by ((try simp only [ev_tmp, ev_const, ev_func, get_put, get_args, get_putL, get_putL_nil, Nat.reduceEqDiff, reduceIte, List.getD_cons_zero, List.getD_cons_succ, List.getD_nil, Bool.not_true, Bool.not_false]); first | done | with_reducible rfl)⟩) fun w1 b he1 hb1 hs1 hc0 hc1 hc2 => ?_
  refine go ?_
  refine d_order [0, 1, 2, 3, 4, 5, 6, 7, 8, 9, 10, 11, 12, 13, 14, 15, 16, 17, 18, 19, 22, 23, 24, 20, 21, 25, 26, 27] (h := fun w2 he2 _ => ?_)
  have hE2 := he1.trans he2
  refine dgo ?_
  refine dspd (fun h4 => ?_) (fun h4 => ?_)
  · have hlen : xss.length = p.n := by omega
    refine dgo ?_
    refine dce (l10Elements_ok (p := p) (xss := xss) hv (by omega)) (next := fun v5 w5 h5 => ?_)
    obtain ⟨b5, rfl, hb5, he5⟩ := h5
    refine dgo ?_
    refine dsp (fun h6 => ?_) (fun h6 => ?_)
    · subst h6
      obtain ⟨ys, hys⟩ := els_inR (hb5.1 rfl)
      have hyl : ys.length = p.n := by rw [← hlen, hys]; simp
      refine dgo ?_
      refine dce (l16Relators_ok (p := p) (q := p) hv (ys := ys) hyl hys) (next := fun v7 w7 h7 => ?_)
      obtain ⟨b7, rfl, hb7, he7⟩ := h7
      refine dgo ?_
      refine dsp (fun h8 => ?_) (fun h8 => ?_)
      · subst h8
        refine dgo ?_
        refine dce (l12Close_ok (p := p) (ys := ys) hys (by omega)) (next := fun v9 w9 h9 => ?_)
        obtain ⟨he9, us9, hL9⟩ := h9
        have hR9 := hL9.newRows
        rw [canon_vecs] at hR9
        have hsq := seqEl_can (Gen.sub (fun a : El p => a ∈ ys))
        have hvl9 : (vecs (canEls (Gen (fun a : El p => a ∈ ys)))).length = (canEls (Gen (fun a : El p => a ∈ ys))).length := by simp
        have hlen9 : Len w2 v9 (vecs (canEls (Gen (fun a : El p => a ∈ ys)))).length := ⟨(Pc.Rows.toLen (h := hR9)).ex⟩
        refine dgo ?_
        refine d_end (h := ?_)
        refine go ?_
        refine ret1 ⟨_, rfl, ?_, ((hE2.trans he5).trans he7).trans he9⟩
        rw [decide_eq_true_iff]
        constructor
        · intro h
          refine ⟨hlen, hb5.1 rfl, ys, hys, hb7.1 rfl, (ord_full hsq).2 (by omega)⟩
        · rintro ⟨_, _, hiso⟩
          rw [hys, isoC_iff] at hiso
          have := (ord_full hsq).1 hiso.2
          omega
      · subst h8
        refine dgo ?_
        refine d_end (h := ?_)
        refine go ?_
        refine ret1 ⟨false, rfl, ⟨fun h => (by cases h), fun h => ?_⟩, (hE2.trans he5).trans he7⟩
        obtain ⟨_, _, hiso⟩ := h
        rw [hys, isoC_iff] at hiso
        have := hb7.2 hiso.1
        cases this
    · subst h6
      refine dgo ?_
      refine d_end (h := ?_)
      refine go ?_
      refine ret1 ⟨false, rfl, ⟨fun h => (by cases h), fun h => ?_⟩, hE2.trans he5⟩
      have := hb5.2 h.2.1
      cases this
  · refine dgo ?_
    refine d_end (h := ?_)
    refine go ?_
    refine ret1 ⟨false, rfl, ⟨fun h => (by cases h), fun h => ?_⟩, hE2⟩
    have := h.1
    omega
set_option maxHeartbeats 1000000 in
theorem spec_IsAutomorphism_ok {p : Pr} {w : World} {vp vu : Value} {us : List Value} {xss : List (List Int)} {lo hi lo1 hi1 : Nat} [hp : Pres lo hi w vp p] [hu : Pc.Rows lo1 hi1 w vu us xss] (hl : p.ord.length ≤ 2000000) (hxl : xss.length ≤ 2000000) :
    Calls Tryz.prog 91 #[vp, vu] w (Ret fun v w' => ∃ b, v = .bool b ∧ (b = true ↔ IsoP p p xss) ∧ Ext w w') := by
  obtain ⟨vo, vpw, vc, ps, cs, css, rfl, h1, h2, h3⟩ := hp.ex
  refine enter (args := [.agg #[vo, vpw, vc], vu]) (l := [.tmp 4]) Tryz.func91 rfl rfl Tryz.ntmps91 (by simp) ?_
  refine go ?_
  refine st_box3 (by ((try simp only [ev_tmp, ev_const, ev_func, get_put, get_args, get_putL, get_putL_nil, Nat.reduceEqDiff, reduceIte, List.getD_cons_zero, List.getD_cons_succ, List.getD_nil]); first | done | with_reducible rfl)) (by first | exact True.intro | exact ⟨_, rfl, by ((try simp only [ev_tmp, ev_const, ev_func, get_put, get_args, get_putL, get_putL_nil, Nat.reduceEqDiff, reduceIte, List.getD_cons_zero, List.getD_cons_succ, List.getD_nil, Bool.not_true, Bool.not_false]); first | done | with_reducible rfl)⟩) fun w1 b he1 hb1 hs1 hc0 hc1 hc2 => ?_
  refine go ?_
  refine rc (l08Group_ok (p := p) hl) (next := fun v5 w5 h5 => ?_)
  obtain ⟨b5, rfl, hb5, he5⟩ := h5
  have hE5 := he1.trans he5
  refine go ?_
  refine sp (fun e5 => ?_) (fun e5 => ?_)
  · subst e5
    have hG := hb5.1 rfl
    haveI : ConAll p := ⟨hG.con⟩
    refine go ?_
    refine rc (l25Is_ok (p := p) (xss := xss) hxl) (next := fun v6 w6 h6 => ?_)
    obtain ⟨b6, rfl, hb6, he6⟩ := h6
    refine go ?_
    exact ret1 ⟨b6, rfl, hb6.trans ⟨fun h => ⟨hG, h.1, rfl, hG, h.2.1, h.2.2⟩, fun h => ⟨h.2.1, h.2.2.2.2.1, h.2.2.2.2.2⟩⟩, hE5.trans he6⟩
  · subst e5
    refine go ?_
    refine ret1 ⟨false, rfl, ⟨fun h => (by cases h), fun h => ?_⟩, hE5⟩
    have := hb5.2 h.1
    cases this
theorem inr_small {p : Pr} (hv : Valid p) {xs : List Int} (h : InR p xs) : ∀ i, i < xs.length → 0 ≤ xs.getD i 0 ∧ xs.getD i 0 ≤ 7 := fun i hi => by
  have h1 := h.rng i (by have := h.len; omega)
  have h2 := hv.opos (i := i) (by have := h.len; omega)
  omega
set_option maxHeartbeats 1000000 in
theorem l16Apply_ok {q : Pr} [hc : ConAll q] {ys : List (El q)} {x : List Int} (hyl : ys.length ≤ 1000) (hxl : x.length = ys.length) (hxr : ∀ i, i < x.length → 0 ≤ x.getD i 0 ∧ x.getD i 0 ≤ 7) {w : World} {vq vi vx : Value} {us : List Value} {xss : List (List Int)} {xs : List Int} {lo hi lo1 hi1 lo2 hi2 : Nat} [hp : Pres lo hi w vq q] [hu : Pc.Rows lo1 hi1 w vi us xss] [hx : Ints lo2 hi2 w vx xs] (hus : xss = vecs ys) (hxe : xs = x) :
    Calls Tryz.prog 74 #[vq, vi, vx] w (Ret fun v w' => Ext w w' ∧ Fr w.heap.size w' v (imgE ys x).v) := by
  subst hxe
  obtain ⟨vo, vpw, vc, ps, cs, css, rfl, h1, h2, h3⟩ := hp.ex
  refine enter (args := [.agg #[vo, vpw, vc], vi, vx]) (l := [.tmp 6]) Tryz.func74 rfl rfl Tryz.ntmps74 (by simp) ?_
  refine go ?_
  refine st_box3 (by ((try simp only [ev_tmp, ev_const, ev_func, get_put, get_args, get_putL, get_putL_nil, Nat.reduceEqDiff, reduceIte, List.getD_cons_zero, List.getD_cons_succ, List.getD_nil]); first | done | with_reducible rfl)) (by first | exact True.intro | exact ⟨_, rfl, by ((try simp only [ev_tmp, ev_const, ev_func, get_put, get_args, get_putL, get_putL_nil, Nat.reduceEqDiff, reduceIte, List.getD_cons_zero, List.getD_cons_succ, List.getD_nil, Bool.not_true, Bool.not_false]); first | done | with_reducible rfl)⟩) fun w1 b he1 hb1 hs1 hc0 hc1 hc2 => ?_
  refine go ?_
  refine rc (l12Product_ok (p := q) (ys := ys) (as_ := xs) hyl hus hxl (fun i hi => by have := hxr i (by omega); omega)) (next := fun v2 w2 h4 => ?_)
  obtain ⟨he2, hf2⟩ := h4
  refine go ?_
  exact ret1 ⟨he1.trans he2, hf2.mono he1.size⟩
end Go.Proofs.YtnphljflkpekmaaGreat

/-
  Walks: the reference's InvertAutomorphism.
  Conditions: stated at each theorem.
-/
namespace Go.Proofs.YtnphljflkpekmaaGreat
open Go Go.Pc
set_option maxHeartbeats 4000000 in
theorem spec_InvertAutomorphism_ok {p : Pr} {w : World} {vp vu : Value} {us : List Value} {xss : List (List Int)} {lo hi lo1 hi1 : Nat} [hp : Pres lo hi w vp p] [hu : Pc.Rows lo1 hi1 w vu us xss] (hl : p.ord.length ≤ 2000000) (hxl : xss.length ≤ 2000000) :
    Calls Tryz.prog 48 #[vp, vu] w (Ret fun v w' => ∃ (u : Value) (k : List (List Int)) (e : Int), v = .tuple #[u, .int .i64 e] ∧ Ans (IsoP p p xss) (InV p xss) [] k e ∧ Ext w w' ∧ ∃ us', Pc.Rows w.heap.size w'.heap.size w' u us' k) := by
  replace hp := hp.wide
  replace hu := hu.wide
  obtain ⟨vo, vpw, vc, ps, cs, css, rfl, h1, h2, h3⟩ := hp.ex
  refine enter (args := [.agg #[vo, vpw, vc], vu]) (l := [.tmp 4, .tmp 5]) Tryz.func48 rfl rfl Tryz.ntmps48 (by simp) ?_
  refine go ?_
  refine st_box3 (by ((try simp only [ev_tmp, ev_const, ev_func, get_put, get_args, get_putL, get_putL_nil, Nat.reduceEqDiff, reduceIte, List.getD_cons_zero, List.getD_cons_succ, List.getD_nil]); first | done | with_reducible rfl)) (by first | exact True.intro | exact ⟨_, rfl, by ((try simp only [ev_tmp, ev_const, ev_func, get_put, get_args, get_putL, get_putL_nil, Nat.reduceEqDiff, reduceIte, List.getD_cons_zero, List.getD_cons_succ, List.getD_nil, Bool.not_true, Bool.not_false]); first | done | with_reducible rfl)⟩) fun w1 b he1 hb1 hs1 hc0 hc1 hc2 => ?_
  refine go ?_
  refine rc (spec_IsAutomorphism_ok (p := p) (xss := xss) hl hxl) (next := fun v5 w5 h5 => ?_)
  obtain ⟨b5, rfl, hb5, he5⟩ := h5
  have hE5 := he1.trans he5
  refine go ?_
  refine c_b (fun e5 => ?_) (fun e5 => ?_)
  · refine go ?_
    refine ret2 ⟨nilv, [], 1, rfl, .inr ⟨fun h => ?_, rfl, rfl⟩, hE5, [], Rows.nilR _ _ _⟩
    rw [hb5.2 h] at e5; cases e5
  have hA := hb5.1 (by simpa using e5)
  have hA' := hA
  obtain ⟨hG, hlen, _, _, hI, hC⟩ := hA'
  haveI : ConAll p := ⟨hG.con⟩
  have hv := hG.valid
  have hn6 := hv.n6
  obtain ⟨ys, hys⟩ := els_inR hI
  have hyl : ys.length = p.n := by rw [← hlen, hys]; simp
  rw [hys] at hC
  obtain ⟨hRel, hfull⟩ := isoC_iff.1 hC
  obtain ⟨inv, hinv⟩ : ∃ inv : Nat → El p, ∀ i, imgE ys (inv i).v = gOf p 0 i := ⟨fun i => Classical.choose (aut_onto hyl hRel hfull (gOf p 0 i)), fun i => Classical.choose_spec (aut_onto hyl hRel hfull (gOf p 0 i))⟩
  obtain ⟨hoe, ho1, ho2⟩ := ordN_rng p
  refine go ?_
  refine st_slice0 (by first | exact True.intro | exact ⟨_, rfl, by ((try simp only [ev_tmp, ev_const, ev_func, get_put, get_args, get_putL, get_putL_nil, Nat.reduceEqDiff, reduceIte, List.getD_cons_zero, List.getD_cons_succ, List.getD_nil, Bool.not_true, Bool.not_false]); first | done | with_reducible rfl)⟩) fun w6 v6 he6 hs6 ho6 => ?_
  refine go ?_
  refine r_for p.n (fun i ρ w' => ∃ vl rs, Has ρ [(1, vu), (2, .pointer (some ⟨b, 0, none⟩)), (6, vl), (7, .int .i64 i)] ∧ Ext w5 w' ∧ GrowL 22 w5.heap.size w' vl rs ∧ rs.map (·.2) = vecs ((List.range i).map inv)) ?_ ?_
  · refine ⟨v6, [], ?_, he6, GrowL.start ho6 (Nat.le_refl _), rfl⟩
    exact hasP
  clear ho6
  rintro i ρ w3 hi ⟨vl3, rs3, hH, he3, hG3, hrs3⟩
  refine rwp_has hH fun ρ0 => ?_
  have hz3 := he3.size
  have hE3 := hE5.trans he3
  refine go ?_
  refine c_if (fun h4 => ?_) (fun h4 => ?_)
  · have hin : i < p.n := by omega
    refine go ?_
    rw [hlen]
    refine rc (l07Unit_ok (n := p.n) (i := i) rfl rfl (by omega) hin) (next := fun v7 w7 h7 => ?_)
    obtain ⟨he7, hf7⟩ := h7
    have hz7 := he7.size
    have hI7 : IntsAp (fun g => vl3.ownBlock = some g) w7 v7 (gOf p 0 i : El p).v := by
      rw [gOf_val hin]
      exact IntsAp.ofFr hf7 (fun g hg => (hG3.lst.lt hg).2)
    obtain ⟨m, hm1, hm2⟩ := allE_surj (inv i)
    refine go ?_
    refine r_for (ordN p) (fun t ρ w' => ∃ vl rs, Has ρ [(1, vu), (2, .pointer (some ⟨b, 0, none⟩)), (6, vl), (7, .int .i64 i), (8, v7), (9, .int .i64 t)] ∧ Ext w5 w' ∧ GrowL 22 w5.heap.size w' vl rs ∧ IntsAp (fun g => vl.ownBlock = some g) w' v7 (gOf p 0 i : El p).v ∧ rs.map (·.2) = vecs ((List.range i).map inv ++ (if m < t then [inv i] else []))) ?_ ?_
    · refine ⟨vl3, rs3, ?_, he3.trans he7, hG3.ext he7, hI7, by rw [hrs3, if_neg (Nat.not_lt_zero _), List.append_nil]⟩
      exact hasP
    clear hf7 hI7 hG3 hrs3
    rintro t ρ w4 ht ⟨vl, rs, hH4, he4, hG4, hI4, hrs4⟩
    have hIa := hI4
    refine rwp_has hH4 fun ρ1 => ?_
    have hE4 := hE5.trans he4
    have hz4 := he4.size
    have hrl : rs.length ≤ i + 1 := by
      have := congrArg List.length hrs4
      simp at this
      split at this <;> simp at this <;> omega
    have hi4 := hI4.ints
    refine go ?_
    refine rc (l10Order_ok (p := p) hv) (next := fun v8 w8 h8 => ?_)
    obtain ⟨rfl, he8⟩ := h8
    rw [hoe]
    refine go ?_
    refine c_if (fun h9 => ?_) (fun h9 => ?_)
    · have htn : t < ordN p := by omega
      have hG8 := hG4.ext he8
      have hz8 := he8.size
      refine go ?_
      refine rc (l10At_ok (p := p) (t := t) (by omega)) (next := fun v9 w9 h10 => ?_)
      obtain ⟨he9, hf9⟩ := h10
      have hi9 := hf9.ints
      have hix := (allE p t).inr
      have hixl := hix.len
      refine go ?_
      refine rc (l16Apply_ok (q := p) (ys := ys) (x := (allE p t).v) (by omega) (by omega) (inr_small hv hix) hys rfl) (next := fun v10 w10 h11 => ?_)
      obtain ⟨he10, hf10⟩ := h11
      have hi10 := hf10.ints
      have hil : (imgE ys (allE p t).v).v.length = p.n := (imgE ys (allE p t).v).inr.len
      refine go ?_
      refine rc (l01Same_ok (xs := (imgE ys (allE p t).v).v) (ys := (gOf p 0 i : El p).v) (by omega)) (next := fun v11 w11 h12 => ?_)
      obtain ⟨b11, rfl, hb11, he11⟩ := h12
      have hx11 := (he9.trans he10).trans he11
      have key : b11 = true ↔ t = m := by
        rw [hb11]
        constructor
        · intro h
          have h1 : imgE ys (allE p t).v = gOf p 0 i := T.ext h
          have h2 := aut_inj hyl hRel hfull (h1.trans (hinv i).symm)
          rw [hm2] at h2
          exact allE_inj htn hm1 h2
        · rintro rfl
          rw [← hm2, hinv i]
      refine go ?_
      refine c_b (fun e11 => ?_) (fun e11 => ?_)
      · have htm := key.1 e11
        have hz9 := he9.size
        refine go ?_
        refine st_grow hG8 hx11 (hf9.ext' (he10.trans he11)) (by omega) (by omega) (next := fun v12 v13 w13 hG13 hx13 hz13 hgs13 => ?_)
        refine go ?_
        refine forQ_normal (by omega) ⟨v13, _, ?_, hx13 w5 ((he4.trans he8).trans hx11) (Nat.le_refl _), hG13, (hIa.ext (he8.trans hx11)).gstep hgs13, ?_⟩
        · exact hasP
        · rw [if_neg (by omega), List.append_nil] at hrs4
          rw [if_pos (by omega), List.map_append, hrs4]
          simp only [vecs, List.map_append, List.map_cons, List.map_nil]
          rw [htm, ← hm2]
      · have htm : t ≠ m := fun h => by rw [key.2 h] at e11; cases e11
        refine go ?_
        refine forQ_normal (by omega) ⟨vl, rs, ?_, (he4.trans he8).trans hx11, (hG8.ext hx11), hIa.ext (he8.trans hx11), ?_⟩
        · exact hasP
        · rw [hrs4]
          by_cases h : m < t
          · rw [if_pos h, if_pos (by omega)]
          · rw [if_neg h, if_neg (by omega)]
    · obtain rfl : t = ordN p := by omega
      rw [if_pos hm1] at hrs4
      refine go ?_
      refine forQ_normal (by omega) ⟨vl, rs, ?_, he4.trans he8, hG4.ext he8, ?_⟩
      · exact hasP
      · rw [hrs4, List.range_succ, List.map_append]; rfl
  · obtain rfl : i = p.n := by omega
    have hR := hG3.rows
    rw [hrs3] at hR
    refine go ?_
    refine ret2 ⟨vl3, vecs ((List.range p.n).map inv), 0, rfl, .inl ⟨hA, ⟨inferInstance, ys, (List.range p.n).map inv, hys, by simp, fun i hi => ?_, rfl⟩, rfl⟩, hE3, _, hR.mono hE5.size (Nat.le_refl _)⟩
    have e : ((List.range p.n).map inv).getD i 1 = inv i := by simp [hi]
    rw [e, hinv i]
end Go.Proofs.YtnphljflkpekmaaGreat

/-
  Walks: the program's order, index code, transversal; Transversal.
  Conditions: stated at each theorem.
-/
namespace Go.Proofs.YtnphljflkpekmaaGreat
open Go Go.Pc
set_option maxHeartbeats 1000000 in
theorem orderOf_ok {p : Pr} (hv : Valid p) {w : World} {vp : Value} {lo hi : Nat} [hp : PresP lo hi w vp p] :
    Calls Tryz.prog 174 #[vp] w (Ret fun v w' => v = .int .i64 (ordL p (List.range p.n)) ∧ Ext w w') := by
  have hn6 := hv.n6
  have hol : p.ord.length = p.n := rfl
  have hrl : (List.range p.n).length = p.n := by simp
  obtain ⟨g, og, vo, vpw, vc, ps, cs, css, rfl, hg1, hg2, hc0, hc1, hc2, h1, h2, h3⟩ := hp.ex
  refine enter (args := [.pointer (some ⟨g, og, none⟩)]) (l := [.tmp 2]) Tryz.func174 rfl rfl Tryz.ntmps174 (by simp) ?_
  refine go ?_
  refine r_for p.n (fun k ρ w' => Has ρ [(3, .int .i64 (ordL p ((List.range p.n).take k))), (9, vo), (10, .int .i64 p.ord.length), (11, .int .i64 k)] ∧ Ext w w') ?_ ?_
  · refine ⟨?_, Ext.refl _⟩
    exact hasP
  rintro k ρ w2 hk ⟨hH, he2⟩
  refine rwp_has hH fun ρ0 => ?_
  refine go ?_
  refine c_if (fun h4 => ?_) (fun h4 => ?_)
  · have hkn : k < p.n := by omega
    have hod := hv.opos hkn
    have hr := ordL_rng hv (l := List.range p.n) (fun d hd => List.mem_range.1 hd) (by omega) (k := k) (by omega)
    have hm : 0 ≤ ordL p ((List.range p.n).take k) * p.o k ∧ ordL p ((List.range p.n).take k) * p.o k ≤ 117649 * 7 := ⟨Int.mul_nonneg (by omega) (by omega), Int.mul_le_mul hr.2 hod.2 (by omega) (by omega)⟩
    have hmb : -9223372036854775808 ≤ ordL p ((List.range p.n).take k) * p.o k ∧ ordL p ((List.range p.n).take k) * p.o k ≤ 9223372036854775807 := ⟨by omega, by omega⟩
    have hst := ordL_take (p := p) (List.range p.n) (show k < (List.range p.n).length by omega)
    rw [show (List.range p.n).getD k 0 = k by simp [hkn]] at hst
    refine go ?_
    rw [show p.ord.getD k 0 = p.o k from rfl]
    refine ra (h := rd_mul (by ((try simp only [ev_tmp, ev_const, ev_func, get_put, get_args, get_putL, get_putL_nil, Nat.reduceEqDiff, reduceIte, List.getD_cons_zero, List.getD_cons_succ, List.getD_nil]); first | done | with_reducible rfl)) (by ((try simp only [ev_tmp, ev_const, ev_func, get_put, get_args, get_putL, get_putL_nil, Nat.reduceEqDiff, reduceIte, List.getD_cons_zero, List.getD_cons_succ, List.getD_nil]); first | done | with_reducible rfl)) hmb) (next := ?_)
    refine go ?_
    refine forQ_normal (by omega) ⟨?_, he2⟩
    rw [hst]
    exact hasP
  · refine go ?_
    have e : (List.range p.n).take k = List.range p.n := by rw [show k = p.n by omega, List.take_of_length_le (by omega)]
    rw [e]
    exact ret1 ⟨rfl, he2⟩
end Go.Proofs.YtnphljflkpekmaaGreat

/-
  The builtin copy into a list of the call's own; operations on literal words.
  Conditions: none; nothing of the program stands here.
-/
namespace Go.Pc
open Go Go.RowKit
section
variable {P : Program} {N : Nat} {ops : Array Oper} {π : List Nat} {K : Env → World → Prop} {ρ : Env} {w w0 : World} {l : List Oper}
variable {i : Nat} {ty : TypeId} {pos : String} {after : Array Edge} {g : Option (Nat × Bool)} {d : Nat}
theorem rd_bin {o : BinOp} {x y : Operand} {a b v : Value} {tx tyy : TypeId} (hx : ev ρ x = a) (hy : ev ρ y = b) (ho : ∀ w, (eqGuard o tx x y a b).run P w = .ok () w) (hv : ∀ w, (binOp o tx a b).run P w = .ok v w) : Rd P (.binOp o tx x y tyy) ty ρ w v := by
  constructor; intro _ _ _ _
  simp [execOp, hx, hy, hv, ho]
theorem rd_conv {x : Operand} {n m : Int} {k k' : IntKind} {src dst : TypeId} {u : TypeDesc} (hx : ev ρ x = .int k n) (hs : P.underlying src = some u) (hd : P.underlying dst = some (.int k')) (hv : k'.wrap n = m) : Rd P (.convert src dst x) ty ρ w (.int k' m) := by
  constructor; intro _ _ _ _
  simp [execOp, hx, convert, run_underlying hs, run_underlying hd, Conv.intToInt, hv]
theorem splice_take {α : Type} (L us cs : List α) {n o : Nat} (h : L.take n = us) (hn : us.length = n) (hf : o + cs.length ≤ n) : (L.take o ++ cs ++ L.drop (o + cs.length)).take n = us.take o ++ cs ++ us.drop (o + cs.length) := by
  obtain ⟨r, rfl⟩ : ∃ r, L = us ++ r := ⟨L.drop n, by rw [← h, List.take_append_drop]⟩
  have e1 : (us ++ r).take o = us.take o := List.take_append_of_le_length (by omega)
  have e2 : (us ++ r).drop (o + cs.length) = us.drop (o + cs.length) ++ r := List.drop_append_of_le_length (by omega)
  rw [e1, e2, ← List.append_assoc]
  refine List.take_left' ?_
  simp only [List.length_append, List.length_take, List.length_drop]
  omega
theorem run_copyI {t e b bytes n dl dc sl sc : Nat} {x y : Operand} {z v : Value} {a : Addr} {xs cs : List Int} [ht : SlT P t e] [he : ElT P e 1 bytes z] (ho : OwnI e b w v xs) (hx : ev ρ x = .slice (some ⟨b, n, none⟩) dl dc) (hy : ev ρ y = .slice (some a) sl sc)
    (hn : cs.length = Nat.min sl dl) (hsrc : ∀ (j : Nat) (u : Int), cs[j]? = some u → w.cell? (a.add j) = some (.int .i64 u)) (hf : n + cs.length ≤ xs.length) :
    ∃ w', Ex P (.call { callee := .builtin .copy, args := #[x, y], argTypes := #[t, t] }) ty ρ w (.int .i64 cs.length) w' ∧ Chg b w w' ∧ w'.heap.size = w.heap.size ∧ OwnI e b w' v (xs.take n ++ cs ++ xs.drop (n + cs.length)) := by
  obtain ⟨cap, cur, hv, hb, h1, h2, h3, h4⟩ := ho.own.ex
  obtain ⟨i, hi, hs, hby, hz'⟩ := he.ex
  have hml : (cs.map (Value.int .i64)).length = cs.length := by simp
  have hxl : (xs.map (Value.int .i64)).length = xs.length := by simp
  have hrun := run_copy_row (P := P) w t t ty e b n dl dc a sl sc cur e (cs.map (Value.int .i64)) ht.eq (by simp [hi, hs]) hb (by rw [hml]; exact hn) (fun j u hu => by
    rw [List.getElem?_map] at hu
    cases hj : cs[j]? with
    | none => rw [hj] at hu; cases hu
    | some k => rw [hj] at hu; injection hu with hu; rw [← hu]; exact hsrc j k hj) (by rw [hml]; omega) (fun u hu => by
    obtain ⟨k, _, rfl⟩ := List.mem_map.1 hu
    rfl)
  refine ⟨w.setRow b (cur.toList.take n ++ cs.map (Value.int .i64) ++ cur.toList.drop (n + (cs.map (Value.int .i64)).length)).toArray, ⟨fun _ _ _ _ => ?_⟩, ⟨⟨rfl, rfl, rfl, ?_, fun k hk hne => setRow_other w b k _ (fun e => hne (by simp [e]))⟩⟩, ?_, ⟨⟨cap, _, ?_, setRow_heap w b _ _ e _ hb, ?_, h2, ?_, ?_⟩⟩⟩
  · simp [execOp, resolve, invoke, builtin, hx, hy, hrun, goInt]
  · simp
  · simp
  · rw [hv]
    simp only [List.length_map, List.length_append, List.length_take, List.length_drop]
    congr 1
    omega
  · simp only [List.length_map, List.length_append, List.length_take, List.length_drop]
    omega
  · have : cur.toList.length = cap := by simpa using h3
    simp only [List.size_toArray, List.length_append, List.length_take, List.length_drop, hml]
    omega
  · rw [List.toList_toArray]
    have e1 : ((xs.take n ++ cs ++ xs.drop (n + cs.length)).map (Value.int .i64)).length = (xs.map (Value.int .i64)).length := by
      simp only [List.length_map, List.length_append, List.length_take, List.length_drop]; omega
    rw [e1, splice_take cur.toList (xs.map (Value.int .i64)) (cs.map (Value.int .i64)) h4 rfl (by rw [hml, hxl]; exact hf)]
    simp only [List.map_append, List.map_take, List.map_drop, hml]
theorem st_copyi {t e b bytes n dl dc sl sc : Nat} {x y : Operand} {z v : Value} {a : Addr} {xs cs : List Int} [ht : SlT P t e] [he : ElT P e 1 bytes z] (ho : OwnI e b w v xs) (hx : ev ρ x = .slice (some ⟨b, n, none⟩) dl dc) (hy : ev ρ y = .slice (some a) sl sc)
    (hn : cs.length = Nat.min sl dl) (hsrc : ∀ (j : Nat) (u : Int), cs[j]? = some u → w.cell? (a.add j) = some (.int .i64 u)) (hf : n + cs.length ≤ xs.length)
    (next : ∀ w', Chg b w w' → OwnI e b w' v (xs.take n ++ cs ++ xs.drop (n + cs.length)) → rops P N ops K l (put ρ d (.int .i64 cs.length)) w') (hg : Wants ops ρ g := by first | exact True.intro | exact ⟨_, rfl, by ((try simp only [ev_tmp, ev_const, ev_func, get_put, get_args, get_putL, get_putL_nil, Nat.reduceEqDiff, reduceIte, List.getD_cons_zero, List.getD_cons_succ, List.getD_nil, Bool.not_true, Bool.not_false]); first | done | with_reducible rfl)⟩) :
    rops P N ops K (⟨some d, .call { callee := .builtin .copy, args := #[x, y], argTypes := #[t, t] }, ty, pos, after, g⟩ :: l) ρ w := by
  obtain ⟨w', h1, h2, h3, h4⟩ := run_copyI (P := P) (ρ := ρ) (ty := ty) (t := t) ho hx hy hn hsrc hf
  exact st_ex hg h1 (next w' h2 h4)
theorem z_copyi {t e b bytes n dl dc sl sc : Nat} {x y : Operand} {z v : Value} {a : Addr} {xs cs : List Int} [ht : SlT P t e] [he : ElT P e 1 bytes z] (ho : OwnI e b w v xs) (hi : opAt ops π i = some ⟨some d, .call { callee := .builtin .copy, args := #[x, y], argTypes := #[t, t] }, ty, pos, after, g⟩ := by exact rfl) (hx : ev ρ x = .slice (some ⟨b, n, none⟩) dl dc) (hy : ev ρ y = .slice (some a) sl sc)
    (hn : cs.length = Nat.min sl dl) (hsrc : ∀ (j : Nat) (u : Int), cs[j]? = some u → w.cell? (a.add j) = some (.int .i64 u)) (hf : n + cs.length ≤ xs.length)
    (next : ∀ w', Chg b w w' → OwnI e b w' v (xs.take n ++ cs ++ xs.drop (n + cs.length)) → dops P N ops π (Chg b w0) K (i + 1) (put ρ d (.int .i64 cs.length)) w')
    (hn1 : nextOk ops π i = true := by decide +kernel) (hd : d < N := by decide) (hg : Wants ops ρ g := by first | exact True.intro | exact ⟨_, rfl, by ((try simp only [ev_tmp, ev_const, ev_func, get_put, get_args, get_putL, get_putL_nil, Nat.reduceEqDiff, reduceIte, List.getD_cons_zero, List.getD_cons_succ, List.getD_nil, Bool.not_true, Bool.not_false]); first | done | with_reducible rfl)⟩) :
    dops P N ops π (Chg b w0) K i ρ w := by
  obtain ⟨w', h1, h2, h3, h4⟩ := run_copyI (P := P) (ρ := ρ) (ty := ty) (t := t) ho hx hy hn hsrc hf
  exact dt_ex hi hn1 hd hg h1 (fun hS => hS.trans h2) (next w' h2 h4)
end
end Go.Pc

/-
  Walks: the program's words (slices.Reverse, invertWord, normalWord).
  Conditions: stated at each theorem.
-/
namespace Go.Proofs.YtnphljflkpekmaaGreat
open Go Go.Pc
theorem _root_.Go.Pc.Ex.ofRd {P : Program} {o : Op} {ty : TypeId} {ρ : Env} {w : World} {v : Value} (h : Rd P o ty ρ w v) : Ex P o ty ρ w v w := ⟨h.run⟩
set_option maxHeartbeats 2000000 in
theorem sliceReverse_ok {e b : Nat} {w : World} {v : Value} {xs : List Int} [ho : OwnI e b w v xs] (hl : xs.length ≤ 1000000) :
    Calls Tryz.prog 190 #[v] w (Ret fun _ w' => Chg b w w' ∧ OwnI e b w' v xs.reverse) := by
  refine enter (args := [v]) (l := []) Tryz.func190 rfl rfl Tryz.ntmps190 (by simp) ?_
  refine go ?_
  refine r_for xs.length (fun k ρ w' => ∃ ys, Has ρ [(0, v), (2, .int .i64 k), (3, .int .i64 ((xs.length : Int) - 1 - k))] ∧ Chg b w w' ∧ OwnI e b w' v ys ∧ ys.length = xs.length ∧ 2 * k ≤ xs.length ∧ (∀ t, t < k → ys.getD t 0 = xs.getD (xs.length - 1 - t) 0 ∧ ys.getD (xs.length - 1 - t) 0 = xs.getD t 0) ∧ ∀ t, k ≤ t → t + k < xs.length → ys.getD t 0 = xs.getD t 0) ?_ ?_
  · refine ⟨xs, ?_, Chg.refl _ _, ho, rfl, by omega, fun t ht => by omega, fun t _ _ => rfl⟩
    exact hasP
  clear ho
  rintro k ρ w2 hk ⟨ys, hH, hc2, ho2, hyl, hk2, hI, hJ⟩
  refine rwp_has hH fun ρ0 => ?_
  refine go ?_
  refine c_if (fun h4 => ?_) (fun h4 => ?_)
  · have hkn : 2 * k + 1 < xs.length := by omega
    obtain ⟨j, hj⟩ : ∃ j, xs.length - 1 - k = j := ⟨_, rfl⟩
    have hcast : ((xs.length : Int) - 1 - k) = (j : Int) := by omega
    have hjn : j < ys.length := by omega
    have hkn2 : k < ys.length := by omega
    have hkj : k < j := by omega
    rw [hcast]
    refine go ?_
    have hcast2 : ((xs.length : Int) - 1 - ((k + 1 : Nat) : Int)) = (j : Int) - 1 := by omega
    have hstepI : ∀ t, t < k + 1 → ((ys.set k (ys.getD j 0)).set j (ys.getD k 0)).getD t 0 = xs.getD (xs.length - 1 - t) 0 ∧ ((ys.set k (ys.getD j 0)).set j (ys.getD k 0)).getD (xs.length - 1 - t) 0 = xs.getD t 0 := fun t ht => by
      by_cases e : t = k
      · subst e
        rw [hj, Pc.getD_set_ne _ _ _ _ (by omega), Pc.getD_set_eq _ _ _ hkn2, Pc.getD_set_eq _ _ _ (by simpa using hjn)]
        exact ⟨hJ j (by omega) (by omega), hJ t (by omega) (by omega)⟩
      · rw [Pc.getD_set_ne _ _ _ _ (by omega), Pc.getD_set_ne _ _ _ _ (by omega), Pc.getD_set_ne _ _ _ _ (by omega), Pc.getD_set_ne _ _ _ _ (by omega)]
        exact hI t (by omega)
    have hstepJ : ∀ t, k + 1 ≤ t → t + (k + 1) < xs.length → ((ys.set k (ys.getD j 0)).set j (ys.getD k 0)).getD t 0 = xs.getD t 0 := fun t h1 h2 => by
      rw [Pc.getD_set_ne _ _ _ _ (by omega), Pc.getD_set_ne _ _ _ _ (by omega)]
      exact hJ t (by omega) (by omega)
    refine z_order b [0, 1, 2, 3, 4, 5, 6, 8, 9, 10, 7, 11, 12, 13, 14, 15] (h := fun w3 he3 _ => ?_)
    have hi3 : Ints b (b + 1) w3 v ys := ⟨(OwnI.ext (x := he3) (h := ho2)).own.toSl⟩
    refine zgo ?_
    refine dt_fork (π' := [0, 1, 2, 3, 4, 5, 6, 8, 9, 10, 11, 7, 12, 13, 14, 15]) (by decide) rfl rfl (by decide +kernel) ?_ ?_
    · refine dstp_ex (v := .int .i64 (ys.getD j 0)) (by exact rfl) (by decide) (by first | exact True.intro | exact ⟨_, rfl, by ((try simp only [ev_tmp, ev_const, ev_func, get_put, get_args, get_putL, get_putL_nil, Nat.reduceEqDiff, reduceIte, List.getD_cons_zero, List.getD_cons_succ, List.getD_nil, Bool.not_true, Bool.not_false]); first | done | with_reducible rfl)⟩) (Ex.ofRd (rd_load_ints (by ((try simp only [ev_tmp, ev_const, ev_func, get_put, get_args, get_putL, get_putL_nil, Nat.reduceEqDiff, reduceIte, List.getD_cons_zero, List.getD_cons_succ, List.getD_nil]); first | done | with_reducible rfl)) hjn)) id ?_
      refine dt_ex (v := .int .i64 (ys.getD k 0)) (by exact rfl) (by decide +kernel) (by decide) (by first | exact True.intro | exact ⟨_, rfl, by ((try simp only [ev_tmp, ev_const, ev_func, get_put, get_args, get_putL, get_putL_nil, Nat.reduceEqDiff, reduceIte, List.getD_cons_zero, List.getD_cons_succ, List.getD_nil, Bool.not_true, Bool.not_false]); first | done | with_reducible rfl)⟩) (Ex.ofRd (rd_load_ints (by ((try simp only [ev_tmp, ev_const, ev_func, get_put, get_args, get_putL, get_putL_nil, Nat.reduceEqDiff, reduceIte, List.getD_cons_zero, List.getD_cons_succ, List.getD_nil]); first | done | with_reducible rfl)) hkn2)) id ?_
      refine zgo ?_
      refine z_store_int (h := OwnI.ext (x := he3) (h := ho2)) (m := k) (hx := (by ((try simp only [ev_tmp, ev_const, ev_func, get_put, get_args, get_putL, get_putL_nil, Nat.reduceEqDiff, reduceIte, List.getD_cons_zero, List.getD_cons_succ, List.getD_nil]); first | done | with_reducible rfl))) (hy := (by ((try simp only [ev_tmp, ev_const, ev_func, get_put, get_args, get_putL, get_putL_nil, Nat.reduceEqDiff, reduceIte, List.getD_cons_zero, List.getD_cons_succ, List.getD_nil]); first | done | with_reducible rfl))) (hm := hkn2) (next := fun w5 hc5 hs5 ho5 => ?_)
      refine zgo ?_
      refine z_store_int (h := ho5) (m := j) (hx := (by ((try simp only [ev_tmp, ev_const, ev_func, get_put, get_args, get_putL, get_putL_nil, Nat.reduceEqDiff, reduceIte, List.getD_cons_zero, List.getD_cons_succ, List.getD_nil]); first | done | with_reducible rfl))) (hy := (by ((try simp only [ev_tmp, ev_const, ev_func, get_put, get_args, get_putL, get_putL_nil, Nat.reduceEqDiff, reduceIte, List.getD_cons_zero, List.getD_cons_succ, List.getD_nil]); first | done | with_reducible rfl))) (hm := by simpa using hjn) (next := fun w6 hc6 hs6 ho6 => ?_)
      refine z_end ?_
      refine go ?_
      refine forQ_normal (by omega) ⟨_, ?_, (hc2.grow he3).trans (hc5.trans hc6), ho6, by simp [hyl], by omega, fun t ht => ?_, fun t ht ht2 => ?_⟩
      · rw [← hcast2]
        exact hasP
      · exact hstepI t ht
      · exact hstepJ t ht ht2
    · refine dstp_ex (v := .int .i64 (ys.getD k 0)) (by exact rfl) (by decide) (by first | exact True.intro | exact ⟨_, rfl, by ((try simp only [ev_tmp, ev_const, ev_func, get_put, get_args, get_putL, get_putL_nil, Nat.reduceEqDiff, reduceIte, List.getD_cons_zero, List.getD_cons_succ, List.getD_nil, Bool.not_true, Bool.not_false]); first | done | with_reducible rfl)⟩) (Ex.ofRd (rd_load_ints (by ((try simp only [ev_tmp, ev_const, ev_func, get_put, get_args, get_putL, get_putL_nil, Nat.reduceEqDiff, reduceIte, List.getD_cons_zero, List.getD_cons_succ, List.getD_nil]); first | done | with_reducible rfl)) hkn2)) id ?_
      refine dt_ex (v := .int .i64 (ys.getD j 0)) (by exact rfl) (by decide +kernel) (by decide) (by first | exact True.intro | exact ⟨_, rfl, by ((try simp only [ev_tmp, ev_const, ev_func, get_put, get_args, get_putL, get_putL_nil, Nat.reduceEqDiff, reduceIte, List.getD_cons_zero, List.getD_cons_succ, List.getD_nil, Bool.not_true, Bool.not_false]); first | done | with_reducible rfl)⟩) (Ex.ofRd (rd_load_ints (by ((try simp only [ev_tmp, ev_const, ev_func, get_put, get_args, get_putL, get_putL_nil, Nat.reduceEqDiff, reduceIte, List.getD_cons_zero, List.getD_cons_succ, List.getD_nil]); first | done | with_reducible rfl)) hjn)) id ?_
      refine zgo ?_
      refine z_store_int (h := OwnI.ext (x := he3) (h := ho2)) (m := k) (hx := (by ((try simp only [ev_tmp, ev_const, ev_func, get_put, get_args, get_putL, get_putL_nil, Nat.reduceEqDiff, reduceIte, List.getD_cons_zero, List.getD_cons_succ, List.getD_nil]); first | done | with_reducible rfl))) (hy := (by ((try simp only [ev_tmp, ev_const, ev_func, get_put, get_args, get_putL, get_putL_nil, Nat.reduceEqDiff, reduceIte, List.getD_cons_zero, List.getD_cons_succ, List.getD_nil]); first | done | with_reducible rfl))) (hm := hkn2) (next := fun w5 hc5 hs5 ho5 => ?_)
      refine zgo ?_
      refine z_store_int (h := ho5) (m := j) (hx := (by ((try simp only [ev_tmp, ev_const, ev_func, get_put, get_args, get_putL, get_putL_nil, Nat.reduceEqDiff, reduceIte, List.getD_cons_zero, List.getD_cons_succ, List.getD_nil]); first | done | with_reducible rfl))) (hy := (by ((try simp only [ev_tmp, ev_const, ev_func, get_put, get_args, get_putL, get_putL_nil, Nat.reduceEqDiff, reduceIte, List.getD_cons_zero, List.getD_cons_succ, List.getD_nil]); first | done | with_reducible rfl))) (hm := by simpa using hjn) (next := fun w6 hc6 hs6 ho6 => ?_)
      refine z_end ?_
      refine go ?_
      refine forQ_normal (by omega) ⟨_, ?_, (hc2.grow he3).trans (hc5.trans hc6), ho6, by simp [hyl], by omega, fun t ht => ?_, fun t ht ht2 => ?_⟩
      · rw [← hcast2]
        exact hasP
      · exact hstepI t ht
      · exact hstepJ t ht ht2
  · refine go ?_
    refine retQ_0 ⟨hc2, ?_⟩
    have e : ys = xs.reverse := list_ext0 (by simp [hyl]) fun t ht => by
      have hr : xs.reverse.getD t 0 = xs.getD (xs.length - 1 - t) 0 := by
        have h1 : t < xs.reverse.length := by simp; omega
        have h2 : xs.length - 1 - t < xs.length := by omega
        rw [List.getD_eq_getElem?_getD, List.getElem?_eq_getElem h1, List.getD_eq_getElem?_getD, List.getElem?_eq_getElem h2, List.getElem_reverse]
      rw [hr]
      by_cases e1 : t < k
      · exact (hI t e1).1
      · by_cases e2 : t + k < xs.length
        · rw [hJ t (by omega) e2, show xs.length - 1 - t = t by omega]
        · have h3 := (hI (xs.length - 1 - t) (by omega)).2
          rw [show xs.length - 1 - (xs.length - 1 - t) = t by omega] at h3
          exact h3
    rw [← e]
    exact ho2
theorem sliceReverse_nil {w : World} {v : Value} {lo hi : Nat} [hx : Ints lo hi w v []] :
    Calls Tryz.prog 190 #[v] w (Ret fun _ w' => w' = w) := by
  have h0 : (([] : List Int).length : Int) = 0 := rfl
  refine enter (args := [v]) (l := []) Tryz.func190 rfl rfl Tryz.ntmps190 (by simp) ?_
  refine go ?_
  refine r_for 0 (fun k ρ w' => Has ρ [(0, v), (2, .int .i64 0), (3, .int .i64 ((([] : List Int).length : Int) - 1))] ∧ w' = w) ?_ ?_
  · refine ⟨?_, rfl⟩
    exact hasP
  rintro k ρ w2 hk ⟨hH, rfl⟩
  refine rwp_has hH fun ρ0 => ?_
  refine go ?_
  refine c_if (fun h4 => ?_) (fun h4 => ?_)
  · omega
  · refine go ?_
    exact retQ_0 rfl
theorem app_repl' (w : List Int) (m : Nat) (a : Int) : (w ++ List.replicate m a) ++ [a] = w ++ List.replicate (m + 1) a := by
  rw [List.append_assoc]
  congr 1
  exact (List.replicate_succ' (n := m) (a := a)).symm
set_option maxHeartbeats 2000000 in
theorem normalWord_ok {e : List Int} {w : World} {vx : Value} {lo hi : Nat} [hx : Ints lo hi w vx e] (hl : e.length ≤ 100) (hr : ∀ i, i < e.length → 0 ≤ e.getD i 0 ∧ e.getD i 0 ≤ 100) :
    Calls Tryz.prog 165 #[vx] w (Ret fun v w' => Ext w w' ∧ GrowI 2 w.heap.size w' v (wordV e)) := by
  have hwl : ∀ k, (wordV (e.take k)).length ≤ 10000 := fun k => by
    have h1 := wordA_len (b := 100) (e.take k) 0 fun x hx => by
      obtain ⟨i, hi, rfl⟩ := List.getElem_of_mem (List.mem_of_mem_take hx)
      have := (hr i hi).2
      simpa [hi] using this
    have h2 : (e.take k).length * 100 ≤ 100 * 100 := Nat.mul_le_mul_right _ (by rw [List.length_take]; omega)
    exact Nat.le_trans h1 h2
  refine enter (args := [vx]) (l := [.tmp 2]) Tryz.func165 rfl rfl Tryz.ntmps165 (by simp) ?_
  refine go ?_
  refine r_for e.length (fun k ρ w' => ∃ vl, Has ρ [(3, vl), (6, vx), (7, .int .i64 e.length), (8, .int .i64 k)] ∧ Ext w w' ∧ GrowI 2 w.heap.size w' vl (wordV (e.take k))) ?_ ?_
  · refine ⟨nilv, ?_, Ext.refl _, GrowI.nil _ _ _⟩
    exact hasP
  rintro k ρ w2 hk ⟨vl, hH, he2, hG2⟩
  refine rwp_has hH fun ρ0 => ?_
  refine go ?_
  refine c_if (fun h4 => ?_) (fun h4 => ?_)
  · have hkn : k < e.length := by omega
    have hrk := hr k hkn
    have hst := wordV_take hkn
    have hwk := hwl k
    refine go ?_
    refine r_for (e.getD k 0).toNat (fun j ρ w' => ∃ vl, Has ρ [(3, vl), (4, .int .i64 k), (6, vx), (7, .int .i64 e.length), (8, .int .i64 k), (13, .int .i64 (e.getD k 0)), (14, .int .i64 j)] ∧ Ext w w' ∧ GrowI 2 w.heap.size w' vl (wordV (e.take k) ++ List.replicate j ((k : Int) + 1))) ?_ ?_
    · refine ⟨vl, ?_, he2, by simpa using hG2⟩
      exact hasP
    clear hG2 he2
    rintro j ρ w3 hj ⟨vl, hH3, he3, hG3⟩
    refine rwp_has hH3 fun ρ1 => ?_
    have hz3 := he3.size
    refine go ?_
    refine c_if (fun h5 => ?_) (fun h5 => ?_)
    · refine go ?_
      refine st_growi hG3 hz3 (by simp only [List.length_append, List.length_replicate]; omega) (next := fun v4 v5 w5 hG5 hx5 hz5 hgs5 => ?_)
      refine go ?_
      refine forQ_normal (by omega) ⟨v5, ?_, hx5 w he3 (Nat.le_refl _), ?_⟩
      · exact hasP
      · rw [← app_repl']; exact hG5
    · obtain rfl : j = (e.getD k 0).toNat := by omega
      rw [← hst] at hG3
      refine go ?_
      refine forQ_normal (by omega) ⟨vl, ?_, he3, hG3⟩
      exact hasP
  · obtain rfl : k = e.length := by omega
    rw [List.take_length] at hG2
    refine go ?_
    exact ret1 ⟨he2, hG2⟩
set_option maxHeartbeats 2000000 in
theorem invertWord_ok {e : List Int} {w : World} {vx : Value} {lo hi : Nat} [hx : Ints lo hi w vx e] (hl : e.length ≤ 100000) (hr : ∀ i, i < e.length → -1000000 ≤ e.getD i 0 ∧ e.getD i 0 ≤ 1000000) :
    Calls Tryz.prog 164 #[vx] w (Ret fun v w' => Ext w w' ∧ GrowI 2 w.heap.size w' v (invW e)) := by
  have hml : (e.map fun x => -x).length = e.length := by simp
  refine enter (args := [vx]) (l := [.tmp 2]) Tryz.func164 rfl rfl Tryz.ntmps164 (by simp) ?_
  refine go ?_
  refine r_for e.length (fun k ρ w' => ∃ vl, Has ρ [(3, vl), (6, vx), (7, .int .i64 e.length), (8, .int .i64 k)] ∧ Ext w w' ∧ GrowI 2 w.heap.size w' vl ((e.map fun x => -x).take k)) ?_ ?_
  · refine ⟨nilv, ?_, Ext.refl _, GrowI.nil _ _ _⟩
    exact hasP
  rintro k ρ w2 hk ⟨vl, hH, he2, hG2⟩
  refine rwp_has hH fun ρ0 => ?_
  have hz2 := he2.size
  refine go ?_
  refine c_if (fun h4 => ?_) (fun h4 => ?_)
  · have hkn : k < e.length := by omega
    have hri := hr k hkn
    have hst : (e.map fun x => -x).take (k + 1) = (e.map fun x => -x).take k ++ [-(e.getD k 0)] := by
      rw [List.take_succ_eq_append_getElem (by omega)]
      congr 2
      simp [hkn]
    refine go ?_
    refine st_growi hG2 hz2 (by rw [List.length_take]; omega) (next := fun v4 v5 w5 hG5 hx5 hz5 hgs5 => ?_)
    refine go ?_
    refine forQ_normal (by omega) ⟨v5, ?_, hx5 w he2 (Nat.le_refl _), ?_⟩
    · exact hasP
    · rw [hst]; exact hG5
  · obtain rfl : k = e.length := by omega
    rw [List.take_of_length_le (by omega)] at hG2
    by_cases hn : e = []
    · subst hn
      have hi2 : Ints w.heap.size w2.heap.size w2 vl [] := hG2.fr.ints
      refine go ?_
      refine rc (sliceReverse_nil) (next := fun v3 w3 h3 => ?_)
      obtain rfl := h3
      refine go ?_
      exact ret1 ⟨he2, hG2⟩
    · obtain ⟨b, hb, _, ho⟩ := hG2.own.toOwn (by simpa using hn)
      have hoi : OwnI 2 b w2 vl (e.map fun x => -x) := ⟨ho⟩
      clear hG2
      refine go ?_
      refine rc (sliceReverse_ok (xs := e.map fun x => -x) (by omega)) (next := fun v3 w3 h3 => ?_)
      obtain ⟨hc3, ho3⟩ := h3
      refine go ?_
      exact ret1 ⟨hc3.ext he2 hb, ⟨ho3.own.toN.mono hb⟩⟩
end Go.Proofs.YtnphljflkpekmaaGreat

/-
  Walks: math/bits.Mul at small words, slices.Repeat of one integer.
  Conditions: stated at each theorem.
-/
namespace Go.Proofs.YtnphljflkpekmaaGreat
open Go Go.Pc
set_option maxHeartbeats 1000000 in
theorem bitsMul64_2 {w : World} : Calls Tryz.prog 197 #[.int .u64 1, .int .u64 2] w (Ret fun v w' => v = .tuple #[.int .u64 0, .int .u64 2] ∧ w' = w) := by
  refine enter (args := [.int .u64 1, .int .u64 2]) (l := [.tmp 4, .tmp 5]) Tryz.func197 rfl rfl Tryz.ntmps197 (by simp) ?_
  refine go ?_
  refine ra (v := .int .u64 1) (h := rd_bin (by ((try simp only [ev_tmp, ev_const, ev_func, get_put, get_args, get_putL, get_putL_nil, Nat.reduceEqDiff, reduceIte, List.getD_cons_zero, List.getD_cons_succ, List.getD_nil]); first | done | with_reducible rfl)) (by ((try simp only [ev_tmp, ev_const, ev_func, get_put, get_args, get_putL, get_putL_nil, Nat.reduceEqDiff, reduceIte, List.getD_cons_zero, List.getD_cons_succ, List.getD_nil]); first | done | with_reducible rfl)) (fun _ => rfl) (fun _ => rfl)) (next := ?_)
  refine go ?_
  refine ra (v := .int .u64 0) (h := rd_bin (by ((try simp only [ev_tmp, ev_const, ev_func, get_put, get_args, get_putL, get_putL_nil, Nat.reduceEqDiff, reduceIte, List.getD_cons_zero, List.getD_cons_succ, List.getD_nil]); first | done | with_reducible rfl)) (by ((try simp only [ev_tmp, ev_const, ev_func, get_put, get_args, get_putL, get_putL_nil, Nat.reduceEqDiff, reduceIte, List.getD_cons_zero, List.getD_cons_succ, List.getD_nil]); first | done | with_reducible rfl)) (fun _ => rfl) (fun _ => rfl)) (next := ?_)
  refine go ?_
  refine ra (v := .int .u64 2) (h := rd_bin (by ((try simp only [ev_tmp, ev_const, ev_func, get_put, get_args, get_putL, get_putL_nil, Nat.reduceEqDiff, reduceIte, List.getD_cons_zero, List.getD_cons_succ, List.getD_nil]); first | done | with_reducible rfl)) (by ((try simp only [ev_tmp, ev_const, ev_func, get_put, get_args, get_putL, get_putL_nil, Nat.reduceEqDiff, reduceIte, List.getD_cons_zero, List.getD_cons_succ, List.getD_nil]); first | done | with_reducible rfl)) (fun _ => rfl) (fun _ => rfl)) (next := ?_)
  refine go ?_
  refine ra (v := .int .u64 0) (h := rd_bin (by ((try simp only [ev_tmp, ev_const, ev_func, get_put, get_args, get_putL, get_putL_nil, Nat.reduceEqDiff, reduceIte, List.getD_cons_zero, List.getD_cons_succ, List.getD_nil]); first | done | with_reducible rfl)) (by ((try simp only [ev_tmp, ev_const, ev_func, get_put, get_args, get_putL, get_putL_nil, Nat.reduceEqDiff, reduceIte, List.getD_cons_zero, List.getD_cons_succ, List.getD_nil]); first | done | with_reducible rfl)) (fun _ => rfl) (fun _ => rfl)) (next := ?_)
  refine go ?_
  refine ra (v := .int .u64 2) (h := rd_bin (by ((try simp only [ev_tmp, ev_const, ev_func, get_put, get_args, get_putL, get_putL_nil, Nat.reduceEqDiff, reduceIte, List.getD_cons_zero, List.getD_cons_succ, List.getD_nil]); first | done | with_reducible rfl)) (by ((try simp only [ev_tmp, ev_const, ev_func, get_put, get_args, get_putL, get_putL_nil, Nat.reduceEqDiff, reduceIte, List.getD_cons_zero, List.getD_cons_succ, List.getD_nil]); first | done | with_reducible rfl)) (fun _ => rfl) (fun _ => rfl)) (next := ?_)
  refine go ?_
  refine ra (v := .int .u64 0) (h := rd_bin (by ((try simp only [ev_tmp, ev_const, ev_func, get_put, get_args, get_putL, get_putL_nil, Nat.reduceEqDiff, reduceIte, List.getD_cons_zero, List.getD_cons_succ, List.getD_nil]); first | done | with_reducible rfl)) (by ((try simp only [ev_tmp, ev_const, ev_func, get_put, get_args, get_putL, get_putL_nil, Nat.reduceEqDiff, reduceIte, List.getD_cons_zero, List.getD_cons_succ, List.getD_nil]); first | done | with_reducible rfl)) (fun _ => rfl) (fun _ => rfl)) (next := ?_)
  refine go ?_
  refine ra (v := .int .u64 0) (h := rd_bin (by ((try simp only [ev_tmp, ev_const, ev_func, get_put, get_args, get_putL, get_putL_nil, Nat.reduceEqDiff, reduceIte, List.getD_cons_zero, List.getD_cons_succ, List.getD_nil]); first | done | with_reducible rfl)) (by ((try simp only [ev_tmp, ev_const, ev_func, get_put, get_args, get_putL, get_putL_nil, Nat.reduceEqDiff, reduceIte, List.getD_cons_zero, List.getD_cons_succ, List.getD_nil]); first | done | with_reducible rfl)) (fun _ => rfl) (fun _ => rfl)) (next := ?_)
  refine go ?_
  refine ra (v := .int .u64 0) (h := rd_bin (by ((try simp only [ev_tmp, ev_const, ev_func, get_put, get_args, get_putL, get_putL_nil, Nat.reduceEqDiff, reduceIte, List.getD_cons_zero, List.getD_cons_succ, List.getD_nil]); first | done | with_reducible rfl)) (by ((try simp only [ev_tmp, ev_const, ev_func, get_put, get_args, get_putL, get_putL_nil, Nat.reduceEqDiff, reduceIte, List.getD_cons_zero, List.getD_cons_succ, List.getD_nil]); first | done | with_reducible rfl)) (fun _ => rfl) (fun _ => rfl)) (next := ?_)
  refine go ?_
  refine ra (v := .int .u64 0) (h := rd_bin (by ((try simp only [ev_tmp, ev_const, ev_func, get_put, get_args, get_putL, get_putL_nil, Nat.reduceEqDiff, reduceIte, List.getD_cons_zero, List.getD_cons_succ, List.getD_nil]); first | done | with_reducible rfl)) (by ((try simp only [ev_tmp, ev_const, ev_func, get_put, get_args, get_putL, get_putL_nil, Nat.reduceEqDiff, reduceIte, List.getD_cons_zero, List.getD_cons_succ, List.getD_nil]); first | done | with_reducible rfl)) (fun _ => rfl) (fun _ => rfl)) (next := ?_)
  refine go ?_
  refine ra (v := .int .u64 0) (h := rd_bin (by ((try simp only [ev_tmp, ev_const, ev_func, get_put, get_args, get_putL, get_putL_nil, Nat.reduceEqDiff, reduceIte, List.getD_cons_zero, List.getD_cons_succ, List.getD_nil]); first | done | with_reducible rfl)) (by ((try simp only [ev_tmp, ev_const, ev_func, get_put, get_args, get_putL, get_putL_nil, Nat.reduceEqDiff, reduceIte, List.getD_cons_zero, List.getD_cons_succ, List.getD_nil]); first | done | with_reducible rfl)) (fun _ => rfl) (fun _ => rfl)) (next := ?_)
  refine go ?_
  refine ra (v := .int .u64 0) (h := rd_bin (by ((try simp only [ev_tmp, ev_const, ev_func, get_put, get_args, get_putL, get_putL_nil, Nat.reduceEqDiff, reduceIte, List.getD_cons_zero, List.getD_cons_succ, List.getD_nil]); first | done | with_reducible rfl)) (by ((try simp only [ev_tmp, ev_const, ev_func, get_put, get_args, get_putL, get_putL_nil, Nat.reduceEqDiff, reduceIte, List.getD_cons_zero, List.getD_cons_succ, List.getD_nil]); first | done | with_reducible rfl)) (fun _ => rfl) (fun _ => rfl)) (next := ?_)
  refine go ?_
  refine ra (v := .int .u64 0) (h := rd_bin (by ((try simp only [ev_tmp, ev_const, ev_func, get_put, get_args, get_putL, get_putL_nil, Nat.reduceEqDiff, reduceIte, List.getD_cons_zero, List.getD_cons_succ, List.getD_nil]); first | done | with_reducible rfl)) (by ((try simp only [ev_tmp, ev_const, ev_func, get_put, get_args, get_putL, get_putL_nil, Nat.reduceEqDiff, reduceIte, List.getD_cons_zero, List.getD_cons_succ, List.getD_nil]); first | done | with_reducible rfl)) (fun _ => rfl) (fun _ => rfl)) (next := ?_)
  refine go ?_
  refine ra (v := .int .u64 0) (h := rd_bin (by ((try simp only [ev_tmp, ev_const, ev_func, get_put, get_args, get_putL, get_putL_nil, Nat.reduceEqDiff, reduceIte, List.getD_cons_zero, List.getD_cons_succ, List.getD_nil]); first | done | with_reducible rfl)) (by ((try simp only [ev_tmp, ev_const, ev_func, get_put, get_args, get_putL, get_putL_nil, Nat.reduceEqDiff, reduceIte, List.getD_cons_zero, List.getD_cons_succ, List.getD_nil]); first | done | with_reducible rfl)) (fun _ => rfl) (fun _ => rfl)) (next := ?_)
  refine go ?_
  refine ra (v := .int .u64 0) (h := rd_bin (by ((try simp only [ev_tmp, ev_const, ev_func, get_put, get_args, get_putL, get_putL_nil, Nat.reduceEqDiff, reduceIte, List.getD_cons_zero, List.getD_cons_succ, List.getD_nil]); first | done | with_reducible rfl)) (by ((try simp only [ev_tmp, ev_const, ev_func, get_put, get_args, get_putL, get_putL_nil, Nat.reduceEqDiff, reduceIte, List.getD_cons_zero, List.getD_cons_succ, List.getD_nil]); first | done | with_reducible rfl)) (fun _ => rfl) (fun _ => rfl)) (next := ?_)
  refine go ?_
  refine ra (v := .int .u64 0) (h := rd_bin (by ((try simp only [ev_tmp, ev_const, ev_func, get_put, get_args, get_putL, get_putL_nil, Nat.reduceEqDiff, reduceIte, List.getD_cons_zero, List.getD_cons_succ, List.getD_nil]); first | done | with_reducible rfl)) (by ((try simp only [ev_tmp, ev_const, ev_func, get_put, get_args, get_putL, get_putL_nil, Nat.reduceEqDiff, reduceIte, List.getD_cons_zero, List.getD_cons_succ, List.getD_nil]); first | done | with_reducible rfl)) (fun _ => rfl) (fun _ => rfl)) (next := ?_)
  refine go ?_
  refine ra (v := .int .u64 0) (h := rd_bin (by ((try simp only [ev_tmp, ev_const, ev_func, get_put, get_args, get_putL, get_putL_nil, Nat.reduceEqDiff, reduceIte, List.getD_cons_zero, List.getD_cons_succ, List.getD_nil]); first | done | with_reducible rfl)) (by ((try simp only [ev_tmp, ev_const, ev_func, get_put, get_args, get_putL, get_putL_nil, Nat.reduceEqDiff, reduceIte, List.getD_cons_zero, List.getD_cons_succ, List.getD_nil]); first | done | with_reducible rfl)) (fun _ => rfl) (fun _ => rfl)) (next := ?_)
  refine go ?_
  refine ra (v := .int .u64 2) (h := rd_bin (by ((try simp only [ev_tmp, ev_const, ev_func, get_put, get_args, get_putL, get_putL_nil, Nat.reduceEqDiff, reduceIte, List.getD_cons_zero, List.getD_cons_succ, List.getD_nil]); first | done | with_reducible rfl)) (by ((try simp only [ev_tmp, ev_const, ev_func, get_put, get_args, get_putL, get_putL_nil, Nat.reduceEqDiff, reduceIte, List.getD_cons_zero, List.getD_cons_succ, List.getD_nil]); first | done | with_reducible rfl)) (fun _ => rfl) (fun _ => rfl)) (next := ?_)
  refine go ?_
  exact ret2 ⟨rfl, rfl⟩
theorem bitsMul_2 {w : World} : Calls Tryz.prog 189 #[.int .u64 1, .int .u64 2] w (Ret fun v w' => v = .tuple #[.int .u64 0, .int .u64 2] ∧ w' = w) := by
  refine enter (args := [.int .u64 1, .int .u64 2]) (l := [.tmp 4, .tmp 5]) Tryz.func189 rfl rfl Tryz.ntmps189 (by simp) ?_
  refine go ?_
  refine rc bitsMul64_2 (next := fun v1 w1 h1 => ?_)
  obtain ⟨rfl, rfl⟩ := h1
  refine go ?_
  exact ret2 ⟨rfl, rfl⟩
set_option maxHeartbeats 1000000 in
theorem bitsMul64_3 {w : World} : Calls Tryz.prog 197 #[.int .u64 1, .int .u64 3] w (Ret fun v w' => v = .tuple #[.int .u64 0, .int .u64 3] ∧ w' = w) := by
  refine enter (args := [.int .u64 1, .int .u64 3]) (l := [.tmp 4, .tmp 5]) Tryz.func197 rfl rfl Tryz.ntmps197 (by simp) ?_
  refine go ?_
  refine ra (v := .int .u64 1) (h := rd_bin (by ((try simp only [ev_tmp, ev_const, ev_func, get_put, get_args, get_putL, get_putL_nil, Nat.reduceEqDiff, reduceIte, List.getD_cons_zero, List.getD_cons_succ, List.getD_nil]); first | done | with_reducible rfl)) (by ((try simp only [ev_tmp, ev_const, ev_func, get_put, get_args, get_putL, get_putL_nil, Nat.reduceEqDiff, reduceIte, List.getD_cons_zero, List.getD_cons_succ, List.getD_nil]); first | done | with_reducible rfl)) (fun _ => rfl) (fun _ => rfl)) (next := ?_)
  refine go ?_
  refine ra (v := .int .u64 0) (h := rd_bin (by ((try simp only [ev_tmp, ev_const, ev_func, get_put, get_args, get_putL, get_putL_nil, Nat.reduceEqDiff, reduceIte, List.getD_cons_zero, List.getD_cons_succ, List.getD_nil]); first | done | with_reducible rfl)) (by ((try simp only [ev_tmp, ev_const, ev_func, get_put, get_args, get_putL, get_putL_nil, Nat.reduceEqDiff, reduceIte, List.getD_cons_zero, List.getD_cons_succ, List.getD_nil]); first | done | with_reducible rfl)) (fun _ => rfl) (fun _ => rfl)) (next := ?_)
  refine go ?_
  refine ra (v := .int .u64 3) (h := rd_bin (by ((try simp only [ev_tmp, ev_const, ev_func, get_put, get_args, get_putL, get_putL_nil, Nat.reduceEqDiff, reduceIte, List.getD_cons_zero, List.getD_cons_succ, List.getD_nil]); first | done | with_reducible rfl)) (by ((try simp only [ev_tmp, ev_const, ev_func, get_put, get_args, get_putL, get_putL_nil, Nat.reduceEqDiff, reduceIte, List.getD_cons_zero, List.getD_cons_succ, List.getD_nil]); first | done | with_reducible rfl)) (fun _ => rfl) (fun _ => rfl)) (next := ?_)
  refine go ?_
  refine ra (v := .int .u64 0) (h := rd_bin (by ((try simp only [ev_tmp, ev_const, ev_func, get_put, get_args, get_putL, get_putL_nil, Nat.reduceEqDiff, reduceIte, List.getD_cons_zero, List.getD_cons_succ, List.getD_nil]); first | done | with_reducible rfl)) (by ((try simp only [ev_tmp, ev_const, ev_func, get_put, get_args, get_putL, get_putL_nil, Nat.reduceEqDiff, reduceIte, List.getD_cons_zero, List.getD_cons_succ, List.getD_nil]); first | done | with_reducible rfl)) (fun _ => rfl) (fun _ => rfl)) (next := ?_)
  refine go ?_
  refine ra (v := .int .u64 3) (h := rd_bin (by ((try simp only [ev_tmp, ev_const, ev_func, get_put, get_args, get_putL, get_putL_nil, Nat.reduceEqDiff, reduceIte, List.getD_cons_zero, List.getD_cons_succ, List.getD_nil]); first | done | with_reducible rfl)) (by ((try simp only [ev_tmp, ev_const, ev_func, get_put, get_args, get_putL, get_putL_nil, Nat.reduceEqDiff, reduceIte, List.getD_cons_zero, List.getD_cons_succ, List.getD_nil]); first | done | with_reducible rfl)) (fun _ => rfl) (fun _ => rfl)) (next := ?_)
  refine go ?_
  refine ra (v := .int .u64 0) (h := rd_bin (by ((try simp only [ev_tmp, ev_const, ev_func, get_put, get_args, get_putL, get_putL_nil, Nat.reduceEqDiff, reduceIte, List.getD_cons_zero, List.getD_cons_succ, List.getD_nil]); first | done | with_reducible rfl)) (by ((try simp only [ev_tmp, ev_const, ev_func, get_put, get_args, get_putL, get_putL_nil, Nat.reduceEqDiff, reduceIte, List.getD_cons_zero, List.getD_cons_succ, List.getD_nil]); first | done | with_reducible rfl)) (fun _ => rfl) (fun _ => rfl)) (next := ?_)
  refine go ?_
  refine ra (v := .int .u64 0) (h := rd_bin (by ((try simp only [ev_tmp, ev_const, ev_func, get_put, get_args, get_putL, get_putL_nil, Nat.reduceEqDiff, reduceIte, List.getD_cons_zero, List.getD_cons_succ, List.getD_nil]); first | done | with_reducible rfl)) (by ((try simp only [ev_tmp, ev_const, ev_func, get_put, get_args, get_putL, get_putL_nil, Nat.reduceEqDiff, reduceIte, List.getD_cons_zero, List.getD_cons_succ, List.getD_nil]); first | done | with_reducible rfl)) (fun _ => rfl) (fun _ => rfl)) (next := ?_)
  refine go ?_
  refine ra (v := .int .u64 0) (h := rd_bin (by ((try simp only [ev_tmp, ev_const, ev_func, get_put, get_args, get_putL, get_putL_nil, Nat.reduceEqDiff, reduceIte, List.getD_cons_zero, List.getD_cons_succ, List.getD_nil]); first | done | with_reducible rfl)) (by ((try simp only [ev_tmp, ev_const, ev_func, get_put, get_args, get_putL, get_putL_nil, Nat.reduceEqDiff, reduceIte, List.getD_cons_zero, List.getD_cons_succ, List.getD_nil]); first | done | with_reducible rfl)) (fun _ => rfl) (fun _ => rfl)) (next := ?_)
  refine go ?_
  refine ra (v := .int .u64 0) (h := rd_bin (by ((try simp only [ev_tmp, ev_const, ev_func, get_put, get_args, get_putL, get_putL_nil, Nat.reduceEqDiff, reduceIte, List.getD_cons_zero, List.getD_cons_succ, List.getD_nil]); first | done | with_reducible rfl)) (by ((try simp only [ev_tmp, ev_const, ev_func, get_put, get_args, get_putL, get_putL_nil, Nat.reduceEqDiff, reduceIte, List.getD_cons_zero, List.getD_cons_succ, List.getD_nil]); first | done | with_reducible rfl)) (fun _ => rfl) (fun _ => rfl)) (next := ?_)
  refine go ?_
  refine ra (v := .int .u64 0) (h := rd_bin (by ((try simp only [ev_tmp, ev_const, ev_func, get_put, get_args, get_putL, get_putL_nil, Nat.reduceEqDiff, reduceIte, List.getD_cons_zero, List.getD_cons_succ, List.getD_nil]); first | done | with_reducible rfl)) (by ((try simp only [ev_tmp, ev_const, ev_func, get_put, get_args, get_putL, get_putL_nil, Nat.reduceEqDiff, reduceIte, List.getD_cons_zero, List.getD_cons_succ, List.getD_nil]); first | done | with_reducible rfl)) (fun _ => rfl) (fun _ => rfl)) (next := ?_)
  refine go ?_
  refine ra (v := .int .u64 0) (h := rd_bin (by ((try simp only [ev_tmp, ev_const, ev_func, get_put, get_args, get_putL, get_putL_nil, Nat.reduceEqDiff, reduceIte, List.getD_cons_zero, List.getD_cons_succ, List.getD_nil]); first | done | with_reducible rfl)) (by ((try simp only [ev_tmp, ev_const, ev_func, get_put, get_args, get_putL, get_putL_nil, Nat.reduceEqDiff, reduceIte, List.getD_cons_zero, List.getD_cons_succ, List.getD_nil]); first | done | with_reducible rfl)) (fun _ => rfl) (fun _ => rfl)) (next := ?_)
  refine go ?_
  refine ra (v := .int .u64 0) (h := rd_bin (by ((try simp only [ev_tmp, ev_const, ev_func, get_put, get_args, get_putL, get_putL_nil, Nat.reduceEqDiff, reduceIte, List.getD_cons_zero, List.getD_cons_succ, List.getD_nil]); first | done | with_reducible rfl)) (by ((try simp only [ev_tmp, ev_const, ev_func, get_put, get_args, get_putL, get_putL_nil, Nat.reduceEqDiff, reduceIte, List.getD_cons_zero, List.getD_cons_succ, List.getD_nil]); first | done | with_reducible rfl)) (fun _ => rfl) (fun _ => rfl)) (next := ?_)
  refine go ?_
  refine ra (v := .int .u64 0) (h := rd_bin (by ((try simp only [ev_tmp, ev_const, ev_func, get_put, get_args, get_putL, get_putL_nil, Nat.reduceEqDiff, reduceIte, List.getD_cons_zero, List.getD_cons_succ, List.getD_nil]); first | done | with_reducible rfl)) (by ((try simp only [ev_tmp, ev_const, ev_func, get_put, get_args, get_putL, get_putL_nil, Nat.reduceEqDiff, reduceIte, List.getD_cons_zero, List.getD_cons_succ, List.getD_nil]); first | done | with_reducible rfl)) (fun _ => rfl) (fun _ => rfl)) (next := ?_)
  refine go ?_
  refine ra (v := .int .u64 0) (h := rd_bin (by ((try simp only [ev_tmp, ev_const, ev_func, get_put, get_args, get_putL, get_putL_nil, Nat.reduceEqDiff, reduceIte, List.getD_cons_zero, List.getD_cons_succ, List.getD_nil]); first | done | with_reducible rfl)) (by ((try simp only [ev_tmp, ev_const, ev_func, get_put, get_args, get_putL, get_putL_nil, Nat.reduceEqDiff, reduceIte, List.getD_cons_zero, List.getD_cons_succ, List.getD_nil]); first | done | with_reducible rfl)) (fun _ => rfl) (fun _ => rfl)) (next := ?_)
  refine go ?_
  refine ra (v := .int .u64 0) (h := rd_bin (by ((try simp only [ev_tmp, ev_const, ev_func, get_put, get_args, get_putL, get_putL_nil, Nat.reduceEqDiff, reduceIte, List.getD_cons_zero, List.getD_cons_succ, List.getD_nil]); first | done | with_reducible rfl)) (by ((try simp only [ev_tmp, ev_const, ev_func, get_put, get_args, get_putL, get_putL_nil, Nat.reduceEqDiff, reduceIte, List.getD_cons_zero, List.getD_cons_succ, List.getD_nil]); first | done | with_reducible rfl)) (fun _ => rfl) (fun _ => rfl)) (next := ?_)
  refine go ?_
  refine ra (v := .int .u64 0) (h := rd_bin (by ((try simp only [ev_tmp, ev_const, ev_func, get_put, get_args, get_putL, get_putL_nil, Nat.reduceEqDiff, reduceIte, List.getD_cons_zero, List.getD_cons_succ, List.getD_nil]); first | done | with_reducible rfl)) (by ((try simp only [ev_tmp, ev_const, ev_func, get_put, get_args, get_putL, get_putL_nil, Nat.reduceEqDiff, reduceIte, List.getD_cons_zero, List.getD_cons_succ, List.getD_nil]); first | done | with_reducible rfl)) (fun _ => rfl) (fun _ => rfl)) (next := ?_)
  refine go ?_
  refine ra (v := .int .u64 3) (h := rd_bin (by ((try simp only [ev_tmp, ev_const, ev_func, get_put, get_args, get_putL, get_putL_nil, Nat.reduceEqDiff, reduceIte, List.getD_cons_zero, List.getD_cons_succ, List.getD_nil]); first | done | with_reducible rfl)) (by ((try simp only [ev_tmp, ev_const, ev_func, get_put, get_args, get_putL, get_putL_nil, Nat.reduceEqDiff, reduceIte, List.getD_cons_zero, List.getD_cons_succ, List.getD_nil]); first | done | with_reducible rfl)) (fun _ => rfl) (fun _ => rfl)) (next := ?_)
  refine go ?_
  exact ret2 ⟨rfl, rfl⟩
theorem bitsMul_3 {w : World} : Calls Tryz.prog 189 #[.int .u64 1, .int .u64 3] w (Ret fun v w' => v = .tuple #[.int .u64 0, .int .u64 3] ∧ w' = w) := by
  refine enter (args := [.int .u64 1, .int .u64 3]) (l := [.tmp 4, .tmp 5]) Tryz.func189 rfl rfl Tryz.ntmps189 (by simp) ?_
  refine go ?_
  refine rc bitsMul64_3 (next := fun v1 w1 h1 => ?_)
  obtain ⟨rfl, rfl⟩ := h1
  refine go ?_
  exact ret2 ⟨rfl, rfl⟩
set_option maxHeartbeats 1000000 in
theorem bitsMul64_5 {w : World} : Calls Tryz.prog 197 #[.int .u64 1, .int .u64 5] w (Ret fun v w' => v = .tuple #[.int .u64 0, .int .u64 5] ∧ w' = w) := by
  refine enter (args := [.int .u64 1, .int .u64 5]) (l := [.tmp 4, .tmp 5]) Tryz.func197 rfl rfl Tryz.ntmps197 (by simp) ?_
  refine go ?_
  refine ra (v := .int .u64 1) (h := rd_bin (by ((try simp only [ev_tmp, ev_const, ev_func, get_put, get_args, get_putL, get_putL_nil, Nat.reduceEqDiff, reduceIte, List.getD_cons_zero, List.getD_cons_succ, List.getD_nil]); first | done | with_reducible rfl)) (by ((try simp only [ev_tmp, ev_const, ev_func, get_put, get_args, get_putL, get_putL_nil, Nat.reduceEqDiff, reduceIte, List.getD_cons_zero, List.getD_cons_succ, List.getD_nil]); first | done | with_reducible rfl)) (fun _ => rfl) (fun _ => rfl)) (next := ?_)
  refine go ?_
  refine ra (v := .int .u64 0) (h := rd_bin (by ((try simp only [ev_tmp, ev_const, ev_func, get_put, get_args, get_putL, get_putL_nil, Nat.reduceEqDiff, reduceIte, List.getD_cons_zero, List.getD_cons_succ, List.getD_nil]); first | done | with_reducible rfl)) (by ((try simp only [ev_tmp, ev_const, ev_func, get_put, get_args, get_putL, get_putL_nil, Nat.reduceEqDiff, reduceIte, List.getD_cons_zero, List.getD_cons_succ, List.getD_nil]); first | done | with_reducible rfl)) (fun _ => rfl) (fun _ => rfl)) (next := ?_)
  refine go ?_
  refine ra (v := .int .u64 5) (h := rd_bin (by ((try simp only [ev_tmp, ev_const, ev_func, get_put, get_args, get_putL, get_putL_nil, Nat.reduceEqDiff, reduceIte, List.getD_cons_zero, List.getD_cons_succ, List.getD_nil]); first | done | with_reducible rfl)) (by ((try simp only [ev_tmp, ev_const, ev_func, get_put, get_args, get_putL, get_putL_nil, Nat.reduceEqDiff, reduceIte, List.getD_cons_zero, List.getD_cons_succ, List.getD_nil]); first | done | with_reducible rfl)) (fun _ => rfl) (fun _ => rfl)) (next := ?_)
  refine go ?_
  refine ra (v := .int .u64 0) (h := rd_bin (by ((try simp only [ev_tmp, ev_const, ev_func, get_put, get_args, get_putL, get_putL_nil, Nat.reduceEqDiff, reduceIte, List.getD_cons_zero, List.getD_cons_succ, List.getD_nil]); first | done | with_reducible rfl)) (by ((try simp only [ev_tmp, ev_const, ev_func, get_put, get_args, get_putL, get_putL_nil, Nat.reduceEqDiff, reduceIte, List.getD_cons_zero, List.getD_cons_succ, List.getD_nil]); first | done | with_reducible rfl)) (fun _ => rfl) (fun _ => rfl)) (next := ?_)
  refine go ?_
  refine ra (v := .int .u64 5) (h := rd_bin (by ((try simp only [ev_tmp, ev_const, ev_func, get_put, get_args, get_putL, get_putL_nil, Nat.reduceEqDiff, reduceIte, List.getD_cons_zero, List.getD_cons_succ, List.getD_nil]); first | done | with_reducible rfl)) (by ((try simp only [ev_tmp, ev_const, ev_func, get_put, get_args, get_putL, get_putL_nil, Nat.reduceEqDiff, reduceIte, List.getD_cons_zero, List.getD_cons_succ, List.getD_nil]); first | done | with_reducible rfl)) (fun _ => rfl) (fun _ => rfl)) (next := ?_)
  refine go ?_
  refine ra (v := .int .u64 0) (h := rd_bin (by ((try simp only [ev_tmp, ev_const, ev_func, get_put, get_args, get_putL, get_putL_nil, Nat.reduceEqDiff, reduceIte, List.getD_cons_zero, List.getD_cons_succ, List.getD_nil]); first | done | with_reducible rfl)) (by ((try simp only [ev_tmp, ev_const, ev_func, get_put, get_args, get_putL, get_putL_nil, Nat.reduceEqDiff, reduceIte, List.getD_cons_zero, List.getD_cons_succ, List.getD_nil]); first | done | with_reducible rfl)) (fun _ => rfl) (fun _ => rfl)) (next := ?_)
  refine go ?_
  refine ra (v := .int .u64 0) (h := rd_bin (by ((try simp only [ev_tmp, ev_const, ev_func, get_put, get_args, get_putL, get_putL_nil, Nat.reduceEqDiff, reduceIte, List.getD_cons_zero, List.getD_cons_succ, List.getD_nil]); first | done | with_reducible rfl)) (by ((try simp only [ev_tmp, ev_const, ev_func, get_put, get_args, get_putL, get_putL_nil, Nat.reduceEqDiff, reduceIte, List.getD_cons_zero, List.getD_cons_succ, List.getD_nil]); first | done | with_reducible rfl)) (fun _ => rfl) (fun _ => rfl)) (next := ?_)
  refine go ?_
  refine ra (v := .int .u64 0) (h := rd_bin (by ((try simp only [ev_tmp, ev_const, ev_func, get_put, get_args, get_putL, get_putL_nil, Nat.reduceEqDiff, reduceIte, List.getD_cons_zero, List.getD_cons_succ, List.getD_nil]); first | done | with_reducible rfl)) (by ((try simp only [ev_tmp, ev_const, ev_func, get_put, get_args, get_putL, get_putL_nil, Nat.reduceEqDiff, reduceIte, List.getD_cons_zero, List.getD_cons_succ, List.getD_nil]); first | done | with_reducible rfl)) (fun _ => rfl) (fun _ => rfl)) (next := ?_)
  refine go ?_
  refine ra (v := .int .u64 0) (h := rd_bin (by ((try simp only [ev_tmp, ev_const, ev_func, get_put, get_args, get_putL, get_putL_nil, Nat.reduceEqDiff, reduceIte, List.getD_cons_zero, List.getD_cons_succ, List.getD_nil]); first | done | with_reducible rfl)) (by ((try simp only [ev_tmp, ev_const, ev_func, get_put, get_args, get_putL, get_putL_nil, Nat.reduceEqDiff, reduceIte, List.getD_cons_zero, List.getD_cons_succ, List.getD_nil]); first | done | with_reducible rfl)) (fun _ => rfl) (fun _ => rfl)) (next := ?_)
  refine go ?_
  refine ra (v := .int .u64 0) (h := rd_bin (by ((try simp only [ev_tmp, ev_const, ev_func, get_put, get_args, get_putL, get_putL_nil, Nat.reduceEqDiff, reduceIte, List.getD_cons_zero, List.getD_cons_succ, List.getD_nil]); first | done | with_reducible rfl)) (by ((try simp only [ev_tmp, ev_const, ev_func, get_put, get_args, get_putL, get_putL_nil, Nat.reduceEqDiff, reduceIte, List.getD_cons_zero, List.getD_cons_succ, List.getD_nil]); first | done | with_reducible rfl)) (fun _ => rfl) (fun _ => rfl)) (next := ?_)
  refine go ?_
  refine ra (v := .int .u64 0) (h := rd_bin (by ((try simp only [ev_tmp, ev_const, ev_func, get_put, get_args, get_putL, get_putL_nil, Nat.reduceEqDiff, reduceIte, List.getD_cons_zero, List.getD_cons_succ, List.getD_nil]); first | done | with_reducible rfl)) (by ((try simp only [ev_tmp, ev_const, ev_func, get_put, get_args, get_putL, get_putL_nil, Nat.reduceEqDiff, reduceIte, List.getD_cons_zero, List.getD_cons_succ, List.getD_nil]); first | done | with_reducible rfl)) (fun _ => rfl) (fun _ => rfl)) (next := ?_)
  refine go ?_
  refine ra (v := .int .u64 0) (h := rd_bin (by ((try simp only [ev_tmp, ev_const, ev_func, get_put, get_args, get_putL, get_putL_nil, Nat.reduceEqDiff, reduceIte, List.getD_cons_zero, List.getD_cons_succ, List.getD_nil]); first | done | with_reducible rfl)) (by ((try simp only [ev_tmp, ev_const, ev_func, get_put, get_args, get_putL, get_putL_nil, Nat.reduceEqDiff, reduceIte, List.getD_cons_zero, List.getD_cons_succ, List.getD_nil]); first | done | with_reducible rfl)) (fun _ => rfl) (fun _ => rfl)) (next := ?_)
  refine go ?_
  refine ra (v := .int .u64 0) (h := rd_bin (by ((try simp only [ev_tmp, ev_const, ev_func, get_put, get_args, get_putL, get_putL_nil, Nat.reduceEqDiff, reduceIte, List.getD_cons_zero, List.getD_cons_succ, List.getD_nil]); first | done | with_reducible rfl)) (by ((try simp only [ev_tmp, ev_const, ev_func, get_put, get_args, get_putL, get_putL_nil, Nat.reduceEqDiff, reduceIte, List.getD_cons_zero, List.getD_cons_succ, List.getD_nil]); first | done | with_reducible rfl)) (fun _ => rfl) (fun _ => rfl)) (next := ?_)
  refine go ?_
  refine ra (v := .int .u64 0) (h := rd_bin (by ((try simp only [ev_tmp, ev_const, ev_func, get_put, get_args, get_putL, get_putL_nil, Nat.reduceEqDiff, reduceIte, List.getD_cons_zero, List.getD_cons_succ, List.getD_nil]); first | done | with_reducible rfl)) (by ((try simp only [ev_tmp, ev_const, ev_func, get_put, get_args, get_putL, get_putL_nil, Nat.reduceEqDiff, reduceIte, List.getD_cons_zero, List.getD_cons_succ, List.getD_nil]); first | done | with_reducible rfl)) (fun _ => rfl) (fun _ => rfl)) (next := ?_)
  refine go ?_
  refine ra (v := .int .u64 0) (h := rd_bin (by ((try simp only [ev_tmp, ev_const, ev_func, get_put, get_args, get_putL, get_putL_nil, Nat.reduceEqDiff, reduceIte, List.getD_cons_zero, List.getD_cons_succ, List.getD_nil]); first | done | with_reducible rfl)) (by ((try simp only [ev_tmp, ev_const, ev_func, get_put, get_args, get_putL, get_putL_nil, Nat.reduceEqDiff, reduceIte, List.getD_cons_zero, List.getD_cons_succ, List.getD_nil]); first | done | with_reducible rfl)) (fun _ => rfl) (fun _ => rfl)) (next := ?_)
  refine go ?_
  refine ra (v := .int .u64 0) (h := rd_bin (by ((try simp only [ev_tmp, ev_const, ev_func, get_put, get_args, get_putL, get_putL_nil, Nat.reduceEqDiff, reduceIte, List.getD_cons_zero, List.getD_cons_succ, List.getD_nil]); first | done | with_reducible rfl)) (by ((try simp only [ev_tmp, ev_const, ev_func, get_put, get_args, get_putL, get_putL_nil, Nat.reduceEqDiff, reduceIte, List.getD_cons_zero, List.getD_cons_succ, List.getD_nil]); first | done | with_reducible rfl)) (fun _ => rfl) (fun _ => rfl)) (next := ?_)
  refine go ?_
  refine ra (v := .int .u64 5) (h := rd_bin (by ((try simp only [ev_tmp, ev_const, ev_func, get_put, get_args, get_putL, get_putL_nil, Nat.reduceEqDiff, reduceIte, List.getD_cons_zero, List.getD_cons_succ, List.getD_nil]); first | done | with_reducible rfl)) (by ((try simp only [ev_tmp, ev_const, ev_func, get_put, get_args, get_putL, get_putL_nil, Nat.reduceEqDiff, reduceIte, List.getD_cons_zero, List.getD_cons_succ, List.getD_nil]); first | done | with_reducible rfl)) (fun _ => rfl) (fun _ => rfl)) (next := ?_)
  refine go ?_
  exact ret2 ⟨rfl, rfl⟩
theorem bitsMul_5 {w : World} : Calls Tryz.prog 189 #[.int .u64 1, .int .u64 5] w (Ret fun v w' => v = .tuple #[.int .u64 0, .int .u64 5] ∧ w' = w) := by
  refine enter (args := [.int .u64 1, .int .u64 5]) (l := [.tmp 4, .tmp 5]) Tryz.func189 rfl rfl Tryz.ntmps189 (by simp) ?_
  refine go ?_
  refine rc bitsMul64_5 (next := fun v1 w1 h1 => ?_)
  obtain ⟨rfl, rfl⟩ := h1
  refine go ?_
  exact ret2 ⟨rfl, rfl⟩
set_option maxHeartbeats 1000000 in
theorem bitsMul64_7 {w : World} : Calls Tryz.prog 197 #[.int .u64 1, .int .u64 7] w (Ret fun v w' => v = .tuple #[.int .u64 0, .int .u64 7] ∧ w' = w) := by
  refine enter (args := [.int .u64 1, .int .u64 7]) (l := [.tmp 4, .tmp 5]) Tryz.func197 rfl rfl Tryz.ntmps197 (by simp) ?_
  refine go ?_
  refine ra (v := .int .u64 1) (h := rd_bin (by ((try simp only [ev_tmp, ev_const, ev_func, get_put, get_args, get_putL, get_putL_nil, Nat.reduceEqDiff, reduceIte, List.getD_cons_zero, List.getD_cons_succ, List.getD_nil]); first | done | with_reducible rfl)) (by ((try simp only [ev_tmp, ev_const, ev_func, get_put, get_args, get_putL, get_putL_nil, Nat.reduceEqDiff, reduceIte, List.getD_cons_zero, List.getD_cons_succ, List.getD_nil]); first | done | with_reducible rfl)) (fun _ => rfl) (fun _ => rfl)) (next := ?_)
  refine go ?_
  refine ra (v := .int .u64 0) (h := rd_bin (by ((try simp only [ev_tmp, ev_const, ev_func, get_put, get_args, get_putL, get_putL_nil, Nat.reduceEqDiff, reduceIte, List.getD_cons_zero, List.getD_cons_succ, List.getD_nil]); first | done | with_reducible rfl)) (by ((try simp only [ev_tmp, ev_const, ev_func, get_put, get_args, get_putL, get_putL_nil, Nat.reduceEqDiff, reduceIte, List.getD_cons_zero, List.getD_cons_succ, List.getD_nil]); first | done | with_reducible rfl)) (fun _ => rfl) (fun _ => rfl)) (next := ?_)
  refine go ?_
  refine ra (v := .int .u64 7) (h := rd_bin (by ((try simp only [ev_tmp, ev_const, ev_func, get_put, get_args, get_putL, get_putL_nil, Nat.reduceEqDiff, reduceIte, List.getD_cons_zero, List.getD_cons_succ, List.getD_nil]); first | done | with_reducible rfl)) (by ((try simp only [ev_tmp, ev_const, ev_func, get_put, get_args, get_putL, get_putL_nil, Nat.reduceEqDiff, reduceIte, List.getD_cons_zero, List.getD_cons_succ, List.getD_nil]); first | done | with_reducible rfl)) (fun _ => rfl) (fun _ => rfl)) (next := ?_)
  refine go ?_
  refine ra (v := .int .u64 0) (h := rd_bin (by ((try simp only [ev_tmp, ev_const, ev_func, get_put, get_args, get_putL, get_putL_nil, Nat.reduceEqDiff, reduceIte, List.getD_cons_zero, List.getD_cons_succ, List.getD_nil]); first | done | with_reducible rfl)) (by ((try simp only [ev_tmp, ev_const, ev_func, get_put, get_args, get_putL, get_putL_nil, Nat.reduceEqDiff, reduceIte, List.getD_cons_zero, List.getD_cons_succ, List.getD_nil]); first | done | with_reducible rfl)) (fun _ => rfl) (fun _ => rfl)) (next := ?_)
  refine go ?_
  refine ra (v := .int .u64 7) (h := rd_bin (by ((try simp only [ev_tmp, ev_const, ev_func, get_put, get_args, get_putL, get_putL_nil, Nat.reduceEqDiff, reduceIte, List.getD_cons_zero, List.getD_cons_succ, List.getD_nil]); first | done | with_reducible rfl)) (by ((try simp only [ev_tmp, ev_const, ev_func, get_put, get_args, get_putL, get_putL_nil, Nat.reduceEqDiff, reduceIte, List.getD_cons_zero, List.getD_cons_succ, List.getD_nil]); first | done | with_reducible rfl)) (fun _ => rfl) (fun _ => rfl)) (next := ?_)
  refine go ?_
  refine ra (v := .int .u64 0) (h := rd_bin (by ((try simp only [ev_tmp, ev_const, ev_func, get_put, get_args, get_putL, get_putL_nil, Nat.reduceEqDiff, reduceIte, List.getD_cons_zero, List.getD_cons_succ, List.getD_nil]); first | done | with_reducible rfl)) (by ((try simp only [ev_tmp, ev_const, ev_func, get_put, get_args, get_putL, get_putL_nil, Nat.reduceEqDiff, reduceIte, List.getD_cons_zero, List.getD_cons_succ, List.getD_nil]); first | done | with_reducible rfl)) (fun _ => rfl) (fun _ => rfl)) (next := ?_)
  refine go ?_
  refine ra (v := .int .u64 0) (h := rd_bin (by ((try simp only [ev_tmp, ev_const, ev_func, get_put, get_args, get_putL, get_putL_nil, Nat.reduceEqDiff, reduceIte, List.getD_cons_zero, List.getD_cons_succ, List.getD_nil]); first | done | with_reducible rfl)) (by ((try simp only [ev_tmp, ev_const, ev_func, get_put, get_args, get_putL, get_putL_nil, Nat.reduceEqDiff, reduceIte, List.getD_cons_zero, List.getD_cons_succ, List.getD_nil]); first | done | with_reducible rfl)) (fun _ => rfl) (fun _ => rfl)) (next := ?_)
  refine go ?_
  refine ra (v := .int .u64 0) (h := rd_bin (by ((try simp only [ev_tmp, ev_const, ev_func, get_put, get_args, get_putL, get_putL_nil, Nat.reduceEqDiff, reduceIte, List.getD_cons_zero, List.getD_cons_succ, List.getD_nil]); first | done | with_reducible rfl)) (by ((try simp only [ev_tmp, ev_const, ev_func, get_put, get_args, get_putL, get_putL_nil, Nat.reduceEqDiff, reduceIte, List.getD_cons_zero, List.getD_cons_succ, List.getD_nil]); first | done | with_reducible rfl)) (fun _ => rfl) (fun _ => rfl)) (next := ?_)
  refine go ?_
  refine ra (v := .int .u64 0) (h := rd_bin (by ((try simp only [ev_tmp, ev_const, ev_func, get_put, get_args, get_putL, get_putL_nil, Nat.reduceEqDiff, reduceIte, List.getD_cons_zero, List.getD_cons_succ, List.getD_nil]); first | done | with_reducible rfl)) (by ((try simp only [ev_tmp, ev_const, ev_func, get_put, get_args, get_putL, get_putL_nil, Nat.reduceEqDiff, reduceIte, List.getD_cons_zero, List.getD_cons_succ, List.getD_nil]); first | done | with_reducible rfl)) (fun _ => rfl) (fun _ => rfl)) (next := ?_)
  refine go ?_
  refine ra (v := .int .u64 0) (h := rd_bin (by ((try simp only [ev_tmp, ev_const, ev_func, get_put, get_args, get_putL, get_putL_nil, Nat.reduceEqDiff, reduceIte, List.getD_cons_zero, List.getD_cons_succ, List.getD_nil]); first | done | with_reducible rfl)) (by ((try simp only [ev_tmp, ev_const, ev_func, get_put, get_args, get_putL, get_putL_nil, Nat.reduceEqDiff, reduceIte, List.getD_cons_zero, List.getD_cons_succ, List.getD_nil]); first | done | with_reducible rfl)) (fun _ => rfl) (fun _ => rfl)) (next := ?_)
  refine go ?_
  refine ra (v := .int .u64 0) (h := rd_bin (by ((try simp only [ev_tmp, ev_const, ev_func, get_put, get_args, get_putL, get_putL_nil, Nat.reduceEqDiff, reduceIte, List.getD_cons_zero, List.getD_cons_succ, List.getD_nil]); first | done | with_reducible rfl)) (by ((try simp only [ev_tmp, ev_const, ev_func, get_put, get_args, get_putL, get_putL_nil, Nat.reduceEqDiff, reduceIte, List.getD_cons_zero, List.getD_cons_succ, List.getD_nil]); first | done | with_reducible rfl)) (fun _ => rfl) (fun _ => rfl)) (next := ?_)
  refine go ?_
  refine ra (v := .int .u64 0) (h := rd_bin (by ((try simp only [ev_tmp, ev_const, ev_func, get_put, get_args, get_putL, get_putL_nil, Nat.reduceEqDiff, reduceIte, List.getD_cons_zero, List.getD_cons_succ, List.getD_nil]); first | done | with_reducible rfl)) (by ((try simp only [ev_tmp, ev_const, ev_func, get_put, get_args, get_putL, get_putL_nil, Nat.reduceEqDiff, reduceIte, List.getD_cons_zero, List.getD_cons_succ, List.getD_nil]); first | done | with_reducible rfl)) (fun _ => rfl) (fun _ => rfl)) (next := ?_)
  refine go ?_
  refine ra (v := .int .u64 0) (h := rd_bin (by ((try simp only [ev_tmp, ev_const, ev_func, get_put, get_args, get_putL, get_putL_nil, Nat.reduceEqDiff, reduceIte, List.getD_cons_zero, List.getD_cons_succ, List.getD_nil]); first | done | with_reducible rfl)) (by ((try simp only [ev_tmp, ev_const, ev_func, get_put, get_args, get_putL, get_putL_nil, Nat.reduceEqDiff, reduceIte, List.getD_cons_zero, List.getD_cons_succ, List.getD_nil]); first | done | with_reducible rfl)) (fun _ => rfl) (fun _ => rfl)) (next := ?_)
  refine go ?_
  refine ra (v := .int .u64 0) (h := rd_bin (by ((try simp only [ev_tmp, ev_const, ev_func, get_put, get_args, get_putL, get_putL_nil, Nat.reduceEqDiff, reduceIte, List.getD_cons_zero, List.getD_cons_succ, List.getD_nil]); first | done | with_reducible rfl)) (by ((try simp only [ev_tmp, ev_const, ev_func, get_put, get_args, get_putL, get_putL_nil, Nat.reduceEqDiff, reduceIte, List.getD_cons_zero, List.getD_cons_succ, List.getD_nil]); first | done | with_reducible rfl)) (fun _ => rfl) (fun _ => rfl)) (next := ?_)
  refine go ?_
  refine ra (v := .int .u64 0) (h := rd_bin (by ((try simp only [ev_tmp, ev_const, ev_func, get_put, get_args, get_putL, get_putL_nil, Nat.reduceEqDiff, reduceIte, List.getD_cons_zero, List.getD_cons_succ, List.getD_nil]); first | done | with_reducible rfl)) (by ((try simp only [ev_tmp, ev_const, ev_func, get_put, get_args, get_putL, get_putL_nil, Nat.reduceEqDiff, reduceIte, List.getD_cons_zero, List.getD_cons_succ, List.getD_nil]); first | done | with_reducible rfl)) (fun _ => rfl) (fun _ => rfl)) (next := ?_)
  refine go ?_
  refine ra (v := .int .u64 0) (h := rd_bin (by ((try simp only [ev_tmp, ev_const, ev_func, get_put, get_args, get_putL, get_putL_nil, Nat.reduceEqDiff, reduceIte, List.getD_cons_zero, List.getD_cons_succ, List.getD_nil]); first | done | with_reducible rfl)) (by ((try simp only [ev_tmp, ev_const, ev_func, get_put, get_args, get_putL, get_putL_nil, Nat.reduceEqDiff, reduceIte, List.getD_cons_zero, List.getD_cons_succ, List.getD_nil]); first | done | with_reducible rfl)) (fun _ => rfl) (fun _ => rfl)) (next := ?_)
  refine go ?_
  refine ra (v := .int .u64 7) (h := rd_bin (by ((try simp only [ev_tmp, ev_const, ev_func, get_put, get_args, get_putL, get_putL_nil, Nat.reduceEqDiff, reduceIte, List.getD_cons_zero, List.getD_cons_succ, List.getD_nil]); first | done | with_reducible rfl)) (by ((try simp only [ev_tmp, ev_const, ev_func, get_put, get_args, get_putL, get_putL_nil, Nat.reduceEqDiff, reduceIte, List.getD_cons_zero, List.getD_cons_succ, List.getD_nil]); first | done | with_reducible rfl)) (fun _ => rfl) (fun _ => rfl)) (next := ?_)
  refine go ?_
  exact ret2 ⟨rfl, rfl⟩
theorem bitsMul_7 {w : World} : Calls Tryz.prog 189 #[.int .u64 1, .int .u64 7] w (Ret fun v w' => v = .tuple #[.int .u64 0, .int .u64 7] ∧ w' = w) := by
  refine enter (args := [.int .u64 1, .int .u64 7]) (l := [.tmp 4, .tmp 5]) Tryz.func189 rfl rfl Tryz.ntmps189 (by simp) ?_
  refine go ?_
  refine rc bitsMul64_7 (next := fun v1 w1 h1 => ?_)
  obtain ⟨rfl, rfl⟩ := h1
  refine go ?_
  exact ret2 ⟨rfl, rfl⟩
theorem bitsMul_ok {o : Int} (ho : o = 2 ∨ o = 3 ∨ o = 5 ∨ o = 7) {w : World} : Calls Tryz.prog 189 #[.int .u64 1, .int .u64 o] w (Ret fun v w' => v = .tuple #[.int .u64 0, .int .u64 o] ∧ w' = w) := by
  rcases ho with rfl | rfl | rfl | rfl
  · exact bitsMul_2
  · exact bitsMul_3
  · exact bitsMul_5
  · exact bitsMul_7
end Go.Proofs.YtnphljflkpekmaaGreat

/-
  Walks: slices.Repeat of one integer.
  Conditions: stated at each theorem.
-/
namespace Go.Proofs.YtnphljflkpekmaaGreat
open Go Go.Pc
theorem rep_step {a : Int} {n m k : Nat} (hnm : n + m ≤ k) : (List.replicate n a ++ List.replicate (k - n) 0).take n ++ List.replicate m a ++ (List.replicate n a ++ List.replicate (k - n) (0 : Int)).drop (n + (List.replicate m a).length) = List.replicate (n + m) a ++ List.replicate (k - (n + m)) 0 := by
  have e1 : (List.replicate n a ++ List.replicate (k - n) (0 : Int)).take n = List.replicate n a := List.take_left' (by simp)
  have e2 : (List.replicate n a ++ List.replicate (k - n) (0 : Int)).drop (n + (List.replicate m a).length) = List.replicate (k - (n + m)) 0 := by
    rw [List.length_replicate, ← List.drop_drop, List.drop_left' (by simp), List.drop_replicate]
    congr 1
    omega
  rw [e1, e2, List.replicate_append_replicate]
set_option maxHeartbeats 2000000 in
theorem sliceRepeat_ok {o : Int} (ho : o = 2 ∨ o = 3 ∨ o = 5 ∨ o = 7) {a : Int} {w : World} {vx : Value} {lo hi : Nat} [hx : Ints lo hi w vx [a]] :
    Calls Tryz.prog 163 #[vx, .int .i64 o] w (Ret fun v w' => Ext w w' ∧ GrowI 2 w.heap.size w' v (List.replicate o.toNat a)) := by
  have hob : 2 ≤ o ∧ o ≤ 7 := by omega
  have hl1 : [a].length = 1 := rfl
  refine enter (args := [vx, .int .i64 o]) (l := [.tmp 4]) Tryz.func163 rfl rfl Tryz.ntmps163 (by simp) ?_
  refine go ?_
  refine c_if (fun h4 => ?_) (fun h4 => ?_)
  · omega
  refine go ?_
  refine ra (v := .int .u64 1) (h := rd_conv (u := .int .i64) (by ((try simp only [ev_tmp, ev_const, ev_func, get_put, get_args, get_putL, get_putL_nil, Nat.reduceEqDiff, reduceIte, List.getD_cons_zero, List.getD_cons_succ, List.getD_nil]); first | done | with_reducible rfl)) (by kernel_rfl) (by kernel_rfl) rfl) (next := ?_)
  refine go ?_
  refine ra (v := .int .u64 o) (h := rd_conv (u := .int .i64) (by ((try simp only [ev_tmp, ev_const, ev_func, get_put, get_args, get_putL, get_putL_nil, Nat.reduceEqDiff, reduceIte, List.getD_cons_zero, List.getD_cons_succ, List.getD_nil]); first | done | with_reducible rfl)) (by kernel_rfl) (by kernel_rfl) (by rw [IntKind.wrap_u64]; omega)) (next := ?_)
  refine go ?_
  refine rc (bitsMul_ok ho) (next := fun v1 w1 h1 => ?_)
  obtain ⟨rfl, rfl⟩ := h1
  refine go ?_
  refine ra (v := .bool false) (h := rd_bin (by ((try simp only [ev_tmp, ev_const, ev_func, get_put, get_args, get_putL, get_putL_nil, Nat.reduceEqDiff, reduceIte, List.getD_cons_zero, List.getD_cons_succ, List.getD_nil]); first | done | with_reducible rfl)) (by ((try simp only [ev_tmp, ev_const, ev_func, get_put, get_args, get_putL, get_putL_nil, Nat.reduceEqDiff, reduceIte, List.getD_cons_zero, List.getD_cons_succ, List.getD_nil]); first | done | with_reducible rfl)) (fun _ => rfl) (fun _ => rfl)) (next := ?_)
  refine go ?_
  refine ra (v := .bool false) (h := rd_bin (by ((try simp only [ev_tmp, ev_const, ev_func, get_put, get_args, get_putL, get_putL_nil, Nat.reduceEqDiff, reduceIte, List.getD_cons_zero, List.getD_cons_succ, List.getD_nil]); first | done | with_reducible rfl)) (by ((try simp only [ev_tmp, ev_const, ev_func, get_put, get_args, get_putL, get_putL_nil, Nat.reduceEqDiff, reduceIte, List.getD_cons_zero, List.getD_cons_succ, List.getD_nil]); first | done | with_reducible rfl)) (fun _ => rfl) (fun w => by simp [binOp, Op.intCmp]; omega)) (next := ?_)
  refine go ?_
  refine ra (v := .int .i64 o) (h := rd_conv (u := .int .u64) (by ((try simp only [ev_tmp, ev_const, ev_func, get_put, get_args, get_putL, get_putL_nil, Nat.reduceEqDiff, reduceIte, List.getD_cons_zero, List.getD_cons_succ, List.getD_nil]); first | done | with_reducible rfl)) (by kernel_rfl) (by kernel_rfl) (IntWalk.i64_in _ (by omega))) (next := ?_)
  refine go ?_
  refine st_make_int (by ((try simp only [ev_tmp, ev_const, ev_func, get_put, get_args, get_putL, get_putL_nil, Nat.reduceEqDiff, reduceIte, List.getD_cons_zero, List.getD_cons_succ, List.getD_nil]); first | done | with_reducible rfl)) (by ((try simp only [ev_tmp, ev_const, ev_func, get_put, get_args, get_putL, get_putL_nil, Nat.reduceEqDiff, reduceIte, List.getD_cons_zero, List.getD_cons_succ, List.getD_nil]); first | done | with_reducible rfl)) (by omega) (by omega) (by first | exact True.intro | exact ⟨_, rfl, by ((try simp only [ev_tmp, ev_const, ev_func, get_put, get_args, get_putL, get_putL_nil, Nat.reduceEqDiff, reduceIte, List.getD_cons_zero, List.getD_cons_succ, List.getD_nil, Bool.not_true, Bool.not_false]); first | done | with_reducible rfl)⟩) fun w2 v2 he2 hs2 ho2 => ?_
  have hx2 : Ints lo hi w2 vx [a] := hx.same (he2.same _ _)
  obtain ⟨A, c, hvx, _, _, hcell⟩ := hx2.sl.ex
  obtain ⟨a0, hA, _, _, hc0⟩ := hcell 0 (.int .i64 a) rfl
  obtain ⟨cap, cur, hv2, _, hcap, hcapm, _⟩ := ho2.own.ex
  have hrl : (List.replicate o.toNat (0 : Int)).length = o.toNat := by simp
  have hml : ((List.replicate o.toNat (0 : Int)).map (Value.int .i64)).length = o.toNat := by simp
  have hzl : ([a].map (Value.int .i64)).length = 1 := rfl
  rw [hml] at hv2 hcap
  rw [hA] at hvx
  refine go ?_
  refine st_copyi (cs := [a]) (n := 0) ho2 (Eq.trans (by ((try simp only [ev_tmp, ev_const, ev_func, get_put, get_args, get_putL, get_putL_nil, Nat.reduceEqDiff, reduceIte, List.getD_cons_zero, List.getD_cons_succ, List.getD_nil]); first | done | with_reducible rfl)) hv2) (Eq.trans (by ((try simp only [ev_tmp, ev_const, ev_func, get_put, get_args, get_putL, get_putL_nil, Nat.reduceEqDiff, reduceIte, List.getD_cons_zero, List.getD_cons_succ, List.getD_nil]); first | done | with_reducible rfl)) hvx) ?_ ?_ ?_ (next := fun w3 hch3 ho3 => ?_)
  · rw [hzl]
    show 1 = Nat.min 1 o.toNat
    have : 1 ≤ o.toNat := by omega
    exact (Nat.min_eq_left this).symm
  · intro j u hu
    have hj : j = 0 := by
      cases j with
      | zero => rfl
      | succ j => simp at hu
    subst hj
    have : a = u := by simpa using hu
    rw [← this]; exact hc0
  · rw [hrl]; show 0 + 1 ≤ o.toNat; omega
  have e3 := rep_step (a := a) (n := 0) (m := 1) (k := o.toNat) (by omega)
  simp only [List.replicate_zero, List.nil_append, Nat.sub_zero, List.replicate_succ] at e3
  have ho3' : OwnI 2 w1.heap.size w3 v2 (List.replicate 1 a ++ List.replicate (o.toNat - 1) 0) := by
    have h := ho3
    rw [show (List.replicate o.toNat (0 : Int)).take 0 ++ [a] ++ (List.replicate o.toNat 0).drop (0 + [a].length) = List.replicate 1 a ++ List.replicate (o.toNat - 1) 0 by simp [List.drop_replicate]] at h
    exact h
  have hE3 : Ext w1 w3 := hch3.ext he2 (Nat.le_refl _)
  clear ho2 ho3 hch3 e3
  refine go ?_
  refine r_loop (fun m ρ w' => ∃ n : Nat, Has ρ [(7, v2), (8, .int .i64 n)] ∧ Chg w1.heap.size w3 w' ∧ OwnI 2 w1.heap.size w' v2 (List.replicate n a ++ List.replicate (o.toNat - n) 0) ∧ 1 ≤ n ∧ n ≤ o.toNat ∧ m = o.toNat - n) (o.toNat - 1) ?_ ?_
  · refine ⟨1, ?_, Chg.refl _ _, ho3', Nat.le_refl _, by omega, rfl⟩
    exact hasP
  clear ho3'
  rintro m ρ w4 ⟨n, hH, hch4, ho4, hn1, hno, hm⟩
  refine rwp_has hH fun ρ0 => ?_
  have hxl : (List.replicate n a ++ List.replicate (o.toNat - n) (0 : Int)).length = o.toNat := by simp; omega
  refine go ?_
  refine c_if (fun h5 => ?_) (fun h5 => ?_)
  · have hno' : n < o.toNat := by omega
    refine go ?_
    refine z_order w1.heap.size (List.range 10) (h := fun w5 he5 _ => ?_)
    have ho5 : OwnI 2 w1.heap.size w5 v2 (List.replicate n a ++ List.replicate (o.toNat - n) 0) := OwnI.ext (x := he5) (h := ho4)
    obtain ⟨m, hmd⟩ : ∃ m, min n (o.toNat - n) = m := ⟨_, rfl⟩
    have hm0 : 1 ≤ m ∧ n + m ≤ o.toNat ∧ m ≤ n := by omega
    have hcl : (List.replicate m a).length = m := by simp
    have hadd : ∀ q, (Addr.mk w1.heap.size 0 none).add q = ⟨w1.heap.size, q, none⟩ := fun q => by unfold Addr.add; split <;> simp_all
    have hcut : ∀ h, cut v2 n h = .slice (some ⟨w1.heap.size, n, none⟩) (h - n) (cap - n) := fun h => by
      rw [hv2]
      simp only [cut, sliced]
      rw [if_neg (by omega)]
      simp [hadd]
    have hcutTo : cutTo v2 n = .slice (some ⟨w1.heap.size, 0, none⟩) n cap := by rw [hv2]; rfl
    obtain ⟨A5, c5, hv5, _, _, hcell5⟩ := ho5.own.toSl.ex
    have hlen2 : ∀ w', Len w' v2 o.toNat := fun w' => ⟨some ⟨w1.heap.size, 0, none⟩, cap, hv2, hcap, by have := hcapm; simp only [maxLen] at this; omega, fun _ => ⟨_, rfl⟩⟩
    refine zgo ?_
    refine za (v := cut v2 n o.toNat) (h := ⟨fun w' _ => rd_slice_l (hl := hlen2 w') (by ((try simp only [ev_tmp, ev_const, ev_func, get_put, get_args, get_putL, get_putL_nil, Nat.reduceEqDiff, reduceIte, List.getD_cons_zero, List.getD_cons_succ, List.getD_nil]); first | done | with_reducible rfl)) (by ((try simp only [ev_tmp, ev_const, ev_func, get_put, get_args, get_putL, get_putL_nil, Nat.reduceEqDiff, reduceIte, List.getD_cons_zero, List.getD_cons_succ, List.getD_nil]); first | done | with_reducible rfl)) (by omega) (by omega)⟩) (next := ?_)
    refine zgo ?_
    refine za (v := cutTo v2 n) (h := ⟨fun w' _ => rd_slice_h (hl := hlen2 w') (by ((try simp only [ev_tmp, ev_const, ev_func, get_put, get_args, get_putL, get_putL_nil, Nat.reduceEqDiff, reduceIte, List.getD_cons_zero, List.getD_cons_succ, List.getD_nil]); first | done | with_reducible rfl)) (by ((try simp only [ev_tmp, ev_const, ev_func, get_put, get_args, get_putL, get_putL_nil, Nat.reduceEqDiff, reduceIte, List.getD_cons_zero, List.getD_cons_succ, List.getD_nil]); first | done | with_reducible rfl)) (by omega) (by omega)⟩) (next := ?_)
    refine z_copyi (cs := List.replicate m a) (n := n) ho5 (hx := Eq.trans (by ((try simp only [ev_tmp, ev_const, ev_func, get_put, get_args, get_putL, get_putL_nil, Nat.reduceEqDiff, reduceIte, List.getD_cons_zero, List.getD_cons_succ, List.getD_nil]); first | done | with_reducible rfl)) (hcut _)) (hy := Eq.trans (by ((try simp only [ev_tmp, ev_const, ev_func, get_put, get_args, get_putL, get_putL_nil, Nat.reduceEqDiff, reduceIte, List.getD_cons_zero, List.getD_cons_succ, List.getD_nil]); first | done | with_reducible rfl)) hcutTo) (hn := ?_) (hsrc := ?_) (hf := ?_) (next := fun w6 hch6 ho6 => ?_)
    · rw [hcl, ← hmd]
    · intro j u hu
      have hjm : j < m := by
        rw [List.getElem?_replicate] at hu
        by_cases e : j < m
        · exact e
        · rw [if_neg e] at hu; cases hu
      have hua : a = u := by
        rw [List.getElem?_replicate, if_pos hjm] at hu
        injection hu
      obtain ⟨a5, hA5, _, _, hc5⟩ := hcell5 j (.int .i64 a) (by
        rw [List.getElem?_map, List.getElem?_append_left (by simp; omega), List.getElem?_replicate, if_pos (by omega)]
        rfl)
      rw [hv2] at hv5
      injection hv5 with hv5 _ _
      rw [hA5] at hv5
      injection hv5 with hv5
      rw [hv5, ← hua]
      exact hc5
    · rw [hcl, hxl]; exact hm0.2.1
    rw [rep_step hm0.2.1] at ho6
    refine zgo ?_
    refine z_end ?_
    refine go ?_
    refine loopQ_normal ?_ ⟨n + m, ?_, (hch4.grow he5).trans hch6, ho6, by omega, hm0.2.1, rfl⟩
    · omega
    · exact hasP
  · obtain rfl : n = o.toNat := by omega
    rw [Nat.sub_self, List.replicate_zero, List.append_nil] at ho4
    refine go ?_
    exact ret1 ⟨hch4.ext hE3 (Nat.le_refl _), ⟨ho4.own.toN⟩⟩
end Go.Proofs.YtnphljflkpekmaaGreat

/-
  Walks: the program's relators, values of words, tests of homomorphisms (PresentationRelators, evaluate, respects).
  Conditions: stated at each theorem.
-/
namespace Go.Proofs.YtnphljflkpekmaaGreat
open Go Go.Pc
theorem ints_bdI {e : List Int} {n : Nat} (hl : LetW n e) (hn : n ≤ 6) : ∀ i, i < e.length → -1000000 ≤ e.getD i 0 ∧ e.getD i 0 ≤ 1000000 := fun i hi => by
  have e1 : e.getD i 0 = e[i] := by simp [hi]
  have := hl _ (List.getElem_mem hi)
  omega
theorem letW_atI {n : Nat} {w : List Int} (h : LetW n w) {k : Nat} (hk : k < w.length) : w.getD k 0 ≠ 0 ∧ -(n : Int) ≤ w.getD k 0 ∧ w.getD k 0 ≤ n := by
  have e1 : w.getD k 0 = w[k] := by simp [hk]
  rw [e1]
  exact h _ (List.getElem_mem hk)
theorem rels_bd {p : Pr} (hv : Valid p) : ∀ m, m ≤ p.n → (relL p m).length ≤ 100 := fun m hm => by
  have h := (rels_props hv).1
  have : (relL p m).length ≤ (rels p).length := by
    unfold rels relL
    simp only [List.length_append]
    have e : List.range p.n = List.range m ++ (List.range (p.n - m)).map (m + ·) := by
      rw [← List.range_add, show m + (p.n - m) = p.n by omega]
    rw [e, List.flatMap_append, List.length_append]
    simp only [List.length_append, List.length_map, List.length_range]
    omega
  omega
set_option maxHeartbeats 4000000 in
theorem PresentationRelators_ok {p : Pr} (hv : Valid p) {w : World} {vp : Value} {lo hi : Nat} [hp : Pres lo hi w vp p] :
    Calls Tryz.prog 121 #[vp] w (Ret fun v w' => ∃ (u : Value) (e : Int), v = .tuple #[u, .int .i64 e] ∧ Ext w w' ∧ ∃ rs, rs.map (·.2) = rels p ∧ GrowL 22 w.heap.size w' u rs) := by
  have hn6 := hv.n6
  have hol : p.ord.length = p.n := rfl
  have hwl := hv.lenw
  have hcl := hv.lenc
  replace hp := hp.wide
  obtain ⟨vo, vpw, vc, ps, cs, css, rfl, h1, h2, h3⟩ := hp.ex
  refine enter (args := [.agg #[vo, vpw, vc]]) (l := [.tmp 2, .tmp 3]) Tryz.func121 rfl rfl Tryz.ntmps121 (by simp) ?_
  refine go ?_
  refine st_box3 (by ((try simp only [ev_tmp, ev_const, ev_func, get_put, get_args, get_putL, get_putL_nil, Nat.reduceEqDiff, reduceIte, List.getD_cons_zero, List.getD_cons_succ, List.getD_nil]); first | done | with_reducible rfl)) (by first | exact True.intro | exact ⟨_, rfl, by ((try simp only [ev_tmp, ev_const, ev_func, get_put, get_args, get_putL, get_putL_nil, Nat.reduceEqDiff, reduceIte, List.getD_cons_zero, List.getD_cons_succ, List.getD_nil, Bool.not_true, Bool.not_false]); first | done | with_reducible rfl)⟩) fun w1 b he1 hb1 hs1 hc0 hc1 hc2 => ?_
  have hz1 := he1.size
  refine go ?_
  refine rc (impl_IsPresentation_ok (p := p) (by omega)) (next := fun v0 w0 h0 => ?_)
  obtain ⟨b0, rfl, hb0, he0⟩ := h0
  have hE0 := he1.trans he0
  refine go ?_
  refine c_b (fun e0 => ?_) (fun e0 => ?_)
  · rw [hb0.2 hv] at e0; cases e0
  refine go ?_
  refine r_for p.n (fun i ρ w' => ∃ vl rs, Has ρ [(1, .pointer (some ⟨b, 0, none⟩)), (4, vl), (16, vo), (17, .int .i64 p.n), (18, .int .i64 i)] ∧ Ext w0 w' ∧ GrowL 22 w0.heap.size w' vl rs ∧ rs.map (·.2) = (List.range i).map (relP p)) ?_ ?_
  · refine ⟨nilv, [], ?_, Ext.refl _, GrowL.nil _ _ _ (Nat.le_refl _), rfl⟩
    exact hasP
  rintro i ρ w3 hi ⟨vl, rs, hH, he3, hG3, hrs3⟩
  refine rwp_has hH fun ρ0 => ?_
  have hz3 := he3.size
  have hE3 := hE0.trans he3
  have hrl3 : rs.length = i := by have := congrArg List.length hrs3; simpa using this
  refine go ?_
  refine c_if (fun h4 => ?_) (fun h4 => ?_)
  · have hin : i < p.n := by omega
    have ho := hv.opos hin
    have hoi : p.ord.getD i 0 = p.o i := rfl
    have hop := hv.prime i hin
    have hiw := invec_word hv (hv.w_in i hin)
    have hpw : p.w i = p.pow.getD i [] := rfl
    rw [hpw] at hiw
    have hlw := letW_word hiw.1
    obtain ⟨b', hb', hvb'⟩ := own_some' vl w0.heap.size w3.heap.size hz3 (fun g h => (hG3.lst.lt h).1)
    have hzE0 := hE0.size
    have hz0 := he0.size
    have ap1 : Apart 0 w.heap.size b' := ⟨.inr (by omega)⟩
    have ap2 : Apart b (b + 1) b' := ⟨.inr (by have := hc0.lt; omega)⟩
    refine go ?_
    rw [hoi]
    refine z_order b' [0, 1, 2, 6, 7, 8, 9, 10, 4, 3, 5, 11, 12, 13, 14, 15, 16] (h := fun w4 he4 hs4 => ?_)
    refine zgo ?_
    refine z_slice1i (t := 22) (e := 2) (z := .int .i64 0) (a := (i : Int) + 1) (next := fun w5 v5 he5 hs5 ho5 => ?_)
    have hx5 : Ints w4.heap.size (w4.heap.size + 1) w5 v5 [(i : Int) + 1] := ⟨ho5.toSl⟩
    refine zc (sliceRepeat_ok (o := p.o i) hop) (next := fun v6 w6 h6 => ?_)
    obtain ⟨he6, hG6⟩ := h6
    refine zc (normalWord_ok (e := p.pow.getD i []) (by omega) (fun j hj => by have := hiw.2.2 j hj; omega)) (next := fun v7 w7 h7 => ?_)
    obtain ⟨he7, hG7⟩ := h7
    have hi7 := hG7.fr.ints
    refine zc (invertWord_ok (e := wordV (p.pow.getD i [])) (by omega) (ints_bdI hlw hn6)) (next := fun v8 w8 h8 => ?_)
    obtain ⟨he8, hG8⟩ := h8
    have hG68 := @GrowI.ext _ _ _ _ _ _ (he7.trans he8) hG6
    have hz5 := he5.size
    have hz58 := ((he6.trans he7).trans he8).size
    refine z_appi hG68 hG8.fr.ints hz58 hz5 (by simp only [List.length_replicate, invW_len]; omega) (next := fun v9 w9 hG9 hx9 hz9 => ?_)
    have hx49 := hx9 w4 (he5.trans ((he6.trans he7).trans he8)) hz5
    refine z_grow (hG3.ext he4) hx49 (hG9.fr.mono hz5) (by have := he4.size; omega) (by omega) hvb' (next := fun v10 v11 w11 hG11 hx11 hz11 hgs11 => ?_)
    refine zgo ?_
    refine z_end ?_
    refine go ?_
    refine forQ_normal (by omega) ⟨v11, _, ?_, hx11 w0 ((he3.trans he4).trans hx49) (Nat.le_refl _), hG11, ?_⟩
    · exact hasP
    · rw [List.map_append, hrs3, List.range_succ, List.map_append]; rfl
  · obtain rfl : i = p.n := by omega
    have hrs0 : rs.map (·.2) = relL p 0 := by rw [hrs3]; simp [relL]
    have hrb := rels_bd hv
    clear hrs3
    refine go ?_
    refine r_for p.n (fun i ρ w' => ∃ vl rs, Has ρ [(1, .pointer (some ⟨b, 0, none⟩)), (4, vl), (41, vo), (42, .int .i64 p.n), (43, .int .i64 i)] ∧ Ext w0 w' ∧ GrowL 22 w0.heap.size w' vl rs ∧ rs.map (·.2) = relL p i) ?_ ?_
    · refine ⟨vl, rs, ?_, he3, hG3, hrs0⟩
      exact hasP
    clear hG3 he3 hrs0 hrl3 hz3 hE3
    rintro i ρ w3 hi ⟨vl, rs, hH3, he3, hG3, hrs3⟩
    refine rwp_has hH3 fun ρ1 => ?_
    have hz3 := he3.size
    have hE3 := hE0.trans he3
    refine go ?_
    refine c_if (fun h5 => ?_) (fun h5 => ?_)
    · have hin : i < p.n := by omega
      have hci := hv.lenci i hin
      refine go ?_
      refine r_for (p.n - 1 - i) (fun k ρ w' => ∃ vl rs, Has ρ [(1, .pointer (some ⟨b, 0, none⟩)), (4, vl), (7, .int .i64 i), (41, vo), (42, .int .i64 p.n), (43, .int .i64 i), (50, Pc.rowAt vc cs i), (51, .int .i64 (p.cnj.getD i []).length), (52, .int .i64 k)] ∧ Ext w0 w' ∧ GrowL 22 w0.heap.size w' vl rs ∧ rs.map (·.2) = relL p i ++ relCs p i k) ?_ ?_
      · refine ⟨vl, rs, ?_, he3, hG3, by simpa [relCs] using hrs3⟩
        exact hasP
      clear hG3 he3 hrs3 hz3 hE3
      rintro k ρ w4 hk ⟨vl, rs, hH4, he4, hG4, hrs4⟩
      refine rwp_has hH4 fun ρ2 => ?_
      have hz4 := he4.size
      have hE4 := hE0.trans he4
      have hrl4 : rs.length ≤ 1000 := by
        have h := congrArg List.length hrs4
        have h2 := hrb i (by omega)
        simp only [List.length_map, List.length_append, relCs, List.length_range] at h
        omega
      have hrow : Pc.Rows 0 w1.heap.size w4 (Pc.rowAt vc cs i) (css.getD i []) (p.cnj.getD i []) := ((h3.same ((hE4).same _ _)).vals.at_ i).mono (Nat.zero_le _) (by have := he1.size; omega)
      refine go ?_
      refine c_if (fun h6 => ?_) (fun h6 => ?_)
      · have hkn : k < p.n - 1 - i := by omega
        have hiw := invec_word hv (hv.c_in i (i + 1 + k) (by omega) (by omega))
        have hw : p.c i (i + 1 + k) = (p.cnj.getD i []).getD k [] := by
          show (p.cnj.getD i []).getD (i + 1 + k - (i + 1)) [] = _
          rw [show i + 1 + k - (i + 1) = k by omega]
        rw [hw] at hiw
        have hlw := letW_word hiw.1
        refine go ?_
        refine st_slice3i (a := -((i : Int) + 1)) (b := (i : Int) + k + 2) (c := (i : Int) + 1) (by ((try simp only [ev_tmp, ev_const, ev_func, get_put, get_args, get_putL, get_putL_nil, Nat.reduceEqDiff, reduceIte, List.getD_cons_zero, List.getD_cons_succ, List.getD_nil]); first | done | with_reducible rfl)) (by ((try simp only [ev_tmp, ev_const, ev_func, get_put, get_args, get_putL, get_putL_nil, Nat.reduceEqDiff, reduceIte, List.getD_cons_zero, List.getD_cons_succ, List.getD_nil]); first | done | with_reducible rfl)) (by ((try simp only [ev_tmp, ev_const, ev_func, get_put, get_args, get_putL, get_putL_nil, Nat.reduceEqDiff, reduceIte, List.getD_cons_zero, List.getD_cons_succ, List.getD_nil]); first | done | with_reducible rfl)) ?_ (by first | exact True.intro | exact ⟨_, rfl, by ((try simp only [ev_tmp, ev_const, ev_func, get_put, get_args, get_putL, get_putL_nil, Nat.reduceEqDiff, reduceIte, List.getD_cons_zero, List.getD_cons_succ, List.getD_nil, Bool.not_true, Bool.not_false]); first | done | with_reducible rfl)⟩) fun w5 v5 he5 hG5 => ?_
        · rfl
        have e3 : [-((i : Int) + 1), (i : Int) + k + 2, (i : Int) + 1] = [-(i : Int) - 1, ((i + 1 + k : Nat) : Int) + 1, (i : Int) + 1] := by
          rw [show -((i : Int) + 1) = -(i : Int) - 1 by omega, show (i : Int) + k + 2 = ((i + 1 + k : Nat) : Int) + 1 by omega]
        rw [e3] at hG5
        refine go ?_
        refine rc (normalWord_ok (e := (p.cnj.getD i []).getD k []) (by omega) (fun j hj => by have := hiw.2.2 j hj; omega)) (next := fun v6 w6 h7 => ?_)
        obtain ⟨he6, hG6⟩ := h7
        have hi6 := hG6.fr.ints
        refine go ?_
        refine rc (invertWord_ok (e := wordV ((p.cnj.getD i []).getD k [])) (by omega) (ints_bdI hlw hn6)) (next := fun v7 w7 h8 => ?_)
        obtain ⟨he7, hG7⟩ := h8
        have hG57 := @GrowI.ext _ _ _ _ _ _ (he6.trans he7) hG5
        have hz7 := (he5.trans (he6.trans he7)).size
        refine go ?_
        refine st_appi hG57 hG7.fr.ints hz7 (by simp only [List.length_cons, List.length_nil, invW_len]; omega) (next := fun v8 w8 hG8 hx8 hz8 => ?_)
        have hx48 := hx8 w4 (he5.trans (he6.trans he7)) (Nat.le_refl _)
        refine go ?_
        refine st_grow hG4 hx48 hG8.fr hz4 (by omega) (next := fun v9 v10 w10 hG10 hx10 hz10 hgs10 => ?_)
        refine go ?_
        refine forQ_normal (by omega) ⟨v10, _, ?_, hx10 w0 (he4.trans hx48) (Nat.le_refl _), hG10, ?_⟩
        · exact hasP
        · rw [List.map_append, hrs4, relCs_succ, List.append_assoc]; rfl
      · obtain rfl : k = p.n - 1 - i := by omega
        rw [← relL_succ] at hrs4
        refine go ?_
        refine forQ_normal (by omega) ⟨vl, rs, ?_, he4, hG4, hrs4⟩
        exact hasP
    · obtain rfl : i = p.n := by omega
      refine go ?_
      exact ret2 ⟨vl, 0, rfl, hE3, rs, hrs3, hG3.lower hE0.size hE3.size⟩
theorem _root_.Go.Pc.rd_max {P : Program} {ρ : Env} {w : World} {x y : Operand} {a b : Int} {ty : TypeId} {ts : Array TypeId} (h : ev ρ x = .int .i64 a) (k : ev ρ y = .int .i64 b) : Rd P (.call { callee := .builtin .max, args := #[x, y], argTypes := ts }) ty ρ w (.int .i64 (if b > a then b else a)) := by
  constructor; intro _ _ _ _
  simp [execOp, resolve, invoke, builtin, h, k, Builtin.max_, Builtin.max2]
theorem absI_ok {n : Int} {m : Nat} (h : n = m ∨ n = -(m : Int)) (hm : m ≤ 1000000) {w : World} : Calls Tryz.prog 191 #[.int .i64 n] w (Ret fun v w' => v = .int .i64 m ∧ w' = w) := by
  refine enter (args := [.int .i64 n]) (l := [.tmp 2]) Tryz.func191 rfl rfl Tryz.ntmps191 (by simp) ?_
  refine go ?_
  refine ra (v := .int .i64 (if -n > n then -n else n)) (h := rd_max (by ((try simp only [ev_tmp, ev_const, ev_func, get_put, get_args, get_putL, get_putL_nil, Nat.reduceEqDiff, reduceIte, List.getD_cons_zero, List.getD_cons_succ, List.getD_nil]); first | done | with_reducible rfl)) (by ((try simp only [ev_tmp, ev_const, ev_func, get_put, get_args, get_putL, get_putL_nil, Nat.reduceEqDiff, reduceIte, List.getD_cons_zero, List.getD_cons_succ, List.getD_nil]); first | done | with_reducible rfl))) (next := ?_)
  refine go ?_
  refine ret1 (v := .int .i64 (if -n > n then -n else n)) ⟨?_, rfl⟩
  congr 1
  split <;> omega
set_option maxHeartbeats 2000000 in
theorem evaluate_ok {q : Pr} [hc : ConAll q] {ys : List (El q)} {ws : List Int} (hw : LetW ys.length ws) (hwl : ws.length ≤ 100000) (hyl : ys.length ≤ 1000) {w : World} {vq vw vi : Value} {us : List Value} {xss : List (List Int)} {lo hi lo1 hi1 lo2 hi2 : Nat} [hp : PresP lo hi w vq q] [hx : Ints lo1 hi1 w vw ws] [hu : Pc.Rows lo2 hi2 w vi us xss] (hus : xss = vecs ys) :
    Calls Tryz.prog 166 #[vq, vw, vi] w (Ret fun v w' => Ext w w' ∧ Fr w.heap.size w' v (evalW ys ws).v) := by
  subst hus
  have hv := hc.valid
  have hn6 := hv.n6
  have hol : q.ord.length = q.n := rfl
  have hvl : (vecs ys).length = ys.length := by simp
  replace hp := hp.wide
  replace hx := hx.wide
  replace hu := hu.wide
  have hpP := hp
  obtain ⟨g, og, vo, vpw, vc, ps, cs, css, rfl, hg1, hg2, hc0, hc1, hc2, h1, h2, h3⟩ := hp.ex
  refine enter (args := [.pointer (some ⟨g, og, none⟩), vw, vi]) (l := [.tmp 6]) Tryz.func166 rfl rfl Tryz.ntmps166 (by simp) ?_
  refine go ?_
  refine st_make_int (by ((try simp only [ev_tmp, ev_const, ev_func, get_put, get_args, get_putL, get_putL_nil, Nat.reduceEqDiff, reduceIte, List.getD_cons_zero, List.getD_cons_succ, List.getD_nil]); first | done | with_reducible rfl)) (by ((try simp only [ev_tmp, ev_const, ev_func, get_put, get_args, get_putL, get_putL_nil, Nat.reduceEqDiff, reduceIte, List.getD_cons_zero, List.getD_cons_succ, List.getD_nil]); first | done | with_reducible rfl)) (by omega) (by omega) (by first | exact True.intro | exact ⟨_, rfl, by ((try simp only [ev_tmp, ev_const, ev_func, get_put, get_args, get_putL, get_putL_nil, Nat.reduceEqDiff, reduceIte, List.getD_cons_zero, List.getD_cons_succ, List.getD_nil, Bool.not_true, Bool.not_false]); first | done | with_reducible rfl)⟩) fun w2 v2 he2 hs2 ho2 => ?_
  have hz2 := he2.size
  have hzz : List.replicate q.ord.length (0 : Int) = (1 : El q).v := rfl
  rw [hzz] at ho2
  have ap1 : Apart 0 w.heap.size w.heap.size := ⟨.inr (Nat.le_refl _)⟩
  have hgs : g + 1 ≤ w.heap.size := by have := hc0.lt; omega
  have ap2 : Apart g (g + 1) w.heap.size := ⟨.inr hgs⟩
  refine go ?_
  refine r_for ws.length (fun k ρ w' => ∃ xs, Has ρ [(0, .pointer (some ⟨g, og, none⟩)), (2, vi), (7, v2), (17, vw), (18, .int .i64 ws.length), (19, .int .i64 k)] ∧ Chg w.heap.size w2 w' ∧ OwnI 2 w.heap.size w' v2 xs ∧ xs = (evalW ys (ws.take k)).v) ?_ ?_
  · refine ⟨_, ?_, Chg.refl _ _, ho2, rfl⟩
    exact hasP
  clear ho2
  rintro k ρ w3 hk ⟨xs, hH, hch3, ho3, hxs⟩
  refine rwp_has hH fun ρ0 => ?_
  have hE3 : Ext w w3 := hch3.ext he2 (Nat.le_refl _)
  refine go ?_
  refine c_if (fun h4 => ?_) (fun h4 => ?_)
  · have hkn : k < ws.length := by omega
    have hlk := letW_atI hw hkn
    have hst := evalW_take (ys := ys) hkn
    refine go ?_
    obtain ⟨j, hj⟩ : ∃ j : Nat, ws.getD k 0 = ((j + 1 : Nat) : Int) ∨ ws.getD k 0 = -((j + 1 : Nat) : Int) := ⟨(ws.getD k 0).natAbs - 1, by omega⟩
    have hjn : j < ys.length := by omega
    have hgj : (vecs ys).getD j [] = (ys.getD j 1).v := by rw [vecs_getD ys hjn, getD_one hjn]
    refine rc (absI_ok hj (by omega)) (next := fun v5 w5 h5 => ?_)
    obtain ⟨rfl, rfl⟩ := h5
    have hj1 : j + 1 - 1 = j := rfl
    have hrow : Ints 0 w.heap.size w5 (Pc.rowAt vi us j) ((vecs ys).getD j []) := (hu.same (hE3.same _ _)).vals.at_ j
    refine go ?_
    rw [hj1]
    refine c_if (fun h6 => ?_) (fun h6 => ?_)
    · have hlv : letV ys (ws.getD k 0) = (ys.getD j 1)⁻¹ := by
        unfold letV
        rw [if_neg (by omega), show (-ws.getD k 0 - 1).toNat = j by omega]
      refine go ?_
      refine rc (invert_ok (p := q) (i := 0) (x := ys.getD j 1) hgj) (next := fun v6 w6 h7 => ?_)
      obtain ⟨he6, hf6⟩ := h7
      have hi6 := hf6.ints
      have ho6 : OwnI 2 w.heap.size w6 v2 xs := OwnI.ext (x := he6) (h := ho3)
      have hz3 := hch3.size
      have ap3 : Apart w5.heap.size w6.heap.size w.heap.size := ⟨.inl (by omega)⟩
      clear ho3
      refine go ?_
      refine rc (timesVector_ok (p := q) 0 (i := 0) (x := evalW ys (ws.take k)) (y := (ys.getD j 1)⁻¹) (Nat.zero_le _) hxs rfl (fun k hk => absurd hk (Nat.not_lt_zero _))) (next := fun v7 w7 h8 => ?_)
      obtain ⟨hch7, ho7⟩ := h8
      refine go ?_
      refine forQ_normal (by omega) ⟨_, ?_, (hch3.grow he6).trans hch7, ho7, by rw [hst, hlv]⟩
      exact hasP
    · have hlv : letV ys (ws.getD k 0) = ys.getD j 1 := by
        unfold letV
        rw [if_pos (by omega), show (ws.getD k 0 - 1).toNat = j by omega]
      refine go ?_
      refine rc (timesVector_ok (p := q) 0 (i := 0) (x := evalW ys (ws.take k)) (y := ys.getD j 1) (Nat.zero_le _) hxs hgj (fun k hk => absurd hk (Nat.not_lt_zero _))) (next := fun v7 w7 h8 => ?_)
      obtain ⟨hch7, ho7⟩ := h8
      refine go ?_
      refine forQ_normal (by omega) ⟨_, ?_, hch3.trans hch7, ho7, by rw [hst, hlv]⟩
      exact hasP
  · obtain rfl : k = ws.length := by omega
    rw [List.take_length] at hxs
    refine go ?_
    refine ret1 ⟨hE3, ?_⟩
    rw [← hxs]
    exact ho3.toFr (Nat.le_refl _)
set_option maxHeartbeats 2000000 in
theorem respects_ok {p q : Pr} (hvp : Valid p) [hc : ConAll q] {ys : List (El q)} (hyl : ys.length = p.n) {w : World} {vr vq vi : Value} {ur us : List Value} {rss xss : List (List Int)} {lo hi lo1 hi1 lo2 hi2 : Nat} [hq : PresP lo1 hi1 w vq q] [hr : Pc.Rows lo hi w vr ur rss] [hu : Pc.Rows lo2 hi2 w vi us xss] (hrs : rss = rels p) (hus : xss = vecs ys) :
    Calls Tryz.prog 122 #[vr, vq, vi] w (Ret fun v w' => ∃ b, v = .bool b ∧ (b = true ↔ RelOk p ys) ∧ Ext w w') := by
  subst hus hrs
  have hn6 := hvp.n6
  have hq6 := hc.valid.n6
  have hvl : (vecs ys).length = ys.length := by simp
  have hrp := rels_props hvp
  have hul := hr.vals.len
  refine enter (args := [vr, vq, vi]) (l := [.tmp 6]) Tryz.func122 rfl rfl Tryz.ntmps122 (by simp) ?_
  refine go ?_
  refine r_for (rels p).length (fun k ρ w' => Has ρ [(1, vq), (2, vi), (9, vr), (10, .int .i64 (rels p).length), (11, .int .i64 k)] ∧ Ext w w' ∧ ∀ j, j < k → evalW ys ((rels p).getD j []) = 1) ?_ ?_
  · refine ⟨?_, Ext.refl _, fun j hj => by omega⟩
    exact hasP
  rintro k ρ w3 hk ⟨hH, he3, hI⟩
  refine rwp_has hH fun ρ0 => ?_
  refine go ?_
  refine c_if (fun h4 => ?_) (fun h4 => ?_)
  · have hkn : k < (rels p).length := by omega
    have e1 : (rels p).getD k [] = (rels p)[k] := by simp [hkn]
    have hwk := hrp.2 _ (List.getElem_mem hkn)
    rw [← e1, ← hyl] at hwk
    have hel := (evalW ys ((rels p).getD k [])).inr.len
    refine go ?_
    refine rc (evaluate_ok (q := q) (ys := ys) (ws := (rels p).getD k []) hwk.2 (by omega) (by omega) rfl) (next := fun v5 w5 h5 => ?_)
    obtain ⟨he5, hf5⟩ := h5
    have hi5 := hf5.ints
    refine go ?_
    refine rc (isZero_ok (xs := (evalW ys ((rels p).getD k [])).v) (by omega)) (next := fun v6 w6 h6 => ?_)
    obtain ⟨b6, rfl, hb6, he6⟩ := h6
    rw [← el_one_iff] at hb6
    have hE6 := he5.trans he6
    refine go ?_
    refine c_b (fun h7 => ?_) (fun h7 => ?_)
    · refine go ?_
      refine ret1 ⟨false, rfl, ⟨fun h => (by cases h), fun h => ?_⟩, he3.trans hE6⟩
      rw [hb6.2 (h k hkn)] at h7; cases h7
    · refine go ?_
      refine forQ_normal (by omega) ⟨?_, he3.trans hE6, fun j hj => ?_⟩
      · exact hasP
      · by_cases e : j = k
        · subst e; exact hb6.1 (by simpa using h7)
        · exact hI j (by omega)
  · refine go ?_
    exact ret1 ⟨true, rfl, ⟨fun _ j hj => hI j (by omega), fun _ => rfl⟩, he3⟩
end Go.Proofs.YtnphljflkpekmaaGreat

/-
  Walks: the program's IsAutomorphism, IsIsomorphism, ApplyAutomorphism, ComposeAutomorphisms.
  Conditions: stated at each theorem.
-/
namespace Go.Proofs.YtnphljflkpekmaaGreat
open Go Go.Pc
set_option maxHeartbeats 4000000 in
theorem impl_IsIsomorphism_ok {p q : Pr} {w : World} {vp vq vu : Value} {us : List Value} {xss : List (List Int)} {lo hi lo1 hi1 lo2 hi2 : Nat} [hp : Pres lo hi w vp p] [hq : Pres lo1 hi1 w vq q] [hu : Pc.Rows lo2 hi2 w vu us xss] (hl : p.ord.length ≤ 2000000) (hlq : q.ord.length ≤ 2000000) (hxl : xss.length ≤ 2000000) :
    Calls Tryz.prog 140 #[vp, vq, vu] w (Ret fun v w' => ∃ b, v = .bool b ∧ (b = true ↔ IsoP p q xss) ∧ Ext w w') := by
  have hol : p.ord.length = p.n := rfl
  replace hp := hp.wide
  replace hq := hq.wide
  replace hu := hu.wide
  obtain ⟨vo, vpw, vc, ps, cs, css, rfl, h1, h2, h3⟩ := hp.ex
  obtain ⟨uo, upw, uc, qs, ds, dss, rfl, k1, k2, k3⟩ := hq.ex
  refine enter (args := [.agg #[vo, vpw, vc], .agg #[uo, upw, uc], vu]) (l := [.tmp 6]) Tryz.func140 rfl rfl Tryz.ntmps140 (by simp) ?_
  refine go ?_
  refine st_box3 (by ((try simp only [ev_tmp, ev_const, ev_func, get_put, get_args, get_putL, get_putL_nil, Nat.reduceEqDiff, reduceIte, List.getD_cons_zero, List.getD_cons_succ, List.getD_nil]); first | done | with_reducible rfl)) (by first | exact True.intro | exact ⟨_, rfl, by ((try simp only [ev_tmp, ev_const, ev_func, get_put, get_args, get_putL, get_putL_nil, Nat.reduceEqDiff, reduceIte, List.getD_cons_zero, List.getD_cons_succ, List.getD_nil, Bool.not_true, Bool.not_false]); first | done | with_reducible rfl)⟩) fun w0 b0 he0 hb0 hs0 ha0 ha1 ha2 => ?_
  have hpp := hp.boxed he0 ha0 ha1 ha2
  have hq0 : Pres 0 w0.heap.size w0 (.agg #[uo, upw, uc]) q := (hq.same (he0.same _ _)).wide
  have hk1 : Ints 0 w0.heap.size w0 uo q.ord := (k1.same (he0.same _ _)).wide
  have hk2 : Pc.Rows 0 w0.heap.size w0 upw qs q.pow := (k2.same (he0.same _ _)).wide
  refine go ?_
  refine st_box3 (by ((try simp only [ev_tmp, ev_const, ev_func, get_put, get_args, get_putL, get_putL_nil, Nat.reduceEqDiff, reduceIte, List.getD_cons_zero, List.getD_cons_succ, List.getD_nil]); first | done | with_reducible rfl)) (by first | exact True.intro | exact ⟨_, rfl, by ((try simp only [ev_tmp, ev_const, ev_func, get_put, get_args, get_putL, get_putL_nil, Nat.reduceEqDiff, reduceIte, List.getD_cons_zero, List.getD_cons_succ, List.getD_nil, Bool.not_true, Bool.not_false]); first | done | with_reducible rfl)⟩) fun w1 b he1 hb1 hs1 hc0 hc1 hc2 => ?_
  have hqq := hq0.boxed he1 hc0 hc1 hc2
  have hpp1 := PresP.same hpp (he1.same _ _) he1.size
  have hE1 := he0.trans he1
  refine go ?_
  refine rc (impl_IsConsistent_ok (p := p) hl) (next := fun v5 w5 h5 => ?_)
  obtain ⟨b5, rfl, hb5, he5⟩ := h5
  have hE5 := hE1.trans he5
  refine ra (next := ?_)
  refine ra (next := ?_)
  refine sp (fun e5 => ?_) (fun e5 => ?_)
  · have e5' : b5 = false := by simpa using e5
    refine go ?_
    refine ret1 ⟨false, rfl, ⟨fun h => (by cases h), fun h => ?_⟩, hE5⟩
    rw [hb5.2 h.1] at e5'; cases e5'
  have hG := hb5.1 (by simpa using e5)
  refine go ?_
  refine rc (areElements_ok (p := q) (xss := xss) hlq hxl) (next := fun v6 w6 h6 => ?_)
  obtain ⟨b6, rfl, hb6, he6⟩ := h6
  have hE6 := hE5.trans he6
  refine ra (next := ?_)
  refine ra (next := ?_)
  refine ra (next := ?_)
  refine sp (fun e6 => ?_) (fun e6 => ?_)
  · have e6' : b6 = false := by simpa using e6
    refine go ?_
    refine ret1 ⟨false, rfl, ⟨fun h => (by cases h), fun h => ?_⟩, hE6⟩
    obtain ⟨_, _, _, hq', hI, _⟩ := h
    rw [hb6.2 ⟨hq', hI⟩] at e6'; cases e6'
  obtain ⟨hGq, hI⟩ := hb6.1 (by simpa using e6)
  haveI : ConAll p := ⟨hG.con⟩
  haveI : ConAll q := ⟨hGq.con⟩
  have hvq := hGq.valid
  have hn6 := hG.valid.n6
  have hq6 := hvq.n6
  obtain ⟨ys, hys⟩ := els_of hI
  refine go ?_
  refine spd (fun h7 => ?_) (fun h7 => ?_)
  · refine go ?_
    refine ret1 ⟨false, rfl, ⟨fun h => (by cases h), fun h => ?_⟩, hE6⟩
    have := h.2.1
    exact absurd (by omega) h7
  have hlen : xss.length = p.n := by
    have h8 := Decidable.not_not.1 h7
    omega
  have hyl : ys.length = p.n := by rw [← hlen, hys]; simp
  have hsq := seqEl_can (Gen.sub (fun a : El q => a ∈ ys))
  have hos := ordOf_pos' hsq
  refine go ?_
  refine rc (orderOf_ok (p := p) hG.valid) (next := fun v8 w8 h8 => ?_)
  obtain ⟨rfl, he8⟩ := h8
  refine go ?_
  refine rc (orderOf_ok (p := q) hvq) (next := fun v9 w9 h9 => ?_)
  obtain ⟨rfl, he9⟩ := h9
  have hE9 := (hE6.trans he8).trans he9
  refine go ?_
  refine c_if (fun h10 => ?_) (fun h10 => ?_)
  · refine go ?_
    refine ret1 ⟨false, rfl, ⟨fun h => (by cases h), fun h => ?_⟩, hE9⟩
    exact absurd h.2.2.1 h10
  have hoo := Decidable.not_not.1 h10
  refine go ?_
  refine rc (PresentationRelators_ok (p := p) hG.valid) (next := fun v11 w11 h11 => ?_)
  obtain ⟨u11, e11, rfl, he11, rs11, hrs11, hG11⟩ := h11
  have hR11 := hG11.rows
  rw [hrs11] at hR11
  have hE11 := hE9.trans he11
  refine go ?_
  refine rc (respects_ok (p := p) (q := q) hG.valid (ys := ys) hyl rfl hys) (next := fun v12 w12 h12 => ?_)
  obtain ⟨b12, rfl, hb12, he12⟩ := h12
  have hE12 := hE11.trans he12
  refine go ?_
  refine sp (fun e13 => ?_) (fun e13 => ?_)
  · subst e13
    refine go ?_
    refine rc (generatedM_ok (p := q) (ys := ys) hys (by omega)) (next := fun v14 w14 h14 => ?_)
    obtain ⟨he14, rs14, hrs14, hM14⟩ := h14
    have hR14 := hM14.rows
    rw [← hrs14, canon_vecs] at hR14
    refine go ?_
    refine rc (sizeOf_ok (p := q) hsq rfl) (next := fun v15 w15 h15 => ?_)
    obtain ⟨rfl, he15⟩ := h15
    refine go ?_
    refine rc (orderOf_ok (p := q) hvq) (next := fun v16 w16 h16 => ?_)
    obtain ⟨rfl, he16⟩ := h16
    refine go ?_
    refine ret1 ⟨_, rfl, ?_, ((hE12.trans he14).trans he15).trans he16⟩
    rw [decide_eq_true_iff]
    constructor
    · exact fun h => ⟨hG, hlen, hoo, hGq, hI, ys, hys, hb12.1 rfl, h⟩
    · rintro ⟨_, _, _, _, _, hiso⟩
      rw [hys, isoC_iff] at hiso
      exact hiso.2
  · subst e13
    refine go ?_
    refine ret1 ⟨false, rfl, ⟨fun h => (by cases h), fun h => ?_⟩, hE12⟩
    obtain ⟨_, _, _, _, _, hiso⟩ := h
    rw [hys, isoC_iff] at hiso
    have := hb12.2 hiso.1
    cases this
set_option maxHeartbeats 1000000 in
theorem impl_IsAutomorphism_ok {p : Pr} {w : World} {vp vu : Value} {us : List Value} {xss : List (List Int)} {lo hi lo1 hi1 : Nat} [hp : Pres lo hi w vp p] [hu : Pc.Rows lo1 hi1 w vu us xss] (hl : p.ord.length ≤ 2000000) (hxl : xss.length ≤ 2000000) :
    Calls Tryz.prog 95 #[vp, vu] w (Ret fun v w' => ∃ b, v = .bool b ∧ (b = true ↔ IsoP p p xss) ∧ Ext w w') := by
  obtain ⟨vo, vpw, vc, ps, cs, css, rfl, h1, h2, h3⟩ := hp.ex
  refine enter (args := [.agg #[vo, vpw, vc], vu]) (l := [.tmp 4]) Tryz.func95 rfl rfl Tryz.ntmps95 (by simp) ?_
  refine go ?_
  refine st_box3 (by ((try simp only [ev_tmp, ev_const, ev_func, get_put, get_args, get_putL, get_putL_nil, Nat.reduceEqDiff, reduceIte, List.getD_cons_zero, List.getD_cons_succ, List.getD_nil]); first | done | with_reducible rfl)) (by first | exact True.intro | exact ⟨_, rfl, by ((try simp only [ev_tmp, ev_const, ev_func, get_put, get_args, get_putL, get_putL_nil, Nat.reduceEqDiff, reduceIte, List.getD_cons_zero, List.getD_cons_succ, List.getD_nil, Bool.not_true, Bool.not_false]); first | done | with_reducible rfl)⟩) fun w1 b he1 hb1 hs1 hc0 hc1 hc2 => ?_
  refine go ?_
  refine rc (impl_IsIsomorphism_ok (p := p) (q := p) (xss := xss) hl hl hxl) (next := fun v5 w5 h5 => ?_)
  obtain ⟨b5, rfl, hb5, he5⟩ := h5
  refine go ?_
  exact ret1 ⟨b5, rfl, hb5, he1.trans he5⟩
theorem inr_smallI {p : Pr} (hv : Valid p) {xs : List Int} (h : InR p xs) : ∀ i, i < xs.length → 0 ≤ xs.getD i 0 ∧ xs.getD i 0 ≤ 7 := fun i hi => by
  have h1 := h.rng i (by have := h.len; omega)
  have h2 := hv.opos (i := i) (by have := h.len; omega)
  omega
set_option maxHeartbeats 1000000 in
theorem applyImages_ok {p : Pr} [hc : ConAll p] {ys : List (El p)} {x : List Int} (hyl : ys.length = p.n) (hxl : x.length = p.n) (hxr : ∀ i, i < x.length → 0 ≤ x.getD i 0 ∧ x.getD i 0 ≤ 7) {w : World} {vp vi vx : Value} {us : List Value} {xss : List (List Int)} {xs : List Int} {lo hi lo1 hi1 lo2 hi2 : Nat} [hp : PresP lo hi w vp p] [hu : Pc.Rows lo1 hi1 w vi us xss] [hx : Ints lo2 hi2 w vx xs] (hus : xss = vecs ys) (hxe : xs = x) :
    Calls Tryz.prog 141 #[vp, vi, vx] w (Ret fun v w' => Ext w w' ∧ Fr w.heap.size w' v (imgE ys x).v) := by
  subst hxe
  have hn6 := hc.valid.n6
  have hlw := letW_word (n := ys.length) (e := xs) (by omega)
  have hwl := wordA_len (b := 7) xs 0 fun a ha => by
    obtain ⟨i, hi, rfl⟩ := List.getElem_of_mem ha
    have := (hxr i hi).2
    simpa [hi] using this
  have hwl2 : (wordV xs).length ≤ 100 := by
    have h6 : xs.length * 7 ≤ 6 * 7 := Nat.mul_le_mul_right _ (by omega)
    exact Nat.le_trans hwl (by omega)
  have hev : evalW ys (wordV xs) = imgE ys xs := by
    have h := evalW_word (ys := ys) (x := xs) (fun i hi => (hxr i hi).1) xs.length (Nat.le_refl _)
    rw [List.take_length] at h
    rw [h]
    unfold imgE
    rw [hyl, hxl]
  refine enter (args := [vp, vi, vx]) (l := [.tmp 6]) Tryz.func141 rfl rfl Tryz.ntmps141 (by simp) ?_
  refine go ?_
  refine rc (normalWord_ok (e := xs) (by omega) (fun i hi => by have := hxr i hi; omega)) (next := fun v2 w2 h4 => ?_)
  obtain ⟨he2, hG2⟩ := h4
  have hi2 := hG2.fr.ints
  refine go ?_
  refine rc (evaluate_ok (q := p) (ys := ys) (ws := wordV xs) hlw (by omega) (by omega) hus) (next := fun v3 w3 h5 => ?_)
  obtain ⟨he3, hf3⟩ := h5
  rw [hev] at hf3
  refine go ?_
  exact ret1 ⟨he2.trans he3, hf3.mono he2.size⟩
set_option maxHeartbeats 2000000 in
theorem composeImages_ok {p : Pr} [hc : ConAll p] {ys zs : List (El p)} (hyl : ys.length = p.n) (hzl : zs.length = p.n) {w : World} {vp vu vx : Value} {us vs : List Value} {xss yss : List (List Int)} {lo hi lo1 hi1 lo2 hi2 : Nat} [hp : PresP lo hi w vp p] [hu : Pc.Rows lo1 hi1 w vu us xss] [hx : Pc.Rows lo2 hi2 w vx vs yss] (hus : xss = vecs ys) (hvs : yss = vecs zs) :
    Calls Tryz.prog 96 #[vp, vu, vx] w (Ret fun v w' => Ext w w' ∧ ∃ rs, vecs (ys.map fun y => imgE zs y.v) = rs.map (·.2) ∧ MatO w.heap.size w'.heap.size w' v rs) := by
  subst hus hvs
  have hv := hc.valid
  have hn6 := hv.n6
  have hyv : (vecs ys).length = ys.length := by simp
  have hvl := hu.vals.len
  refine enter (args := [vp, vu, vx]) (l := [.tmp 6]) Tryz.func96 rfl rfl Tryz.ntmps96 (by simp) ?_
  refine go ?_
  refine r_for ys.length (fun i ρ w' => ∃ vl rs, Has ρ [(0, vp), (2, vx), (7, vl), (10, vu), (11, .int .i64 (vecs ys).length), (12, .int .i64 i)] ∧ Ext w w' ∧ GrowL 22 w.heap.size w' vl rs ∧ rs.map (·.2) = vecs ((ys.take i).map fun y => imgE zs y.v)) ?_ ?_
  · refine ⟨nilv, [], ?_, Ext.refl _, GrowL.nil _ _ _ (Nat.le_refl _), rfl⟩
    exact hasP
  rintro i ρ w3 hi ⟨vl, rs, hH, he3, hG3, hrs3⟩
  refine rwp_has hH fun ρ0 => ?_
  have hz3 := he3.size
  have hrl : rs.length = i := by have := congrArg List.length hrs3; simp at this; omega
  refine go ?_
  refine c_if (fun h4 => ?_) (fun h4 => ?_)
  · have hin : i < ys.length := by omega
    have hgi := vecs_getD ys hin
    have hiy := (ys[i]).inr
    have hil := hiy.len
    refine go ?_
    refine rc (applyImages_ok (p := p) (ys := zs) (x := (ys[i]).v) hzl hil (inr_smallI hv hiy) rfl hgi) (next := fun v5 w5 h6 => ?_)
    obtain ⟨he5, hf5⟩ := h6
    refine go ?_
    refine st_grow hG3 he5 hf5 hz3 (by omega) (next := fun v6 v7 w7 hG7 hx7 hz7 hgs7 => ?_)
    refine go ?_
    refine forQ_normal (by omega) ⟨v7, _, ?_, hx7 w (he3.trans he5) (Nat.le_refl _), hG7, ?_⟩
    · exact hasP
    · rw [List.take_succ_eq_append_getElem hin]
      simp only [List.map_append, List.map_cons, List.map_nil, hrs3, vecs]
  · obtain rfl : i = ys.length := by omega
    rw [List.take_length] at hrs3
    refine go ?_
    exact ret1 ⟨he3, rs, hrs3.symm, hG3.mat⟩
end Go.Proofs.YtnphljflkpekmaaGreat

/-
  Walks: the program's InvertAutomorphism.
  Conditions: stated at each theorem.
-/
namespace Go.Proofs.YtnphljflkpekmaaGreat
open Go Go.Pc
set_option maxHeartbeats 4000000 in
theorem impl_InvertAutomorphism_ok {p : Pr} {w : World} {vp vu : Value} {us : List Value} {xss : List (List Int)} {lo hi lo1 hi1 : Nat} [hp : Pres lo hi w vp p] [hu : Pc.Rows lo1 hi1 w vu us xss] (hl : p.ord.length ≤ 2000000) (hxl : xss.length ≤ 2000000) :
    Calls Tryz.prog 49 #[vp, vu] w (Ret fun v w' => ∃ (u : Value) (k : List (List Int)) (e : Int), v = .tuple #[u, .int .i64 e] ∧ Ans (IsoP p p xss) (InV p xss) [] k e ∧ Ext w w' ∧ ∃ rs, k = rs.map (·.2) ∧ MatO w.heap.size w'.heap.size w' u rs) := by
  replace hp := hp.wide
  replace hu := hu.wide
  obtain ⟨vo, vpw, vc, ps, cs, css, rfl, h1, h2, h3⟩ := hp.ex
  refine enter (args := [.agg #[vo, vpw, vc], vu]) (l := [.tmp 4, .tmp 5]) Tryz.func49 rfl rfl Tryz.ntmps49 (by simp) ?_
  refine go ?_
  refine st_box3 (by ((try simp only [ev_tmp, ev_const, ev_func, get_put, get_args, get_putL, get_putL_nil, Nat.reduceEqDiff, reduceIte, List.getD_cons_zero, List.getD_cons_succ, List.getD_nil]); first | done | with_reducible rfl)) (by first | exact True.intro | exact ⟨_, rfl, by ((try simp only [ev_tmp, ev_const, ev_func, get_put, get_args, get_putL, get_putL_nil, Nat.reduceEqDiff, reduceIte, List.getD_cons_zero, List.getD_cons_succ, List.getD_nil, Bool.not_true, Bool.not_false]); first | done | with_reducible rfl)⟩) fun w1 b he1 hb1 hs1 hc0 hc1 hc2 => ?_
  have hpp := hp.boxed he1 hc0 hc1 hc2
  refine go ?_
  refine rc (impl_IsAutomorphism_ok (p := p) (xss := xss) hl hxl) (next := fun v5 w5 h5 => ?_)
  obtain ⟨b5, rfl, hb5, he5⟩ := h5
  have hE5 := he1.trans he5
  refine go ?_
  refine c_b (fun e5 => ?_) (fun e5 => ?_)
  · refine go ?_
    refine ret2 ⟨nilv, [], 1, rfl, .inr ⟨fun h => ?_, rfl, rfl⟩, hE5, [], rfl, MatO.nilR _ _ _⟩
    rw [hb5.2 h] at e5; cases e5
  have hA := hb5.1 (by simpa using e5)
  have hA' := hA
  obtain ⟨hG, hlen, _, _, hI, hC⟩ := hA'
  haveI : ConAll p := ⟨hG.con⟩
  have hv := hG.valid
  have hn6 := hv.n6
  obtain ⟨ys, hys⟩ := els_of hI
  have hyl : ys.length = p.n := by rw [← hlen, hys]; simp
  rw [hys] at hC
  obtain ⟨hRel, hfull⟩ := isoC_iff.1 hC
  have hgl := gensL_len p
  obtain ⟨M, hM1, hM2⟩ := periods (f := fun x : El p => imgE ys x.v) (aut_period hyl hRel hfull) (gensL p)
  refine go ?_
  refine rc (generators_ok (p := p)) (next := fun v6 w6 h6 => ?_)
  obtain ⟨he6, rs6, hrs6, hM6⟩ := h6
  refine go ?_
  refine r_loop (fun m ρ w' => ∃ k v rs, Has ρ [(1, vu), (2, .pointer (some ⟨b, 0, none⟩)), (6, v)] ∧ Ext w5 w' ∧ k < M ∧ m = M - k ∧ vecs ((gensL p).map (itF (fun x : El p => imgE ys x.v) k)) = rs.map (·.2) ∧ MatO w5.heap.size w'.heap.size w' v rs) M ?_ ?_
  · refine ⟨0, v6, rs6, ?_, he6, by omega, by omega, ?_, hM6⟩
    · exact hasP
    · rw [← hrs6]
      congr 1
      have e : ∀ l : List (El p), l.map (itF (fun x : El p => imgE ys x.v) 0) = l := fun l => by
        have : itF (fun x : El p => imgE ys x.v) 0 = id := rfl
        rw [this, List.map_id]
      exact e _
  clear hM6 hrs6
  rintro m ρ w3 ⟨k, v3, rs3, hH, he3, hk, hm, hrs3, hM3⟩
  refine rwp_has hH fun ρ0 => ?_
  have hE3 := hE5.trans he3
  have hz3 := he3.size
  have hR3 : Pc.Rows w5.heap.size w3.heap.size w3 v3 (rs3.map (·.1)) (vecs ((gensL p).map (itF (fun x : El p => imgE ys x.v) k))) := by rw [hrs3]; exact hM3.rows
  refine go ?_
  refine rc (composeImages_ok (p := p) (ys := (gensL p).map (itF (fun x : El p => imgE ys x.v) k)) (zs := ys) (by rw [List.length_map, hgl]) hyl rfl hys) (next := fun v7 w7 h7 => ?_)
  obtain ⟨he7, rs7, hrs7, hM7⟩ := h7
  have hnext : ((gensL p).map (itF (fun x : El p => imgE ys x.v) k)).map (fun y => imgE ys y.v) = (gensL p).map (itF (fun x : El p => imgE ys x.v) (k + 1)) := by
    rw [List.map_map]; rfl
  rw [hnext] at hrs7
  have hR7 : Pc.Rows w3.heap.size w7.heap.size w7 v7 (rs7.map (·.1)) (vecs ((gensL p).map (itF (fun x : El p => imgE ys x.v) (k + 1)))) := by rw [hrs7]; exact hM7.rows
  refine go ?_
  refine rc (generators_ok (p := p)) (next := fun v8 w8 h8 => ?_)
  obtain ⟨he8, rs8, hrs8, hM8⟩ := h8
  have hR8 : Pc.Rows w7.heap.size w8.heap.size w8 v8 (rs8.map (·.1)) (vecs (gensL p)) := by rw [hrs8]; exact hM8.rows
  refine go ?_
  refine rc (sameRows_ok (xss := vecs ((gensL p).map (itF (fun x : El p => imgE ys x.v) (k + 1)))) (yss := vecs (gensL p)) (fun i => by have := vecs_len ((gensL p).map (itF (fun x : El p => imgE ys x.v) (k + 1))) i; omega) (by simp; omega)) (next := fun v9 w9 h9 => ?_)
  obtain ⟨b9, rfl, hb9, he9⟩ := h9
  have hx9 := (he7.trans he8).trans he9
  refine go ?_
  refine c_b (fun e9 => ?_) (fun e9 => ?_)
  · have hsame := vecs_inj (hb9.1 e9)
    have hM9 := hM3.wr (.ofExt (B := fun b => b < w5.heap.size ∨ w3.heap.size ≤ b) hx9) (fun g hg => hg)
    refine go ?_
    refine ret2 ⟨v3, _, 0, rfl, .inl ⟨hA, ⟨inferInstance, ys, (gensL p).map (itF (fun x : El p => imgE ys x.v) k), hys, by rw [List.length_map, hgl], fun i hi => ?_, rfl⟩, rfl⟩, hE3.trans hx9, rs3, hrs3, ?_⟩
    · have h2 : ((gensL p).map (itF (fun x : El p => imgE ys x.v) (k + 1))).getD i 1 = (gensL p).getD i 1 := by rw [hsame]
      have e1 : ((gensL p).map (itF (fun x : El p => imgE ys x.v) (k + 1))).getD i 1 = imgE ys (((gensL p).map (itF (fun x : El p => imgE ys x.v) k)).getD i 1).v := by
        rw [← hnext]
        simp [hgl, hi]
      rw [← e1, h2]
      simp [gensL, hi]
    · exact hM9.sub hE5.size (by have := hx9.size; omega)
  · have hne : k + 1 < M := by
      rcases Nat.lt_or_ge (k + 1) M with h | h
      · exact h
      · have hkM : k + 1 = M := by omega
        have : (gensL p).map (itF (fun x : El p => imgE ys x.v) (k + 1)) = gensL p := by
          rw [hkM]
          exact (List.map_congr_left hM2).trans (List.map_id _)
        rw [hb9.2 (by rw [this])] at e9
        cases e9
    have hM9 := hM7.wr (.ofExt (B := fun b => b < w3.heap.size ∨ w7.heap.size ≤ b) (he8.trans he9)) (fun g hg => hg)
    refine go ?_
    refine loopQ_normal ?_ ⟨k + 1, v7, rs7, ?_, he3.trans hx9, hne, rfl, hrs7, ?_⟩
    · omega
    · exact hasP
    · exact hM9.sub hz3 (by have := (he8.trans he9).size; omega)
end Go.Proofs.YtnphljflkpekmaaGreat
