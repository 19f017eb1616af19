/-
  Texts of one proof, put together by program: OwnR, Grp, Dyck, Tail, Types, W01, W01b, L01, L02, L03, OwnM, L04, L05, Cons, Coord, Sub, Work, Inv, Coll.
  Conditions: those told at each part.
-/
import Derived.Test.YtnphljflkpekmaaB1
import Derived.Test.YtnphljflkpekmaaProg
import Derived.KernelRfl
set_option linter.unusedVariables false
set_option linter.unusedSimpArgs false
set_option linter.unusedSectionVars false
set_option linter.constructorNameAsVariable false
set_option linter.unnecessarySimpa false
set_option linter.deprecated false
/-
  Lists of integers that are the call's own, each in a block of its own; what may be written without touching the rest; marks.
  Conditions: none; nothing of the program stands here.
-/
namespace Go.Pc
open Go Go.RowKit
/-- Only blocks of B (and what is new) have turned. -/
inductive Wrt (B : Nat → Prop) : World → World → Prop where
  | refl (w : World) : Wrt B w w
  | step {w w1 w2 : World} {b : Nat} : Wrt B w w1 → B b → Chg b w1 w2 → Wrt B w w2
  | grow {w w1 w2 : World} : Wrt B w w1 → Ext w1 w2 → Wrt B w w2
section
variable {B B' : Nat → Prop} {w w' w0 w1 w2 : World} {b lo hi s : Nat} {v : Value} {xs : List Int}
theorem Wrt.one (hb : B b) (c : Chg b w w') : Wrt B w w' := .step (.refl w) hb c
theorem Wrt.ofExt (x : Ext w w') : Wrt B w w' := .grow (.refl w) x
theorem Wrt.trans (h : Wrt B w w1) (k : Wrt B w1 w2) : Wrt B w w2 := by
  induction k with
  | refl => exact h
  | step _ hb c ih => exact .step ih hb c
  | grow _ x ih => exact .grow ih x
theorem Wrt.mono (h : Wrt B w w1) (hb : ∀ b, B b → B' b) : Wrt B' w w1 := by
  induction h with
  | refl => exact .refl _
  | step _ hB c ih => exact .step ih (hb _ hB) c
  | grow _ x ih => exact .grow ih x
theorem Wrt.size (h : Wrt B w w1) : w.heap.size ≤ w1.heap.size := by
  induction h with
  | refl => exact Nat.le_refl _
  | step _ _ c ih => exact Nat.le_trans ih c.size
  | grow _ x ih => exact Nat.le_trans ih x.size
theorem Wrt.block (h : Wrt B w w1) {k : Nat} (hk : k < w.heap.size) (hn : ¬ B k) : w1.heap[k]? = w.heap[k]? := by
  induction h with
  | refl => rfl
  | @step w1 w2 b h1 hB c ih => rw [← ih]; exact c.by_.block k (Nat.lt_of_lt_of_le hk h1.size) (fun e => by injection e with e; subst e; exact hn hB)
  | @grow w1 w2 h1 x ih => rw [← ih]; exact x.below.block k (Nat.lt_of_lt_of_le hk h1.size)
theorem Wrt.same (h : Wrt B w w1) (hb : ∀ b, B b → b < lo ∨ hi ≤ b) : Same lo hi w w1 := fun k h1 h2 h3 => h.block h3 fun hk => by have := hb k hk; omega
theorem Wrt.ext (h : Wrt B w1 w2) (x : Ext w0 w1) (hb : ∀ b, B b → w0.heap.size ≤ b) : Ext w0 w2 := by
  induction h with
  | refl => exact x
  | step _ hB c ih => exact c.ext ih (hb _ hB)
  | grow _ y ih => exact ih.trans y
theorem OwnI.block (h : OwnI s b w v xs) : v.ownBlock = some b := by obtain ⟨cap, cur, rfl, _⟩ := h.own.ex; rfl
theorem Fr.block (h : Fr s w v xs) (hn : xs ≠ []) : ∃ b, v.ownBlock = some b ∧ s ≤ b ∧ b < w.heap.size := by
  obtain ⟨e, b, hb, ho⟩ := h.own hn
  exact ⟨b, ho.block, hb, ho.lt⟩
theorem Fr.nil_same (h : Fr s w v []) (hs : w.heap.size ≤ w'.heap.size) : Fr s w' v [] := by
  obtain ⟨A, c, hv, hc, hm, hcell⟩ := h.ints.sl.ex
  exact ⟨⟨⟨A, c, hv, hc, hm, fun k u hu => by simp at hu⟩⟩, fun hn => absurd rfl hn⟩
theorem Fr.chg (h : Fr s w v xs) (c : Chg b w w') (hb : xs ≠ [] → v.ownBlock ≠ some b) : Fr s w' v xs := by
  by_cases hn : xs = []
  · subst hn; exact h.nil_same c.size
  · obtain ⟨e, g, hg, ho⟩ := h.own hn
    exact (ho.chg' c (fun e => hb hn (by rw [ho.block, e]))).toFr hg
theorem Fr.wr (h : Fr s w v xs) (k : Wrt B w w') (hb : xs ≠ [] → ∀ b, v.ownBlock = some b → ¬ B b) : Fr s w' v xs := by
  induction k with
  | refl => exact h
  | step _ hB c ih => exact ih.chg c fun hn e => hb hn _ e hB
  | grow _ x ih => exact ih.ext' x
end
/-- Rows that are the call's own, from s on, no two in one block. -/
structure RowsO (s : Nat) (w : World) (rs : List (Value × List Int)) : Prop where
  fr : ∀ r, r ∈ rs → Fr s w r.1 r.2
  sep : rs.Pairwise fun a b => a.2 ≠ [] → b.2 ≠ [] → a.1.ownBlock ≠ b.1.ownBlock
/-- A block of one of the rows. -/
def BlkOf (rs : List (Value × List Int)) (b : Nat) : Prop := ∃ r, r ∈ rs ∧ r.2 ≠ [] ∧ r.1.ownBlock = some b
section
variable {B : Nat → Prop} {w w' : World} {b lo hi s s' : Nat} {u v : Value} {xs : List Int} {rs rs' : List (Value × List Int)}
theorem RowsO.nil (s : Nat) (w : World) : RowsO s w [] := ⟨fun r h => (by cases h), List.Pairwise.nil⟩
theorem RowsO.ext (h : RowsO s w rs) (x : Ext w w') : RowsO s w' rs := ⟨fun r hr => (h.fr r hr).ext' x, h.sep⟩
theorem RowsO.mono (h : RowsO s w rs) (hs : s' ≤ s) : RowsO s' w rs := ⟨fun r hr => (h.fr r hr).mono hs, h.sep⟩
theorem RowsO.wr (h : RowsO s w rs) (k : Wrt B w w') (hb : ∀ b, BlkOf rs b → ¬ B b) : RowsO s w' rs :=
  ⟨fun r hr => (h.fr r hr).wr k fun hn b e => hb b ⟨r, hr, hn, e⟩, h.sep⟩
theorem RowsO.blk (h : RowsO s w rs) (hb : BlkOf rs b) : s ≤ b ∧ b < w.heap.size := by
  obtain ⟨r, hr, hn, e⟩ := hb
  obtain ⟨g, h1, h2, h3⟩ := (h.fr r hr).block hn
  rw [e] at h1; injection h1 with h1; subst h1
  exact ⟨h2, h3⟩
theorem RowsO.cons (h : RowsO s w rs) (x : Ext w w') (hs : s ≤ w.heap.size) (hu : Fr w.heap.size w' u xs) : RowsO s w' ((u, xs) :: rs) := by
  refine ⟨fun r hr => ?_, List.Pairwise.cons (fun r hr h1 h2 e => ?_) h.sep⟩
  · rcases List.mem_cons.1 hr with rfl | hr
    · exact hu.mono hs
    · exact (h.fr r hr).ext' x
  · obtain ⟨g, e1, g1, _⟩ := hu.block h1
    obtain ⟨k, e2, _, k1⟩ := (h.fr r hr).block h2
    rw [e1, e2] at e; injection e with e; omega
theorem RowsO.push (h : RowsO s w rs) (x : Ext w w') (hs : s ≤ w.heap.size) (hu : Fr w.heap.size w' u xs) : RowsO s w' (rs ++ [(u, xs)]) := by
  refine ⟨fun r hr => ?_, List.pairwise_append.2 ⟨h.sep, List.pairwise_singleton _ _, fun r hr q hq h1 h2 e => ?_⟩⟩
  · rcases List.mem_append.1 hr with hr | hr
    · exact (h.fr r hr).ext' x
    · rw [List.mem_singleton.1 hr]; exact hu.mono hs
  · rw [List.mem_singleton.1 hq] at h2 e
    obtain ⟨g, e1, g1, _⟩ := hu.block h2
    obtain ⟨k, e2, _, k1⟩ := (h.fr r hr).block h1
    rw [e1, e2] at e; injection e with e; omega
theorem RowsO.append (h : RowsO s w rs) (x : Ext w w') (hs : s ≤ w.heap.size) (hu : RowsO w.heap.size w' rs') : RowsO s w' (rs ++ rs') := by
  refine ⟨fun r hr => ?_, List.pairwise_append.2 ⟨h.sep, hu.sep, fun r hr q hq h1 h2 e => ?_⟩⟩
  · rcases List.mem_append.1 hr with hr | hr
    · exact (h.fr r hr).ext' x
    · exact (hu.fr r hr).mono hs
  · obtain ⟨g, e1, g1, _⟩ := (hu.fr q hq).block h2
    obtain ⟨k, e2, _, k1⟩ := (h.fr r hr).block h1
    rw [e1, e2] at e; injection e with e; omega
theorem RowsO.left (h : RowsO s w (rs ++ rs')) : RowsO s w rs := ⟨fun r hr => h.fr r (List.mem_append_left _ hr), (List.pairwise_append.1 h.sep).1⟩
theorem RowsO.right (h : RowsO s w (rs ++ rs')) : RowsO s w rs' := ⟨fun r hr => h.fr r (List.mem_append_right _ hr), (List.pairwise_append.1 h.sep).2.1⟩
end
/-! ### marks -/
/-- n numbers from k on. -/
def marks (k : Int) (n : Nat) : List Int := (List.range n).map fun i : Nat => k + (i : Int)
theorem marks_len (k : Int) (n : Nat) : (marks k n).length = n := by simp [marks]
theorem marks_getD (k : Int) {n i : Nat} (h : i < n) : (marks k n).getD i 0 = k + i := by simp [marks, h]
theorem marks_ne {k : Int} {xs : List Int} : marks k xs.length ≠ [] ↔ xs ≠ [] := by
  constructor
  · intro h e; subst e; exact h rfl
  · intro h e
    have := marks_len k xs.length
    rw [e] at this
    exact h (List.eq_nil_of_length_eq_zero this.symm)
/-- All numbers of the rows. -/
def tot : List (List Int) → Nat
  | [] => 0
  | xs :: l => xs.length + tot l
def markL (k : Int) : List (List Int) → List (List Int)
  | [] => []
  | xs :: l => marks k xs.length :: markL (k + xs.length) l
def mkR (k : Int) : List (Value × List Int) → List (Value × List Int)
  | [] => []
  | r :: l => (r.1, marks k r.2.length) :: mkR (k + r.2.length) l
theorem mkR_fst : ∀ (rs : List (Value × List Int)) (k : Int), (mkR k rs).map (·.1) = rs.map (·.1)
  | [], _ => rfl
  | r :: l, k => by simp [mkR, mkR_fst l]
theorem mkR_snd : ∀ (rs : List (Value × List Int)) (k : Int), (mkR k rs).map (·.2) = markL k (rs.map (·.2))
  | [], _ => rfl
  | r :: l, k => by simp [mkR, markL, mkR_snd l]
theorem mkR_append : ∀ (rs qs : List (Value × List Int)) (k : Int), mkR k (rs ++ qs) = mkR k rs ++ mkR (k + tot (rs.map (·.2))) qs
  | [], qs, k => by simp [mkR, tot]
  | r :: l, qs, k => by simp [mkR, tot, mkR_append l, Int.add_assoc]
theorem tot_append : ∀ (l m : List (List Int)), tot (l ++ m) = tot l + tot m
  | [], m => by simp [tot]
  | x :: l, m => by simp [tot, tot_append l, Nat.add_assoc]
theorem tot_le {n : Nat} : ∀ (l : List (List Int)), (∀ x, x ∈ l → x.length ≤ n) → tot l ≤ l.length * n
  | [], _ => by simp [tot]
  | x :: l, h => by
    have h1 := h x (List.mem_cons_self)
    have h2 := tot_le l fun y hy => h y (List.mem_cons_of_mem _ hy)
    simp only [tot, List.length_cons, Nat.add_mul, Nat.one_mul]
    omega
theorem tot_take_le : ∀ (l : List (List Int)) (k : Nat), tot (l.take k) ≤ tot l
  | [], k => by simp [tot]
  | x :: l, 0 => by simp [tot]
  | x :: l, k + 1 => by have := tot_take_le l k; simp only [List.take_succ_cons, tot]; omega
theorem tot_take_succ (l : List (List Int)) {k : Nat} (hk : k < l.length) : tot (l.take (k + 1)) = tot (l.take k) + (l.getD k []).length := by
  rw [List.take_succ_eq_append_getElem hk, tot_append]
  simp [tot, hk]
theorem markL_len : ∀ (l : List (List Int)) (k : Int), (markL k l).length = l.length
  | [], _ => rfl
  | x :: l, k => by simp [markL, markL_len l]
theorem markL_getD : ∀ (l : List (List Int)) (k : Int) (i : Nat), i < l.length → (markL k l).getD i [] = marks (k + tot (l.take i)) (l.getD i []).length
  | [], _, _, h => by simp at h
  | x :: l, k, 0, _ => by simp [markL, tot]
  | x :: l, k, i + 1, h => by
    have := markL_getD l (k + x.length) i (by simpa using h)
    simp only [markL, List.getD_cons_succ, this, List.take_succ_cons, tot]
    rw [Int.add_assoc]; simp
section
variable {s b : Nat} {w : World} {rs : List (Value × List Int)}
end
/-! ### writing one row; spines -/
/-- The cells of v hold us, in blocks apart from A. -/
def SpA (A : Nat → Prop) (w : World) (v : Value) (us : List Value) : Prop := ∃ lo hi, Sl lo hi w v us ∧ ∀ b, A b → b < lo ∨ hi ≤ b
section
variable {A B : Nat → Prop} {s b lo hi : Nat} {w w' : World} {v : Value} {us : List Value} {xss : List (List Int)} {ys : List Int} {rs pre post : List (Value × List Int)} {r : Value × List Int}
theorem SpA.wr (h : SpA A w v us) (k : Wrt B w w') (hb : ∀ b, B b → A b) : SpA A w' v us := by
  obtain ⟨lo, hi, h1, h2⟩ := h
  exact ⟨lo, hi, h1.same (k.same fun b hB => h2 b (hb b hB)), h2⟩
theorem SpA.weak {A' : Nat → Prop} (h : SpA A w v us) (hb : ∀ b, A' b → A b) : SpA A' w v us := by
  obtain ⟨lo, hi, h1, h2⟩ := h
  exact ⟨lo, hi, h1, fun b hB => h2 b (hb b hB)⟩
theorem SpA.sl (h : SpA A w v us) : Sl 0 w.heap.size w v us := by
  obtain ⟨lo, hi, h1, h2⟩ := h
  exact h1.wide
theorem nil_val {α : Type} (l : List (α × List Int)) (i : Nat) (f : α) : i < l.length ∨ ((l.map (·.1)).getD i f = f ∧ (l.map (·.2)).getD i [] = []) := by
  by_cases h : i < l.length
  · exact .inl h
  · right
    constructor
    · rw [List.getD_eq_getElem?_getD, List.getElem?_eq_none (by simp; omega)]; rfl
    · rw [List.getD_eq_getElem?_getD, List.getElem?_eq_none (by simp; omega)]; rfl
theorem RowsO.vals (h : RowsO s w rs) (hs : s ≤ w.heap.size) : RowVals s w.heap.size w (rs.map (·.1)) (rs.map (·.2)) := by
  refine ⟨by simp, fun i => ?_⟩
  rcases nil_val rs i nilv with hi | ⟨e1, e2⟩
  · have := (h.fr rs[i] (List.getElem_mem hi)).ints
    simpa [hi] using this
  · rw [e1, e2]
    exact ⟨⟨none, 0, rfl, Nat.le_refl _, by omega, fun k u hu => by simp at hu⟩⟩
theorem RowsO.rows (h : RowsO s w rs) (hs : Sl 0 w.heap.size w v (rs.map (·.1))) : Rows 0 w.heap.size w v (rs.map (·.1)) (rs.map (·.2)) := by
  refine ⟨hs, by simp, fun i => ?_⟩
  rcases nil_val rs i nilv with hi | ⟨e1, e2⟩
  · have := (h.fr rs[i] (List.getElem_mem hi)).ints.wide
    simpa [hi] using this
  · rw [e1, e2]
    exact ⟨⟨none, 0, rfl, Nat.le_refl _, by omega, fun k u hu => by simp at hu⟩⟩
/-- One row is written. -/
theorem RowsO.upd (h : RowsO s w (pre ++ r :: post)) (k : Wrt (fun b => r.2 ≠ [] ∧ r.1.ownBlock = some b) w w') (hu : Fr s w' r.1 ys) (hn : ys ≠ [] → r.2 ≠ []) : RowsO s w' (pre ++ (r.1, ys) :: post) := by
  obtain ⟨h1, h2, h3⟩ := List.pairwise_append.1 h.sep
  obtain ⟨h4, h5⟩ := List.pairwise_cons.1 h2
  refine ⟨fun q hq => ?_, List.pairwise_append.2 ⟨h1, List.pairwise_cons.2 ⟨fun q hq hy hq2 => ?_, h5⟩, fun q hq t ht hq2 ht2 => ?_⟩⟩
  · rcases List.mem_append.1 hq with hq | hq
    · exact (h.fr q (List.mem_append_left _ hq)).wr k fun hq2 b e ⟨e1, e2⟩ => h3 q hq r List.mem_cons_self hq2 e1 (by rw [e, e2])
    · rcases List.mem_cons.1 hq with rfl | hq
      · exact hu
      · exact (h.fr q (List.mem_append_right _ (List.mem_cons_of_mem _ hq))).wr k fun hq2 b e ⟨e1, e2⟩ => h4 q hq e1 hq2 (by rw [e, e2])
  · exact h4 q hq (hn hy) hq2
  · rcases List.mem_cons.1 ht with rfl | ht
    · exact h3 q hq r List.mem_cons_self hq2 (hn ht2)
    · exact h3 q hq t (List.mem_cons_of_mem _ ht) hq2 ht2
theorem blkOf_append {b : Nat} : BlkOf (pre ++ post) b ↔ BlkOf pre b ∨ BlkOf post b := by
  constructor
  · rintro ⟨q, hq, h1, h2⟩
    rcases List.mem_append.1 hq with hq | hq
    · exact .inl ⟨q, hq, h1, h2⟩
    · exact .inr ⟨q, hq, h1, h2⟩
  · rintro (⟨q, hq, h1, h2⟩ | ⟨q, hq, h1, h2⟩)
    · exact ⟨q, List.mem_append_left _ hq, h1, h2⟩
    · exact ⟨q, List.mem_append_right _ hq, h1, h2⟩
end
end Go.Pc

/-
  Plain mathematics: groups, powers, conjugates, homomorphisms out of normal forms.
  Conditions: none; nothing of the program stands here.
-/
namespace Go.Pc

class Grp (G : Type) extends Mul G, One G, Inv G where
  mul_assoc : ∀ a b c : G, a * b * c = a * (b * c)
  one_mul : ∀ a : G, 1 * a = a
  inv_mul : ∀ a : G, a⁻¹ * a = 1
namespace Grp
variable {G : Type} [Grp G]
theorem inv_mul_cancel_left (a b : G) : a⁻¹ * (a * b) = b := by rw [← mul_assoc, inv_mul, one_mul]
theorem mul_left_cancel {a b c : G} (h : a * b = a * c) : b = c := by
  rw [← inv_mul_cancel_left a b, h, inv_mul_cancel_left]
theorem mul_inv (a : G) : a * a⁻¹ = 1 := by
  apply mul_left_cancel (a := a⁻¹)
  rw [inv_mul_cancel_left]
  apply mul_left_cancel (a := a⁻¹⁻¹)
  rw [inv_mul, inv_mul_cancel_left]
theorem mul_one (a : G) : a * 1 = a := by
  apply mul_left_cancel (a := a⁻¹)
  rw [inv_mul_cancel_left, inv_mul]
theorem mul_inv_cancel_left (a b : G) : a * (a⁻¹ * b) = b := by rw [← mul_assoc, mul_inv, one_mul]
theorem mul_inv_cancel_right (a b : G) : a * b * b⁻¹ = a := by rw [mul_assoc, mul_inv, mul_one]
theorem inv_mul_cancel_right (a b : G) : a * b⁻¹ * b = a := by rw [mul_assoc, inv_mul, mul_one]
theorem mul_right_cancel {a b c : G} (h : a * c = b * c) : a = b := by
  rw [← mul_inv_cancel_right a c, h, mul_inv_cancel_right]
theorem eq_inv_of_mul {a b : G} (h : a * b = 1) : a = b⁻¹ := mul_right_cancel (c := b) (by rw [h, inv_mul])
theorem eq_inv_of_mul' {a b : G} (h : a * b = 1) : b = a⁻¹ := mul_left_cancel (a := a) (by rw [h, mul_inv])
theorem inv_inv (a : G) : a⁻¹⁻¹ = a := (eq_inv_of_mul (mul_inv a)).symm
theorem inv_one : (1 : G)⁻¹ = 1 := (eq_inv_of_mul (one_mul 1)).symm
theorem mul_inv_rev (a b : G) : (a * b)⁻¹ = b⁻¹ * a⁻¹ := (eq_inv_of_mul (by rw [mul_assoc, inv_mul_cancel_left, inv_mul])).symm

/-- Powers. -/
def pw (a : G) : Nat → G
  | 0 => 1
  | k + 1 => pw a k * a
theorem pw_zero (a : G) : pw a 0 = 1 := rfl
theorem pw_succ (a : G) (k : Nat) : pw a (k + 1) = pw a k * a := rfl
theorem pw_one (a : G) : pw a 1 = a := by rw [pw_succ, pw_zero, one_mul]
theorem pw_add (a : G) (j k : Nat) : pw a (j + k) = pw a j * pw a k := by
  induction k with
  | zero => rw [pw_zero, mul_one]; rfl
  | succ k ih => rw [← Nat.add_assoc, pw_succ, ih, pw_succ, mul_assoc]
theorem pw_succ' (a : G) (k : Nat) : pw a (k + 1) = a * pw a k := by rw [Nat.add_comm, pw_add, pw_one]
theorem pw_mul (a : G) (j k : Nat) : pw a (j * k) = pw (pw a j) k := by
  induction k with
  | zero => rfl
  | succ k ih => rw [Nat.mul_succ, pw_add, ih, pw_succ]
theorem one_pw (k : Nat) : pw (1 : G) k = 1 := by
  induction k with
  | zero => rfl
  | succ k ih => rw [pw_succ, ih, one_mul]
theorem inv_pw (a : G) (k : Nat) : pw a⁻¹ k = (pw a k)⁻¹ := by
  induction k with
  | zero => exact inv_one.symm
  | succ k ih => rw [pw_succ, ih, pw_succ', mul_inv_rev]
/-- The power by any integer. -/
def pwz (x : G) (k : Int) : G := if k < 0 then pw x⁻¹ (-k).toNat else pw x k.toNat
theorem pwz_nat (x : G) (k : Nat) : pwz x k = pw x k := by unfold pwz; rw [if_neg (by omega)]; simp
theorem pwz_of {k : Int} (x : G) (h : 0 ≤ k) : pwz x k = pw x k.toNat := by unfold pwz; rw [if_neg (by omega)]
theorem pwz_neg (x : G) (k : Nat) : pwz x (-(k : Int)) = (pw x k)⁻¹ := by
  unfold pwz
  by_cases h : k = 0
  · subst h; rw [if_neg (by omega)]; show (1 : G) = (1 : G)⁻¹; rw [inv_one]
  · rw [if_pos (by omega), Int.neg_neg, Int.toNat_natCast, inv_pw]
theorem pwz_top (y : G) (o : Nat) (ho : 1 ≤ o) (k : Int) : ∃ j m : Nat, pw y j = pwz y k * pw (pw y o) m ∧ pw y j = pw (pw y o) m * pwz y k := by
  by_cases h : 0 ≤ k
  · obtain ⟨n, rfl⟩ := Int.eq_ofNat_of_zero_le h
    exact ⟨n, 0, by rw [pwz_nat, pw_zero, mul_one], by rw [pwz_nat, pw_zero, one_mul]⟩
  · obtain ⟨n, hn⟩ : ∃ n : Nat, k = -(n : Int) := ⟨(-k).toNat, by omega⟩
    subst hn
    obtain ⟨q, rfl⟩ : ∃ q, o = q + 1 := ⟨o - 1, by omega⟩
    have e : (q + 1) * n = n + q * n := by rw [Nat.add_mul, Nat.one_mul, Nat.add_comm]
    refine ⟨q * n, n, ?_, ?_⟩
    · rw [pwz_neg, ← pw_mul, e, pw_add, inv_mul_cancel_left]
    · rw [pwz_neg, ← pw_mul, e, Nat.add_comm, pw_add, mul_inv_cancel_right]
/-- Conjugates: cj a b is b⁻¹ a b. -/
def cj (a b : G) : G := b⁻¹ * (a * b)
theorem cj_mul (a b c : G) : cj (a * b) c = cj a c * cj b c := by
  unfold cj; simp only [mul_assoc]; rw [mul_inv_cancel_left]
theorem cj_one (b : G) : cj 1 b = 1 := by unfold cj; rw [one_mul, inv_mul]
theorem cj_by_one (a : G) : cj a 1 = a := by unfold cj; rw [inv_one, one_mul, mul_one]
theorem cj_cj (a b c : G) : cj (cj a b) c = cj a (b * c) := by unfold cj; rw [mul_inv_rev]; simp only [mul_assoc]
theorem cj_pw (a b : G) (k : Nat) : cj (pw a k) b = pw (cj a b) k := by
  induction k with
  | zero => exact cj_one b
  | succ k ih => rw [pw_succ, cj_mul, ih, pw_succ]
theorem cj_inv (a b : G) : cj a⁻¹ b = (cj a b)⁻¹ := eq_inv_of_mul (by rw [← cj_mul, inv_mul, cj_one])
theorem mul_cj (a b : G) : b * cj a b = a * b := by unfold cj; rw [mul_inv_cancel_left]
/-- Commutators: cm a b is a⁻¹ b⁻¹ a b. -/
def cm (a b : G) : G := a⁻¹ * cj a b
theorem cm_eq (a b : G) : cm a b = (b * a)⁻¹ * (a * b) := by unfold cm cj; rw [mul_inv_rev, mul_assoc]
end Grp

/-- The product of c_j to the power x_j, from j = l on, over k generators. -/
def phi {H : Type} [Grp H] (c : Nat → H) (x : List Int) (l : Nat) : Nat → H
  | 0 => 1
  | k + 1 => Grp.pw (c l) (x.getD l 0).toNat * phi c x (l + 1) k
theorem phi_congr {H : Type} [Grp H] (c : Nat → H) {x y : List Int} : ∀ (k l : Nat), (∀ j, l ≤ j → x.getD j 0 = y.getD j 0) → phi c x l k = phi c y l k
  | 0, _, _ => rfl
  | k + 1, l, h => by rw [phi, phi, h l (Nat.le_refl _), phi_congr c k (l + 1) (fun j hj => h j (by omega))]
theorem phi_zero {H : Type} [Grp H] (c : Nat → H) {x : List Int} : ∀ (k l : Nat), (∀ j, l ≤ j → x.getD j 0 = 0) → phi c x l k = 1
  | 0, _, _ => rfl
  | k + 1, l, h => by rw [phi, h l (Nat.le_refl _), phi_zero c k (l + 1) (fun j hj => h j (by omega))]; exact Grp.one_mul _
/-- From the right: the last factor split off. -/
theorem phi_last {H : Type} [Grp H] (c : Nat → H) (x : List Int) : ∀ (k l : Nat), phi c x l (k + 1) = phi c x l k * Grp.pw (c (l + k)) (x.getD (l + k) 0).toNat
  | 0, l => by rw [phi, phi, phi]; rw [Grp.mul_one, Grp.one_mul]; rfl
  | k + 1, l => by
    rw [phi, phi_last c x k (l + 1), phi, Grp.mul_assoc, show l + 1 + k = l + (k + 1) by omega]
end Go.Pc

/-
  Plain mathematics: a map on generators that respects the relations is a homomorphism; the tail of one generator more is a group.
  Conditions: none; nothing of the program stands here.
-/
namespace Go.Pc
open Grp

section dyck
variable {p : Pr} {H : Type} [Grp H] (c : Nat → H)
theorem phi_set {x : List Int} {l k : Nat} {a : Int} (j : Nat) (hj : j < l) : phi c (x.set j a) l k = phi c x l k :=
  phi_congr c k l fun i hi => getD_set_ne _ _ _ _ (by omega)
theorem phi_rep (hv : Valid p) {l m : Nat} (hom : ∀ x y, InR p x → InR p y → ZU l x → ZU l y → phi c (atv p l x y) l m = phi c x l m * phi c y l m)
    {d : List Int} (hd : InR p d ∧ ZU l d) {x : List Int} (hx : InR p x ∧ ZU l x) : ∀ q, phi c (rep q (fun o => atv p l o d) x) l m = phi c x l m * pw (phi c d l m) q
  | 0 => by rw [rep_zero, pw_zero, Grp.mul_one]
  | q + 1 => by
    have hin := rep_inv (fun v => InR p v ∧ ZU l v) (f := fun o => atv p l o d) (fun o ho => atv_in hv _ _ rfl _ _ ho.1 hd.1 ho.2 hd.2) hx q
    rw [rep_succ, hom _ _ hin.1 hd.1 hin.2 hd.2, phi_rep hv hom hd hx q, Grp.mul_assoc, pw_succ]
theorem phi_img (hv : Valid p) {l : Nat} (hl : l < p.n) (hom : ∀ x y, InR p x → InR p y → ZU (l + 1) x → ZU (l + 1) y → phi c (atv p (l + 1) x y) (l + 1) (p.n - (l + 1)) = phi c x (l + 1) (p.n - (l + 1)) * phi c y (l + 1) (p.n - (l + 1)))
    (hC : ∀ k, l < k → k < p.n → cj (c k) (c l) = phi c (p.c l k) (l + 1) (p.n - (l + 1))) (x : List Int) :
    ∀ k, k ≤ p.n - (l + 1) → phi c (imgTo p l x k) (l + 1) (p.n - (l + 1)) = cj (phi c x (l + 1) k) (c l)
  | 0, _ => by rw [imgTo_zero, phi_zero c _ _ (fun _ _ => zeros_getD _ _), phi, cj_one]
  | k + 1, hk => by
    rw [imgTo_succ, phi_rep c hv hom ⟨hv.c_in _ _ (by omega) (by omega), hv.c_zu _ _ (by omega) (by omega)⟩ (imgTo_in hv (atv_in hv _ (l + 1) rfl) x k (by omega)),
      phi_img hv hl hom hC x k (by omega), ← hC _ (by omega) (by omega), phi_last, cj_mul, cj_pw]
theorem phi_rep_img (hv : Valid p) {l : Nat} (hl : l < p.n) (hom : ∀ x y, InR p x → InR p y → ZU (l + 1) x → ZU (l + 1) y → phi c (atv p (l + 1) x y) (l + 1) (p.n - (l + 1)) = phi c x (l + 1) (p.n - (l + 1)) * phi c y (l + 1) (p.n - (l + 1)))
    (hC : ∀ k, l < k → k < p.n → cj (c k) (c l) = phi c (p.c l k) (l + 1) (p.n - (l + 1))) (x : List Int) :
    ∀ q, phi c (rep q (img p l) x) (l + 1) (p.n - (l + 1)) = cj (phi c x (l + 1) (p.n - (l + 1))) (pw (c l) q)
  | 0 => by rw [rep_zero, pw_zero, cj_by_one]
  | q + 1 => by rw [rep_succ, img_eq, phi_img c hv hl hom hC _ _ (Nat.le_refl _), phi_rep_img hv hl hom hC x q, cj_cj, pw_succ]
/-- What respects the relations behind l0 is a homomorphism on every tail from l0 on. -/
theorem dyck (hv : Valid p) (l0 : Nat) (hP : ∀ j, l0 ≤ j → j < p.n → pw (c j) (p.o j).toNat = phi c (p.w j) (j + 1) (p.n - (j + 1)))
    (hC : ∀ j k, l0 ≤ j → j < k → k < p.n → cj (c k) (c j) = phi c (p.c j k) (j + 1) (p.n - (j + 1))) :
    ∀ (m l : Nat), l0 ≤ l → p.n - l = m → ∀ x y, InR p x → InR p y → ZU l x → ZU l y → phi c (atv p l x y) l m = phi c x l m * phi c y l m
  | 0, l, _, hm, x, y, _, _, _, _ => (Grp.one_mul _).symm
  | m + 1, l, h0, hm, x, y, hx, hy, zx, zy => by
    have hl : l < p.n := by omega
    have hm' : p.n - (l + 1) = m := by omega
    have ih := dyck hv l0 hP hC m (l + 1) (by omega) hm'
    rw [← hm'] at ih ⊢
    have hC' := fun k hk hk' => hC l k h0 hk hk'
    have hx' : InR p (x.set l 0) ∧ ZU (l + 1) (x.set l 0) := ⟨hx.set (by omega) (fun h => by have := hv.opos h; omega), zx.set0⟩
    have hy' : InR p (y.set l 0) ∧ ZU (l + 1) (y.set l 0) := ⟨hy.set (by omega) (fun h => by have := hv.opos h; omega), zy.set0⟩
    have hL := rep_inv (fun v => InR p v ∧ ZU (l + 1) v) (f := img p l) (fun u _ => img_in hv l u) hx' (y.getD l 0).toNat
    have hR := atv_in hv _ (l + 1) rfl _ _ hL.1 hy'.1 hL.2 hy'.2
    have hxr := hx.rng l hl
    have hyr := hy.rng l hl
    have hrest : phi c (atv p (l + 1) (rep (y.getD l 0).toNat (img p l) (x.set l 0)) (y.set l 0)) (l + 1) (p.n - (l + 1)) =
        cj (phi c x (l + 1) (p.n - (l + 1))) (pw (c l) (y.getD l 0).toNat) * phi c y (l + 1) (p.n - (l + 1)) := by
      rw [ih _ _ hL.1 hy'.1 hL.2 hy'.2, phi_rep_img c hv hl ih hC', phi_set c l (by omega), phi_set c l (by omega)]
    show pw (c l) ((atv p l x y).getD l 0).toNat * phi c (atv p l x y) (l + 1) (p.n - (l + 1)) = _
    rw [atv_eq p l x y hl]
    split
    · rename_i hcar
      have hW := atv_in hv _ (l + 1) rfl _ _ (hv.w_in l hl) hR.1 (hv.w_zu l hl) hR.2
      rw [getD_set_eq _ _ _ (by rw [hW.1.len]; exact hl), phi_set c l (by omega), ih _ _ (hv.w_in l hl) hR.1 (hv.w_zu l hl) hR.2, hrest, ← hP l h0 hl]
      rw [← Grp.mul_assoc, ← pw_add, show (x.getD l 0 + y.getD l 0 - p.o l).toNat + (p.o l).toNat = (x.getD l 0).toNat + (y.getD l 0).toNat by omega, pw_add]
      rw [Grp.mul_assoc, ← Grp.mul_assoc (pw (c l) (y.getD l 0).toNat), mul_cj]
      show _ = (pw (c l) (x.getD l 0).toNat * phi c x (l + 1) (p.n - (l + 1))) * (pw (c l) (y.getD l 0).toNat * phi c y (l + 1) (p.n - (l + 1)))
      simp only [Grp.mul_assoc]
    · rw [getD_set_eq _ _ _ (by rw [hR.1.len]; exact hl), phi_set c l (by omega), hrest]
      rw [show (x.getD l 0 + y.getD l 0).toNat = (x.getD l 0).toNat + (y.getD l 0).toNat by omega, pw_add]
      rw [Grp.mul_assoc, ← Grp.mul_assoc (pw (c l) (y.getD l 0).toNat), mul_cj]
      show _ = (pw (c l) (x.getD l 0).toNat * phi c x (l + 1) (p.n - (l + 1))) * (pw (c l) (y.getD l 0).toNat * phi c y (l + 1) (p.n - (l + 1)))
      simp only [Grp.mul_assoc]
end dyck
end Go.Pc

/-
  Plain mathematics: the vectors with zeros ahead of a level, as a type; where the level's conditions hold they form a group.
  Conditions: none; nothing of the program stands here.
-/
namespace Go.Pc
open Grp

/-- The vectors of the tail at i. -/
structure T (p : Pr) (i : Nat) where
  v : List Int
  inr : InR p v
  zu : ZU i v
theorem T.ext {p : Pr} {i : Nat} {a b : T p i} (h : a.v = b.v) : a = b := by cases a; cases b; cases h; rfl
theorem list_ext0 {v u : List Int} (hl : v.length = u.length) (h : ∀ k, k < v.length → v.getD k 0 = u.getD k 0) : v = u := by
  apply List.ext_getElem hl
  intro k h1 h2
  have := h k h1
  simpa [List.getD_eq_getElem?_getD, h1, h2] using this
theorem inr_ext {p : Pr} {v u : List Int} (hv : InR p v) (hu : InR p u) (h : ∀ k, k < p.n → v.getD k 0 = u.getD k 0) : v = u :=
  list_ext0 (by rw [hv.len, hu.len]) fun k hk => h k (by rw [← hv.len]; exact hk)

section
variable {p : Pr} (hv : Valid p)
theorem img_zeros (l : Nat) : img p l (zeros p.n) = zeros p.n := by
  rw [img_eq]
  have : ∀ k, imgTo p l (zeros p.n) k = zeros p.n := by
    intro k
    induction k with
    | zero => rfl
    | succ k ih => rw [imgTo_succ, zeros_getD, ih]; rfl
  exact this _
theorem rep_id {α : Type} {f : α → α} {x : α} (h : f x = x) : ∀ k, rep k f x = x
  | 0 => rfl
  | k + 1 => by rw [rep_succ, rep_id h k, h]
theorem set_self {v : List Int} {i : Nat} (h : i < v.length) : v.set i (v.getD i 0) = v := by
  apply list_ext0 (by simp)
  intro k hk
  by_cases e : i = k
  · subst e; rw [getD_set_eq _ _ _ h]
  · rw [getD_set_ne _ _ _ _ e]
theorem set_set {v : List Int} {i : Nat} {a b : Int} : (v.set i a).set i b = v.set i b := by simp
include hv
theorem one_at : ∀ (m i : Nat), p.n - i = m → ∀ b, InR p b → ZU i b → atv p i (zeros p.n) b = b
  | 0, i, hm, b, hb, zb => by
    rw [atv_end _ _ _ _ (by omega)]
    exact inr_ext hv.zeros_in hb fun k hk => by rw [zeros_getD, zb k (by omega)]
  | m + 1, i, hm, b, hb, zb => by
    have hi : i < p.n := by omega
    have h1 := hb.rng i hi
    rw [atv_eq _ _ _ _ hi, zeros_getD, if_neg (by omega)]
    have hz : (zeros p.n).set i 0 = zeros p.n := by
      have := set_self (v := zeros p.n) (i := i) (by rw [zeros_len]; exact hi)
      rwa [zeros_getD] at this
    rw [hz, rep_id (img_zeros i), one_at m (i + 1) (by omega) _ (hb.set (by omega) (fun _ => by omega)) zb.set0, set_set, Int.zero_add, set_self (by rw [hb.len]; exact hi)]
theorem at_one : ∀ (m i : Nat), p.n - i = m → ∀ a, InR p a → ZU i a → atv p i a (zeros p.n) = a
  | 0, i, hm, b, hb, zb => by
    rw [atv_end _ _ _ _ (by omega)]
    exact inr_ext hv.zeros_in hb fun k hk => by rw [zeros_getD, zb k (by omega)]
  | m + 1, i, hm, a, ha, za => by
    have hi : i < p.n := by omega
    have h1 := ha.rng i hi
    rw [atv_eq _ _ _ _ hi, zeros_getD, if_neg (by omega)]
    have hz : (zeros p.n).set i 0 = zeros p.n := by
      have := set_self (v := zeros p.n) (i := i) (by rw [zeros_len]; exact hi)
      rwa [zeros_getD] at this
    rw [hz, show (0 : Int).toNat = 0 from rfl, rep_zero, at_one m (i + 1) (by omega) _ (ha.set (by omega) (fun _ => by omega)) za.set0, set_set, Int.add_zero, set_self (by rw [ha.len]; exact hi)]
/-- In a shorter tail the product is the same. -/
theorem at_restrict {i : Nat} (hi : i < p.n) {a b : List Int} (ha : InR p a) (hb : InR p b) (za : ZU (i + 1) a) (zb : ZU (i + 1) b) : atv p i a b = atv p (i + 1) a b := by
  have h1 := hv.opos hi
  have ea : a.set i 0 = a := by rw [← za i (by omega)]; exact set_self (by rw [ha.len]; exact hi)
  have eb : b.set i 0 = b := by rw [← zb i (by omega)]; exact set_self (by rw [hb.len]; exact hi)
  have hr := atv_in hv _ (i + 1) rfl _ _ ha hb za zb
  rw [atv_eq _ _ _ _ hi, za i (by omega), zb i (by omega), if_neg (by omega), ea, eb]
  show (atv p (i + 1) (rep 0 (img p i) a) b).set i 0 = _
  rw [rep_zero, ← hr.2 i (by omega)]
  exact set_self (by rw [hr.1.len]; exact hi)
theorem at_restrict' {i d : Nat} (hid : i ≤ d) {a b : List Int} (ha : InR p a) (hb : InR p b) (za : ZU d a) (zb : ZU d b) : atv p i a b = atv p d a b := by
  obtain ⟨k, rfl⟩ : ∃ k, d = i + k := ⟨d - i, by omega⟩
  clear hid
  induction k with
  | zero => rfl
  | succ k ih =>
    rw [ih (za.mono (by omega)) (zb.mono (by omega))]
    by_cases hi : i + k < p.n
    · exact at_restrict hv hi ha hb za zb
    · rw [atv_end _ _ _ _ (by omega), atv_end _ _ _ _ (by omega)]
end

def tmul {p : Pr} (hv : Valid p) {i : Nat} (a b : T p i) : T p i := ⟨atv p i a.v b.v, (atv_in hv _ i rfl _ _ a.inr b.inr a.zu b.zu).1, (atv_in hv _ i rfl _ _ a.inr b.inr a.zu b.zu).2⟩
def tone {p : Pr} (hv : Valid p) (i : Nat) : T p i := ⟨zeros p.n, hv.zeros_in, zeros_zu _ _⟩
/-- The tail at i is a group. -/
class Con (p : Pr) (i : Nat) : Prop where
  valid : Valid p
  assoc : ∀ a b c : T p i, tmul valid (tmul valid a b) c = tmul valid a (tmul valid b c)
  inv : ∀ a : T p i, ∃ b, tmul valid b a = tone valid i
noncomputable instance {p : Pr} {i : Nat} [h : Con p i] : Grp (T p i) where
  mul := tmul h.valid
  one := tone h.valid i
  inv a := Classical.choose (h.inv a)
  mul_assoc := h.assoc
  one_mul a := T.ext (one_at h.valid _ i rfl a.v a.inr a.zu)
  inv_mul a := Classical.choose_spec (h.inv a)
theorem T.mul_val {p : Pr} {i : Nat} [h : Con p i] (a b : T p i) : (a * b).v = atv p i a.v b.v := rfl
/-! ### one generator more -/
section ext
variable {p : Pr} {i : Nat}
/-- The conjugate of generator j by generator i, in the tail behind i. -/
def Tc (hv : Valid p) {j : Nat} (hj : i < j ∧ j < p.n) : T p (i + 1) := ⟨p.c i j, hv.c_in _ _ hj.1 hj.2, hv.c_zu _ _ hj.1 hj.2⟩
def Tw (hv : Valid p) (hi : i < p.n) : T p (i + 1) := ⟨p.w i, hv.w_in _ hi, hv.w_zu _ hi⟩
/-- The same as a function on all numbers. -/
noncomputable def cOf (p : Pr) (i : Nat) [h : Con p (i + 1)] (j : Nat) : T p (i + 1) := open Classical in if hj : i < j ∧ j < p.n then Tc h.valid hj else 1
def Timg (hv : Valid p) (x : T p (i + 1)) : T p (i + 1) := ⟨img p i x.v, (img_in hv i x.v).1, (img_in hv i x.v).2⟩

theorem imgTo_phi [h : Con p (i + 1)] (x : List Int) : ∀ k, k ≤ p.n - (i + 1) → ∀ hin hzu, (⟨imgTo p i x k, hin, hzu⟩ : T p (i + 1)) = phi (cOf p i) x (i + 1) k
  | 0, _, _, _ => rfl
  | k + 1, hk, hin, _ => by
    have hk' := imgTo_in h.valid (atv_in h.valid _ (i + 1) rfl) x k (by omega)
    rw [phi_last, ← imgTo_phi x k (by omega) hk'.1 hk'.2]
    have hj : i < i + 1 + k ∧ i + 1 + k < p.n := ⟨by omega, by omega⟩
    have hc : cOf p i (i + 1 + k) = Tc h.valid hj := dif_pos hj
    have key : ∀ q (acc : T p (i + 1)), rep q (fun o => atv p (i + 1) o (p.c i (i + 1 + k))) acc.v = (acc * pw (Tc h.valid hj) q).v := by
      intro q acc
      induction q with
      | zero => rw [rep_zero, pw_zero, Grp.mul_one]
      | succ q ih => rw [rep_succ, ih, pw_succ, ← Grp.mul_assoc]; rfl
    apply T.ext
    show imgTo p i x (k + 1) = _
    rw [imgTo_succ, hc]
    exact key _ ⟨imgTo p i x k, hk'.1, hk'.2⟩
theorem img_phi [h : Con p (i + 1)] (x : T p (i + 1)) : Timg h.valid x = phi (cOf p i) x.v (i + 1) (p.n - (i + 1)) := imgTo_phi x.v _ (Nat.le_refl _) _ _

/-- The four conditions of a level. -/
def unitv (p : Pr) (j : Nat) (k : Int) : List Int := (zeros p.n).set j k
theorem unitv_in {p : Pr} (hv : Valid p) {j : Nat} {k : Int} (h0 : 0 ≤ k) (h1 : j < p.n → k < p.o j) : InR p (unitv p j k) := hv.zeros_in.set h0 h1
theorem unitv_zu (p : Pr) {i j : Nat} (hij : i ≤ j) (k : Int) : ZU i (unitv p j k) := (zeros_zu _ _).set hij
/-- Generator j, in the tail at i. -/
def gen (hv : Valid p) (i j : Nat) (hj : i ≤ j ∧ j < p.n) : T p i := ⟨unitv p j 1, unitv_in hv (by omega) (fun h => by have := hv.opos h; omega), unitv_zu p hj.1 1⟩
structure Chk (p : Pr) (i : Nat) [h : Con p (i + 1)] (hi : i < p.n) : Prop where
  P : ∀ j (hj : i < j ∧ j < p.n), pw (Tc h.valid hj) (p.o j).toNat = Timg h.valid (⟨p.w j, h.valid.w_in _ hj.2, (h.valid.w_zu _ hj.2).mono (by omega)⟩ : T p (i + 1))
  C : ∀ j k (hj : i < j ∧ j < p.n) (hk : i < k ∧ k < p.n) (hjk : j < k), cj (Tc h.valid hk) (Tc h.valid hj) = Timg h.valid (⟨p.c j k, h.valid.c_in _ _ hjk hk.2, (h.valid.c_zu _ _ hjk hk.2).mono (by omega)⟩ : T p (i + 1))
  F : Timg h.valid (Tw h.valid hi) = Tw h.valid hi
  I : ∀ j (hj : i + 1 ≤ j ∧ j < p.n), rep (p.o i).toNat (Timg h.valid) (gen h.valid (i + 1) j hj) = cj (gen h.valid (i + 1) j hj) (Tw h.valid hi)

theorem img_hom [h : Con p (i + 1)] {hi : i < p.n} (hc : Chk p i hi) (x y : T p (i + 1)) : Timg h.valid (x * y) = Timg h.valid x * Timg h.valid y := by
  have hcof : ∀ j (hj : i < j ∧ j < p.n), cOf p i j = Tc h.valid hj := fun j hj => dif_pos hj
  have hphi : ∀ (v : List Int) (j : Nat), InR p v → ZU j v → i + 1 ≤ j → j ≤ p.n → ∀ hin hzu, Timg h.valid (⟨v, hin, hzu⟩ : T p (i + 1)) = phi (cOf p i) v j (p.n - j) := by
    intro v j hv zv h1 h2 hin hzu
    rw [img_phi]
    obtain ⟨q, rfl⟩ : ∃ q, j = i + 1 + q := ⟨j - (i + 1), by omega⟩
    clear h1
    induction q with
    | zero => rfl
    | succ q ih =>
      rw [ih (zv.mono (by omega)) (by omega), show p.n - (i + 1 + q) = (p.n - (i + 1 + (q + 1))) + 1 by omega, phi]
      rw [zv (i + 1 + q) (by omega)]
      exact Grp.one_mul _
  rw [img_phi, img_phi, img_phi, T.mul_val]
  refine dyck (cOf p i) h.valid (i + 1) ?_ ?_ _ (i + 1) (Nat.le_refl _) rfl _ _ x.inr y.inr x.zu y.zu
  · intro j h1 h2
    rw [hcof j ⟨by omega, h2⟩, hc.P j ⟨by omega, h2⟩]
    exact hphi _ _ (h.valid.w_in _ h2) (h.valid.w_zu _ h2) (by omega) (by omega) _ _
  · intro j k h1 h2 h3
    rw [hcof j ⟨by omega, by omega⟩, hcof k ⟨by omega, h3⟩, hc.C j k ⟨by omega, by omega⟩ ⟨by omega, h3⟩ h2]
    exact hphi _ _ (h.valid.c_in _ _ h2 h3) (h.valid.c_zu _ _ h2 h3) (by omega) (by omega) _ _
end ext

/-! ### normal forms -/
section norm
variable {p : Pr} {i : Nat} (hv : Valid p)
include hv
theorem unit_at {l : Nat} (hil : i ≤ l) (hl : l < p.n) {k : Int} (h0 : 0 ≤ k) (h1 : k < p.o l) {u : List Int} (hu : InR p u) (zu : ZU (l + 1) u) : atv p i (unitv p l k) u = u.set l k := by
  have ho := hv.opos hl
  have hk := unitv_in hv (j := l) (k := k) h0 (fun _ => h1)
  rw [at_restrict' hv hil hk hu (unitv_zu p (Nat.le_refl _) k) (zu.mono (by omega)), atv_eq _ _ _ _ hl, zu l (by omega)]
  have e1 : (unitv p l k).getD l 0 = k := getD_set_eq _ _ _ (by rw [zeros_len]; exact hl)
  have hz : (zeros p.n).set l 0 = zeros p.n := by
    have := set_self (v := zeros p.n) (i := l) (by rw [zeros_len]; exact hl)
    rwa [zeros_getD] at this
  have e2 : (unitv p l k).set l 0 = zeros p.n := by unfold unitv; rw [set_set, hz]
  have e3 : u.set l 0 = u := by rw [← zu l (by omega)]; exact set_self (by rw [hu.len]; exact hl)
  rw [e1, if_neg (by omega), show (0 : Int).toNat = 0 from rfl, rep_zero, e2, e3, one_at hv _ _ rfl _ hu zu, Int.add_zero]
theorem unit_succ {l : Nat} (hil : i ≤ l) (hl : l < p.n) {k : Int} (h0 : 0 ≤ k) (h1 : k + 1 < p.o l) : atv p i (unitv p l k) (unitv p l 1) = unitv p l (k + 1) := by
  have ho := hv.opos hl
  have hk := unitv_in hv (j := l) (k := k) h0 (fun _ => by omega)
  have h1' := unitv_in hv (j := l) (k := 1) (by omega) (fun _ => by omega)
  rw [at_restrict' hv hil hk h1' (unitv_zu p (Nat.le_refl _) k) (unitv_zu p (Nat.le_refl _) 1), atv_eq _ _ _ _ hl]
  have e1 : ∀ k, (unitv p l k).getD l 0 = k := fun k => getD_set_eq _ _ _ (by rw [zeros_len]; exact hl)
  have hz : (zeros p.n).set l 0 = zeros p.n := by
    have := set_self (v := zeros p.n) (i := l) (by rw [zeros_len]; exact hl)
    rwa [zeros_getD] at this
  have e2 : ∀ k, (unitv p l k).set l 0 = zeros p.n := fun k => by unfold unitv; rw [set_set, hz]
  rw [e1, e1, if_neg (by omega), e2, e2, rep_id (img_zeros l), one_at hv _ _ rfl _ hv.zeros_in (zeros_zu _ _)]
  rfl
omit hv in
theorem gen_pw [h : Con p i] {l : Nat} (hl : i ≤ l ∧ l < p.n) : ∀ k : Nat, (k : Int) < p.o l → (pw (gen h.valid i l hl) k).v = unitv p l k
  | 0, _ => by
    show zeros p.n = (zeros p.n).set l 0
    have := set_self (v := zeros p.n) (i := l) (by rw [zeros_len]; exact hl.2)
    rw [zeros_getD] at this
    exact this.symm
  | k + 1, hk => by
    rw [pw_succ, T.mul_val, gen_pw hl k (by omega)]
    exact unit_succ h.valid hl.1 hl.2 (by omega) (by omega)
/-- The generators as a function on all numbers. -/
noncomputable def gOf (p : Pr) (i : Nat) [h : Con p i] (j : Nat) : T p i := open Classical in if hj : i ≤ j ∧ j < p.n then gen h.valid i j hj else 1
omit hv in
theorem norm_form [h : Con p i] : ∀ (m l : Nat), p.n - l = m → i ≤ l → l ≤ p.n → ∀ x : T p i, ZU l x.v → x = phi (gOf p i) x.v l m
  | 0, l, hm, _, _, x, zx => by
    apply T.ext
    show x.v = zeros p.n
    exact inr_ext x.inr h.valid.zeros_in fun k hk => by rw [zeros_getD, zx k (by omega)]
  | m + 1, l, hm, hil, hln, x, zx => by
    have hl : l < p.n := by omega
    have hxl := x.inr.rng l hl
    have ho := h.valid.opos hl
    let u : T p i := ⟨x.v.set l 0, x.inr.set (by omega) (fun _ => by omega), (zx.set0).mono (by omega)⟩
    have hu : ZU (l + 1) u.v := zx.set0
    have ih := norm_form m (l + 1) (by omega) (by omega) (by omega) u hu
    have hg : gOf p i l = gen h.valid i l ⟨hil, hl⟩ := dif_pos ⟨hil, hl⟩
    have e : phi (gOf p i) x.v (l + 1) m = phi (gOf p i) u.v (l + 1) m := phi_congr _ _ _ fun j hj => (getD_set_ne _ _ _ _ (by omega)).symm
    rw [phi, e, ← ih, hg]
    apply T.ext
    rw [T.mul_val, gen_pw ⟨hil, hl⟩ _ (by omega)]
    rw [unit_at h.valid hil hl (by omega) (by omega) u.inr hu]
    show x.v = (x.v.set l 0).set l _
    rw [set_set, show (((x.v.getD l 0).toNat : Nat) : Int) = x.v.getD l 0 by omega, set_self (by rw [x.inr.len]; exact hl)]
end norm
end Go.Pc

/-
  One instance for each type and each function of the translation, by program (gen_types.py).
  Conditions: none.
-/
namespace Go.Proofs.Ytnphljflkpekmaa
open Go Go.Pc
theorem structT {P : Program} {t n : Nat} {fs : Array Field} (h : P.underlying t = some (.struct fs)) (hi : (P.info? t).map (·.size) = some n) : StructT P t n := by
  cases hx : P.info? t with
  | none => rw [hx] at hi; cases hi
  | some i => rw [hx] at hi; exact ⟨⟨fs, i, h, hx, by simpa using hi⟩⟩
theorem zeroT {P : Program} {t n : Nat} {zs : List Value} (h : (P.info? t).map (fun i => (i.zero, i.size)) = some (some (.agg zs.toArray), n)) (hn : n = zs.length) : ZeroT P t zs := by
  cases hx : P.info? t with
  | none => rw [hx] at h; cases h
  | some i => rw [hx] at h; simp at h; exact ⟨⟨i, hx, h.1, by omega⟩⟩
theorem fldT {P : Program} {s f off n : Nat} {fs : Array Field} {fd : Field} (h : P.underlying s = some (.struct fs)) (hf : fs[f]? = some fd) (ho : fd.offset = off) (hi : (P.info? fd.type).map (·.size) = some n) (hn : n ≠ 0) : FldT P s f off := by
  cases hx : P.info? fd.type with
  | none => rw [hx] at hi; cases hi
  | some i => rw [hx] at hi; exact ⟨⟨fs, fd, i, h, hf, ho, hx, by simp at hi; omega⟩⟩
theorem elT {P : Program} {e size bytes : Nat} {z : Value} (h : (P.info? e).map (fun i => (i.size, i.bytes, i.zero)) = some (size, bytes, some z)) : ElT P e size bytes z := by
  cases hx : P.info? e with
  | none => rw [hx] at h; cases h
  | some i => rw [hx] at h; simp at h; exact ⟨⟨i, hx, h.1, h.2.1, h.2.2⟩⟩
instance : Draws Try.prog := ⟨by kernel_rfl⟩
instance : PlainT Try.prog 1 := ⟨⟨_, Try.underlying1, by simp, by simp⟩⟩
instance : PlainT Try.prog 2 := ⟨⟨_, Try.underlying2, by simp, by simp⟩⟩
instance : PlainT Try.prog 3 := ⟨⟨_, Try.underlying3, by simp, by simp⟩⟩
instance : PlainT Try.prog 4 := ⟨⟨_, Try.underlying4, by simp, by simp⟩⟩
instance : PlainT Try.prog 5 := ⟨⟨_, Try.underlying5, by simp, by simp⟩⟩
instance : PlainT Try.prog 9 := ⟨⟨_, Try.underlying9, by simp, by simp⟩⟩
instance : PlainT Try.prog 12 := ⟨⟨_, Try.underlying12, by simp, by simp⟩⟩
instance : PlainT Try.prog 15 := ⟨⟨_, Try.underlying15, by simp, by simp⟩⟩
instance : PlainT Try.prog 16 := ⟨⟨_, Try.underlying16, by simp, by simp⟩⟩
instance : PlainT Try.prog 17 := ⟨⟨_, Try.underlying17, by simp, by simp⟩⟩
instance : PlainT Try.prog 21 := ⟨⟨_, Try.underlying21, by simp, by simp⟩⟩
instance : SlT Try.prog 22 2 := ⟨Try.underlying22⟩
instance : PlainT Try.prog 22 := ⟨⟨_, Try.underlying22, by simp, by simp⟩⟩
instance : SlT Try.prog 23 22 := ⟨Try.underlying23⟩
instance : PlainT Try.prog 23 := ⟨⟨_, Try.underlying23, by simp, by simp⟩⟩
instance : SlT Try.prog 24 23 := ⟨Try.underlying24⟩
instance : PlainT Try.prog 24 := ⟨⟨_, Try.underlying24, by simp, by simp⟩⟩
instance : StructT Try.prog 25 3 := structT Try.underlying25 (by kernel_rfl : (Try.prog.info? 25).map (·.size) = some 3)
instance : ZeroT Try.prog 25 [.slice none 0 0, .slice none 0 0, .slice none 0 0] := zeroT (by kernel_rfl : (Try.prog.info? 25).map (fun i => (i.zero, i.size)) = some (some (.agg #[.slice none 0 0, .slice none 0 0, .slice none 0 0]), 3)) rfl
instance : FldT Try.prog 25 0 0 := fldT Try.underlying25 rfl rfl (by kernel_rfl : (Try.prog.info? 22).map (·.size) = some 1) (by decide)
instance : FldT Try.prog 25 1 1 := fldT Try.underlying25 rfl rfl (by kernel_rfl : (Try.prog.info? 23).map (·.size) = some 1) (by decide)
instance : FldT Try.prog 25 2 2 := fldT Try.underlying25 rfl rfl (by kernel_rfl : (Try.prog.info? 24).map (·.size) = some 1) (by decide)
instance : StructT Try.prog 26 3 := structT Try.underlying26 (by kernel_rfl : (Try.prog.info? 26).map (·.size) = some 3)
instance : ZeroT Try.prog 26 [.slice none 0 0, .slice none 0 0, .slice none 0 0] := zeroT (by kernel_rfl : (Try.prog.info? 26).map (fun i => (i.zero, i.size)) = some (some (.agg #[.slice none 0 0, .slice none 0 0, .slice none 0 0]), 3)) rfl
instance : FldT Try.prog 26 0 0 := fldT Try.underlying26 rfl rfl (by kernel_rfl : (Try.prog.info? 22).map (·.size) = some 1) (by decide)
instance : FldT Try.prog 26 1 1 := fldT Try.underlying26 rfl rfl (by kernel_rfl : (Try.prog.info? 23).map (·.size) = some 1) (by decide)
instance : FldT Try.prog 26 2 2 := fldT Try.underlying26 rfl rfl (by kernel_rfl : (Try.prog.info? 24).map (·.size) = some 1) (by decide)
instance : PlainT Try.prog 27 := ⟨⟨_, Try.underlying27, by simp, by simp⟩⟩
instance : PlainT Try.prog 28 := ⟨⟨_, Try.underlying28, by simp, by simp⟩⟩
instance : StructT Try.prog 29 3 := structT Try.underlying29 (by kernel_rfl : (Try.prog.info? 29).map (·.size) = some 3)
instance : ZeroT Try.prog 29 [.slice none 0 0, .slice none 0 0, .slice none 0 0] := zeroT (by kernel_rfl : (Try.prog.info? 29).map (fun i => (i.zero, i.size)) = some (some (.agg #[.slice none 0 0, .slice none 0 0, .slice none 0 0]), 3)) rfl
instance : FldT Try.prog 29 0 0 := fldT Try.underlying29 rfl rfl (by kernel_rfl : (Try.prog.info? 22).map (·.size) = some 1) (by decide)
instance : FldT Try.prog 29 1 1 := fldT Try.underlying29 rfl rfl (by kernel_rfl : (Try.prog.info? 23).map (·.size) = some 1) (by decide)
instance : FldT Try.prog 29 2 2 := fldT Try.underlying29 rfl rfl (by kernel_rfl : (Try.prog.info? 24).map (·.size) = some 1) (by decide)
instance : PlainT Try.prog 31 := ⟨⟨_, Try.underlying31, by simp, by simp⟩⟩
instance : PlainT Try.prog 32 := ⟨⟨_, Try.underlying32, by simp, by simp⟩⟩
instance : PlainT Try.prog 33 := ⟨⟨_, Try.underlying33, by simp, by simp⟩⟩
instance : PlainT Try.prog 34 := ⟨⟨_, Try.underlying34, by simp, by simp⟩⟩
instance : PlainT Try.prog 35 := ⟨⟨_, Try.underlying35, by simp, by simp⟩⟩
instance : PlainT Try.prog 36 := ⟨⟨_, Try.underlying36, by simp, by simp⟩⟩
instance : PlainT Try.prog 37 := ⟨⟨_, Try.underlying37, by simp, by simp⟩⟩
instance : SlT Try.prog 38 61 := ⟨Try.underlying38⟩
instance : PlainT Try.prog 38 := ⟨⟨_, Try.underlying38, by simp, by simp⟩⟩
instance : PlainT Try.prog 40 := ⟨⟨_, Try.underlying40, by simp, by simp⟩⟩
instance : PlainT Try.prog 41 := ⟨⟨_, Try.underlying41, by simp, by simp⟩⟩
instance : PlainT Try.prog 42 := ⟨⟨_, Try.underlying42, by simp, by simp⟩⟩
instance : PlainT Try.prog 43 := ⟨⟨_, Try.underlying43, by simp, by simp⟩⟩
instance : PlainT Try.prog 44 := ⟨⟨_, Try.underlying44, by simp, by simp⟩⟩
instance : PlainT Try.prog 45 := ⟨⟨_, Try.underlying45, by simp, by simp⟩⟩
instance : PlainT Try.prog 46 := ⟨⟨_, Try.underlying46, by simp, by simp⟩⟩
instance : PlainT Try.prog 47 := ⟨⟨_, Try.underlying47, by simp, by simp⟩⟩
instance : PlainT Try.prog 48 := ⟨⟨_, Try.underlying48, by simp, by simp⟩⟩
instance : PlainT Try.prog 49 := ⟨⟨_, Try.underlying49, by simp, by simp⟩⟩
instance : PlainT Try.prog 50 := ⟨⟨_, Try.underlying50, by simp, by simp⟩⟩
instance : PlainT Try.prog 51 := ⟨⟨_, Try.underlying51, by simp, by simp⟩⟩
instance : PlainT Try.prog 52 := ⟨⟨_, Try.underlying52, by simp, by simp⟩⟩
instance : PlainT Try.prog 53 := ⟨⟨_, Try.underlying53, by simp, by simp⟩⟩
instance : PlainT Try.prog 54 := ⟨⟨_, Try.underlying54, by simp, by simp⟩⟩
instance : PlainT Try.prog 56 := ⟨⟨_, Try.underlying56, by simp, by simp⟩⟩
instance : PlainT Try.prog 57 := ⟨⟨_, Try.underlying57, by simp, by simp⟩⟩
instance : PlainT Try.prog 58 := ⟨⟨_, Try.underlying58, by simp, by simp⟩⟩
instance : PlainT Try.prog 59 := ⟨⟨_, Try.underlying59, by simp, by simp⟩⟩
instance : StructT Try.prog 60 7 := structT Try.underlying60 (by kernel_rfl : (Try.prog.info? 60).map (·.size) = some 7)
instance : ZeroT Try.prog 60 [.slice none 0 0, .slice none 0 0, .slice none 0 0, .slice none 0 0, .slice none 0 0, .slice none 0 0, .slice none 0 0] := zeroT (by kernel_rfl : (Try.prog.info? 60).map (fun i => (i.zero, i.size)) = some (some (.agg #[.slice none 0 0, .slice none 0 0, .slice none 0 0, .slice none 0 0, .slice none 0 0, .slice none 0 0, .slice none 0 0]), 7)) rfl
instance : FldT Try.prog 60 0 0 := fldT Try.underlying60 rfl rfl (by kernel_rfl : (Try.prog.info? 29).map (·.size) = some 3) (by decide)
instance : FldT Try.prog 60 1 3 := fldT Try.underlying60 rfl rfl (by kernel_rfl : (Try.prog.info? 29).map (·.size) = some 3) (by decide)
instance : FldT Try.prog 60 2 6 := fldT Try.underlying60 rfl rfl (by kernel_rfl : (Try.prog.info? 23).map (·.size) = some 1) (by decide)
instance : StructT Try.prog 61 7 := structT Try.underlying61 (by kernel_rfl : (Try.prog.info? 61).map (·.size) = some 7)
instance : ZeroT Try.prog 61 [.slice none 0 0, .slice none 0 0, .slice none 0 0, .slice none 0 0, .slice none 0 0, .slice none 0 0, .slice none 0 0] := zeroT (by kernel_rfl : (Try.prog.info? 61).map (fun i => (i.zero, i.size)) = some (some (.agg #[.slice none 0 0, .slice none 0 0, .slice none 0 0, .slice none 0 0, .slice none 0 0, .slice none 0 0, .slice none 0 0]), 7)) rfl
instance : FldT Try.prog 61 0 0 := fldT Try.underlying61 rfl rfl (by kernel_rfl : (Try.prog.info? 29).map (·.size) = some 3) (by decide)
instance : FldT Try.prog 61 1 3 := fldT Try.underlying61 rfl rfl (by kernel_rfl : (Try.prog.info? 29).map (·.size) = some 3) (by decide)
instance : FldT Try.prog 61 2 6 := fldT Try.underlying61 rfl rfl (by kernel_rfl : (Try.prog.info? 23).map (·.size) = some 1) (by decide)
instance : PlainT Try.prog 62 := ⟨⟨_, Try.underlying62, by simp, by simp⟩⟩
instance : PlainT Try.prog 64 := ⟨⟨_, Try.underlying64, by simp, by simp⟩⟩
instance : PlainT Try.prog 65 := ⟨⟨_, Try.underlying65, by simp, by simp⟩⟩
instance : PlainT Try.prog 66 := ⟨⟨_, Try.underlying66, by simp, by simp⟩⟩
instance : PlainT Try.prog 67 := ⟨⟨_, Try.underlying67, by simp, by simp⟩⟩
instance : PlainT Try.prog 68 := ⟨⟨_, Try.underlying68, by simp, by simp⟩⟩
instance : PlainT Try.prog 69 := ⟨⟨_, Try.underlying69, by simp, by simp⟩⟩
instance : PlainT Try.prog 70 := ⟨⟨_, Try.underlying70, by simp, by simp⟩⟩
instance : PlainT Try.prog 71 := ⟨⟨_, Try.underlying71, by simp, by simp⟩⟩
instance : PlainT Try.prog 72 := ⟨⟨_, Try.underlying72, by simp, by simp⟩⟩
instance : PlainT Try.prog 73 := ⟨⟨_, Try.underlying73, by simp, by simp⟩⟩
instance : SlT Try.prog 74 3 := ⟨Try.underlying74⟩
instance : PlainT Try.prog 74 := ⟨⟨_, Try.underlying74, by simp, by simp⟩⟩
instance : PlainT Try.prog 75 := ⟨⟨_, Try.underlying75, by simp, by simp⟩⟩
instance : PlainT Try.prog 77 := ⟨⟨_, Try.underlying77, by simp, by simp⟩⟩
instance : PlainT Try.prog 78 := ⟨⟨_, Try.underlying78, by simp, by simp⟩⟩
instance : PlainT Try.prog 79 := ⟨⟨_, Try.underlying79, by simp, by simp⟩⟩
instance : PlainT Try.prog 80 := ⟨⟨_, Try.underlying80, by simp, by simp⟩⟩
instance : PlainT Try.prog 81 := ⟨⟨_, Try.underlying81, by simp, by simp⟩⟩
instance : PlainT Try.prog 82 := ⟨⟨_, Try.underlying82, by simp, by simp⟩⟩
instance : PlainT Try.prog 83 := ⟨⟨_, Try.underlying83, by simp, by simp⟩⟩
instance : PlainT Try.prog 84 := ⟨⟨_, Try.underlying84, by simp, by simp⟩⟩
instance : PlainT Try.prog 85 := ⟨⟨_, Try.underlying85, by simp, by simp⟩⟩
instance : PlainT Try.prog 86 := ⟨⟨_, Try.underlying86, by simp, by simp⟩⟩
instance : PlainT Try.prog 88 := ⟨⟨_, Try.underlying88, by simp, by simp⟩⟩
instance : PlainT Try.prog 89 := ⟨⟨_, Try.underlying89, by simp, by simp⟩⟩
instance : PlainT Try.prog 90 := ⟨⟨_, Try.underlying90, by simp, by simp⟩⟩
instance : PlainT Try.prog 91 := ⟨⟨_, Try.underlying91, by simp, by simp⟩⟩
instance : PlainT Try.prog 92 := ⟨⟨_, Try.underlying92, by simp, by simp⟩⟩
instance : PlainT Try.prog 93 := ⟨⟨_, Try.underlying93, by simp, by simp⟩⟩
instance : PlainT Try.prog 94 := ⟨⟨_, Try.underlying94, by simp, by simp⟩⟩
instance : PlainT Try.prog 95 := ⟨⟨_, Try.underlying95, by simp, by simp⟩⟩
instance : PlainT Try.prog 96 := ⟨⟨_, Try.underlying96, by simp, by simp⟩⟩
instance : PlainT Try.prog 97 := ⟨⟨_, Try.underlying97, by simp, by simp⟩⟩
instance : PlainT Try.prog 98 := ⟨⟨_, Try.underlying98, by simp, by simp⟩⟩
instance : PlainT Try.prog 99 := ⟨⟨_, Try.underlying99, by simp, by simp⟩⟩
instance : PlainT Try.prog 100 := ⟨⟨_, Try.underlying100, by simp, by simp⟩⟩
instance : PlainT Try.prog 101 := ⟨⟨_, Try.underlying101, by simp, by simp⟩⟩
instance : PlainT Try.prog 102 := ⟨⟨_, Try.underlying102, by simp, by simp⟩⟩
instance : PlainT Try.prog 103 := ⟨⟨_, Try.underlying103, by simp, by simp⟩⟩
instance : PlainT Try.prog 104 := ⟨⟨_, Try.underlying104, by simp, by simp⟩⟩
instance : PlainT Try.prog 105 := ⟨⟨_, Try.underlying105, by simp, by simp⟩⟩
instance : PlainT Try.prog 106 := ⟨⟨_, Try.underlying106, by simp, by simp⟩⟩
instance : PlainT Try.prog 107 := ⟨⟨_, Try.underlying107, by simp, by simp⟩⟩
instance : PlainT Try.prog 108 := ⟨⟨_, Try.underlying108, by simp, by simp⟩⟩
instance : PlainT Try.prog 109 := ⟨⟨_, Try.underlying109, by simp, by simp⟩⟩
instance : PlainT Try.prog 110 := ⟨⟨_, Try.underlying110, by simp, by simp⟩⟩
instance : StructT Try.prog 111 4 := structT Try.underlying111 (by kernel_rfl : (Try.prog.info? 111).map (·.size) = some 4)
instance : ZeroT Try.prog 111 [.int .i64 0, .int .i64 0, .int .i64 0, .int .i64 0] := zeroT (by kernel_rfl : (Try.prog.info? 111).map (fun i => (i.zero, i.size)) = some (some (.agg #[.int .i64 0, .int .i64 0, .int .i64 0, .int .i64 0]), 4)) rfl
instance : FldT Try.prog 111 0 0 := fldT Try.underlying111 rfl rfl (by kernel_rfl : (Try.prog.info? 2).map (·.size) = some 1) (by decide)
instance : FldT Try.prog 111 1 1 := fldT Try.underlying111 rfl rfl (by kernel_rfl : (Try.prog.info? 2).map (·.size) = some 1) (by decide)
instance : FldT Try.prog 111 2 2 := fldT Try.underlying111 rfl rfl (by kernel_rfl : (Try.prog.info? 2).map (·.size) = some 1) (by decide)
instance : FldT Try.prog 111 3 3 := fldT Try.underlying111 rfl rfl (by kernel_rfl : (Try.prog.info? 2).map (·.size) = some 1) (by decide)
instance : StructT Try.prog 112 4 := structT Try.underlying112 (by kernel_rfl : (Try.prog.info? 112).map (·.size) = some 4)
instance : ZeroT Try.prog 112 [.int .i64 0, .int .i64 0, .int .i64 0, .int .i64 0] := zeroT (by kernel_rfl : (Try.prog.info? 112).map (fun i => (i.zero, i.size)) = some (some (.agg #[.int .i64 0, .int .i64 0, .int .i64 0, .int .i64 0]), 4)) rfl
instance : FldT Try.prog 112 0 0 := fldT Try.underlying112 rfl rfl (by kernel_rfl : (Try.prog.info? 2).map (·.size) = some 1) (by decide)
instance : FldT Try.prog 112 1 1 := fldT Try.underlying112 rfl rfl (by kernel_rfl : (Try.prog.info? 2).map (·.size) = some 1) (by decide)
instance : FldT Try.prog 112 2 2 := fldT Try.underlying112 rfl rfl (by kernel_rfl : (Try.prog.info? 2).map (·.size) = some 1) (by decide)
instance : FldT Try.prog 112 3 3 := fldT Try.underlying112 rfl rfl (by kernel_rfl : (Try.prog.info? 2).map (·.size) = some 1) (by decide)
instance : PlainT Try.prog 113 := ⟨⟨_, Try.underlying113, by simp, by simp⟩⟩
instance : PlainT Try.prog 114 := ⟨⟨_, Try.underlying114, by simp, by simp⟩⟩
instance : PlainT Try.prog 116 := ⟨⟨_, Try.underlying116, by simp, by simp⟩⟩
instance : PlainT Try.prog 117 := ⟨⟨_, Try.underlying117, by simp, by simp⟩⟩
instance : PlainT Try.prog 118 := ⟨⟨_, Try.underlying118, by simp, by simp⟩⟩
instance : PlainT Try.prog 119 := ⟨⟨_, Try.underlying119, by simp, by simp⟩⟩
instance : PlainT Try.prog 120 := ⟨⟨_, Try.underlying120, by simp, by simp⟩⟩
instance : PlainT Try.prog 121 := ⟨⟨_, Try.underlying121, by simp, by simp⟩⟩
instance : StructT Try.prog 122 2 := structT Try.underlying122 (by kernel_rfl : (Try.prog.info? 122).map (·.size) = some 2)
instance : ZeroT Try.prog 122 [.pointer none, .slice none 0 0] := zeroT (by kernel_rfl : (Try.prog.info? 122).map (fun i => (i.zero, i.size)) = some (some (.agg #[.pointer none, .slice none 0 0]), 2)) rfl
instance : FldT Try.prog 122 0 0 := fldT Try.underlying122 rfl rfl (by kernel_rfl : (Try.prog.info? 51).map (·.size) = some 1) (by decide)
instance : FldT Try.prog 122 1 1 := fldT Try.underlying122 rfl rfl (by kernel_rfl : (Try.prog.info? 23).map (·.size) = some 1) (by decide)
instance : StructT Try.prog 123 2 := structT Try.underlying123 (by kernel_rfl : (Try.prog.info? 123).map (·.size) = some 2)
instance : ZeroT Try.prog 123 [.pointer none, .slice none 0 0] := zeroT (by kernel_rfl : (Try.prog.info? 123).map (fun i => (i.zero, i.size)) = some (some (.agg #[.pointer none, .slice none 0 0]), 2)) rfl
instance : FldT Try.prog 123 0 0 := fldT Try.underlying123 rfl rfl (by kernel_rfl : (Try.prog.info? 51).map (·.size) = some 1) (by decide)
instance : FldT Try.prog 123 1 1 := fldT Try.underlying123 rfl rfl (by kernel_rfl : (Try.prog.info? 23).map (·.size) = some 1) (by decide)
instance : PlainT Try.prog 125 := ⟨⟨_, Try.underlying125, by simp, by simp⟩⟩
instance : PlainT Try.prog 126 := ⟨⟨_, Try.underlying126, by simp, by simp⟩⟩
instance : PlainT Try.prog 127 := ⟨⟨_, Try.underlying127, by simp, by simp⟩⟩
instance : PlainT Try.prog 128 := ⟨⟨_, Try.underlying128, by simp, by simp⟩⟩
instance : PlainT Try.prog 130 := ⟨⟨_, Try.underlying130, by simp, by simp⟩⟩
instance : PlainT Try.prog 131 := ⟨⟨_, Try.underlying131, by simp, by simp⟩⟩
instance : PlainT Try.prog 132 := ⟨⟨_, Try.underlying132, by simp, by simp⟩⟩
instance : PlainT Try.prog 133 := ⟨⟨_, Try.underlying133, by simp, by simp⟩⟩
instance : PlainT Try.prog 134 := ⟨⟨_, Try.underlying134, by simp, by simp⟩⟩
instance : PlainT Try.prog 135 := ⟨⟨_, Try.underlying135, by simp, by simp⟩⟩
instance : PlainT Try.prog 136 := ⟨⟨_, Try.underlying136, by simp, by simp⟩⟩
instance : PlainT Try.prog 138 := ⟨⟨_, Try.underlying138, by simp, by simp⟩⟩
instance : PlainT Try.prog 139 := ⟨⟨_, Try.underlying139, by simp, by simp⟩⟩
instance : PlainT Try.prog 141 := ⟨⟨_, Try.underlying141, by simp, by simp⟩⟩
instance : PlainT Try.prog 142 := ⟨⟨_, Try.underlying142, by simp, by simp⟩⟩
instance : PlainT Try.prog 148 := ⟨⟨_, Try.underlying148, by simp, by simp⟩⟩
instance : PlainT Try.prog 151 := ⟨⟨_, Try.underlying151, by simp, by simp⟩⟩
instance : PlainT Try.prog 152 := ⟨⟨_, Try.underlying152, by simp, by simp⟩⟩
instance : ElT Try.prog 2 1 8 (.int .i64 0) := elT (by kernel_rfl : (Try.prog.info? 2).map (fun i => (i.size, i.bytes, i.zero)) = some (1, 8, some (.int .i64 0)))
instance : ElT Try.prog 3 1 8 (.int .i64 0) := elT (by kernel_rfl : (Try.prog.info? 3).map (fun i => (i.size, i.bytes, i.zero)) = some (1, 8, some (.int .i64 0)))
instance : ElT Try.prog 22 1 24 (.slice none 0 0) := elT (by kernel_rfl : (Try.prog.info? 22).map (fun i => (i.size, i.bytes, i.zero)) = some (1, 24, some (.slice none 0 0)))
instance : ElT Try.prog 23 1 24 (.slice none 0 0) := elT (by kernel_rfl : (Try.prog.info? 23).map (fun i => (i.size, i.bytes, i.zero)) = some (1, 24, some (.slice none 0 0)))
instance : ElT Try.prog 24 1 24 (.slice none 0 0) := elT (by kernel_rfl : (Try.prog.info? 24).map (fun i => (i.size, i.bytes, i.zero)) = some (1, 24, some (.slice none 0 0)))
instance : ElT Try.prog 38 1 24 (.slice none 0 0) := elT (by kernel_rfl : (Try.prog.info? 38).map (fun i => (i.size, i.bytes, i.zero)) = some (1, 24, some (.slice none 0 0)))
instance : ElT Try.prog 61 7 168 (.agg #[.slice none 0 0, .slice none 0 0, .slice none 0 0, .slice none 0 0, .slice none 0 0, .slice none 0 0, .slice none 0 0]) := elT (by kernel_rfl : (Try.prog.info? 61).map (fun i => (i.size, i.bytes, i.zero)) = some (7, 168, some (.agg #[.slice none 0 0, .slice none 0 0, .slice none 0 0, .slice none 0 0, .slice none 0 0, .slice none 0 0, .slice none 0 0])))
instance : ElT Try.prog 74 1 24 (.slice none 0 0) := elT (by kernel_rfl : (Try.prog.info? 74).map (fun i => (i.size, i.bytes, i.zero)) = some (1, 24, some (.slice none 0 0)))
instance : FnT Try.prog 3 := ⟨⟨_, _, Try.func3, rfl, by simp [Try.f3]⟩⟩
instance : FnT Try.prog 4 := ⟨⟨_, _, Try.func4, rfl, by simp [Try.f4]⟩⟩
instance : FnT Try.prog 5 := ⟨⟨_, _, Try.func5, rfl, by simp [Try.f5]⟩⟩
instance : FnT Try.prog 6 := ⟨⟨_, _, Try.func6, rfl, by simp [Try.f6]⟩⟩
instance : FnT Try.prog 7 := ⟨⟨_, _, Try.func7, rfl, by simp [Try.f7]⟩⟩
instance : FnT Try.prog 8 := ⟨⟨_, _, Try.func8, rfl, by simp [Try.f8]⟩⟩
instance : FnT Try.prog 9 := ⟨⟨_, _, Try.func9, rfl, by simp [Try.f9]⟩⟩
instance : FnT Try.prog 10 := ⟨⟨_, _, Try.func10, rfl, by simp [Try.f10]⟩⟩
instance : FnT Try.prog 11 := ⟨⟨_, _, Try.func11, rfl, by simp [Try.f11]⟩⟩
instance : FnT Try.prog 12 := ⟨⟨_, _, Try.func12, rfl, by simp [Try.f12]⟩⟩
instance : FnT Try.prog 13 := ⟨⟨_, _, Try.func13, rfl, by simp [Try.f13]⟩⟩
instance : FnT Try.prog 14 := ⟨⟨_, _, Try.func14, rfl, by simp [Try.f14]⟩⟩
instance : FnT Try.prog 15 := ⟨⟨_, _, Try.func15, rfl, by simp [Try.f15]⟩⟩
instance : FnT Try.prog 16 := ⟨⟨_, _, Try.func16, rfl, by simp [Try.f16]⟩⟩
instance : FnT Try.prog 17 := ⟨⟨_, _, Try.func17, rfl, by simp [Try.f17]⟩⟩
instance : FnT Try.prog 18 := ⟨⟨_, _, Try.func18, rfl, by simp [Try.f18]⟩⟩
instance : FnT Try.prog 19 := ⟨⟨_, _, Try.func19, rfl, by simp [Try.f19]⟩⟩
instance : FnT Try.prog 20 := ⟨⟨_, _, Try.func20, rfl, by simp [Try.f20]⟩⟩
instance : FnT Try.prog 21 := ⟨⟨_, _, Try.func21, rfl, by simp [Try.f21]⟩⟩
instance : FnT Try.prog 22 := ⟨⟨_, _, Try.func22, rfl, by simp [Try.f22]⟩⟩
instance : FnT Try.prog 23 := ⟨⟨_, _, Try.func23, rfl, by simp [Try.f23]⟩⟩
instance : FnT Try.prog 24 := ⟨⟨_, _, Try.func24, rfl, by simp [Try.f24]⟩⟩
instance : FnT Try.prog 25 := ⟨⟨_, _, Try.func25, rfl, by simp [Try.f25]⟩⟩
instance : FnT Try.prog 26 := ⟨⟨_, _, Try.func26, rfl, by simp [Try.f26]⟩⟩
instance : FnT Try.prog 27 := ⟨⟨_, _, Try.func27, rfl, by simp [Try.f27]⟩⟩
instance : FnT Try.prog 28 := ⟨⟨_, _, Try.func28, rfl, by simp [Try.f28]⟩⟩
instance : FnT Try.prog 29 := ⟨⟨_, _, Try.func29, rfl, by simp [Try.f29]⟩⟩
instance : FnT Try.prog 30 := ⟨⟨_, _, Try.func30, rfl, by simp [Try.f30]⟩⟩
instance : FnT Try.prog 31 := ⟨⟨_, _, Try.func31, rfl, by simp [Try.f31]⟩⟩
instance : FnT Try.prog 32 := ⟨⟨_, _, Try.func32, rfl, by simp [Try.f32]⟩⟩
instance : FnT Try.prog 33 := ⟨⟨_, _, Try.func33, rfl, by simp [Try.f33]⟩⟩
instance : FnT Try.prog 34 := ⟨⟨_, _, Try.func34, rfl, by simp [Try.f34]⟩⟩
instance : FnT Try.prog 35 := ⟨⟨_, _, Try.func35, rfl, by simp [Try.f35]⟩⟩
instance : FnT Try.prog 36 := ⟨⟨_, _, Try.func36, rfl, by simp [Try.f36]⟩⟩
instance : FnT Try.prog 37 := ⟨⟨_, _, Try.func37, rfl, by simp [Try.f37]⟩⟩
instance : FnT Try.prog 38 := ⟨⟨_, _, Try.func38, rfl, by simp [Try.f38]⟩⟩
instance : FnT Try.prog 39 := ⟨⟨_, _, Try.func39, rfl, by simp [Try.f39]⟩⟩
instance : FnT Try.prog 40 := ⟨⟨_, _, Try.func40, rfl, by simp [Try.f40]⟩⟩
instance : FnT Try.prog 41 := ⟨⟨_, _, Try.func41, rfl, by simp [Try.f41]⟩⟩
instance : FnT Try.prog 42 := ⟨⟨_, _, Try.func42, rfl, by simp [Try.f42]⟩⟩
instance : FnT Try.prog 43 := ⟨⟨_, _, Try.func43, rfl, by simp [Try.f43]⟩⟩
instance : FnT Try.prog 44 := ⟨⟨_, _, Try.func44, rfl, by simp [Try.f44]⟩⟩
instance : FnT Try.prog 45 := ⟨⟨_, _, Try.func45, rfl, by simp [Try.f45]⟩⟩
instance : FnT Try.prog 46 := ⟨⟨_, _, Try.func46, rfl, by simp [Try.f46]⟩⟩
instance : FnT Try.prog 47 := ⟨⟨_, _, Try.func47, rfl, by simp [Try.f47]⟩⟩
instance : FnT Try.prog 48 := ⟨⟨_, _, Try.func48, rfl, by simp [Try.f48]⟩⟩
instance : FnT Try.prog 49 := ⟨⟨_, _, Try.func49, rfl, by simp [Try.f49]⟩⟩
instance : FnT Try.prog 50 := ⟨⟨_, _, Try.func50, rfl, by simp [Try.f50]⟩⟩
instance : FnT Try.prog 51 := ⟨⟨_, _, Try.func51, rfl, by simp [Try.f51]⟩⟩
instance : FnT Try.prog 52 := ⟨⟨_, _, Try.func52, rfl, by simp [Try.f52]⟩⟩
instance : FnT Try.prog 53 := ⟨⟨_, _, Try.func53, rfl, by simp [Try.f53]⟩⟩
instance : FnT Try.prog 54 := ⟨⟨_, _, Try.func54, rfl, by simp [Try.f54]⟩⟩
instance : FnT Try.prog 55 := ⟨⟨_, _, Try.func55, rfl, by simp [Try.f55]⟩⟩
instance : FnT Try.prog 56 := ⟨⟨_, _, Try.func56, rfl, by simp [Try.f56]⟩⟩
instance : FnT Try.prog 57 := ⟨⟨_, _, Try.func57, rfl, by simp [Try.f57]⟩⟩
instance : FnT Try.prog 58 := ⟨⟨_, _, Try.func58, rfl, by simp [Try.f58]⟩⟩
instance : FnT Try.prog 59 := ⟨⟨_, _, Try.func59, rfl, by simp [Try.f59]⟩⟩
instance : FnT Try.prog 60 := ⟨⟨_, _, Try.func60, rfl, by simp [Try.f60]⟩⟩
instance : FnT Try.prog 61 := ⟨⟨_, _, Try.func61, rfl, by simp [Try.f61]⟩⟩
instance : FnT Try.prog 62 := ⟨⟨_, _, Try.func62, rfl, by simp [Try.f62]⟩⟩
instance : FnT Try.prog 63 := ⟨⟨_, _, Try.func63, rfl, by simp [Try.f63]⟩⟩
instance : FnT Try.prog 64 := ⟨⟨_, _, Try.func64, rfl, by simp [Try.f64]⟩⟩
instance : FnT Try.prog 65 := ⟨⟨_, _, Try.func65, rfl, by simp [Try.f65]⟩⟩
instance : FnT Try.prog 66 := ⟨⟨_, _, Try.func66, rfl, by simp [Try.f66]⟩⟩
instance : FnT Try.prog 67 := ⟨⟨_, _, Try.func67, rfl, by simp [Try.f67]⟩⟩
instance : FnT Try.prog 68 := ⟨⟨_, _, Try.func68, rfl, by simp [Try.f68]⟩⟩
instance : FnT Try.prog 69 := ⟨⟨_, _, Try.func69, rfl, by simp [Try.f69]⟩⟩
instance : FnT Try.prog 70 := ⟨⟨_, _, Try.func70, rfl, by simp [Try.f70]⟩⟩
instance : FnT Try.prog 71 := ⟨⟨_, _, Try.func71, rfl, by simp [Try.f71]⟩⟩
instance : FnT Try.prog 72 := ⟨⟨_, _, Try.func72, rfl, by simp [Try.f72]⟩⟩
instance : FnT Try.prog 73 := ⟨⟨_, _, Try.func73, rfl, by simp [Try.f73]⟩⟩
instance : FnT Try.prog 74 := ⟨⟨_, _, Try.func74, rfl, by simp [Try.f74]⟩⟩
instance : FnT Try.prog 75 := ⟨⟨_, _, Try.func75, rfl, by simp [Try.f75]⟩⟩
instance : FnT Try.prog 76 := ⟨⟨_, _, Try.func76, rfl, by simp [Try.f76]⟩⟩
instance : FnT Try.prog 77 := ⟨⟨_, _, Try.func77, rfl, by simp [Try.f77]⟩⟩
instance : FnT Try.prog 78 := ⟨⟨_, _, Try.func78, rfl, by simp [Try.f78]⟩⟩
instance : FnT Try.prog 79 := ⟨⟨_, _, Try.func79, rfl, by simp [Try.f79]⟩⟩
instance : FnT Try.prog 80 := ⟨⟨_, _, Try.func80, rfl, by simp [Try.f80]⟩⟩
instance : FnT Try.prog 81 := ⟨⟨_, _, Try.func81, rfl, by simp [Try.f81]⟩⟩
instance : FnT Try.prog 82 := ⟨⟨_, _, Try.func82, rfl, by simp [Try.f82]⟩⟩
instance : FnT Try.prog 83 := ⟨⟨_, _, Try.func83, rfl, by simp [Try.f83]⟩⟩
instance : FnT Try.prog 84 := ⟨⟨_, _, Try.func84, rfl, by simp [Try.f84]⟩⟩
instance : FnT Try.prog 85 := ⟨⟨_, _, Try.func85, rfl, by simp [Try.f85]⟩⟩
instance : FnT Try.prog 86 := ⟨⟨_, _, Try.func86, rfl, by simp [Try.f86]⟩⟩
instance : FnT Try.prog 87 := ⟨⟨_, _, Try.func87, rfl, by simp [Try.f87]⟩⟩
instance : FnT Try.prog 88 := ⟨⟨_, _, Try.func88, rfl, by simp [Try.f88]⟩⟩
instance : FnT Try.prog 89 := ⟨⟨_, _, Try.func89, rfl, by simp [Try.f89]⟩⟩
instance : FnT Try.prog 90 := ⟨⟨_, _, Try.func90, rfl, by simp [Try.f90]⟩⟩
instance : FnT Try.prog 91 := ⟨⟨_, _, Try.func91, rfl, by simp [Try.f91]⟩⟩
instance : FnT Try.prog 92 := ⟨⟨_, _, Try.func92, rfl, by simp [Try.f92]⟩⟩
instance : FnT Try.prog 93 := ⟨⟨_, _, Try.func93, rfl, by simp [Try.f93]⟩⟩
instance : FnT Try.prog 94 := ⟨⟨_, _, Try.func94, rfl, by simp [Try.f94]⟩⟩
instance : FnT Try.prog 95 := ⟨⟨_, _, Try.func95, rfl, by simp [Try.f95]⟩⟩
instance : FnT Try.prog 96 := ⟨⟨_, _, Try.func96, rfl, by simp [Try.f96]⟩⟩
instance : FnT Try.prog 97 := ⟨⟨_, _, Try.func97, rfl, by simp [Try.f97]⟩⟩
instance : FnT Try.prog 98 := ⟨⟨_, _, Try.func98, rfl, by simp [Try.f98]⟩⟩
instance : FnT Try.prog 99 := ⟨⟨_, _, Try.func99, rfl, by simp [Try.f99]⟩⟩
instance : FnT Try.prog 100 := ⟨⟨_, _, Try.func100, rfl, by simp [Try.f100]⟩⟩
instance : FnT Try.prog 101 := ⟨⟨_, _, Try.func101, rfl, by simp [Try.f101]⟩⟩
instance : FnT Try.prog 102 := ⟨⟨_, _, Try.func102, rfl, by simp [Try.f102]⟩⟩
instance : FnT Try.prog 103 := ⟨⟨_, _, Try.func103, rfl, by simp [Try.f103]⟩⟩
instance : FnT Try.prog 104 := ⟨⟨_, _, Try.func104, rfl, by simp [Try.f104]⟩⟩
instance : FnT Try.prog 105 := ⟨⟨_, _, Try.func105, rfl, by simp [Try.f105]⟩⟩
instance : FnT Try.prog 106 := ⟨⟨_, _, Try.func106, rfl, by simp [Try.f106]⟩⟩
instance : FnT Try.prog 107 := ⟨⟨_, _, Try.func107, rfl, by simp [Try.f107]⟩⟩
instance : FnT Try.prog 108 := ⟨⟨_, _, Try.func108, rfl, by simp [Try.f108]⟩⟩
instance : FnT Try.prog 109 := ⟨⟨_, _, Try.func109, rfl, by simp [Try.f109]⟩⟩
instance : FnT Try.prog 110 := ⟨⟨_, _, Try.func110, rfl, by simp [Try.f110]⟩⟩
instance : FnT Try.prog 111 := ⟨⟨_, _, Try.func111, rfl, by simp [Try.f111]⟩⟩
instance : FnT Try.prog 112 := ⟨⟨_, _, Try.func112, rfl, by simp [Try.f112]⟩⟩
instance : FnT Try.prog 113 := ⟨⟨_, _, Try.func113, rfl, by simp [Try.f113]⟩⟩
instance : FnT Try.prog 114 := ⟨⟨_, _, Try.func114, rfl, by simp [Try.f114]⟩⟩
instance : FnT Try.prog 115 := ⟨⟨_, _, Try.func115, rfl, by simp [Try.f115]⟩⟩
instance : FnT Try.prog 116 := ⟨⟨_, _, Try.func116, rfl, by simp [Try.f116]⟩⟩
instance : FnT Try.prog 117 := ⟨⟨_, _, Try.func117, rfl, by simp [Try.f117]⟩⟩
instance : FnT Try.prog 118 := ⟨⟨_, _, Try.func118, rfl, by simp [Try.f118]⟩⟩
instance : FnT Try.prog 119 := ⟨⟨_, _, Try.func119, rfl, by simp [Try.f119]⟩⟩
instance : FnT Try.prog 120 := ⟨⟨_, _, Try.func120, rfl, by simp [Try.f120]⟩⟩
instance : FnT Try.prog 121 := ⟨⟨_, _, Try.func121, rfl, by simp [Try.f121]⟩⟩
instance : FnT Try.prog 122 := ⟨⟨_, _, Try.func122, rfl, by simp [Try.f122]⟩⟩
instance : FnT Try.prog 123 := ⟨⟨_, _, Try.func123, rfl, by simp [Try.f123]⟩⟩
instance : FnT Try.prog 124 := ⟨⟨_, _, Try.func124, rfl, by simp [Try.f124]⟩⟩
instance : FnT Try.prog 125 := ⟨⟨_, _, Try.func125, rfl, by simp [Try.f125]⟩⟩
instance : FnT Try.prog 126 := ⟨⟨_, _, Try.func126, rfl, by simp [Try.f126]⟩⟩
instance : FnT Try.prog 127 := ⟨⟨_, _, Try.func127, rfl, by simp [Try.f127]⟩⟩
instance : FnT Try.prog 128 := ⟨⟨_, _, Try.func128, rfl, by simp [Try.f128]⟩⟩
instance : FnT Try.prog 129 := ⟨⟨_, _, Try.func129, rfl, by simp [Try.f129]⟩⟩
instance : FnT Try.prog 130 := ⟨⟨_, _, Try.func130, rfl, by simp [Try.f130]⟩⟩
instance : FnT Try.prog 131 := ⟨⟨_, _, Try.func131, rfl, by simp [Try.f131]⟩⟩
instance : FnT Try.prog 132 := ⟨⟨_, _, Try.func132, rfl, by simp [Try.f132]⟩⟩
instance : FnT Try.prog 133 := ⟨⟨_, _, Try.func133, rfl, by simp [Try.f133]⟩⟩
instance : FnT Try.prog 134 := ⟨⟨_, _, Try.func134, rfl, by simp [Try.f134]⟩⟩
instance : FnT Try.prog 135 := ⟨⟨_, _, Try.func135, rfl, by simp [Try.f135]⟩⟩
instance : FnT Try.prog 136 := ⟨⟨_, _, Try.func136, rfl, by simp [Try.f136]⟩⟩
instance : FnT Try.prog 137 := ⟨⟨_, _, Try.func137, rfl, by simp [Try.f137]⟩⟩
instance : FnT Try.prog 138 := ⟨⟨_, _, Try.func138, rfl, by simp [Try.f138]⟩⟩
end Go.Proofs.Ytnphljflkpekmaa

/-
  Walks: the reference's small functions on lists (In, Own, Unit, Same, Zero, ..).
  Conditions: stated at each theorem: what the arguments read as, and that lists are short.
-/
namespace Go.Proofs.Ytnphljflkpekmaa
open Go Go.Pc
set_option maxHeartbeats 400000 in
theorem l01Own_ok {w : World} {v : Value} {xs : List Int} {lo hi : Nat} [hx : Ints lo hi w v xs] (hl : xs.length ≤ 2000000) :
    Calls Try.prog 98 #[v] w (Ret fun v' w' => Ext w w' ∧ Fr w.heap.size w' v' xs) := by
  refine enter (args := [v]) (l := [.tmp 2]) Try.func98 rfl rfl Try.ntmps98 (by simp) ?_
  refine go ?_
  refine st_slice0 (by first | exact True.intro | exact ⟨_, rfl, by ((try simp only [ev_tmp, ev_const, ev_func, get_put, get_args, get_putL, get_putL_nil, Nat.reduceEqDiff, reduceIte, List.getD_cons_zero, List.getD_cons_succ, List.getD_nil, Bool.not_true, Bool.not_false]); first | done | with_reducible rfl)⟩) fun w1 v1 he1 hs1 ho1 => ?_
  refine go ?_
  have hN := ho1.toN
  have hsl : Sl lo hi w1 v _ := Sl.ext (h := hx.sl)
  refine st_append (hv := hN) (hy := hsl) (by ((try simp only [ev_tmp, ev_const, ev_func, get_put, get_args, get_putL, get_putL_nil, Nat.reduceEqDiff, reduceIte, List.getD_cons_zero, List.getD_cons_succ, List.getD_nil]); first | done | with_reducible rfl)) (by ((try simp only [ev_tmp, ev_const, ev_func, get_put, get_args, get_putL, get_putL_nil, Nat.reduceEqDiff, reduceIte, List.getD_cons_zero, List.getD_cons_succ, List.getD_nil]); first | done | with_reducible rfl)) rfl (oneCells xs) (by simp; omega) (by simp [maxLen]; omega) (by omega) (by first | exact True.intro | exact ⟨_, rfl, by ((try simp only [ev_tmp, ev_const, ev_func, get_put, get_args, get_putL, get_putL_nil, Nat.reduceEqDiff, reduceIte, List.getD_cons_zero, List.getD_cons_succ, List.getD_nil, Bool.not_true, Bool.not_false]); first | done | with_reducible rfl)⟩) fun v2 w2 ho2 hg2 ha2 => ?_
  refine go ?_
  have hN2 : OwnN 2 w.heap.size w2 v2 (xs.map (Value.int .i64)) := by simpa using ho2
  refine ret1 ⟨?_, hN2.toFr⟩
  obtain ⟨cap, cur, hv1, _⟩ := ho1.ex
  exact ⟨he1.below.grown hg2 (by omega) (fun k hk => by rw [hv1] at hk; simp [Value.ownBlock] at hk; omega)⟩
set_option maxHeartbeats 400000 in
theorem l07Unit_ok {w : World} {n i : Nat} {kn ki : Int} (hkn : kn = n) (hki : ki = i) (hn : n ≤ 2000000) (hi : i < n) :
    Calls Try.prog 138 #[.int .i64 kn, .int .i64 ki] w (Ret fun v' w' => Ext w w' ∧ Fr w.heap.size w' v' ((zeros n).set i 1)) := by
  subst hkn hki
  refine enter (args := [.int .i64 n, .int .i64 i]) (l := [.tmp 4]) Try.func138 rfl rfl Try.ntmps138 (by simp) ?_
  refine go ?_
  refine st_make_int (by ((try simp only [ev_tmp, ev_const, ev_func, get_put, get_args, get_putL, get_putL_nil, Nat.reduceEqDiff, reduceIte, List.getD_cons_zero, List.getD_cons_succ, List.getD_nil]); first | done | with_reducible rfl)) (by ((try simp only [ev_tmp, ev_const, ev_func, get_put, get_args, get_putL, get_putL_nil, Nat.reduceEqDiff, reduceIte, List.getD_cons_zero, List.getD_cons_succ, List.getD_nil]); first | done | with_reducible rfl)) (by omega) (by omega) (by first | exact True.intro | exact ⟨_, rfl, by ((try simp only [ev_tmp, ev_const, ev_func, get_put, get_args, get_putL, get_putL_nil, Nat.reduceEqDiff, reduceIte, List.getD_cons_zero, List.getD_cons_succ, List.getD_nil, Bool.not_true, Bool.not_false]); first | done | with_reducible rfl)⟩) fun w1 v1 he1 hs1 ho1 => ?_
  have hlen : (List.replicate n (0 : Int)).length = n := by simp
  refine go ?_
  refine st_store_int (by ((try simp only [ev_tmp, ev_const, ev_func, get_put, get_args, get_putL, get_putL_nil, Nat.reduceEqDiff, reduceIte, List.getD_cons_zero, List.getD_cons_succ, List.getD_nil]); first | done | with_reducible rfl)) (by ((try simp only [ev_tmp, ev_const, ev_func, get_put, get_args, get_putL, get_putL_nil, Nat.reduceEqDiff, reduceIte, List.getD_cons_zero, List.getD_cons_succ, List.getD_nil]); first | done | with_reducible rfl)) ?_ (by first | exact True.intro | exact ⟨_, rfl, by ((try simp only [ev_tmp, ev_const, ev_func, get_put, get_args, get_putL, get_putL_nil, Nat.reduceEqDiff, reduceIte, List.getD_cons_zero, List.getD_cons_succ, List.getD_nil, Bool.not_true, Bool.not_false]); first | done | with_reducible rfl)⟩) fun w2 hc2 hs2 ho2 => ?_
  · omega
  refine go ?_
  exact ret1 ⟨hc2.ext he1 (Nat.le_refl _), ho2.toFr (Nat.le_refl _)⟩
theorem take_succ_eq {xs ys : List Int} {k : Nat} (h : xs.take k = ys.take k) (hk : k < xs.length) (hl : xs.length = ys.length) (e : xs.getD k 0 = ys.getD k 0) : xs.take (k + 1) = ys.take (k + 1) := by
  rw [List.take_succ_eq_append_getElem hk, List.take_succ_eq_append_getElem (by omega), h]
  simp [hk, show k < ys.length by omega] at e
  rw [e]
set_option maxHeartbeats 400000 in
theorem l01Same_ok {w : World} {va vb : Value} {xs ys : List Int} {lo hi lo' hi' : Nat} [hx : Ints lo hi w va xs] [hy : Ints lo' hi' w vb ys] (hm : xs.length ≤ 2000000) :
    Calls Try.prog 108 #[va, vb] w (Ret fun v w' => ∃ b, v = .bool b ∧ (b = true ↔ xs = ys) ∧ Ext w w') := by
  refine enter (args := [va, vb]) (l := [.tmp 4]) Try.func108 rfl rfl Try.ntmps108 (by simp) ?_
  refine go ?_
  refine c_if (fun h1 => ?_) (fun h1 => ?_)
  · refine go ?_
    refine ret1 ⟨_, rfl, ?_, Ext.refl _⟩
    simp only [Bool.false_eq_true, false_iff]
    rintro rfl
    simp at h1
  · refine go ?_
    refine r_for xs.length (fun k ρ w' => Has ρ [(0, va), (1, vb), (5, .int .i64 k)] ∧ Ext w w' ∧ xs.take k = ys.take k) ?_ ?_
    · refine ⟨?_, Ext.refl _, rfl⟩
      simp only [Has, ev_tmp, ev_const, ev_func, get_put, get_args, get_putL, get_putL_nil, Nat.reduceEqDiff, reduceIte, List.getD_cons_zero, List.getD_cons_succ, List.getD_nil]; simp
    · rintro k ρ w1 hk ⟨hH, he, ht⟩
      refine rwp_has hH fun ρ0 => ?_
      refine go ?_
      refine c_if (fun h2 => ?_) (fun h2 => ?_)
      · refine go ?_
        refine d_region fun w2 he2 _ => ?_
        refine dgo ?_
        refine d_end (h := ?_)
        refine go ?_
        refine c_if (fun h3 => ?_) (fun h3 => ?_)
        · refine go ?_
          refine ret1 ⟨_, rfl, ?_, he.trans he2⟩
          simp only [Bool.false_eq_true, false_iff]
          rintro rfl
          exact h3 rfl
        · refine go ?_
          refine forQ_normal (by omega) ⟨?_, he.trans he2, take_succ_eq ht (by omega) (by omega) ?_⟩
          · simp only [Has, ev_tmp, ev_const, ev_func, get_put, get_args, get_putL, get_putL_nil, Nat.reduceEqDiff, reduceIte, List.getD_cons_zero, List.getD_cons_succ, List.getD_nil]; simp
          · exact Decidable.not_not.1 h3
      · refine go ?_
        refine ret1 ⟨_, rfl, ?_, he⟩
        have : k = xs.length := by omega
        subst this
        simp only [true_iff]
        rw [List.take_of_length_le (Nat.le_refl _), List.take_of_length_le (by omega)] at ht
        exact ht
set_option maxHeartbeats 400000 in
theorem eqInt64S_ok {w : World} {va vb : Value} {xs ys : List Int} {lo hi lo' hi' : Nat} [hx : Ints lo hi w va xs] [hy : Ints lo' hi' w vb ys] (hm : xs.length ≤ 2000000) :
    Calls Try.prog 29 #[va, vb] w (Ret fun v w' => ∃ b, v = .bool b ∧ (b = true ↔ xs = ys) ∧ Ext w w') := by
  refine enter (args := [va, vb]) (l := [.tmp 4]) Try.func29 rfl rfl Try.ntmps29 (by simp) ?_
  refine go ?_
  refine c_if (fun h1 => ?_) (fun h1 => ?_)
  · refine go ?_
    refine ret1 ⟨_, rfl, ?_, Ext.refl _⟩
    simp only [Bool.false_eq_true, false_iff]
    rintro rfl
    simp at h1
  · refine go ?_
    refine r_for xs.length (fun k ρ w' => Has ρ [(0, va), (1, vb), (5, .int .i64 k)] ∧ Ext w w' ∧ xs.take k = ys.take k) ?_ ?_
    · refine ⟨?_, Ext.refl _, rfl⟩
      simp only [Has, ev_tmp, ev_const, ev_func, get_put, get_args, get_putL, get_putL_nil, Nat.reduceEqDiff, reduceIte, List.getD_cons_zero, List.getD_cons_succ, List.getD_nil]; simp
    · rintro k ρ w1 hk ⟨hH, he, ht⟩
      refine rwp_has hH fun ρ0 => ?_
      refine go ?_
      refine c_if (fun h2 => ?_) (fun h2 => ?_)
      · refine go ?_
        refine d_region fun w2 he2 _ => ?_
        refine dgo ?_
        refine d_end (h := ?_)
        refine go ?_
        refine c_if (fun h3 => ?_) (fun h3 => ?_)
        · refine go ?_
          refine ret1 ⟨_, rfl, ?_, he.trans he2⟩
          simp only [Bool.false_eq_true, false_iff]
          rintro rfl
          exact h3 rfl
        · refine go ?_
          refine forQ_normal (by omega) ⟨?_, he.trans he2, take_succ_eq ht (by omega) (by omega) ?_⟩
          · simp only [Has, ev_tmp, ev_const, ev_func, get_put, get_args, get_putL, get_putL_nil, Nat.reduceEqDiff, reduceIte, List.getD_cons_zero, List.getD_cons_succ, List.getD_nil]; simp
          · exact Decidable.not_not.1 h3
      · refine go ?_
        refine ret1 ⟨_, rfl, ?_, he⟩
        have : k = xs.length := by omega
        subst this
        simp only [true_iff]
        rw [List.take_of_length_le (Nat.le_refl _), List.take_of_length_le (by omega)] at ht
        exact ht
end Go.Proofs.Ytnphljflkpekmaa

/-
  Walks: the reference's remainder and inverse of numbers (l01Mod, l01Inv) and the comparison of two lists of lists (l01Same2).
  Conditions: stated at each theorem.
-/
namespace Go.Proofs.Ytnphljflkpekmaa
open Go Go.Pc
theorem l01Mod_ok {w : World} {a m : Int} (ha : 0 ≤ a ∧ a ≤ 2000000) (hm : 1 ≤ m ∧ m ≤ 2000000) :
    Calls Try.prog 131 #[.int .i64 a, .int .i64 m] w (Ret fun v w' => v = .int .i64 (a % m) ∧ Ext w w') := by
  refine enter (args := [.int .i64 a, .int .i64 m]) (l := [.tmp 4]) Try.func131 rfl rfl Try.ntmps131 (by simp) ?_
  refine go ?_
  have h0 := Int.emod_nonneg a (show m ≠ 0 by omega)
  refine c_if (fun h4 => ?_) (fun h4 => ?_)
  · omega
  · refine go ?_
    exact ret1 ⟨rfl, Ext.refl _⟩
theorem inv_ex {a q : Int} (hq : q = 2 ∨ q = 3 ∨ q = 5 ∨ q = 7) (ha : 1 ≤ a ∧ a < q) : ∃ x, 1 ≤ x ∧ x < q ∧ (a * x) % q = 1 := by
  have h : a = 1 ∨ a = 2 ∨ a = 3 ∨ a = 4 ∨ a = 5 ∨ a = 6 := by omega
  rcases hq with rfl | rfl | rfl | rfl <;> rcases h with rfl | rfl | rfl | rfl | rfl | rfl <;>
    first
      | omega
      | exact ⟨1, by decide⟩
      | exact ⟨2, by decide⟩
      | exact ⟨3, by decide⟩
      | exact ⟨4, by decide⟩
      | exact ⟨5, by decide⟩
      | exact ⟨6, by decide⟩
set_option maxHeartbeats 1000000 in
theorem l01Inv_ok {w : World} {a q : Int} (hq : q = 2 ∨ q = 3 ∨ q = 5 ∨ q = 7) (ha : 1 ≤ a ∧ a < q) :
    Calls Try.prog 110 #[.int .i64 a, .int .i64 q] w (Ret fun v w' => ∃ x, v = .int .i64 x ∧ 1 ≤ x ∧ x < q ∧ (a * x) % q = 1 ∧ Ext w w') := by
  refine enter (args := [.int .i64 a, .int .i64 q]) (l := [.tmp 4]) Try.func110 rfl rfl Try.ntmps110 (by simp) ?_
  refine go ?_
  have hq7 : q ≤ 7 := by omega
  refine r_for (q - 1).toNat (fun k ρ w' => Has ρ [(0, .int .i64 a), (1, .int .i64 q), (5, .int .i64 (1 + k : Nat))] ∧ Ext w w' ∧ ∀ j : Int, 1 ≤ j → j < 1 + k → (a * j) % q ≠ 1) ?_ ?_
  · refine ⟨?_, Ext.refl _, fun j h1 h2 => by omega⟩
    exact hasP
  rintro k ρ w1 hk ⟨hH, he1, hI⟩
  refine rwp_has hH fun ρ0 => ?_
  refine go ?_
  refine c_if (fun h4 => ?_) (fun h4 => ?_)
  · refine go ?_
    refine rc (l01Mod_ok (a := a) (m := q) ?_ ?_) (next := fun v2 w2 h2 => ?_)
    · omega
    · omega
    obtain ⟨rfl, he2⟩ := h2
    rw [Int.emod_eq_of_lt (by omega) ha.2]
    have hb : 0 ≤ a * ((1 + k : Nat) : Int) ∧ a * ((1 + k : Nat) : Int) ≤ 7 * 7 :=
      ⟨Int.mul_nonneg (by omega) (by omega), Int.mul_le_mul (by omega) (by omega) (by omega) (by omega)⟩
    refine go ?_
    refine ra (h := rd_mul (by ((try simp only [ev_tmp, ev_const, ev_func, get_put, get_args, get_putL, get_putL_nil, Nat.reduceEqDiff, reduceIte, List.getD_cons_zero, List.getD_cons_succ, List.getD_nil]); first | done | with_reducible rfl)) (by ((try simp only [ev_tmp, ev_const, ev_func, get_put, get_args, get_putL, get_putL_nil, Nat.reduceEqDiff, reduceIte, List.getD_cons_zero, List.getD_cons_succ, List.getD_nil]); first | done | with_reducible rfl)) ?_) (next := ?_)
    · omega
    refine go ?_
    refine c_if (fun h5 => ?_) (fun h5 => ?_)
    · refine go ?_
      exact ret1 ⟨_, rfl, by omega, by omega, h5, he1.trans he2⟩
    · refine go ?_
      refine forQ_normal (by omega) ⟨?_, he1.trans he2, fun j h1 h2 => ?_⟩
      · exact hasP
      · by_cases e : j = (1 + k : Nat)
        · subst e; exact h5
        · exact hI j h1 (by omega)
  · exfalso
    obtain ⟨x, h1, h2, h3⟩ := inv_ex hq ha
    exact hI x h1 (by omega) h3
set_option maxHeartbeats 1000000 in
theorem l01Same2_ok {w : World} {va vb : Value} {us vs : List Value} {xss yss : List (List Int)} {lo hi lo1 hi1 : Nat} [hx : Pc.Rows lo hi w va us xss] [hy : Pc.Rows lo1 hi1 w vb vs yss] (hm : ∀ i, (xss.getD i []).length ≤ 2000000) (hl : xss.length ≤ 10000000) :
    Calls Try.prog 75 #[va, vb] w (Ret fun v w' => ∃ b, v = .bool b ∧ (b = true ↔ xss = yss) ∧ Ext w w') := by
  have hul := hx.vals.len
  have hvl := hy.vals.len
  refine enter (args := [va, vb]) (l := [.tmp 4]) Try.func75 rfl rfl Try.ntmps75 (by simp) ?_
  refine go ?_
  refine c_if (fun h1 => ?_) (fun h1 => ?_)
  · refine go ?_
    refine ret1 ⟨_, rfl, ?_, Ext.refl _⟩
    simp only [Bool.false_eq_true, false_iff]
    rintro rfl
    omega
  · have hxy : xss.length = yss.length := by omega
    refine go ?_
    refine r_for xss.length (fun k ρ w' => Has ρ [(0, va), (1, vb), (5, .int .i64 k)] ∧ Ext w w' ∧ ∀ i, i < k → xss.getD i [] = yss.getD i []) ?_ ?_
    · refine ⟨?_, Ext.refl _, fun i hi => by omega⟩
      exact hasP
    rintro k ρ w1 hk ⟨hH, he1, hI⟩
    refine rwp_has hH fun ρ0 => ?_
    refine go ?_
    refine c_if (fun h4 => ?_) (fun h4 => ?_)
    · refine go ?_
      refine d_region fun w2 he2 _ => ?_
      refine dgo ?_
      refine dc (l01Same_ok (xs := xss.getD k []) (ys := yss.getD k []) (hm k)) (next := fun v3 w3 h3 => ?_)
      obtain ⟨b3, rfl, hb3, he3⟩ := h3
      refine ⟨fun h => h.trans he3, ?_⟩
      refine dgo ?_
      refine d_end (h := ?_)
      refine go ?_
      refine c_b (fun h5 => ?_) (fun h5 => ?_)
      · refine go ?_
        refine ret1 ⟨_, rfl, ?_, (he1.trans he2).trans he3⟩
        simp only [Bool.false_eq_true, false_iff]
        rintro rfl
        have := hb3.2 rfl
        rw [this] at h5; cases h5
      · have h6 := hb3.1 (by simpa using h5)
        refine go ?_
        refine forQ_normal (by omega) ⟨?_, (he1.trans he2).trans he3, fun i hi => ?_⟩
        · exact hasP
        · by_cases e : i = k
          · subst e; exact h6
          · exact hI i (by omega)
    · refine go ?_
      refine ret1 ⟨_, rfl, ?_, he1⟩
      simp only [true_iff]
      apply List.ext_getElem hxy
      intro i h1 h2
      have := hI i (by omega)
      simpa [h1, h2] using this
set_option maxHeartbeats 1000000 in
theorem eqInt64SS_ok {w : World} {va vb : Value} {us vs : List Value} {xss yss : List (List Int)} {lo hi lo1 hi1 : Nat} [hx : Pc.Rows lo hi w va us xss] [hy : Pc.Rows lo1 hi1 w vb vs yss] (hm : ∀ i, (xss.getD i []).length ≤ 2000000) (hl : xss.length ≤ 10000000) :
    Calls Try.prog 12 #[va, vb] w (Ret fun v w' => ∃ b, v = .bool b ∧ (b = true ↔ xss = yss) ∧ Ext w w') := by
  have hul := hx.vals.len
  have hvl := hy.vals.len
  refine enter (args := [va, vb]) (l := [.tmp 4]) Try.func12 rfl rfl Try.ntmps12 (by simp) ?_
  refine go ?_
  refine c_if (fun h1 => ?_) (fun h1 => ?_)
  · refine go ?_
    refine ret1 ⟨_, rfl, ?_, Ext.refl _⟩
    simp only [Bool.false_eq_true, false_iff]
    rintro rfl
    omega
  · have hxy : xss.length = yss.length := by omega
    refine go ?_
    refine r_for xss.length (fun k ρ w' => Has ρ [(0, va), (1, vb), (5, .int .i64 k)] ∧ Ext w w' ∧ ∀ i, i < k → xss.getD i [] = yss.getD i []) ?_ ?_
    · refine ⟨?_, Ext.refl _, fun i hi => by omega⟩
      exact hasP
    rintro k ρ w1 hk ⟨hH, he1, hI⟩
    refine rwp_has hH fun ρ0 => ?_
    refine go ?_
    refine c_if (fun h4 => ?_) (fun h4 => ?_)
    · refine go ?_
      refine d_region fun w2 he2 _ => ?_
      refine dgo ?_
      refine dc (eqInt64S_ok (xs := xss.getD k []) (ys := yss.getD k []) (hm k)) (next := fun v3 w3 h3 => ?_)
      obtain ⟨b3, rfl, hb3, he3⟩ := h3
      refine ⟨fun h => h.trans he3, ?_⟩
      refine dgo ?_
      refine d_end (h := ?_)
      refine go ?_
      refine c_b (fun h5 => ?_) (fun h5 => ?_)
      · refine go ?_
        refine ret1 ⟨_, rfl, ?_, (he1.trans he2).trans he3⟩
        simp only [Bool.false_eq_true, false_iff]
        rintro rfl
        have := hb3.2 rfl
        rw [this] at h5; cases h5
      · have h6 := hb3.1 (by simpa using h5)
        refine go ?_
        refine forQ_normal (by omega) ⟨?_, (he1.trans he2).trans he3, fun i hi => ?_⟩
        · exact hasP
        · by_cases e : i = k
          · subst e; exact h6
          · exact hI i (by omega)
    · refine go ?_
      refine ret1 ⟨_, rfl, ?_, he1⟩
      simp only [true_iff]
      apply List.ext_getElem hxy
      intro i h1 h2
      have := hI i (by omega)
      simpa [h1, h2] using this
end Go.Proofs.Ytnphljflkpekmaa

/-
  Walks: the statement's own helpers on lists: sizes, copies, comparisons (szInt64S, .., toInt64S, .., eqInt64SSS).
  Conditions: stated at each theorem.
-/
namespace Go.Proofs.Ytnphljflkpekmaa
open Go Go.Pc
theorem szInt64S_ok {w : World} {v : Value} {xs : List Int} {k : Int} {lo hi : Nat} [hx : Ints lo hi w v xs] (hk : 0 ≤ k ∧ k ≤ 2000000) :
    Calls Try.prog 21 #[v, .int .i64 k] w (Ret fun v w' => ∃ j : Int, v = .int .i64 j ∧ (j < 0 ∨ 0 ≤ j ∧ j ≤ k ∧ (xs.length : Int) ≤ k) ∧ Ext w w') := by
  have hl : xs.length ≤ 9223372036854775807 := by
    obtain ⟨A, c, _, hc, hm, _⟩ := hx.sl.ex
    simp at hc; omega
  refine enter (args := [v, .int .i64 k]) (l := [.tmp 4]) Try.func21 rfl rfl Try.ntmps21 (by simp) ?_
  refine go ?_
  refine c_if (fun h4 => ?_) (fun h4 => ?_)
  · refine go ?_
    exact ret1 ⟨-1, rfl, .inl (by omega), Ext.refl _⟩
  · refine go ?_
    exact ret1 ⟨k - xs.length, rfl, .inr ⟨by omega, by omega, by omega⟩, Ext.refl _⟩
theorem sl_len {lo hi : Nat} {w : World} {v : Value} {us : List Value} (h : Sl lo hi w v us) : us.length ≤ 9223372036854775807 := by
  obtain ⟨A, c, _, hc, hm, _⟩ := h.ex
  omega
set_option maxHeartbeats 1000000 in
theorem szInt64SS_ok {w : World} {v : Value} {us : List Value} {xss : List (List Int)} {k : Int} {lo hi : Nat} [hx : Pc.Rows lo hi w v us xss] (hk : 0 ≤ k ∧ k ≤ 2000000) :
    Calls Try.prog 6 #[v, .int .i64 k] w (Ret fun v w' => ∃ j : Int, v = .int .i64 j ∧ (j < 0 ∨ 0 ≤ j ∧ j ≤ k ∧ (xss.length : Int) ≤ k ∧ ∀ i, ((xss.getD i []).length : Int) ≤ k) ∧ Ext w w') := by
  have hl := sl_len hx.sl
  have hul := hx.vals.len
  refine enter (args := [v, .int .i64 k]) (l := [.tmp 4]) Try.func6 rfl rfl Try.ntmps6 (by simp) ?_
  refine go ?_
  refine c_if (fun h4 => ?_) (fun h4 => ?_)
  · refine go ?_
    exact ret1 ⟨-1, rfl, .inl (by omega), Ext.refl _⟩
  refine go ?_
  refine r_for xss.length (fun q ρ w' => ∃ j : Int, Has ρ [(0, v), (1, .int .i64 j), (5, .int .i64 q)] ∧ Ext w w' ∧ 0 ≤ j ∧ j ≤ k ∧ ∀ i, i < q → ((xss.getD i []).length : Int) ≤ k) ?_ ?_
  · refine ⟨k - xss.length, ?_, Ext.refl _, by omega, by omega, fun i hi => by omega⟩
    exact hasP
  rintro q ρ w2 hq ⟨j, hH, he2, hj0, hjk, hI⟩
  refine rwp_has hH fun ρ0 => ?_
  refine go ?_
  refine c_if (fun h5 => ?_) (fun h5 => ?_)
  · refine go ?_
    refine rc (szInt64S_ok (xs := xss.getD q []) (k := j) ?_) (next := fun v3 w3 h3 => ?_)
    · omega
    obtain ⟨j3, rfl, hj3, he3⟩ := h3
    refine go ?_
    refine c_if (fun h6 => ?_) (fun h6 => ?_)
    · refine go ?_
      exact ret1 ⟨-1, rfl, .inl (by omega), he2.trans he3⟩
    · have h7 : 0 ≤ j3 ∧ j3 ≤ j ∧ ((xss.getD q []).length : Int) ≤ j := by
        rcases hj3 with h | h
        · omega
        · exact h
      refine go ?_
      refine forQ_normal (by omega) ⟨j3, ?_, he2.trans he3, by omega, by omega, fun i hi => ?_⟩
      · exact hasP
      · by_cases e : i = q
        · subst e; omega
        · exact hI i (by omega)
  · refine go ?_
    refine ret1 ⟨j, rfl, .inr ⟨hj0, hjk, by omega, fun i => ?_⟩, he2⟩
    by_cases hi : i < xss.length
    · exact hI i (by omega)
    · rw [List.getD_eq_getElem?_getD, List.getElem?_eq_none (by omega)]; simp; omega
set_option maxHeartbeats 1000000 in
theorem szInt64SSS_ok {w : World} {v : Value} {us : List Value} {uss : List (List Value)} {xsss : List (List (List Int))} {k : Int} {lo hi : Nat} [hx : Rowss lo hi w v us uss xsss] (hk : 0 ≤ k ∧ k ≤ 2000000) :
    Calls Try.prog 22 #[v, .int .i64 k] w (Ret fun v w' => ∃ j : Int, v = .int .i64 j ∧ (j < 0 ∨ 0 ≤ j ∧ j ≤ k ∧ (xsss.length : Int) ≤ k ∧ ∀ i, ((xsss.getD i []).length : Int) ≤ k ∧ ∀ h, (((xsss.getD i []).getD h []).length : Int) ≤ k) ∧ Ext w w') := by
  have hl := sl_len hx.sl
  have hul := hx.vals.len
  refine enter (args := [v, .int .i64 k]) (l := [.tmp 4]) Try.func22 rfl rfl Try.ntmps22 (by simp) ?_
  refine go ?_
  refine c_if (fun h4 => ?_) (fun h4 => ?_)
  · refine go ?_
    exact ret1 ⟨-1, rfl, .inl (by omega), Ext.refl _⟩
  refine go ?_
  refine r_for xsss.length (fun q ρ w' => ∃ j : Int, Has ρ [(0, v), (1, .int .i64 j), (5, .int .i64 q)] ∧ Ext w w' ∧ 0 ≤ j ∧ j ≤ k ∧ ∀ i, i < q → ((xsss.getD i []).length : Int) ≤ k ∧ ∀ h, (((xsss.getD i []).getD h []).length : Int) ≤ k) ?_ ?_
  · refine ⟨k - xsss.length, ?_, Ext.refl _, by omega, by omega, fun i hi => by omega⟩
    exact hasP
  rintro q ρ w2 hq ⟨j, hH, he2, hj0, hjk, hI⟩
  refine rwp_has hH fun ρ0 => ?_
  refine go ?_
  refine c_if (fun h5 => ?_) (fun h5 => ?_)
  · refine go ?_
    refine rc (szInt64SS_ok (xss := xsss.getD q []) (k := j) ?_) (next := fun v3 w3 h3 => ?_)
    · omega
    obtain ⟨j3, rfl, hj3, he3⟩ := h3
    refine go ?_
    refine c_if (fun h6 => ?_) (fun h6 => ?_)
    · refine go ?_
      exact ret1 ⟨-1, rfl, .inl (by omega), he2.trans he3⟩
    · have h7 : 0 ≤ j3 ∧ j3 ≤ j ∧ ((xsss.getD q []).length : Int) ≤ j ∧ ∀ i, (((xsss.getD q []).getD i []).length : Int) ≤ j := by
        rcases hj3 with h | h
        · omega
        · exact h
      refine go ?_
      refine forQ_normal (by omega) ⟨j3, ?_, he2.trans he3, by omega, by omega, fun i hi => ?_⟩
      · exact hasP
      · by_cases e : i = q
        · subst e; exact ⟨by omega, fun h => by have := h7.2.2.2 h; omega⟩
        · exact hI i (by omega)
  · refine go ?_
    refine ret1 ⟨j, rfl, .inr ⟨hj0, hjk, by omega, fun i => ?_⟩, he2⟩
    by_cases hi : i < xsss.length
    · exact hI i (by omega)
    · rw [List.getD_eq_getElem?_getD, List.getElem?_eq_none (by omega)]; simp; omega
set_option maxHeartbeats 1000000 in
theorem toInt64S_ok {w : World} {v : Value} {xs : List Int} {lo hi : Nat} [hx : Ints lo hi w v xs] (hl : xs.length ≤ 2000000) :
    Calls Try.prog 25 #[v] w (Ret fun v' w' => Ext w w' ∧ Fr w.heap.size w' v' xs) := by
  refine enter (args := [v]) (l := [.tmp 2]) Try.func25 rfl rfl Try.ntmps25 (by simp) ?_
  refine go ?_
  refine st_make_int (by ((try simp only [ev_tmp, ev_const, ev_func, get_put, get_args, get_putL, get_putL_nil, Nat.reduceEqDiff, reduceIte, List.getD_cons_zero, List.getD_cons_succ, List.getD_nil]); first | done | with_reducible rfl)) (by ((try simp only [ev_tmp, ev_const, ev_func, get_put, get_args, get_putL, get_putL_nil, Nat.reduceEqDiff, reduceIte, List.getD_cons_zero, List.getD_cons_succ, List.getD_nil]); first | done | with_reducible rfl)) (by omega) (by omega) (by first | exact True.intro | exact ⟨_, rfl, by ((try simp only [ev_tmp, ev_const, ev_func, get_put, get_args, get_putL, get_putL_nil, Nat.reduceEqDiff, reduceIte, List.getD_cons_zero, List.getD_cons_succ, List.getD_nil, Bool.not_true, Bool.not_false]); first | done | with_reducible rfl)⟩) fun w1 v1 he1 hs1 ho1 => ?_
  replace hx := hx.wide
  have ap : Apart 0 w.heap.size w.heap.size := ⟨.inr (Nat.le_refl _)⟩
  refine go ?_
  refine r_for xs.length (fun k ρ w' => ∃ ys, Has ρ [(0, v), (3, v1), (4, .int .i64 k)] ∧ Chg w.heap.size w1 w' ∧ OwnI 2 w.heap.size w' v1 ys ∧ ys.length = xs.length ∧ ∀ i, i < k → ys.getD i 0 = xs.getD i 0) ?_ ?_
  · refine ⟨_, ?_, Chg.refl _ _, ho1, by simp, fun i hi => by omega⟩
    exact hasP
  clear ho1
  rintro k ρ w2 hk ⟨ys, hH, hc2, ho2, hl2, hI⟩
  refine rwp_has hH fun ρ0 => ?_
  refine go ?_
  refine c_if (fun h4 => ?_) (fun h4 => ?_)
  · refine go ?_
    refine st_store_int (by ((try simp only [ev_tmp, ev_const, ev_func, get_put, get_args, get_putL, get_putL_nil, Nat.reduceEqDiff, reduceIte, List.getD_cons_zero, List.getD_cons_succ, List.getD_nil]); first | done | with_reducible rfl)) (by ((try simp only [ev_tmp, ev_const, ev_func, get_put, get_args, get_putL, get_putL_nil, Nat.reduceEqDiff, reduceIte, List.getD_cons_zero, List.getD_cons_succ, List.getD_nil]); first | done | with_reducible rfl)) ?_ (by first | exact True.intro | exact ⟨_, rfl, by ((try simp only [ev_tmp, ev_const, ev_func, get_put, get_args, get_putL, get_putL_nil, Nat.reduceEqDiff, reduceIte, List.getD_cons_zero, List.getD_cons_succ, List.getD_nil, Bool.not_true, Bool.not_false]); first | done | with_reducible rfl)⟩) fun w3 hc3 hs3 ho3 => ?_
    · omega
    refine go ?_
    refine forQ_normal (by omega) ⟨_, ?_, hc2.trans hc3, ho3, by simp [hl2], fun i hi => ?_⟩
    · exact hasP
    · by_cases e : k = i
      · subst e; rw [Pc.getD_set_eq _ _ _ (by omega)]
      · rw [Pc.getD_set_ne _ _ _ _ e]; exact hI i (by omega)
  · refine go ?_
    have hy : ys = xs := list_ext0 hl2 fun i hi => hI i (by omega)
    subst hy
    exact ret1 ⟨hc2.ext he1 (Nat.le_refl _), ho2.toFr (Nat.le_refl _)⟩
theorem set_nils {α : Type} (l : List α) (z u : α) (m : Nat) : (l ++ List.replicate (m + 1) z).set l.length u = (l ++ [u]) ++ List.replicate m z := by
  simp [List.replicate_succ]
set_option maxHeartbeats 1000000 in
theorem toInt64SSO_ok {w : World} {v : Value} {us : List Value} {xss : List (List Int)} {lo hi : Nat} [hx : Pc.Rows lo hi w v us xss] (hl : xss.length ≤ 2000000) (hr : ∀ i, (xss.getD i []).length ≤ 2000000) :
    Calls Try.prog 9 #[v] w (Ret fun v' w' => Ext w w' ∧ ∃ rs, Lst 22 w.heap.size (· < w.heap.size) w' v' (rs.map (·.1)) xss ∧ xss = rs.map (·.2) ∧ RowsO w.heap.size w' rs) := by
  refine enter (args := [v]) (l := [.tmp 2]) Try.func9 rfl rfl Try.ntmps9 (by simp) ?_
  refine go ?_
  refine st_make_nil (by ((try simp only [ev_tmp, ev_const, ev_func, get_put, get_args, get_putL, get_putL_nil, Nat.reduceEqDiff, reduceIte, List.getD_cons_zero, List.getD_cons_succ, List.getD_nil]); first | done | with_reducible rfl)) (by ((try simp only [ev_tmp, ev_const, ev_func, get_put, get_args, get_putL, get_putL_nil, Nat.reduceEqDiff, reduceIte, List.getD_cons_zero, List.getD_cons_succ, List.getD_nil]); first | done | with_reducible rfl)) (by omega) (by omega) (by first | exact True.intro | exact ⟨_, rfl, by ((try simp only [ev_tmp, ev_const, ev_func, get_put, get_args, get_putL, get_putL_nil, Nat.reduceEqDiff, reduceIte, List.getD_cons_zero, List.getD_cons_succ, List.getD_nil, Bool.not_true, Bool.not_false]); first | done | with_reducible rfl)⟩) fun w1 v1 he1 hs1 ho1 => ?_
  have hvb := ho1.toN_block
  have hL1 : Lst 22 w.heap.size (· < w.heap.size) w1 v1 _ _ := Lst.ofNils ho1 (Nat.le_refl _) (by omega) (fun g hg => by omega)
  refine go ?_
  refine r_for xss.length (fun k ρ w' => ∃ rs : List (Value × List Int), Has ρ [(0, v), (3, v1), (4, .int .i64 k)] ∧ Ext w w' ∧ Lst 22 w.heap.size (· < w.heap.size) w' v1 (rs.map (·.1) ++ List.replicate (xss.length - k) nilv) (rs.map (·.2) ++ List.replicate (xss.length - k) []) ∧ rs.length = k ∧ rs.map (·.2) = xss.take k ∧ RowsO (w.heap.size + 1) w' rs ∧ w.heap.size + 1 ≤ w'.heap.size) ?_ ?_
  · refine ⟨[], ?_, he1, by simpa using hL1, rfl, by simp, RowsO.nil _ _, by omega⟩
    exact hasP
  clear hL1 ho1
  rintro k ρ w2 hk ⟨rs, hH, he2, hL2, hl2, hI, hO2, hsz2⟩
  refine rwp_has hH fun ρ0 => ?_
  have hLr := hL2.toRows
  refine go ?_
  refine c_if (fun h4 => ?_) (fun h4 => ?_)
  · refine go ?_
    refine rc (toInt64S_ok (xs := xss.getD k []) (hr k)) (next := fun v3 w3 h3 => ?_)
    obtain ⟨he3, hf3⟩ := h3
    have hL3 := hL2.ext he3
    have hO3 := hL3.toOwn hvb
    have hz2 := he2.size
    have hul : (rs.map (·.1) ++ List.replicate (xss.length - k) nilv).length = xss.length := by simp; omega
    have hul2 : (rs.map (·.2) ++ List.replicate (xss.length - k) ([] : List Int)).length = xss.length := by simp; omega
    refine go ?_
    refine st_store_val (h := hO3) (by ((try simp only [ev_tmp, ev_const, ev_func, get_put, get_args, get_putL, get_putL_nil, Nat.reduceEqDiff, reduceIte, List.getD_cons_zero, List.getD_cons_succ, List.getD_nil]); first | done | with_reducible rfl)) (by ((try simp only [ev_tmp, ev_const, ev_func, get_put, get_args, get_putL, get_putL_nil, Nat.reduceEqDiff, reduceIte, List.getD_cons_zero, List.getD_cons_succ, List.getD_nil]); first | done | with_reducible rfl)) ?_ ?_ (by first | exact True.intro | exact ⟨_, rfl, by ((try simp only [ev_tmp, ev_const, ev_func, get_put, get_args, get_putL, get_putL_nil, Nat.reduceEqDiff, reduceIte, List.getD_cons_zero, List.getD_cons_succ, List.getD_nil, Bool.not_true, Bool.not_false]); first | done | with_reducible rfl)⟩) fun w4 hc4 hs4 ho4 => ?_
    · exact hf3.ints.sl.one
    · omega
    have hL4 := hL3.set hvb (IntsAp.ofFr hf3 (fun g hg => by
      rcases hg with hg | hg
      · omega
      · exact (hL2.lt hg).2)) hc4 ho4 (by omega)
    have hkn : k < xss.length := by omega
    have e0 : xss.length - k = (xss.length - (k + 1)) + 1 := by omega
    have e1 := set_nils (rs.map (·.1)) nilv v3 (xss.length - (k + 1))
    have e2 := set_nils (rs.map (·.2)) [] (xss.getD k []) (xss.length - (k + 1))
    rw [List.length_map, hl2, ← e0] at e1 e2
    rw [e1, e2] at hL4
    have hO4 := hO2.push he3 hsz2 hf3
    have hO5 := hO4.wr (.one (B := fun b => b = w.heap.size) rfl hc4) fun b hb e => by have := (hO4.blk hb).1; omega
    have hz3 := he3.size
    refine go ?_
    refine forQ_normal (by omega) ⟨rs ++ [(v3, xss.getD k [])], ?_, hc4.ext (he2.trans he3) (Nat.le_refl _), by simpa using hL4, by simp [hl2], ?_, hO5, by omega⟩
    · exact hasP
    · rw [List.take_succ_eq_append_getElem hkn, List.map_append, hI]; simp [hkn]
  · refine go ?_
    obtain rfl : k = xss.length := by omega
    rw [List.take_length] at hI
    refine ret1 ⟨he2, rs, ?_, hI.symm, hO2.mono (by omega)⟩
    simpa [hI] using hL2
theorem toInt64SS_ok {w : World} {v : Value} {us : List Value} {xss : List (List Int)} {lo hi : Nat} [hx : Pc.Rows lo hi w v us xss] (hl : xss.length ≤ 2000000) (hr : ∀ i, (xss.getD i []).length ≤ 2000000) :
    Calls Try.prog 9 #[v] w (Ret fun v' w' => Ext w w' ∧ ∃ us', Lst 22 w.heap.size (· < w.heap.size) w' v' us' xss) :=
  Pc.Calls.ret_mono (toInt64SSO_ok hl hr) fun _ _ ⟨h1, _, h2, _⟩ => ⟨h1, _, h2⟩
end Go.Proofs.Ytnphljflkpekmaa

/-
  Walks: the statement's own helpers on presentations: sizes, copies, comparisons (toInt64SSS, szPresentation, toPresentation, eqInt64SSS, eqPresentation).
  Conditions: stated at each theorem.
-/
namespace Go.Proofs.Ytnphljflkpekmaa
open Go Go.Pc
set_option maxHeartbeats 1000000 in
theorem toInt64SSS_ok {w : World} {v : Value} {us : List Value} {uss : List (List Value)} {xsss : List (List (List Int))} {lo hi : Nat} [hx : Rowss lo hi w v us uss xsss] (hl : xsss.length ≤ 2000000) (hr : ∀ i, (xsss.getD i []).length ≤ 2000000 ∧ ∀ j, ((xsss.getD i []).getD j []).length ≤ 2000000) :
    Calls Try.prog 26 #[v] w (Ret fun v' w' => Ext w w' ∧ ∃ us' uss', Rowss w.heap.size w'.heap.size w' v' us' uss' xsss) := by
  refine enter (args := [v]) (l := [.tmp 2]) Try.func26 rfl rfl Try.ntmps26 (by simp) ?_
  refine go ?_
  refine st_make_nil (by ((try simp only [ev_tmp, ev_const, ev_func, get_put, get_args, get_putL, get_putL_nil, Nat.reduceEqDiff, reduceIte, List.getD_cons_zero, List.getD_cons_succ, List.getD_nil]); first | done | with_reducible rfl)) (by ((try simp only [ev_tmp, ev_const, ev_func, get_put, get_args, get_putL, get_putL_nil, Nat.reduceEqDiff, reduceIte, List.getD_cons_zero, List.getD_cons_succ, List.getD_nil]); first | done | with_reducible rfl)) (by omega) (by omega) (by first | exact True.intro | exact ⟨_, rfl, by ((try simp only [ev_tmp, ev_const, ev_func, get_put, get_args, get_putL, get_putL_nil, Nat.reduceEqDiff, reduceIte, List.getD_cons_zero, List.getD_cons_succ, List.getD_nil, Bool.not_true, Bool.not_false]); first | done | with_reducible rfl)⟩) fun w1 v1 he1 hs1 ho1 => ?_
  refine go ?_
  refine r_for xsss.length (fun k ρ w' => ∃ (us' : List Value) (uss' : List (List Value)) (ysss : List (List (List Int))), Has ρ [(0, v), (3, v1), (4, .int .i64 k)] ∧ Ext w w' ∧ Own 23 w.heap.size w' v1 us' ∧ us'.length = xsss.length ∧ uss'.length = xsss.length ∧ ysss.length = xsss.length ∧
    (∀ i, Pc.Rows (w.heap.size + 1) w'.heap.size w' (us'.getD i nilv) (uss'.getD i []) (ysss.getD i [])) ∧ ∀ i, i < k → ysss.getD i [] = xsss.getD i []) ?_ ?_
  · refine ⟨_, List.replicate xsss.length [], List.replicate xsss.length [], ?_, he1, ho1, by simp, by simp, by simp, fun i => ?_, fun i hi => by omega⟩
    · exact hasP
    · have e1 : (List.replicate xsss.length nilv).getD i nilv = nilv := by
        rw [List.getD_eq_getElem?_getD, List.getElem?_replicate]; split <;> rfl
      have e2 : (List.replicate xsss.length ([] : List Value)).getD i [] = [] := by
        rw [List.getD_eq_getElem?_getD, List.getElem?_replicate]; split <;> rfl
      have e3 : (List.replicate xsss.length ([] : List (List Int))).getD i [] = [] := by
        rw [List.getD_eq_getElem?_getD, List.getElem?_replicate]; split <;> rfl
      rw [e1, e2, e3]
      refine ⟨⟨⟨none, 0, rfl, Nat.le_refl _, by omega, fun k u hu => by simp at hu⟩⟩, rfl, fun i => ?_⟩
      exact ⟨⟨none, 0, by simp, by simp, by omega, fun k u hu => by simp at hu⟩⟩
  clear ho1
  rintro k ρ w2 hk ⟨us', uss', ysss, hH, he2, ho2, hl1, hl2, hl3, hR, hI⟩
  refine rwp_has hH fun ρ0 => ?_
  have hsl := ho2.toSl
  refine go ?_
  refine c_if (fun h4 => ?_) (fun h4 => ?_)
  · refine go ?_
    refine rc (toInt64SS_ok (xss := xsss.getD k []) (hr k).1 (hr k).2) (next := fun v3 w3 h3 => ?_)
    obtain ⟨he3, us3, hL3⟩ := h3
    have hN3 := hL3.newRows
    have ho3 : Own 23 w.heap.size w3 v1 us' := Own.ext (h := ho2)
    have hsl3 := ho3.toSl
    have hlen3 := hsl3.toLen
    have hz2 := he2.size
    have hz3 := he3.size
    have hol := ho2.lt
    refine go ?_
    refine st_store_val (h := ho3) (by ((try simp only [ev_tmp, ev_const, ev_func, get_put, get_args, get_putL, get_putL_nil, Nat.reduceEqDiff, reduceIte, List.getD_cons_zero, List.getD_cons_succ, List.getD_nil]); first | done | with_reducible rfl)) (by ((try simp only [ev_tmp, ev_const, ev_func, get_put, get_args, get_putL, get_putL_nil, Nat.reduceEqDiff, reduceIte, List.getD_cons_zero, List.getD_cons_succ, List.getD_nil]); first | done | with_reducible rfl)) ?_ ?_ (by first | exact True.intro | exact ⟨_, rfl, by ((try simp only [ev_tmp, ev_const, ev_func, get_put, get_args, get_putL, get_putL_nil, Nat.reduceEqDiff, reduceIte, List.getD_cons_zero, List.getD_cons_succ, List.getD_nil, Bool.not_true, Bool.not_false]); first | done | with_reducible rfl)⟩) fun w4 hc4 hs4 ho4 => ?_
    · exact hN3.sl.one
    · omega
    refine go ?_
    refine forQ_normal (by omega) ⟨us'.set k v3, uss'.set k us3, ysss.set k (xsss.getD k []), ?_, hc4.ext (he2.trans he3) (Nat.le_refl _), ho4, by simp [hl1], by simp [hl2], by simp [hl3], fun i => ?_, fun i hi => ?_⟩
    · exact hasP
    · by_cases e : k = i
      · subst e
        have e1 : (us'.set k v3).getD k nilv = v3 := by simp [show k < us'.length by omega]
        have e2 : (uss'.set k us3).getD k [] = us3 := by simp [show k < uss'.length by omega]
        have e3 : (ysss.set k (xsss.getD k [])).getD k [] = xsss.getD k [] := by simp [show k < ysss.length by omega]
        rw [e1, e2, e3]
        exact (hN3.same (hc4.same (.inl (by omega)))).mono (by omega) (by omega)
      · have e1 : (us'.set k v3).getD i nilv = us'.getD i nilv := by simp [List.getElem?_set_ne e]
        have e2 : (uss'.set k us3).getD i [] = uss'.getD i [] := by simp [List.getElem?_set_ne e]
        have e3 : (ysss.set k (xsss.getD k [])).getD i [] = ysss.getD i [] := by simp [List.getElem?_set_ne e]
        rw [e1, e2, e3]
        exact (((hR i).same (he3.same _ _)).same (hc4.same (.inl (by omega)))).mono (Nat.le_refl _) (by omega)
    · by_cases e : k = i
      · subst e; simp [show k < ysss.length by omega]
      · have : (ysss.set k (xsss.getD k [])).getD i [] = ysss.getD i [] := by simp [List.getElem?_set_ne e]
        rw [this]; exact hI i (by omega)
  · refine go ?_
    refine ret1 ⟨he2, us', uss', ?_⟩
    have hy : ysss = xsss := by
      apply List.ext_getElem hl3
      intro i h1 h2
      have := hI i (by omega)
      simpa [h1, h2] using this
    subst hy
    exact ⟨hsl.mono (Nat.le_refl _) (by have := ho2.lt; omega), hl1, hl2, fun i => (hR i).mono (by omega) (Nat.le_refl _)⟩
theorem rowss_mono {lo hi lo' hi' : Nat} {w : World} {v : Value} {us : List Value} {uss : List (List Value)} {xsss : List (List (List Int))} (h : Rowss lo hi w v us uss xsss) (h1 : lo' ≤ lo) (h2 : hi ≤ hi') : Rowss lo' hi' w v us uss xsss :=
  ⟨h.sl.mono h1 h2, h.vals.len, h.vals.len', fun i => (h.vals.at_ i).mono h1 h2⟩
/-- The sizes of a presentation, none above k. -/
structure SizeP (p : Pr) (k : Int) : Prop where
  ord : (p.ord.length : Int) ≤ k
  pow : (p.pow.length : Int) ≤ k
  powi : ∀ i, ((p.pow.getD i []).length : Int) ≤ k
  cnj : (p.cnj.length : Int) ≤ k
  cnji : ∀ i, ((p.cnj.getD i []).length : Int) ≤ k
  cnjij : ∀ i j, (((p.cnj.getD i []).getD j []).length : Int) ≤ k
set_option maxHeartbeats 1000000 in
theorem szPresentation_ok {w : World} {v : Value} {p : Pr} {k : Int} {lo hi : Nat} [hp : Pres lo hi w v p] (hk : 0 ≤ k ∧ k ≤ 2000000) :
    Calls Try.prog 5 #[v, .int .i64 k] w (Ret fun v w' => ∃ j : Int, v = .int .i64 j ∧ (j < 0 ∨ 0 ≤ j ∧ j ≤ k ∧ SizeP p k) ∧ Ext w w') := by
  obtain ⟨vo, vpw, vc, ps, cs, css, rfl, h1, h2, h3⟩ := hp.ex
  refine enter (args := [.agg #[vo, vpw, vc], .int .i64 k]) (l := [.tmp 4]) Try.func5 rfl rfl Try.ntmps5 (by simp) ?_
  refine go ?_
  refine st_box3 (by ((try simp only [ev_tmp, ev_const, ev_func, get_put, get_args, get_putL, get_putL_nil, Nat.reduceEqDiff, reduceIte, List.getD_cons_zero, List.getD_cons_succ, List.getD_nil]); first | done | with_reducible rfl)) (by first | exact True.intro | exact ⟨_, rfl, by ((try simp only [ev_tmp, ev_const, ev_func, get_put, get_args, get_putL, get_putL_nil, Nat.reduceEqDiff, reduceIte, List.getD_cons_zero, List.getD_cons_succ, List.getD_nil, Bool.not_true, Bool.not_false]); first | done | with_reducible rfl)⟩) fun w1 b he1 hb1 hs1 hc0 hc1 hc2 => ?_
  refine go ?_
  refine rc (szInt64S_ok (xs := p.ord) hk) (next := fun v2 w2 h4 => ?_)
  obtain ⟨j2, rfl, hj2, he2⟩ := h4
  refine go ?_
  refine c_if (fun h5 => ?_) (fun h5 => ?_)
  · refine go ?_
    exact ret1 ⟨-1, rfl, .inl (by omega), he1.trans he2⟩
  have h6 : 0 ≤ j2 ∧ j2 ≤ k ∧ (p.ord.length : Int) ≤ k := by
    rcases hj2 with h | h
    · omega
    · exact h
  refine go ?_
  refine rc (szInt64SS_ok (xss := p.pow) (k := j2) ?_) (next := fun v3 w3 h7 => ?_)
  · omega
  obtain ⟨j3, rfl, hj3, he3⟩ := h7
  refine go ?_
  refine c_if (fun h8 => ?_) (fun h8 => ?_)
  · refine go ?_
    exact ret1 ⟨-1, rfl, .inl (by omega), (he1.trans he2).trans he3⟩
  have h9 : 0 ≤ j3 ∧ j3 ≤ j2 ∧ (p.pow.length : Int) ≤ j2 ∧ ∀ i, ((p.pow.getD i []).length : Int) ≤ j2 := by
    rcases hj3 with h | h
    · omega
    · exact h
  refine go ?_
  refine rc (szInt64SSS_ok (xsss := p.cnj) (k := j3) ?_) (next := fun v4 w4 h10 => ?_)
  · omega
  obtain ⟨j4, rfl, hj4, he4⟩ := h10
  refine go ?_
  refine c_if (fun h11 => ?_) (fun h11 => ?_)
  · refine go ?_
    exact ret1 ⟨-1, rfl, .inl (by omega), ((he1.trans he2).trans he3).trans he4⟩
  have h12 : 0 ≤ j4 ∧ j4 ≤ j3 ∧ (p.cnj.length : Int) ≤ j3 ∧ ∀ i, ((p.cnj.getD i []).length : Int) ≤ j3 ∧ ∀ h, (((p.cnj.getD i []).getD h []).length : Int) ≤ j3 := by
    rcases hj4 with h | h
    · omega
    · exact h
  refine go ?_
  refine ret1 ⟨j4, rfl, .inr ⟨h12.1, by omega, ⟨h6.2.2, by omega, fun i => by have := h9.2.2.2 i; omega, by omega, fun i => by have := (h12.2.2.2 i).1; omega, fun i j => by have := (h12.2.2.2 i).2 j; omega⟩⟩, ((he1.trans he2).trans he3).trans he4⟩
set_option maxHeartbeats 1000000 in
theorem toPresentation_ok {w : World} {v : Value} {p : Pr} {lo hi : Nat} [hp : Pres lo hi w v p] (hs : SizeP p 2000000) :
    Calls Try.prog 8 #[v] w (Ret fun v w' => Ext w w' ∧ Pres w.heap.size w'.heap.size w' v p) := by
  have hs1 := hs.ord
  have hs2 := hs.pow
  have hs3 := hs.cnj
  obtain ⟨vo, vpw, vc, ps, cs, css, rfl, h1, h2, h3⟩ := hp.ex
  refine enter (args := [.agg #[vo, vpw, vc]]) (l := [.cell 2 29]) Try.func8 rfl rfl Try.ntmps8 (by simp) ?_
  refine go ?_
  refine st_box3 (by ((try simp only [ev_tmp, ev_const, ev_func, get_put, get_args, get_putL, get_putL_nil, Nat.reduceEqDiff, reduceIte, List.getD_cons_zero, List.getD_cons_succ, List.getD_nil]); first | done | with_reducible rfl)) (by first | exact True.intro | exact ⟨_, rfl, by ((try simp only [ev_tmp, ev_const, ev_func, get_put, get_args, get_putL, get_putL_nil, Nat.reduceEqDiff, reduceIte, List.getD_cons_zero, List.getD_cons_succ, List.getD_nil, Bool.not_true, Bool.not_false]); first | done | with_reducible rfl)⟩) fun w1 b he1 hb1 hsz1 hc0 hc1 hc2 => ?_
  refine go ?_
  refine st_alloc (by first | exact True.intro | exact ⟨_, rfl, by ((try simp only [ev_tmp, ev_const, ev_func, get_put, get_args, get_putL, get_putL_nil, Nat.reduceEqDiff, reduceIte, List.getD_cons_zero, List.getD_cons_succ, List.getD_nil, Bool.not_true, Bool.not_false]); first | done | with_reducible rfl)⟩) fun w2 br he2 hbr hsz2 hbk2 => ?_
  refine go ?_
  refine st_alloc (by first | exact True.intro | exact ⟨_, rfl, by ((try simp only [ev_tmp, ev_const, ev_func, get_put, get_args, get_putL, get_putL_nil, Nat.reduceEqDiff, reduceIte, List.getD_cons_zero, List.getD_cons_succ, List.getD_nil, Bool.not_true, Bool.not_false]); first | done | with_reducible rfl)⟩) fun w3 bo he3 hbo hsz3 hbk3 => ?_
  have hE3 := (he1.trans he2).trans he3
  refine go ?_
  refine rc (toInt64S_ok (xs := p.ord) (by omega)) (next := fun v4 w4 h4 => ?_)
  obtain ⟨he4, hf4⟩ := h4
  have hb4 : Blk w4 bo _ := Blk.ext (h := hbk3)
  have hz4 := he4.size
  refine go ?_
  refine st_store_fld (h := hb4) (by ((try simp only [ev_tmp, ev_const, ev_func, get_put, get_args, get_putL, get_putL_nil, Nat.reduceEqDiff, reduceIte, List.getD_cons_zero, List.getD_cons_succ, List.getD_nil]); first | done | with_reducible rfl)) (by ((try simp only [ev_tmp, ev_const, ev_func, get_put, get_args, get_putL, get_putL_nil, Nat.reduceEqDiff, reduceIte, List.getD_cons_zero, List.getD_cons_succ, List.getD_nil]); first | done | with_reducible rfl)) ?_ ?_ (by first | exact True.intro | exact ⟨_, rfl, by ((try simp only [ev_tmp, ev_const, ev_func, get_put, get_args, get_putL, get_putL_nil, Nat.reduceEqDiff, reduceIte, List.getD_cons_zero, List.getD_cons_succ, List.getD_nil, Bool.not_true, Bool.not_false]); first | done | with_reducible rfl)⟩) fun w5 hc5 hs5 hb5 => ?_
  · exact hf4.ints.sl.one
  · simp
  have hE15 : Ext w1 w5 := hc5.ext ((he2.trans he3).trans he4) (by have := he2.size; omega)
  have hz15 := hE15.size
  have hz2 := he2.size
  have hi5 : Ints w3.heap.size w4.heap.size w5 v4 p.ord := hf4.ints.same (hc5.same (.inl (by omega)))
  have hr5 : Blk w5 br _ := (Blk.ext (x := he3.trans he4) (h := hbk2)).chg' hc5 (by omega)
  refine go ?_
  refine rc (toInt64SS_ok (xss := p.pow) (by omega) (fun i => by have := hs.powi i; omega)) (next := fun v6 w6 h6 => ?_)
  obtain ⟨he6, us6, hL6⟩ := h6
  have hN6 := hL6.newRows
  have hb6 : Blk w6 bo _ := Blk.ext (h := hb5)
  have hz6 := he6.size
  refine go ?_
  refine st_store_fld (h := hb6) (by ((try simp only [ev_tmp, ev_const, ev_func, get_put, get_args, get_putL, get_putL_nil, Nat.reduceEqDiff, reduceIte, List.getD_cons_zero, List.getD_cons_succ, List.getD_nil]); first | done | with_reducible rfl)) (by ((try simp only [ev_tmp, ev_const, ev_func, get_put, get_args, get_putL, get_putL_nil, Nat.reduceEqDiff, reduceIte, List.getD_cons_zero, List.getD_cons_succ, List.getD_nil]); first | done | with_reducible rfl)) ?_ ?_ (by first | exact True.intro | exact ⟨_, rfl, by ((try simp only [ev_tmp, ev_const, ev_func, get_put, get_args, get_putL, get_putL_nil, Nat.reduceEqDiff, reduceIte, List.getD_cons_zero, List.getD_cons_succ, List.getD_nil, Bool.not_true, Bool.not_false]); first | done | with_reducible rfl)⟩) fun w7 hc7 hs7 hb7 => ?_
  · exact hN6.sl.one
  · simp
  have hE17 : Ext w1 w7 := hc7.ext (hE15.trans he6) (by omega)
  have hi7 : Ints w3.heap.size w4.heap.size w7 v4 p.ord := (hi5.same (he6.same _ _)).same (hc7.same (.inl (by omega)))
  have hp7 : Pc.Rows w5.heap.size w6.heap.size w7 v6 us6 p.pow := hN6.same (hc7.same (.inl (by omega)))
  have hr7 : Blk w7 br _ := (Blk.ext (x := he6) (h := hr5)).chg' hc7 (by omega)
  refine go ?_
  refine rc (toInt64SSS_ok (xsss := p.cnj) (by omega) (fun i => ⟨by have := hs.cnji i; omega, fun j => by have := hs.cnjij i j; omega⟩)) (next := fun v8 w8 h8 => ?_)
  obtain ⟨he8, us8, uss8, hR8⟩ := h8
  have hb8 : Blk w8 bo _ := Blk.ext (h := hb7)
  have hz8 := he8.size
  refine go ?_
  refine st_store_fld (h := hb8) (by ((try simp only [ev_tmp, ev_const, ev_func, get_put, get_args, get_putL, get_putL_nil, Nat.reduceEqDiff, reduceIte, List.getD_cons_zero, List.getD_cons_succ, List.getD_nil]); first | done | with_reducible rfl)) (by ((try simp only [ev_tmp, ev_const, ev_func, get_put, get_args, get_putL, get_putL_nil, Nat.reduceEqDiff, reduceIte, List.getD_cons_zero, List.getD_cons_succ, List.getD_nil]); first | done | with_reducible rfl)) ?_ ?_ (by first | exact True.intro | exact ⟨_, rfl, by ((try simp only [ev_tmp, ev_const, ev_func, get_put, get_args, get_putL, get_putL_nil, Nat.reduceEqDiff, reduceIte, List.getD_cons_zero, List.getD_cons_succ, List.getD_nil, Bool.not_true, Bool.not_false]); first | done | with_reducible rfl)⟩) fun w9 hc9 hs9 hb9 => ?_
  · exact hR8.sl.one
  · simp
  have hE19 : Ext w1 w9 := hc9.ext (hE17.trans he8) (by omega)
  have hi9 : Ints w3.heap.size w4.heap.size w9 v4 p.ord := (hi7.same (he8.same _ _)).same (hc9.same (.inl (by omega)))
  have hp9 : Pc.Rows w5.heap.size w6.heap.size w9 v6 us6 p.pow := (hp7.same (he8.same _ _)).same (hc9.same (.inl (by omega)))
  have hq9 : Rowss w7.heap.size w8.heap.size w9 v8 us8 uss8 p.cnj := hR8.same (hc9.same (.inl (by omega)))
  have hr9 : Blk w9 br _ := (Blk.ext (x := he8) (h := hr7)).chg' hc9 (by omega)
  refine go ?_
  have hb9' : Blk w9 bo [v4, v6, v8] := hb9
  refine ra (v := .agg #[v4, v6, v8]) (h := rd_load_blk (hb := hb9') (by ((try simp only [ev_tmp, ev_const, ev_func, get_put, get_args, get_putL, get_putL_nil, Nat.reduceEqDiff, reduceIte, List.getD_cons_zero, List.getD_cons_succ, List.getD_nil]); first | done | with_reducible rfl)) rfl) (next := ?_)
  refine st_store_agg (vs := [v4, v6, v8]) (cs := _) (hb := hr9) (by ((try simp only [ev_tmp, ev_const, ev_func, get_put, get_args, get_putL, get_putL_nil, Nat.reduceEqDiff, reduceIte, List.getD_cons_zero, List.getD_cons_succ, List.getD_nil]); first | done | with_reducible rfl)) (by ((try simp only [ev_tmp, ev_const, ev_func, get_put, get_args, get_putL, get_putL_nil, Nat.reduceEqDiff, reduceIte, List.getD_cons_zero, List.getD_cons_succ, List.getD_nil]); first | done | with_reducible rfl)) rfl ?_ ?_ (by first | exact True.intro | exact ⟨_, rfl, by ((try simp only [ev_tmp, ev_const, ev_func, get_put, get_args, get_putL, get_putL_nil, Nat.reduceEqDiff, reduceIte, List.getD_cons_zero, List.getD_cons_succ, List.getD_nil, Bool.not_true, Bool.not_false]); first | done | with_reducible rfl)⟩) fun w10 hc10 hs10 hb10 => ?_
  · rfl
  · have e1 := hi9.sl.one
    have e2 := hp9.sl.one
    have e3 := hq9.sl.one
    simp [e1, e2, e3]
  refine go ?_
  refine retc (b := br) (hb := hb10) ⟨hc10.ext (he1.trans hE19) (by omega), ?_⟩ rfl
  have hi10 := (hi9.same (hc10.same (.inl (by omega)))).mono (lo' := w.heap.size) (hi' := w10.heap.size) (by omega) (by omega)
  have hp10 := (hp9.same (hc10.same (.inl (by omega)))).mono (lo' := w.heap.size) (hi' := w10.heap.size) (by omega) (by omega)
  have hq10 := rowss_mono (lo' := w.heap.size) (hi' := w10.heap.size) (hq9.same (hc10.same (.inl (by omega)))) (by omega) (by omega)
  exact ⟨⟨v4, v6, v8, us6, us8, uss8, rfl, hi10, hp10, hq10⟩⟩
set_option maxHeartbeats 1000000 in
theorem eqInt64SSS_ok {w : World} {va vb : Value} {us vs : List Value} {uss vss : List (List Value)} {xsss ysss : List (List (List Int))} {lo hi lo1 hi1 : Nat} [hx : Rowss lo hi w va us uss xsss] [hy : Rowss lo1 hi1 w vb vs vss ysss] (hm : ∀ i, (xsss.getD i []).length ≤ 2000000 ∧ ∀ j, ((xsss.getD i []).getD j []).length ≤ 2000000) (hl : xsss.length ≤ 10000000) :
    Calls Try.prog 30 #[va, vb] w (Ret fun v w' => ∃ b, v = .bool b ∧ (b = true ↔ xsss = ysss) ∧ Ext w w') := by
  have hul := hx.vals.len
  have hvl := hy.vals.len
  refine enter (args := [va, vb]) (l := [.tmp 4]) Try.func30 rfl rfl Try.ntmps30 (by simp) ?_
  refine go ?_
  refine c_if (fun h1 => ?_) (fun h1 => ?_)
  · refine go ?_
    refine ret1 ⟨_, rfl, ?_, Ext.refl _⟩
    simp only [Bool.false_eq_true, false_iff]
    rintro rfl
    omega
  · have hxy : xsss.length = ysss.length := by omega
    refine go ?_
    refine r_for xsss.length (fun k ρ w' => Has ρ [(0, va), (1, vb), (5, .int .i64 k)] ∧ Ext w w' ∧ ∀ i, i < k → xsss.getD i [] = ysss.getD i []) ?_ ?_
    · refine ⟨?_, Ext.refl _, fun i hi => by omega⟩
      exact hasP
    rintro k ρ w1 hk ⟨hH, he1, hI⟩
    refine rwp_has hH fun ρ0 => ?_
    refine go ?_
    refine c_if (fun h4 => ?_) (fun h4 => ?_)
    · refine go ?_
      refine d_region fun w2 he2 _ => ?_
      refine dgo ?_
      refine dce (eqInt64SS_ok (xss := xsss.getD k []) (yss := ysss.getD k []) (hm k).2 (by have := (hm k).1; omega)) (next := fun v3 w3 h3 => ?_)
      obtain ⟨b3, rfl, hb3, he3⟩ := h3
      refine dgo ?_
      refine d_end (h := ?_)
      refine go ?_
      refine c_b (fun h5 => ?_) (fun h5 => ?_)
      · refine go ?_
        refine ret1 ⟨_, rfl, ?_, (he1.trans he2).trans he3⟩
        simp only [Bool.false_eq_true, false_iff]
        rintro rfl
        have := hb3.2 rfl
        rw [this] at h5; cases h5
      · have h6 := hb3.1 (by simpa using h5)
        refine go ?_
        refine forQ_normal (by omega) ⟨?_, (he1.trans he2).trans he3, fun i hi => ?_⟩
        · exact hasP
        · by_cases e : i = k
          · subst e; exact h6
          · exact hI i (by omega)
    · refine go ?_
      refine ret1 ⟨_, rfl, ?_, he1⟩
      simp only [true_iff]
      apply List.ext_getElem hxy
      intro i h1 h2
      have := hI i (by omega)
      simpa [h1, h2] using this
theorem pr_ext {p q : Pr} (h1 : p.ord = q.ord) (h2 : p.pow = q.pow) (h3 : p.cnj = q.cnj) : p = q := by cases p; cases q; simp_all
set_option maxHeartbeats 1000000 in
theorem eqPresentation_ok {w : World} {va vb : Value} {p q : Pr} {lo hi lo1 hi1 : Nat} [hp : Pres lo hi w va p] [hq : Pres lo1 hi1 w vb q] (hs : SizeP p 2000000) :
    Calls Try.prog 11 #[va, vb] w (Ret fun v w' => ∃ b, v = .bool b ∧ (b = true ↔ p = q) ∧ Ext w w') := by
  have hs1 := hs.ord
  have hs2 := hs.pow
  have hs3 := hs.cnj
  obtain ⟨vo, vpw, vc, ps, cs, css, rfl, h1, h2, h3⟩ := hp.ex
  obtain ⟨vo', vpw', vc', ps', cs', css', rfl, h1', h2', h3'⟩ := hq.ex
  refine enter (args := [.agg #[vo, vpw, vc], .agg #[vo', vpw', vc']]) (l := [.tmp 4]) Try.func11 rfl rfl Try.ntmps11 (by simp) ?_
  refine go ?_
  refine st_box3 (by ((try simp only [ev_tmp, ev_const, ev_func, get_put, get_args, get_putL, get_putL_nil, Nat.reduceEqDiff, reduceIte, List.getD_cons_zero, List.getD_cons_succ, List.getD_nil]); first | done | with_reducible rfl)) (by first | exact True.intro | exact ⟨_, rfl, by ((try simp only [ev_tmp, ev_const, ev_func, get_put, get_args, get_putL, get_putL_nil, Nat.reduceEqDiff, reduceIte, List.getD_cons_zero, List.getD_cons_succ, List.getD_nil, Bool.not_true, Bool.not_false]); first | done | with_reducible rfl)⟩) fun w1 b he1 hb1 hsz1 hc0 hc1 hc2 => ?_
  refine go ?_
  refine st_box3 (by ((try simp only [ev_tmp, ev_const, ev_func, get_put, get_args, get_putL, get_putL_nil, Nat.reduceEqDiff, reduceIte, List.getD_cons_zero, List.getD_cons_succ, List.getD_nil]); first | done | with_reducible rfl)) (by first | exact True.intro | exact ⟨_, rfl, by ((try simp only [ev_tmp, ev_const, ev_func, get_put, get_args, get_putL, get_putL_nil, Nat.reduceEqDiff, reduceIte, List.getD_cons_zero, List.getD_cons_succ, List.getD_nil, Bool.not_true, Bool.not_false]); first | done | with_reducible rfl)⟩) fun w2 b' he2 hb2 hsz2 hc0' hc1' hc2' => ?_
  have hE2 := he1.trans he2
  have no : ∀ {w' : World}, p ≠ q → Ext w w' → ∃ b, Value.bool false = .bool b ∧ (b = true ↔ p = q) ∧ Ext w w' := fun h he => ⟨_, rfl, by simp [h], he⟩
  refine go ?_
  refine rc (eqInt64S_ok (xs := p.ord) (ys := q.ord) (by omega)) (next := fun v3 w3 h4 => ?_)
  obtain ⟨b3, rfl, hb3, he3⟩ := h4
  refine go ?_
  refine c_b (fun h5 => ?_) (fun h5 => ?_)
  · refine go ?_
    refine ret1 (no (fun e => ?_) (hE2.trans he3))
    rw [hb3.2 (by rw [e])] at h5; cases h5
  have e1 := hb3.1 (by simpa using h5)
  refine go ?_
  refine rc (eqInt64SS_ok (xss := p.pow) (yss := q.pow) (fun i => by have := hs.powi i; omega) (by omega)) (next := fun v4 w4 h6 => ?_)
  obtain ⟨b4, rfl, hb4, he4⟩ := h6
  refine go ?_
  refine c_b (fun h7 => ?_) (fun h7 => ?_)
  · refine go ?_
    refine ret1 (no (fun e => ?_) ((hE2.trans he3).trans he4))
    rw [hb4.2 (by rw [e])] at h7; cases h7
  have e2 := hb4.1 (by simpa using h7)
  refine go ?_
  refine rc (eqInt64SSS_ok (xsss := p.cnj) (ysss := q.cnj) (fun i => ⟨by have := hs.cnji i; omega, fun j => by have := hs.cnjij i j; omega⟩) (by omega)) (next := fun v5 w5 h8 => ?_)
  obtain ⟨b5, rfl, hb5, he5⟩ := h8
  refine go ?_
  refine c_b (fun h9 => ?_) (fun h9 => ?_)
  · refine go ?_
    refine ret1 (no (fun e => ?_) (((hE2.trans he3).trans he4).trans he5))
    rw [hb5.2 (by rw [e])] at h9; cases h9
  have e3 := hb5.1 (by simpa using h9)
  refine go ?_
  exact ret1 ⟨_, rfl, ⟨fun _ => pr_ext e1 e2 e3, fun _ => rfl⟩, ((hE2.trans he3).trans he4).trans he5⟩
end Go.Proofs.Ytnphljflkpekmaa

/-
  Walks: the statement's own helpers that mark memory and read the marks (markInt64S, markInt64SS, heldInt64S, heldInt64SS).
  Conditions: stated at each theorem.
-/
namespace Go.Proofs.Ytnphljflkpekmaa
open Go Go.Pc
set_option maxHeartbeats 1000000 in
theorem markInt64S_ok {s : Nat} {w : World} {v : Value} {xs : List Int} {k : Int} (hf : Fr s w v xs) (hk : 0 ≤ k) (hb : k + xs.length ≤ 9000000000000000000) :
    Calls Try.prog 31 #[v, .int .i64 k] w (Ret fun v' w' => v' = .int .i64 (k + xs.length) ∧ Fr s w' v (marks k xs.length) ∧ Wrt (fun b => xs ≠ [] ∧ v.ownBlock = some b) w w') := by
  by_cases hn : xs = []
  · subst hn
    have hx := hf.ints
    refine enter (args := [v, .int .i64 k]) (l := [.tmp 4]) Try.func31 rfl rfl Try.ntmps31 (by simp) ?_
    refine go ?_
    refine r_for 0 (fun i ρ w' => Has ρ [(0, v), (1, .int .i64 k), (5, .int .i64 i)] ∧ w' = w) ?_ ?_
    · refine ⟨?_, rfl⟩
      exact hasP
    rintro i ρ w2 hi ⟨hH, rfl⟩
    refine rwp_has hH fun ρ0 => ?_
    refine go ?_
    refine c_if (fun h4 => ?_) (fun h4 => ?_)
    · simp at h4; omega
    · refine go ?_
      exact ret1 (v := .int .i64 k) ⟨by simp, hf, .refl _⟩
  obtain ⟨e, b, hsb, ho⟩ := hf.own hn
  have hl := sl_len ho.own.toSl
  simp only [List.length_map] at hl
  refine enter (args := [v, .int .i64 k]) (l := [.tmp 4]) Try.func31 rfl rfl Try.ntmps31 (by simp) ?_
  refine go ?_
  refine r_for xs.length (fun i ρ w' => ∃ ys, Has ρ [(0, v), (1, .int .i64 (k + i)), (5, .int .i64 i)] ∧ Chg b w w' ∧ OwnI e b w' v ys ∧ ys.length = xs.length ∧ ∀ j : Nat, j < i → ys.getD j 0 = k + j) ?_ ?_
  · refine ⟨xs, ?_, Chg.refl _ _, ho, rfl, fun j hj => by omega⟩
    exact hasP
  have hblk := ho.block
  clear ho hf
  rintro i ρ w2 hi ⟨ys, hH, hc2, ho2, hl2, hI⟩
  refine rwp_has hH fun ρ0 => ?_
  refine go ?_
  refine c_if (fun h4 => ?_) (fun h4 => ?_)
  · refine go ?_
    refine st_store_int (by ((try simp only [ev_tmp, ev_const, ev_func, get_put, get_args, get_putL, get_putL_nil, Nat.reduceEqDiff, reduceIte, List.getD_cons_zero, List.getD_cons_succ, List.getD_nil]); first | done | with_reducible rfl)) (by ((try simp only [ev_tmp, ev_const, ev_func, get_put, get_args, get_putL, get_putL_nil, Nat.reduceEqDiff, reduceIte, List.getD_cons_zero, List.getD_cons_succ, List.getD_nil]); first | done | with_reducible rfl)) ?_ (by first | exact True.intro | exact ⟨_, rfl, by ((try simp only [ev_tmp, ev_const, ev_func, get_put, get_args, get_putL, get_putL_nil, Nat.reduceEqDiff, reduceIte, List.getD_cons_zero, List.getD_cons_succ, List.getD_nil, Bool.not_true, Bool.not_false]); first | done | with_reducible rfl)⟩) fun w3 hc3 hs3 ho3 => ?_
    · omega
    refine go ?_
    refine forQ_normal (by omega) ⟨_, ?_, hc2.trans hc3, ho3, by simp [hl2], fun j hj => ?_⟩
    · exact hasP
    · by_cases ee : i = j
      · subst ee; rw [Pc.getD_set_eq _ _ _ (by omega)]
      · rw [Pc.getD_set_ne _ _ _ _ ee]; exact hI j (by omega)
  · refine go ?_
    obtain rfl : i = xs.length := by omega
    have hy : ys = marks k xs.length := list_ext0 (by rw [marks_len]; exact hl2) fun j hj => by rw [hI j (by omega), marks_getD _ (by omega)]
    refine ret1 ⟨rfl, ?_, .one ⟨hn, hblk⟩ hc2⟩
    rw [← hy]
    exact ho2.toFr hsb
set_option maxHeartbeats 1000000 in
theorem heldInt64S_ok {w : World} {v : Value} {k : Int} {n lo hi : Nat} {xs : List Int} [hx : Ints lo hi w v xs] (hxs : xs = marks k n) (hk : 0 ≤ k) (hb : k + n ≤ 9000000000000000000) :
    Calls Try.prog 33 #[v, .int .i64 k] w (Ret fun v' w' => v' = .int .i64 (k + n) ∧ Ext w w') := by
  have hl : xs.length = n := by rw [hxs, marks_len]
  have hg : ∀ i, i < n → xs.getD i 0 = k + i := fun i hi => by rw [hxs, marks_getD _ hi]
  have hm : n ≤ 9223372036854775807 := by have := sl_len hx.sl; simp at this; omega
  refine enter (args := [v, .int .i64 k]) (l := [.tmp 4]) Try.func33 rfl rfl Try.ntmps33 (by simp) ?_
  refine go ?_
  refine r_for n (fun i ρ w' => Has ρ [(0, v), (1, .int .i64 (k + i)), (5, .int .i64 i)] ∧ Ext w w') ?_ ?_
  · refine ⟨?_, Ext.refl _⟩
    exact hasP
  rintro i ρ w2 hi ⟨hH, he2⟩
  refine rwp_has hH fun ρ0 => ?_
  refine go ?_
  refine c_if (fun h4 => ?_) (fun h4 => ?_)
  · have hgi := hg i (by omega)
    refine go ?_
    refine c_if (fun h5 => ?_) (fun h5 => ?_)
    · exact absurd hgi h5
    · refine go ?_
      refine forQ_normal (by omega) ⟨?_, he2⟩
      exact hasP
  · refine go ?_
    obtain rfl : i = n := by omega
    exact ret1 ⟨rfl, he2⟩
set_option maxHeartbeats 1000000 in
theorem heldInt64SS_ok {w : World} {v : Value} {k : Int} {lo hi : Nat} {us : List Value} {xss yss : List (List Int)} [hx : Pc.Rows lo hi w v us xss] (hxs : xss = markL k yss) (hk : 0 ≤ k) (hb : k + tot yss ≤ 9000000000000000000) :
    Calls Try.prog 34 #[v, .int .i64 k] w (Ret fun v' w' => v' = .int .i64 (k + tot yss) ∧ Ext w w') := by
  have hl : xss.length = yss.length := by rw [hxs, markL_len]
  have hul := hx.vals.len
  have hm := sl_len hx.sl
  have hg : ∀ i, i < yss.length → xss.getD i [] = marks (k + tot (yss.take i)) (yss.getD i []).length := fun i hi => by rw [hxs, markL_getD _ _ _ hi]
  refine enter (args := [v, .int .i64 k]) (l := [.tmp 4]) Try.func34 rfl rfl Try.ntmps34 (by simp) ?_
  refine go ?_
  refine r_for yss.length (fun i ρ w' => Has ρ [(0, v), (1, .int .i64 (k + tot (yss.take i))), (5, .int .i64 i)] ∧ Ext w w') ?_ ?_
  · refine ⟨?_, Ext.refl _⟩
    simp only [List.take_zero, tot]
    exact hasP
  rintro i ρ w2 hi ⟨hH, he2⟩
  refine rwp_has hH fun ρ0 => ?_
  have ht := tot_take_le yss i
  refine go ?_
  refine c_if (fun h4 => ?_) (fun h4 => ?_)
  · have hin : i < yss.length := by omega
    have hts := tot_take_succ yss hin
    have ht2 := tot_take_le yss (i + 1)
    refine go ?_
    refine rc (heldInt64S_ok (xs := xss.getD i []) (hg i hin) ?_ ?_) (next := fun v3 w3 h3 => ?_)
    · omega
    · omega
    obtain ⟨rfl, he3⟩ := h3
    refine go ?_
    refine c_if (fun h5 => ?_) (fun h5 => ?_)
    · omega
    · refine go ?_
      refine forQ_normal (by omega) ⟨?_, he2.trans he3⟩
      exact hasP
  · refine go ?_
    obtain rfl : i = yss.length := by omega
    refine ret1 ⟨?_, he2⟩
    rw [List.take_length]
set_option maxHeartbeats 2000000 in
theorem markInt64SS_ok {A : Nat → Prop} {s : Nat} {w : World} {v : Value} {k : Int} {pre rs post : List (Value × List Int)} (hO : RowsO s w (pre ++ rs ++ post)) (hS : SpA A w v (rs.map (·.1))) (hA : ∀ b, BlkOf rs b → A b) (hk : 0 ≤ k) (hb : k + tot (rs.map (·.2)) ≤ 9000000000000000000) :
    Calls Try.prog 14 #[v, .int .i64 k] w (Ret fun v' w' => v' = .int .i64 (k + tot (rs.map (·.2))) ∧ RowsO s w' (pre ++ mkR k rs ++ post) ∧ Wrt (BlkOf rs) w w') := by
  have hm := sl_len hS.sl
  simp only [List.length_map] at hm
  have hsl := hS.sl
  have hlen := hsl.toLen
  refine enter (args := [v, .int .i64 k]) (l := [.tmp 4]) Try.func14 rfl rfl Try.ntmps14 (by simp) ?_
  refine go ?_
  refine r_for rs.length (fun i ρ w' => Has ρ [(0, v), (1, .int .i64 (k + tot ((rs.take i).map (·.2)))), (5, .int .i64 i)] ∧ RowsO s w' (pre ++ (mkR k (rs.take i) ++ rs.drop i) ++ post) ∧ Wrt (BlkOf rs) w w') ?_ ?_
  · refine ⟨?_, by simpa [mkR] using hO, .refl _⟩
    simp only [List.take_zero, List.map_nil, tot]
    exact hasP
  clear hO hsl hlen
  rintro i ρ w2 hi ⟨hH, hO2, hW2⟩
  refine rwp_has hH fun ρ0 => ?_
  have hS2 := hS.wr hW2 hA
  have hsl2 := hS2.sl
  have hlen2 := hsl2.toLen
  have hll : (rs.map (·.1)).length = rs.length := by simp
  have ht : tot ((rs.take i).map (·.2)) ≤ tot (rs.map (·.2)) := by rw [List.map_take]; exact tot_take_le _ _
  refine go ?_
  refine c_if (fun h4 => ?_) (fun h4 => ?_)
  · have hin : i < rs.length := by simp at h4; omega
    have e1 : Pc.rowAt v (rs.map (·.1)) i = rs[i].1 := by simp [Pc.rowAt, hin]
    have e2 : rs.drop i = rs[i] :: rs.drop (i + 1) := (List.getElem_cons_drop (h := hin)).symm
    have e3 : rs.take (i + 1) = rs.take i ++ [rs[i]] := List.take_succ_eq_append_getElem hin
    have hts : tot ((rs.take (i + 1)).map (·.2)) = tot ((rs.take i).map (·.2)) + (rs[i]).2.length := by rw [e3, List.map_append, tot_append]; simp [tot]
    have ht2 : tot ((rs.take (i + 1)).map (·.2)) ≤ tot (rs.map (·.2)) := by rw [List.map_take]; exact tot_take_le _ _
    have hO3 : RowsO s w2 ((pre ++ mkR k (rs.take i)) ++ rs[i] :: (rs.drop (i + 1) ++ post)) := by
      rw [e2] at hO2
      simpa only [List.append_assoc, List.cons_append] using hO2
    have hfr := hO3.fr rs[i] (by simp)
    refine go ?_
    refine ra (v := Pc.rowAt v (rs.map fun x : Value × List Int => x.1) i) (h := rd_load_sl (us := rs.map fun x : Value × List Int => x.1) (by ((try simp only [ev_tmp, ev_const, ev_func, get_put, get_args, get_putL, get_putL_nil, Nat.reduceEqDiff, reduceIte, List.getD_cons_zero, List.getD_cons_succ, List.getD_nil]); first | done | with_reducible rfl)) (by omega)) (next := ?_)
    rw [e1]
    refine go ?_
    refine rc (markInt64S_ok hfr ?_ ?_) (next := fun v3 w3 h3 => ?_)
    · omega
    · omega
    obtain ⟨rfl, hf3, hW3⟩ := h3
    have hO4 := hO3.upd hW3 hf3 marks_ne.1
    refine go ?_
    refine forQ_normal (by omega) ⟨?_, ?_, hW2.trans (hW3.mono fun b ⟨hn, e⟩ => ⟨_, List.getElem_mem hin, hn, e⟩)⟩
    · exact hasP
    · rw [e3, mkR_append]
      simpa only [mkR, List.append_assoc, List.cons_append, List.nil_append] using hO4
  · refine go ?_
    obtain rfl : i = rs.length := by simp at h4; omega
    rw [List.take_length] at hO2 ⊢
    exact ret1 ⟨rfl, by simpa using hO2, hW2⟩
end Go.Proofs.Ytnphljflkpekmaa

/-
  Lists of lists, lists of lists of lists and presentations that are the call's own, within a range of blocks.
  Conditions: none; nothing of the program stands here.
-/
namespace Go.Pc
open Go Go.RowKit
/-- A list of the call's own, in the blocks from s on, below t. -/
structure VecO (s t : Nat) (w : World) (v : Value) (xs : List Int) : Prop where
  ints : Ints s t w v xs
  fr : Fr s w v xs
  lt : xs ≠ [] → ∀ b, v.ownBlock = some b → b < t
structure MatO (s t : Nat) (w : World) (v : Value) (rs : List (Value × List Int)) : Prop where
  rows : Rows s t w v (rs.map (·.1)) (rs.map (·.2))
  own : RowsO s w rs
  lt : ∀ b, BlkOf rs b → b < t
  sp : SpA (fun b => BlkOf rs b ∨ b < s) w v (rs.map (·.1))
/-- All rows of the groups. -/
def flat (gs : List (Value × List (Value × List Int))) : List (Value × List Int) := (gs.map (·.2)).flatten
structure CubO (A : Nat → Prop) (w : World) (v : Value) (gs : List (Value × List (Value × List Int))) : Prop where
  sp0 : SpA A w v (gs.map (·.1))
  sp : ∀ q, q ∈ gs → SpA A w q.1 (q.2.map (·.1))
structure PresO (s t : Nat) (w : World) (v : Value) (p : Pr) : Prop where
  ex : ∃ vo vp vc rp gs, v = .agg #[vo, vp, vc] ∧ RowsO s w ((vo, p.ord) :: (rp ++ flat gs)) ∧ (∀ b, BlkOf ((vo, p.ord) :: (rp ++ flat gs)) b → b < t) ∧
    SpA (BlkOf ((vo, p.ord) :: (rp ++ flat gs))) w vp (rp.map (·.1)) ∧ CubO (BlkOf ((vo, p.ord) :: (rp ++ flat gs))) w vc gs ∧ p.pow = rp.map (·.2) ∧ (p.cnj = gs.map fun q => q.2.map (·.2)) ∧
    Ints s t w vo p.ord ∧ Rows s t w vp (rp.map (·.1)) (rp.map (·.2)) ∧ Rowss s t w vc (gs.map (·.1)) (gs.map fun q => q.2.map (·.1)) (gs.map fun q => q.2.map (·.2))
section
variable {A A' B : Nat → Prop} {e s t s' : Nat} {w w' : World} {v : Value} {us : List Value} {xs : List Int} {rs : List (Value × List Int)} {gs : List (Value × List (Value × List Int))} {p : Pr}
theorem VecO.ofFr (h : Fr s w v xs) : VecO s w.heap.size w v xs := ⟨h.ints, h, fun hn b e => by
  obtain ⟨g, h1, _, h3⟩ := h.block hn
  rw [e] at h1; injection h1 with h1; omega⟩
theorem VecO.wr (h : VecO s t w v xs) (k : Wrt B w w') (hb : ∀ b, B b → b < s ∨ t ≤ b) : VecO s t w' v xs :=
  ⟨h.ints.same (k.same hb), h.fr.wr k (fun hn b e hB => by
    have h1 := h.lt hn b e
    obtain ⟨g, h2, h3, _⟩ := h.fr.block hn
    rw [e] at h2; injection h2 with h2
    have := hb b hB; omega), h.lt⟩
theorem SpA.wr' (h : SpA A w v us) (k : Wrt B w w') (hs : Sl s t w v us) (hb : ∀ b, B b → b < s ∨ t ≤ b) : SpA A w' v us := by
  obtain ⟨lo, hi, h1, h2⟩ := h
  obtain ⟨X, c, rfl, hc, hm, hcell⟩ := h1.ex
  obtain ⟨X', c', hv, _, _, hcell'⟩ := hs.ex
  refine ⟨lo, hi, ⟨⟨X, c, rfl, hc, hm, fun i u hu => ?_⟩⟩, h2⟩
  obtain ⟨a, hA, e1, e2, e3⟩ := hcell i u hu
  obtain ⟨a', hA', g1, g2, g3⟩ := hcell' i u hu
  injection hv with hv _ _
  rw [hA, hA'] at hv; injection hv with hv; subst hv
  have hlt := block_lt e3
  rw [add_block] at hlt
  refine ⟨a, hA, e1, e2, ?_⟩
  rw [World.cell?_of_block (w := w) (w' := w') (by rw [add_block]; exact k.block hlt (fun hB => by have := hb _ hB; omega))]
  exact e3
theorem MatO.wr (h : MatO s t w v rs) (k : Wrt B w w') (hb : ∀ b, B b → b < s ∨ t ≤ b) : MatO s t w' v rs :=
  ⟨h.rows.same (k.same hb), h.own.wr k (fun b hR hB => by
    have h1 := h.lt b hR
    have h2 := (h.own.blk hR).1
    have := hb b hB; omega), h.lt, h.sp.wr' k h.rows.sl hb⟩
theorem MatO.lower (h : MatO s t w v rs) (hs : s' ≤ s) : MatO s' t w v rs := by
  refine ⟨h.rows.mono hs (Nat.le_refl _), h.own.mono hs, h.lt, h.sp.weak fun b hb => hb.imp id fun hb => by omega⟩
theorem MatO.sub (h : MatO s t w v rs) (hs : s' ≤ s) {t' : Nat} (ht : t ≤ t') : MatO s' t' w v rs := by
  refine ⟨h.rows.mono hs ht, h.own.mono hs, fun b hb => Nat.lt_of_lt_of_le (h.lt b hb) ht, h.sp.weak fun b hb => hb.imp id fun hb => by omega⟩
/-- Older spines, when memory has grown and more rows are there. -/
theorem SpA.grow (h : SpA A w v us) (x : Ext w w') (hA : ∀ b, A' b → A b ∨ w.heap.size ≤ b) : SpA A' w' v us := by
  obtain ⟨lo, hi, h1, h2⟩ := h
  obtain ⟨X, c, rfl, hc, hm, hcell⟩ := h1.ex
  have h3 : Sl lo (min hi w.heap.size) w (.slice X us.length c) us := ⟨⟨X, c, rfl, hc, hm, fun i u hu => by
    obtain ⟨a, hX, e1, e2, e3⟩ := hcell i u hu
    have hlt := block_lt e3
    rw [add_block] at hlt
    exact ⟨a, hX, e1, by omega, e3⟩⟩⟩
  refine ⟨lo, _, h3.same (x.same _ _), fun b hb => ?_⟩
  rcases hA b hb with hb | hb
  · have := h2 b hb; omega
  · exact .inr (by omega)
theorem OwnI.sl_in {e b lo hi : Nat} (h : OwnI e b w v xs) (hn : xs ≠ []) (k : Ints lo hi w v xs) : lo ≤ b ∧ b < hi := by
  obtain ⟨cap, cur, hv, _⟩ := h.own.ex
  obtain ⟨X, c, hv', _, _, hcell⟩ := k.sl.ex
  obtain ⟨x, l, rfl⟩ : ∃ x l, xs = x :: l := by cases xs with | nil => exact absurd rfl hn | cons x l => exact ⟨x, l, rfl⟩
  obtain ⟨a, hX, e1, e2, _⟩ := hcell 0 (.int .i64 x) (by simp)
  rw [hv] at hv'
  injection hv' with h1 _ _
  rw [hX] at h1; injection h1 with h1; subst h1
  exact ⟨e1, e2⟩
theorem MatO.ofLst {av : Nat → Prop} (h : Lst e s av w v (rs.map (·.1)) (rs.map (·.2))) (hO : RowsO s w rs) (hr : Rows s w.heap.size w v (rs.map (·.1)) (rs.map (·.2))) : MatO s w.heap.size w v rs := by
  refine ⟨hr, hO, fun b hb => (hO.blk hb).2, ?_⟩
  cases hv : v.ownBlock with
  | none =>
    rcases h.own.own.2 with ⟨rfl, h0⟩ | ⟨g, cap, cur, rfl, _⟩
    · have e0 : rs.map (·.1) = [] := List.eq_nil_of_length_eq_zero h0
      rw [e0]
      exact ⟨0, 0, ⟨⟨none, 0, rfl, Nat.le_refl _, by omega, fun k u hu => by simp at hu⟩⟩, fun b _ => .inr (Nat.zero_le _)⟩
    · cases hv
  | some k =>
    have hk := h.lt hv
    refine ⟨k, k + 1, h.own.toSlAt hv, fun b hb => ?_⟩
    rcases hb with ⟨r, hr1, hn, eb⟩ | hb
    · obtain ⟨i, hi, rfl⟩ := List.getElem_of_mem hr1
      obtain ⟨te, g, _, ho⟩ := (hO.fr _ hr1).own hn
      have hg := ho.block
      rw [eb] at hg; injection hg with hg; subst hg
      obtain ⟨lo, hi', h1, h2, h3⟩ := h.rows.at_ i
      have e1 : (rs.map (·.1)).getD i nilv = rs[i].1 := by simp [hi]
      have e2 : (rs.map (·.2)).getD i [] = rs[i].2 := by simp [hi]
      rw [e1, e2] at h1
      have h4 := ho.sl_in hn h1
      have h5 := h3 k (.inr hv)
      omega
    · omega
theorem CubO.wr (h : CubO A w v gs) (k : Wrt B w w') (hb : ∀ b, B b → A b) : CubO A w' v gs := ⟨h.sp0.wr k hb, fun q hq => (h.sp q hq).wr k hb⟩
theorem PresO.pres (h : PresO s t w v p) : Pres s t w v p := by
  obtain ⟨vo, vp, vc, rp, gs, rfl, _, _, _, _, h1, h2, h3, h4, h5⟩ := h.ex
  rw [← h1] at h4; rw [← h2] at h5
  exact ⟨⟨vo, vp, vc, _, _, _, rfl, h3, h4, h5⟩⟩
theorem PresO.wr (h : PresO s t w v p) (k : Wrt B w w') (hb : ∀ b, B b → b < s ∨ t ≤ b) : PresO s t w' v p := by
  obtain ⟨vo, vp, vc, rp, gs, rfl, hO, hl, hs, hc, h1, h2, h3, h4, h5⟩ := h.ex
  refine ⟨vo, vp, vc, rp, gs, rfl, hO.wr k (fun b hR hB => ?_), hl, hs.wr' k h4.sl hb, ⟨hc.sp0.wr' k h5.sl hb, fun q hq => ?_⟩, h1, h2, h3.same (k.same hb), h4.same (k.same hb), h5.same (k.same hb)⟩
  · have e1 := hl b hR
    have e2 := (hO.blk hR).1
    have := hb b hB; omega
  · obtain ⟨i, hi, rfl⟩ := List.getElem_of_mem hq
    have h6 := (h5.vals.at_ i).sl
    have e1 : (gs.map (·.1)).getD i nilv = gs[i].1 := by simp [hi]
    have e2 : (gs.map fun q => q.2.map (·.1)).getD i [] = gs[i].2.map (·.1) := by simp [hi]
    rw [e1, e2] at h6
    exact (hc.sp _ hq).wr' k h6 hb
theorem Blk.wr {b : Nat} {cs : List Value} (h : Blk w b cs) (k : Wrt B w w') (hb : ¬ B b) : Blk w' b cs := by
  obtain ⟨t, ht⟩ := h.ex
  exact ⟨t, by rw [k.block h.lt hb]; exact ht⟩
theorem flat_append (gs hs : List (Value × List (Value × List Int))) : flat (gs ++ hs) = flat gs ++ flat hs := by simp [flat]
theorem flat_one (q : Value × List (Value × List Int)) : flat [q] = q.2 := by simp [flat]
theorem blkOf_append' {rs qs : List (Value × List Int)} {b : Nat} : BlkOf (rs ++ qs) b ↔ BlkOf rs b ∨ BlkOf qs b := blkOf_append
/-- The number of a presentation's integers. -/
def totP (p : Pr) : Nat := p.ord.length + (tot p.pow + tot p.cnj.flatten)
theorem tot_flatten {n : Nat} : ∀ (l : List (List (List Int))), (∀ x, x ∈ l → x.length ≤ n ∧ ∀ y, y ∈ x → y.length ≤ n) → tot l.flatten ≤ l.length * (n * n)
  | [], _ => by simp [tot]
  | x :: l, h => by
    have h1 := h x List.mem_cons_self
    have h2 := tot_flatten l fun y hy => h y (List.mem_cons_of_mem _ hy)
    have h3 := tot_le x h1.2
    have h4 : x.length * n ≤ n * n := Nat.mul_le_mul_right _ h1.1
    simp only [List.flatten_cons, tot_append, List.length_cons, Nat.add_mul, Nat.one_mul]
    omega
end
end Go.Pc

/-
  Walks: copies that are the call's own (toInt64SSS, toPresentation), marks of presentations (markInt64SSS, markPresentation).
  Conditions: stated at each theorem.
-/
namespace Go.Proofs.Ytnphljflkpekmaa
open Go Go.Pc
theorem toInt64SSM_ok {w : World} {v : Value} {us : List Value} {xss : List (List Int)} {lo hi : Nat} [hx : Pc.Rows lo hi w v us xss] (hl : xss.length ≤ 2000000) (hr : ∀ i, (xss.getD i []).length ≤ 2000000) :
    Calls Try.prog 9 #[v] w (Ret fun v' w' => Ext w w' ∧ ∃ rs, xss = rs.map (·.2) ∧ MatO w.heap.size w'.heap.size w' v' rs) :=
  Pc.Calls.ret_mono (toInt64SSO_ok hl hr) fun _ _ ⟨h1, rs, h2, h3, h4⟩ => by subst h3; exact ⟨h1, rs, rfl, MatO.ofLst h2 h4 h2.newRows⟩
theorem rowss_of_cub {A : Nat → Prop} {s : Nat} {w : World} {v : Value} {gs : List (Value × List (Value × List Int))} {lo hi : Nat} (hs : Sl lo hi w v (gs.map (·.1))) (hlo : lo ≤ hi) (h : ∀ q, q ∈ gs → Pc.Rows lo hi w q.1 (q.2.map (·.1)) (q.2.map (·.2))) :
    Rowss lo hi w v (gs.map (·.1)) (gs.map fun q => q.2.map (·.1)) (gs.map fun q => q.2.map (·.2)) := by
  refine ⟨hs, by simp, by simp, fun i => ?_⟩
  by_cases hi' : i < gs.length
  · have := h gs[i] (List.getElem_mem hi')
    simpa [hi'] using this
  · have e1 : (gs.map (·.1)).getD i nilv = nilv := by rw [List.getD_eq_getElem?_getD, List.getElem?_eq_none (by simp; omega)]; rfl
    have e2 : (gs.map fun q => q.2.map (·.1)).getD i [] = [] := by rw [List.getD_eq_getElem?_getD, List.getElem?_eq_none (by simp; omega)]; rfl
    have e3 : (gs.map fun q => q.2.map (·.2)).getD i [] = [] := by rw [List.getD_eq_getElem?_getD, List.getElem?_eq_none (by simp; omega)]; rfl
    rw [e1, e2, e3]
    exact ⟨⟨⟨none, 0, rfl, Nat.le_refl _, by omega, fun k u hu => by simp at hu⟩⟩, rfl, fun i => ⟨⟨none, 0, by simp, by simp, by omega, fun k u hu => by simp at hu⟩⟩⟩
set_option maxHeartbeats 2000000 in
theorem toInt64SSSO_ok {w : World} {v : Value} {us : List Value} {uss : List (List Value)} {xsss : List (List (List Int))} {lo hi : Nat} [hx : Rowss lo hi w v us uss xsss] (hl : xsss.length ≤ 2000000) (hr : ∀ i, (xsss.getD i []).length ≤ 2000000 ∧ ∀ j, ((xsss.getD i []).getD j []).length ≤ 2000000) :
    Calls Try.prog 26 #[v] w (Ret fun v' w' => Ext w w' ∧ ∃ gs, xsss = gs.map (fun q => q.2.map (·.2)) ∧ RowsO w.heap.size w' (flat gs) ∧ CubO (fun b => BlkOf (flat gs) b ∨ b < w.heap.size) w' v' gs ∧ Rowss w.heap.size w'.heap.size w' v' (gs.map (·.1)) (gs.map fun q => q.2.map (·.1)) xsss) := by
  refine enter (args := [v]) (l := [.tmp 2]) Try.func26 rfl rfl Try.ntmps26 (by simp) ?_
  refine go ?_
  refine st_make_nil (by ((try simp only [ev_tmp, ev_const, ev_func, get_put, get_args, get_putL, get_putL_nil, Nat.reduceEqDiff, reduceIte, List.getD_cons_zero, List.getD_cons_succ, List.getD_nil]); first | done | with_reducible rfl)) (by ((try simp only [ev_tmp, ev_const, ev_func, get_put, get_args, get_putL, get_putL_nil, Nat.reduceEqDiff, reduceIte, List.getD_cons_zero, List.getD_cons_succ, List.getD_nil]); first | done | with_reducible rfl)) (by omega) (by omega) (by first | exact True.intro | exact ⟨_, rfl, by ((try simp only [ev_tmp, ev_const, ev_func, get_put, get_args, get_putL, get_putL_nil, Nat.reduceEqDiff, reduceIte, List.getD_cons_zero, List.getD_cons_succ, List.getD_nil, Bool.not_true, Bool.not_false]); first | done | with_reducible rfl)⟩) fun w1 v1 he1 hs1 ho1 => ?_
  refine go ?_
  refine r_for xsss.length (fun k ρ w' => ∃ gs : List (Value × List (Value × List Int)), Has ρ [(0, v), (3, v1), (4, .int .i64 k)] ∧ Ext w w' ∧ w.heap.size + 1 ≤ w'.heap.size ∧ Own 23 w.heap.size w' v1 (gs.map (·.1) ++ List.replicate (xsss.length - k) nilv) ∧ gs.length = k ∧ gs.map (fun q => q.2.map (·.2)) = xsss.take k ∧
    RowsO (w.heap.size + 1) w' (flat gs) ∧ (∀ q, q ∈ gs → SpA (fun b => BlkOf (flat gs) b ∨ b < w.heap.size + 1) w' q.1 (q.2.map (·.1))) ∧ ∀ q, q ∈ gs → Pc.Rows (w.heap.size + 1) w'.heap.size w' q.1 (q.2.map (·.1)) (q.2.map (·.2))) ?_ ?_
  · refine ⟨[], ?_, he1, by omega, by simpa using ho1, rfl, by simp, RowsO.nil _ _, fun q hq => (by cases hq), fun q hq => (by cases hq)⟩
    exact hasP
  clear ho1
  rintro k ρ w2 hk ⟨gs, hH, he2, hz2, ho2, hgl, hI, hO2, hS2, hR2⟩
  refine rwp_has hH fun ρ0 => ?_
  have hsl := ho2.toSl
  have hul : (gs.map (·.1) ++ List.replicate (xsss.length - k) nilv).length = xsss.length := by simp; omega
  refine go ?_
  refine c_if (fun h4 => ?_) (fun h4 => ?_)
  · have hkn : k < xsss.length := by omega
    refine go ?_
    refine rc (toInt64SSM_ok (xss := xsss.getD k []) (hr k).1 (hr k).2) (next := fun v3 w3 h3 => ?_)
    obtain ⟨he3, rs, hrs, hM3⟩ := h3
    have ho3 : Own 23 w.heap.size w3 v1 _ := Own.ext (h := ho2)
    have hsl3 := ho3.toSl
    have hlen3 := hsl3.toLen
    have hz3 := he3.size
    have hol := ho2.lt
    refine go ?_
    refine st_store_val (h := ho3) (by ((try simp only [ev_tmp, ev_const, ev_func, get_put, get_args, get_putL, get_putL_nil, Nat.reduceEqDiff, reduceIte, List.getD_cons_zero, List.getD_cons_succ, List.getD_nil]); first | done | with_reducible rfl)) (by ((try simp only [ev_tmp, ev_const, ev_func, get_put, get_args, get_putL, get_putL_nil, Nat.reduceEqDiff, reduceIte, List.getD_cons_zero, List.getD_cons_succ, List.getD_nil]); first | done | with_reducible rfl)) ?_ ?_ (by first | exact True.intro | exact ⟨_, rfl, by ((try simp only [ev_tmp, ev_const, ev_func, get_put, get_args, get_putL, get_putL_nil, Nat.reduceEqDiff, reduceIte, List.getD_cons_zero, List.getD_cons_succ, List.getD_nil, Bool.not_true, Bool.not_false]); first | done | with_reducible rfl)⟩) fun w4 hc4 hs4 ho4 => ?_
    · exact hM3.rows.sl.one
    · omega
    refine go ?_
    have e0 : xsss.length - k = (xsss.length - (k + 1)) + 1 := by omega
    have e1 := set_nils (gs.map (·.1)) nilv v3 (xsss.length - (k + 1))
    rw [List.length_map, hgl, ← e0] at e1
    rw [e1] at ho4
    have hW4 : Wrt (fun b => b = w.heap.size) w3 w4 := .one rfl hc4
    have hM4 := hM3.wr hW4 (fun b hb => .inl (by omega))
    have hf : flat (gs ++ [(v3, rs)]) = flat gs ++ rs := by rw [flat_append, flat_one]
    have hO3 := hO2.append he3 (by omega) hM3.own
    have hO4 := hO3.wr hW4 (fun b hb e => by have := (hO3.blk hb).1; omega)
    refine forQ_normal (by omega) ⟨gs ++ [(v3, rs)], ?_, hc4.ext (he2.trans he3) (Nat.le_refl _), by omega, by simpa using ho4, by simp [hgl], ?_, ?_, fun q hq => ?_, fun q hq => ?_⟩
    · exact hasP
    · rw [List.take_succ_eq_append_getElem hkn, List.map_append, hI]
      simp only [List.map_cons, List.map_nil, ← hrs]
      simp [hkn]
    · rw [hf]; exact hO4
    · rw [hf]
      rcases List.mem_append.1 hq with hq | hq
      · have h5 := (hS2 q hq).grow he3 (A' := fun b => BlkOf (flat gs ++ rs) b ∨ b < w.heap.size + 1) (fun b hb => by
          rcases hb with hb | hb
          · rcases blkOf_append'.1 hb with hb | hb
            · exact .inl (.inl hb)
            · exact .inr (hM3.own.blk hb).1
          · exact .inl (.inr hb))
        exact h5.wr hW4 (fun b hb => .inr (by omega))
      · obtain rfl := List.mem_singleton.1 hq
        refine SpA.weak hM4.sp fun b hb => ?_
        rcases hb with hb | hb
        · rcases blkOf_append'.1 hb with hb | hb
          · exact .inr (hO2.blk hb).2
          · exact .inl hb
        · exact .inr (by omega)
    · rcases List.mem_append.1 hq with hq | hq
      · exact (((hR2 q hq).same (he3.same _ _)).same (hc4.same (.inl (by omega)))).mono (Nat.le_refl _) (by omega)
      · obtain rfl := List.mem_singleton.1 hq
        exact hM4.rows.mono (by omega) (by omega)
  · refine go ?_
    obtain rfl : k = xsss.length := by omega
    rw [List.take_length] at hI
    rw [Nat.sub_self, List.replicate_zero, List.append_nil] at ho2
    have hol := ho2.lt
    refine ret1 ⟨he2, gs, hI.symm, hO2.mono (by omega), ⟨⟨_, _, ho2.toSl, fun b hb => ?_⟩, fun q hq => (hS2 q hq).weak fun b hb => hb.imp id (by omega)⟩, ?_⟩
    · rcases hb with hb | hb
      · have := (hO2.blk hb).1; omega
      · omega
    · rw [← hI]
      exact rowss_of_cub (A := fun _ => True) (s := 0) (ho2.toSl.mono (Nat.le_refl _) (by omega)) (by omega) fun q hq => (hR2 q hq).mono (by omega) (Nat.le_refl _)
theorem flat_blk {gs : List (Value × List (Value × List Int))} {q : Value × List (Value × List Int)} (hq : q ∈ gs) {b : Nat} (h : BlkOf q.2 b) : BlkOf (flat gs) b := by
  obtain ⟨r, hr, h1, h2⟩ := h
  refine ⟨r, ?_, h1, h2⟩
  unfold flat
  rw [List.mem_flatten]
  exact ⟨q.2, List.mem_map.2 ⟨q, hq, rfl⟩, hr⟩
theorem flat_tot (gs : List (Value × List (Value × List Int))) : (flat gs).map (·.2) = (gs.map fun q => q.2.map (·.2)).flatten := by
  unfold flat
  rw [List.map_flatten, List.map_map]; rfl
set_option maxHeartbeats 2000000 in
theorem markInt64SSS_ok {A : Nat → Prop} {s : Nat} {w : World} {v : Value} {k : Int} {gs : List (Value × List (Value × List Int))} {pre post : List (Value × List Int)} (hO : RowsO s w (pre ++ flat gs ++ post)) (hS : CubO A w v gs) (hA : ∀ b, BlkOf (flat gs) b → A b) (hk : 0 ≤ k) (hb : k + tot ((flat gs).map (·.2)) ≤ 9000000000000000000) :
    Calls Try.prog 32 #[v, .int .i64 k] w (Ret fun v' w' => v' = .int .i64 (k + tot ((flat gs).map (·.2))) ∧ RowsO s w' (pre ++ mkR k (flat gs) ++ post) ∧ Wrt (BlkOf (flat gs)) w w') := by
  have hm := sl_len hS.sp0.sl
  simp only [List.length_map] at hm
  have hsl := hS.sp0.sl
  have hlen := hsl.toLen
  refine enter (args := [v, .int .i64 k]) (l := [.tmp 4]) Try.func32 rfl rfl Try.ntmps32 (by simp) ?_
  refine go ?_
  refine r_for gs.length (fun i ρ w' => Has ρ [(0, v), (1, .int .i64 (k + tot ((flat (gs.take i)).map (·.2)))), (5, .int .i64 i)] ∧ RowsO s w' (pre ++ (mkR k (flat (gs.take i)) ++ flat (gs.drop i)) ++ post) ∧ Wrt (BlkOf (flat gs)) w w') ?_ ?_
  · refine ⟨?_, by simpa [mkR, flat] using hO, .refl _⟩
    have e : ((flat (gs.take 0)).map (·.2)) = [] := rfl
    rw [e]
    simp only [tot]
    exact hasP
  clear hO hsl hlen
  rintro i ρ w2 hi ⟨hH, hO2, hW2⟩
  refine rwp_has hH fun ρ0 => ?_
  have hS2 := hS.wr hW2 hA
  have hsl2 := hS2.sp0.sl
  have hlen2 := hsl2.toLen
  have hll : (gs.map (·.1)).length = gs.length := by simp
  have ht0 : ∀ j, tot ((flat (gs.take j)).map (·.2)) ≤ tot ((flat gs).map (·.2)) := fun j => by
    have e : flat gs = flat (gs.take j) ++ flat (gs.drop j) := by rw [← flat_append, List.take_append_drop]
    rw [e, List.map_append, tot_append]; omega
  have ht := ht0 i
  refine go ?_
  refine c_if (fun h4 => ?_) (fun h4 => ?_)
  · have hin : i < gs.length := by simp at h4; omega
    have e1 : Pc.rowAt v (gs.map (·.1)) i = gs[i].1 := by simp [Pc.rowAt, hin]
    have e2 : flat (gs.drop i) = gs[i].2 ++ flat (gs.drop (i + 1)) := by
      have e : gs.drop i = [gs[i]] ++ gs.drop (i + 1) := (List.getElem_cons_drop (h := hin)).symm
      rw [e, flat_append, flat_one]
    have e3 : flat (gs.take (i + 1)) = flat (gs.take i) ++ gs[i].2 := by rw [List.take_succ_eq_append_getElem hin, flat_append, flat_one]
    have hts : tot ((flat (gs.take (i + 1))).map (·.2)) = tot ((flat (gs.take i)).map (·.2)) + tot ((gs[i]).2.map (·.2)) := by rw [e3, List.map_append, tot_append]
    have ht2 := ht0 (i + 1)
    have hmem := List.getElem_mem hin
    have hO3 : RowsO s w2 ((pre ++ mkR k (flat (gs.take i))) ++ gs[i].2 ++ (flat (gs.drop (i + 1)) ++ post)) := by
      rw [e2] at hO2
      simpa only [List.append_assoc] using hO2
    refine go ?_
    refine ra (v := Pc.rowAt v (gs.map fun x : Value × List (Value × List Int) => x.1) i) (h := rd_load_sl (us := gs.map fun x : Value × List (Value × List Int) => x.1) (by ((try simp only [ev_tmp, ev_const, ev_func, get_put, get_args, get_putL, get_putL_nil, Nat.reduceEqDiff, reduceIte, List.getD_cons_zero, List.getD_cons_succ, List.getD_nil]); first | done | with_reducible rfl)) (by omega)) (next := ?_)
    rw [e1]
    refine go ?_
    refine rc (markInt64SS_ok hO3 (hS2.sp _ hmem) (fun b hb => hA b (flat_blk hmem hb)) ?_ ?_) (next := fun v3 w3 h3 => ?_)
    · omega
    · omega
    obtain ⟨rfl, hO4, hW3⟩ := h3
    refine go ?_
    refine forQ_normal (by omega) ⟨?_, ?_, hW2.trans (hW3.mono fun b hb => flat_blk hmem hb)⟩
    · exact hasP
    · rw [e3, mkR_append]
      simpa only [List.append_assoc] using hO4
  · refine go ?_
    obtain rfl : i = gs.length := by simp at h4; omega
    rw [List.take_length] at hO2 ⊢
    exact ret1 ⟨rfl, by simpa [flat] using hO2, hW2⟩
set_option maxHeartbeats 1000000 in
/-- Marks on a presentation that is the call's own. -/
theorem markPresentation_ok {s t : Nat} {w : World} {v : Value} {p : Pr} {k : Int} (hP : PresO s t w v p) (hk : 0 ≤ k) (hb : k + totP p ≤ 9000000000000000000) :
    Calls Try.prog 13 #[v, .int .i64 k] w (Ret fun v' w' => v' = .int .i64 (k + totP p) ∧ Wrt (fun b => s ≤ b ∧ b < t) w w') := by
  obtain ⟨vo, vp, vc, rp, gs, rfl, hO, hlt, hsp, hcub, hpow, hcnj, _, _, _⟩ := hP.ex
  have hA : ∀ b, BlkOf ((vo, p.ord) :: (rp ++ flat gs)) b → s ≤ b ∧ b < t := fun b hb => ⟨(hO.blk hb).1, hlt b hb⟩
  have e1 : totP p = p.ord.length + (tot (rp.map (·.2)) + tot ((flat gs).map (·.2))) := by rw [flat_tot, ← hpow, ← hcnj]; rfl
  refine enter (args := [.agg #[vo, vp, vc], .int .i64 k]) (l := [.tmp 4]) Try.func13 rfl rfl Try.ntmps13 (by simp) ?_
  refine go ?_
  refine st_box3 (by ((try simp only [ev_tmp, ev_const, ev_func, get_put, get_args, get_putL, get_putL_nil, Nat.reduceEqDiff, reduceIte, List.getD_cons_zero, List.getD_cons_succ, List.getD_nil]); first | done | with_reducible rfl)) (by first | exact True.intro | exact ⟨_, rfl, by ((try simp only [ev_tmp, ev_const, ev_func, get_put, get_args, get_putL, get_putL_nil, Nat.reduceEqDiff, reduceIte, List.getD_cons_zero, List.getD_cons_succ, List.getD_nil, Bool.not_true, Bool.not_false]); first | done | with_reducible rfl)⟩) fun w1 b he1 hb1 hs1 hc0 hc1 hc2 => ?_
  have hO1 := hO.ext he1
  have hB1 : ∀ g, BlkOf ((vo, p.ord) :: (rp ++ flat gs)) g → g ≠ b := fun g hg e => by have := (hO.blk hg).2; omega
  have hcell : ∀ {w2 : World} {j : Nat} {u : Value}, Cell w1 b j u → Wrt (BlkOf ((vo, p.ord) :: (rp ++ flat gs))) w1 w2 → Cell w2 b j u := fun h k => h.same (k.same fun g hg => by have := hB1 g hg; omega) k.size
  have hfr : Fr s w1 vo p.ord := hO1.fr _ List.mem_cons_self
  refine go ?_
  refine rc (markInt64S_ok hfr hk ?_) (next := fun v2 w2 h2 => ?_)
  · omega
  obtain ⟨rfl, hf2, hW2⟩ := h2
  have hW2' : Wrt (BlkOf ((vo, p.ord) :: (rp ++ flat gs))) w1 w2 := hW2.mono fun g ⟨hn, e⟩ => ⟨_, List.mem_cons_self, hn, e⟩
  have hO2 : RowsO s w2 ([] ++ (vo, marks k p.ord.length) :: (rp ++ flat gs)) := RowsO.upd (pre := []) (by simpa using hO1) hW2 hf2 marks_ne.1
  have hc0' := hcell hc0 hW2'
  have hc1' := hcell hc1 hW2'
  have hc2' := hcell hc2 hW2'
  have hO2' : RowsO s w2 (([(vo, marks k p.ord.length)]) ++ rp ++ flat gs) := by simpa using hO2
  have hsp2 := (SpA.grow hsp he1 (fun g hg => .inl hg)).wr hW2' (fun g hg => hg)
  refine go ?_
  refine rc (markInt64SS_ok hO2' hsp2 (fun g hg => ?_) ?_ ?_) (next := fun v3 w3 h3 => ?_)
  · obtain ⟨r, h1, h2⟩ := hg
    exact ⟨r, List.mem_cons_of_mem _ (List.mem_append_left _ h1), h2⟩
  · omega
  · omega
  obtain ⟨rfl, hO3, hW3⟩ := h3
  have hW3' : Wrt (BlkOf ((vo, p.ord) :: (rp ++ flat gs))) w2 w3 := hW3.mono fun g ⟨r, h1, h2⟩ => ⟨r, List.mem_cons_of_mem _ (List.mem_append_left _ h1), h2⟩
  have hc2'' := hcell hc2 (hW2'.trans hW3')
  have hO3' : RowsO s w3 (([(vo, marks k p.ord.length)] ++ mkR (k + p.ord.length) rp) ++ flat gs ++ []) := by simpa using hO3
  have hcub3 : CubO (BlkOf ((vo, p.ord) :: (rp ++ flat gs))) w3 vc gs := CubO.wr ⟨(SpA.grow hcub.sp0 he1 (fun g hg => .inl hg)).wr hW2' (fun g hg => hg), fun q hq => (SpA.grow (hcub.sp q hq) he1 (fun g hg => .inl hg)).wr hW2' (fun g hg => hg)⟩ hW3' (fun g hg => hg)
  clear hc0' hc1' hc2'
  refine go ?_
  refine rc (markInt64SSS_ok hO3' hcub3 (fun g hg => ?_) ?_ ?_) (next := fun v4 w4 h4 => ?_)
  · obtain ⟨r, h1, h2⟩ := hg
    exact ⟨r, List.mem_cons_of_mem _ (List.mem_append_right _ h1), h2⟩
  · omega
  · omega
  obtain ⟨rfl, hO4, hW4⟩ := h4
  refine go ?_
  refine ret1 ⟨?_, ?_⟩
  · rw [e1]
    exact int_congr (by omega)
  · refine (Wrt.ofExt he1).trans ((hW2'.mono hA).trans ((hW3'.mono hA).trans (hW4.mono fun g hg => hA g ?_)))
    obtain ⟨r, h1, h2⟩ := hg
    exact ⟨r, List.mem_cons_of_mem _ (List.mem_append_right _ h1), h2⟩
end Go.Proofs.Ytnphljflkpekmaa

/-
  Walk: a copy of a presentation that is the call's own (toPresentation).
  Conditions: stated at the theorem.
-/
namespace Go.Proofs.Ytnphljflkpekmaa
open Go Go.Pc
set_option maxHeartbeats 2000000 in
theorem toPresentationO_ok {w : World} {v : Value} {p : Pr} {lo hi : Nat} [hp : Pres lo hi w v p] (hs : SizeP p 2000000) :
    Calls Try.prog 8 #[v] w (Ret fun v w' => Ext w w' ∧ PresO w.heap.size w'.heap.size w' v p) := by
  have hs1 := hs.ord
  have hs2 := hs.pow
  have hs3 := hs.cnj
  obtain ⟨vo, vpw, vc, ps, cs, css, rfl, h1, h2, h3⟩ := hp.ex
  refine enter (args := [.agg #[vo, vpw, vc]]) (l := [.cell 2 29]) Try.func8 rfl rfl Try.ntmps8 (by simp) ?_
  refine go ?_
  refine st_box3 (by ((try simp only [ev_tmp, ev_const, ev_func, get_put, get_args, get_putL, get_putL_nil, Nat.reduceEqDiff, reduceIte, List.getD_cons_zero, List.getD_cons_succ, List.getD_nil]); first | done | with_reducible rfl)) (by first | exact True.intro | exact ⟨_, rfl, by ((try simp only [ev_tmp, ev_const, ev_func, get_put, get_args, get_putL, get_putL_nil, Nat.reduceEqDiff, reduceIte, List.getD_cons_zero, List.getD_cons_succ, List.getD_nil, Bool.not_true, Bool.not_false]); first | done | with_reducible rfl)⟩) fun w1 b he1 hb1 hsz1 hc0 hc1 hc2 => ?_
  refine go ?_
  refine st_alloc (by first | exact True.intro | exact ⟨_, rfl, by ((try simp only [ev_tmp, ev_const, ev_func, get_put, get_args, get_putL, get_putL_nil, Nat.reduceEqDiff, reduceIte, List.getD_cons_zero, List.getD_cons_succ, List.getD_nil, Bool.not_true, Bool.not_false]); first | done | with_reducible rfl)⟩) fun w2 br he2 hbr hsz2 hbk2 => ?_
  refine go ?_
  refine st_alloc (by first | exact True.intro | exact ⟨_, rfl, by ((try simp only [ev_tmp, ev_const, ev_func, get_put, get_args, get_putL, get_putL_nil, Nat.reduceEqDiff, reduceIte, List.getD_cons_zero, List.getD_cons_succ, List.getD_nil, Bool.not_true, Bool.not_false]); first | done | with_reducible rfl)⟩) fun w3 bo he3 hbo hsz3 hbk3 => ?_
  have hE3 := (he1.trans he2).trans he3
  refine go ?_
  refine rc (toInt64S_ok (xs := p.ord) (by omega)) (next := fun v4 w4 h4 => ?_)
  obtain ⟨he4, hf4⟩ := h4
  have hb4 : Blk w4 bo _ := Blk.ext (h := hbk3)
  have hz4 := he4.size
  refine go ?_
  refine st_store_fld (h := hb4) (by ((try simp only [ev_tmp, ev_const, ev_func, get_put, get_args, get_putL, get_putL_nil, Nat.reduceEqDiff, reduceIte, List.getD_cons_zero, List.getD_cons_succ, List.getD_nil]); first | done | with_reducible rfl)) (by ((try simp only [ev_tmp, ev_const, ev_func, get_put, get_args, get_putL, get_putL_nil, Nat.reduceEqDiff, reduceIte, List.getD_cons_zero, List.getD_cons_succ, List.getD_nil]); first | done | with_reducible rfl)) ?_ ?_ (by first | exact True.intro | exact ⟨_, rfl, by ((try simp only [ev_tmp, ev_const, ev_func, get_put, get_args, get_putL, get_putL_nil, Nat.reduceEqDiff, reduceIte, List.getD_cons_zero, List.getD_cons_succ, List.getD_nil, Bool.not_true, Bool.not_false]); first | done | with_reducible rfl)⟩) fun w5 hc5 hs5 hb5 => ?_
  · exact hf4.ints.sl.one
  · simp
  have hE15 : Ext w1 w5 := hc5.ext ((he2.trans he3).trans he4) (by have := he2.size; omega)
  have hz15 := hE15.size
  have hz2 := he2.size
  have hi5 : Ints w3.heap.size w4.heap.size w5 v4 p.ord := hf4.ints.same (hc5.same (.inl (by omega)))
  have hr5 : Blk w5 br _ := (Blk.ext (x := he3.trans he4) (h := hbk2)).chg' hc5 (by omega)
  have hO4 : RowsO w3.heap.size w4 [(v4, p.ord)] := (RowsO.nil w3.heap.size w3).push he4 (Nat.le_refl _) hf4
  have hO5 : RowsO w3.heap.size w5 [(v4, p.ord)] := hO4.wr (.one (B := fun g => g = bo) rfl hc5) (fun g hg e => by have := (hO4.blk hg).1; omega)
  refine go ?_
  refine rc (toInt64SSM_ok (xss := p.pow) (by omega) (fun i => by have := hs.powi i; omega)) (next := fun v6 w6 h6 => ?_)
  obtain ⟨he6, rp, hrp, hM6⟩ := h6
  have hN6 := hM6.rows
  have hb6 : Blk w6 bo _ := Blk.ext (h := hb5)
  have hz6 := he6.size
  refine go ?_
  refine st_store_fld (h := hb6) (by ((try simp only [ev_tmp, ev_const, ev_func, get_put, get_args, get_putL, get_putL_nil, Nat.reduceEqDiff, reduceIte, List.getD_cons_zero, List.getD_cons_succ, List.getD_nil]); first | done | with_reducible rfl)) (by ((try simp only [ev_tmp, ev_const, ev_func, get_put, get_args, get_putL, get_putL_nil, Nat.reduceEqDiff, reduceIte, List.getD_cons_zero, List.getD_cons_succ, List.getD_nil]); first | done | with_reducible rfl)) ?_ ?_ (by first | exact True.intro | exact ⟨_, rfl, by ((try simp only [ev_tmp, ev_const, ev_func, get_put, get_args, get_putL, get_putL_nil, Nat.reduceEqDiff, reduceIte, List.getD_cons_zero, List.getD_cons_succ, List.getD_nil, Bool.not_true, Bool.not_false]); first | done | with_reducible rfl)⟩) fun w7 hc7 hs7 hb7 => ?_
  · exact hN6.sl.one
  · simp
  have hE17 : Ext w1 w7 := hc7.ext (hE15.trans he6) (by omega)
  have hi7 : Ints w3.heap.size w4.heap.size w7 v4 p.ord := (hi5.same (he6.same _ _)).same (hc7.same (.inl (by omega)))
  have hM7 := hM6.wr (.one (B := fun g => g = bo) rfl hc7) (fun g hg => .inl (by omega))
  have hp7 := hM7.rows
  have hr7 : Blk w7 br _ := (Blk.ext (x := he6) (h := hr5)).chg' hc7 (by omega)
  have hO6 := hO5.append he6 (by omega) hM6.own
  have hO7 := hO6.wr (.one (B := fun g => g = bo) rfl hc7) (fun g hg e => by have := (hO6.blk hg).1; omega)
  refine go ?_
  refine rc (toInt64SSSO_ok (xsss := p.cnj) (by omega) (fun i => ⟨by have := hs.cnji i; omega, fun j => by have := hs.cnjij i j; omega⟩)) (next := fun v8 w8 h8 => ?_)
  obtain ⟨he8, gs, hgs, hOg, hCu, hR8⟩ := h8
  have hb8 : Blk w8 bo _ := Blk.ext (h := hb7)
  have hz8 := he8.size
  have hO8 := hO7.append he8 (by omega) hOg
  have hAll : ∀ g, BlkOf ([(v4, p.ord)] ++ rp ++ flat gs) g → (w3.heap.size ≤ g ∧ g < w5.heap.size) ∨ BlkOf rp g ∨ w7.heap.size ≤ g := fun g hg => by
    rcases blkOf_append'.1 hg with hg | hg
    · rcases blkOf_append'.1 hg with hg | hg
      · exact .inl (hO5.blk hg)
      · exact .inr (.inl hg)
    · exact .inr (.inr (hOg.blk hg).1)
  have hsp8 : SpA (fun g => BlkOf ([(v4, p.ord)] ++ rp ++ flat gs) g ∨ g < w3.heap.size) w8 v6 (rp.map (·.1)) := hM7.sp.grow he8 fun g hg => by
    rcases hg with hg | hg
    · rcases hAll g hg with h | h | h
      · exact .inl (.inr h.2)
      · exact .inl (.inl h)
      · exact .inr h
    · exact .inl (.inr (by omega))
  have hcu8 : CubO (fun g => BlkOf ([(v4, p.ord)] ++ rp ++ flat gs) g ∨ g < w3.heap.size) w8 v8 gs := by
    have hA : ∀ g, (BlkOf ([(v4, p.ord)] ++ rp ++ flat gs) g ∨ g < w3.heap.size) → BlkOf (flat gs) g ∨ g < w7.heap.size := fun g hg => by
      rcases hg with hg | hg
      · rcases blkOf_append'.1 hg with hg | hg
        · have := (hO7.blk hg).2; exact .inr this
        · exact .inl hg
      · exact .inr (by omega)
    exact ⟨hCu.sp0.weak hA, fun q hq => (hCu.sp q hq).weak hA⟩
  refine go ?_
  refine st_store_fld (h := hb8) (by ((try simp only [ev_tmp, ev_const, ev_func, get_put, get_args, get_putL, get_putL_nil, Nat.reduceEqDiff, reduceIte, List.getD_cons_zero, List.getD_cons_succ, List.getD_nil]); first | done | with_reducible rfl)) (by ((try simp only [ev_tmp, ev_const, ev_func, get_put, get_args, get_putL, get_putL_nil, Nat.reduceEqDiff, reduceIte, List.getD_cons_zero, List.getD_cons_succ, List.getD_nil]); first | done | with_reducible rfl)) ?_ ?_ (by first | exact True.intro | exact ⟨_, rfl, by ((try simp only [ev_tmp, ev_const, ev_func, get_put, get_args, get_putL, get_putL_nil, Nat.reduceEqDiff, reduceIte, List.getD_cons_zero, List.getD_cons_succ, List.getD_nil, Bool.not_true, Bool.not_false]); first | done | with_reducible rfl)⟩) fun w9 hc9 hs9 hb9 => ?_
  · exact hR8.sl.one
  · simp
  have hE19 : Ext w1 w9 := hc9.ext (hE17.trans he8) (by omega)
  have hi9 : Ints w3.heap.size w4.heap.size w9 v4 p.ord := (hi7.same (he8.same _ _)).same (hc9.same (.inl (by omega)))
  have hp9 := (hp7.same (he8.same _ _)).same (hc9.same (.inl (by omega)))
  have hq9 := hR8.same (hc9.same (.inl (by omega)))
  have hr9 : Blk w9 br _ := (Blk.ext (x := he8) (h := hr7)).chg' hc9 (by omega)
  refine go ?_
  have hb9' : Blk w9 bo [v4, v6, v8] := hb9
  refine ra (v := .agg #[v4, v6, v8]) (h := rd_load_blk (hb := hb9') (by ((try simp only [ev_tmp, ev_const, ev_func, get_put, get_args, get_putL, get_putL_nil, Nat.reduceEqDiff, reduceIte, List.getD_cons_zero, List.getD_cons_succ, List.getD_nil]); first | done | with_reducible rfl)) rfl) (next := ?_)
  refine st_store_agg (vs := [v4, v6, v8]) (cs := _) (hb := hr9) (by ((try simp only [ev_tmp, ev_const, ev_func, get_put, get_args, get_putL, get_putL_nil, Nat.reduceEqDiff, reduceIte, List.getD_cons_zero, List.getD_cons_succ, List.getD_nil]); first | done | with_reducible rfl)) (by ((try simp only [ev_tmp, ev_const, ev_func, get_put, get_args, get_putL, get_putL_nil, Nat.reduceEqDiff, reduceIte, List.getD_cons_zero, List.getD_cons_succ, List.getD_nil]); first | done | with_reducible rfl)) rfl ?_ ?_ (by first | exact True.intro | exact ⟨_, rfl, by ((try simp only [ev_tmp, ev_const, ev_func, get_put, get_args, get_putL, get_putL_nil, Nat.reduceEqDiff, reduceIte, List.getD_cons_zero, List.getD_cons_succ, List.getD_nil, Bool.not_true, Bool.not_false]); first | done | with_reducible rfl)⟩) fun w10 hc10 hs10 hb10 => ?_
  · rfl
  · have e1 := hi9.sl.one
    have e2 := hp9.sl.one
    have e3 := hq9.sl.one
    simp [e1, e2, e3]
  have hW10 : Wrt (fun g => g = bo ∨ g = br) w8 w10 := (Wrt.one (.inl rfl) hc9).trans (.one (.inr rfl) hc10)
  have hO10 := hO8.wr hW10 (fun g hg e => by have := (hO8.blk hg).1; omega)
  have hlow : ∀ g, (g = bo ∨ g = br) → BlkOf ([(v4, p.ord)] ++ rp ++ flat gs) g ∨ g < w3.heap.size := fun g hg => .inr (by omega)
  refine go ?_
  refine retc (b := br) (hb := hb10) ⟨hc10.ext (he1.trans hE19) (by omega), ?_⟩ rfl
  have hi10 := (hi9.same (hc10.same (.inl (by omega)))).mono (lo' := w.heap.size) (hi' := w10.heap.size) (by omega) (by omega)
  have hp10 := (hp9.same (hc10.same (.inl (by omega)))).mono (lo' := w.heap.size) (hi' := w10.heap.size) (by omega) (by omega)
  have hq10 := rowss_mono (lo' := w.heap.size) (hi' := w10.heap.size) (hq9.same (hc10.same (.inl (by omega)))) (by omega) (by omega)
  have e : (v4, p.ord) :: (rp ++ flat gs) = [(v4, p.ord)] ++ rp ++ flat gs := by simp
  rw [hgs] at hq10
  refine ⟨v4, v6, v8, rp, gs, rfl, ?_, ?_, ?_, ?_, hrp, hgs, hi10, hp10, hq10⟩ <;> rw [e]
  · exact hO10.mono (by omega)
  · exact fun g hg => (hO10.blk hg).2
  · exact (hsp8.wr hW10 hlow).weak fun g hg => .inl hg
  · exact ⟨(hcu8.sp0.wr hW10 hlow).weak fun g hg => .inl hg, fun q hq => ((hcu8.sp q hq).wr hW10 hlow).weak fun g hg => .inl hg⟩
/-- The number of integers of a presentation of bounded sizes. -/
theorem totP_le {p : Pr} (hs : SizeP p 1048576) : totP p ≤ 1048576 + (1048576 * 1048576 + 1048576 * (1048576 * 1048576)) := by
  have h1 := hs.ord
  have h2 := hs.pow
  have h3 := hs.cnj
  have e2 : tot p.pow ≤ p.pow.length * 1048576 := tot_le _ fun x hx => by
    obtain ⟨i, hi, rfl⟩ := List.getElem_of_mem hx
    have := hs.powi i
    simp only [List.getD_eq_getElem?_getD, List.getElem?_eq_getElem hi, Option.getD_some] at this
    omega
  have e3 : tot p.cnj.flatten ≤ p.cnj.length * (1048576 * 1048576) := tot_flatten _ fun x hx => by
    obtain ⟨i, hi, rfl⟩ := List.getElem_of_mem hx
    have h4 := hs.cnji i
    simp only [List.getD_eq_getElem?_getD, List.getElem?_eq_getElem hi, Option.getD_some] at h4
    refine ⟨by omega, fun y hy => ?_⟩
    obtain ⟨j, hj, rfl⟩ := List.getElem_of_mem hy
    have h5 := hs.cnjij i j
    simp only [List.getD_eq_getElem?_getD, List.getElem?_eq_getElem hi, Option.getD_some, List.getElem?_eq_getElem hj] at h5
    omega
  unfold totP
  omega
theorem SizeP.mono {p : Pr} {k j : Int} (h : SizeP p k) (hkj : k ≤ j) : SizeP p j :=
  ⟨by have := h.ord; omega, by have := h.pow; omega, fun i => by have := h.powi i; omega, by have := h.cnj; omega, fun i => by have := h.cnji i; omega, fun i j => by have := h.cnjij i j; omega⟩
theorem tot_rows_le {xss : List (List Int)} {n : Nat} (hl : xss.length ≤ n) (hr : ∀ i, (xss.getD i []).length ≤ n) : tot xss ≤ n * n :=
  Nat.le_trans (tot_le xss fun x hx => by
    obtain ⟨i, hi, rfl⟩ := List.getElem_of_mem hx
    have := hr i
    simpa [hi] using this) (Nat.mul_le_mul_right _ hl)
end Go.Proofs.Ytnphljflkpekmaa

/-
  Plain mathematics: a level's conditions make the tail of one generator more a group.
  Conditions: none; nothing of the program stands here.
-/
namespace Go.Pc
open Grp

theorem rep_add {α : Type} (f : α → α) (x : α) (j : Nat) : ∀ k, rep (k + j) f x = rep k f (rep j f x)
  | 0 => by rw [Nat.zero_add]; rfl
  | k + 1 => by rw [Nat.add_right_comm, rep_succ, rep_add f x j k, rep_succ]

section
variable {p : Pr} {i : Nat}
/-- What stands behind the head. -/
def tl (hv : Valid p) (x : T p i) : T p (i + 1) := ⟨x.v.set i 0, x.inr.set (by omega) (fun h => by have := hv.opos h; omega), x.zu.set0⟩
def hd (x : T p i) : Int := x.v.getD i 0
theorem ht_ext (hv : Valid p) {x y : T p i} (h : hd x = hd y) (k : tl hv x = tl hv y) : x = y := by
  apply T.ext
  have hk : x.v.set i 0 = y.v.set i 0 := congrArg T.v k
  apply inr_ext x.inr y.inr
  intro j hj
  by_cases e : i = j
  · subst e; exact h
  · have := congrArg (fun l => l.getD j 0) hk
    simp only [getD_set_ne _ _ _ _ e] at this
    exact this
/-- The element with a head and a tail. -/
def mkT (x : T p (i + 1)) (a : Int) (h0 : 0 ≤ a) (h1 : i < p.n → a < p.o i) : T p i := ⟨x.v.set i a, x.inr.set h0 h1, (x.zu.mono (by omega)).set (Nat.le_refl _)⟩
theorem hd_mk (hi : i < p.n) (x : T p (i + 1)) (a : Int) (h0 : 0 ≤ a) (h1 : i < p.n → a < p.o i) : hd (mkT x a h0 h1) = a := getD_set_eq _ _ _ (by rw [x.inr.len]; exact hi)
theorem tl_mk (hv : Valid p) (hi : i < p.n) (x : T p (i + 1)) (a : Int) (h0 : 0 ≤ a) (h1 : i < p.n → a < p.o i) : tl hv (mkT x a h0 h1) = x := by
  apply T.ext
  show (x.v.set i a).set i 0 = x.v
  rw [set_set, ← x.zu i (by omega)]
  exact set_self (by rw [x.inr.len]; exact hi)

variable [h : Con p (i + 1)]
theorem tmul_eq (hi : i < p.n) (x y : T p i) (k : Nat) (hk : (k = 0 ∧ hd x + hd y < p.o i) ∨ (k = 1 ∧ p.o i ≤ hd x + hd y)) :
    hd (tmul h.valid x y) = hd x + hd y - k * p.o i ∧ tl h.valid (tmul h.valid x y) = pw (Tw h.valid hi) k * (rep (hd y).toNat (Timg h.valid) (tl h.valid x) * tl h.valid y) := by
  have hrep : ∀ q (u : T p (i + 1)), (rep q (Timg h.valid) u).v = rep q (img p i) u.v := by
    intro q u
    induction q with
    | zero => rfl
    | succ q ih => rw [rep_succ, rep_succ, ← ih]; rfl
  have hin := atv_in h.valid _ (i + 1) rfl _ _ (rep (hd y).toNat (Timg h.valid) (tl h.valid x)).inr (tl h.valid y).inr (rep (hd y).toNat (Timg h.valid) (tl h.valid x)).zu (tl h.valid y).zu
  rw [hrep] at hin
  have heq : (tmul h.valid x y).v = _ := atv_eq p i x.v y.v hi
  rcases hk with ⟨rfl, hk⟩ | ⟨rfl, hk⟩
  · rw [if_neg (by unfold hd at hk; omega)] at heq
    constructor
    · show (tmul h.valid x y).v.getD i 0 = _
      rw [heq]
      exact (getD_set_eq _ _ _ (Nat.lt_of_lt_of_eq hi hin.1.len.symm)).trans (by unfold hd; simp)
    · rw [pw_zero, Grp.one_mul]
      apply T.ext
      show (tmul h.valid x y).v.set i 0 = atv p (i + 1) (rep (hd y).toNat (Timg h.valid) (tl h.valid x)).v (tl h.valid y).v
      rw [heq, set_set, hrep]
      exact (congrArg (fun z => List.set _ i z) (hin.2 i (by omega)).symm).trans (set_self (Nat.lt_of_lt_of_eq hi hin.1.len.symm))
  · rw [if_pos (by unfold hd at hk; omega)] at heq
    have hW := atv_in h.valid _ (i + 1) rfl _ _ (h.valid.w_in i hi) hin.1 (h.valid.w_zu i hi) hin.2
    constructor
    · show (tmul h.valid x y).v.getD i 0 = _
      rw [heq]
      exact (getD_set_eq _ _ _ (Nat.lt_of_lt_of_eq hi hW.1.len.symm)).trans (by unfold hd; simp)
    · rw [pw_one]
      apply T.ext
      show (tmul h.valid x y).v.set i 0 = atv p (i + 1) (p.w i) (atv p (i + 1) (rep (hd y).toNat (Timg h.valid) (tl h.valid x)).v (tl h.valid y).v)
      rw [heq, set_set, hrep]
      exact (congrArg (fun z => List.set _ i z) (hW.2 i (by omega)).symm).trans (set_self (Nat.lt_of_lt_of_eq hi hW.1.len.symm))

theorem img_rep_hom {hi : i < p.n} (hc : Chk p i hi) (x y : T p (i + 1)) : ∀ q, rep q (Timg h.valid) (x * y) = rep q (Timg h.valid) x * rep q (Timg h.valid) y
  | 0 => rfl
  | q + 1 => by rw [rep_succ, img_rep_hom hc x y q, img_hom hc]; rfl
theorem img_one {hi : i < p.n} (hc : Chk p i hi) : Timg h.valid (1 : T p (i + 1)) = 1 := by
  have := img_hom hc (1 : T p (i + 1)) 1
  rw [Grp.one_mul] at this
  exact (Grp.mul_left_cancel (a := Timg h.valid 1) (by rw [Grp.mul_one]; exact this)).symm
theorem img_rep_one {hi : i < p.n} (hc : Chk p i hi) (q : Nat) : rep q (Timg h.valid) (1 : T p (i + 1)) = 1 := rep_id (img_one hc) q
theorem img_rep_w {hi : i < p.n} (hc : Chk p i hi) (q k : Nat) : rep q (Timg h.valid) (pw (Tw h.valid hi) k) = pw (Tw h.valid hi) k := by
  induction k with
  | zero => exact img_rep_one hc q
  | succ k ih => rw [pw_succ, img_rep_hom hc, ih, rep_id hc.F]

theorem hom_phi {K : Type} [Grp K] (f : T p (i + 1) → K) (hf : ∀ x y, f (x * y) = f x * f y) (c : Nat → T p (i + 1)) (x : List Int) : ∀ k l, f (phi c x l k) = phi (fun j => f (c j)) x l k := by
  have f1 : f 1 = 1 := Grp.mul_left_cancel (a := f 1) (by rw [← hf, Grp.one_mul, Grp.mul_one])
  have fp : ∀ a q, f (pw a q) = pw (f a) q := by
    intro a q
    induction q with
    | zero => exact f1
    | succ q ih => rw [pw_succ, hf, ih, pw_succ]
  intro k
  induction k with
  | zero => intro l; exact f1
  | succ k ih => intro l; rw [phi, hf, fp, ih, phi]
theorem Chk.all {hi : i < p.n} (hc : Chk p i hi) (x : T p (i + 1)) : rep (p.o i).toNat (Timg h.valid) x = cj x (Tw h.valid hi) := by
  have hx := norm_form (p := p) (i := i + 1) _ (i + 1) rfl (Nat.le_refl _) (by omega) x x.zu
  have e : (fun j => rep (p.o i).toNat (Timg h.valid) (gOf p (i + 1) j)) = fun j => cj (gOf p (i + 1) j) (Tw h.valid hi) := by
    funext j
    by_cases hj : i + 1 ≤ j ∧ j < p.n
    · have : gOf p (i + 1) j = gen h.valid (i + 1) j hj := dif_pos hj
      rw [this]; exact hc.I j hj
    · have : gOf p (i + 1) j = 1 := dif_neg hj
      rw [this, img_rep_one hc, cj_one]
  rw [hx, hom_phi (fun x => rep (p.o i).toNat (Timg h.valid) x) (fun x y => img_rep_hom hc x y _), e, ← hom_phi (fun x => cj x (Tw h.valid hi)) (fun x y => cj_mul x y _)]

/-- The level's conditions make the tail a group. -/
theorem con_step (hi : i < p.n) (hc : Chk p i hi) : Con p i where
  valid := h.valid
  assoc := by
    intro x y z
    have hx := x.inr.rng i hi
    have hy := y.inr.rng i hi
    have hz := z.inr.rng i hi
    have ex : ∀ a b : T p i, ∃ k : Nat, (k = 0 ∧ hd a + hd b < p.o i) ∨ (k = 1 ∧ p.o i ≤ hd a + hd b) := fun a b => by
      by_cases hab : p.o i ≤ hd a + hd b
      · exact ⟨1, .inr ⟨rfl, hab⟩⟩
      · exact ⟨0, .inl ⟨rfl, by omega⟩⟩
    obtain ⟨k1, hk1⟩ := ex x y
    obtain ⟨k2, hk2⟩ := ex (tmul h.valid x y) z
    obtain ⟨k3, hk3⟩ := ex y z
    obtain ⟨k4, hk4⟩ := ex x (tmul h.valid y z)
    have e1 := tmul_eq hi x y k1 hk1
    have e2 := tmul_eq hi (tmul h.valid x y) z k2 hk2
    have e3 := tmul_eq hi y z k3 hk3
    have e4 := tmul_eq hi x (tmul h.valid y z) k4 hk4
    have hd0 : hd x = x.v.getD i 0 := rfl
    have hd1 : hd y = y.v.getD i 0 := rfl
    have hd2 : hd z = z.v.getD i 0 := rfl
    have hkk : k1 + k2 = k3 + k4 := by
      rcases hk1 with ⟨rfl, a1⟩ | ⟨rfl, a1⟩ <;> rcases hk2 with ⟨rfl, a2⟩ | ⟨rfl, a2⟩ <;> rcases hk3 with ⟨rfl, a3⟩ | ⟨rfl, a3⟩ <;> rcases hk4 with ⟨rfl, a4⟩ | ⟨rfl, a4⟩ <;>
        rw [e1.1] at a2 <;> rw [e3.1] at a4 <;> omega
    apply ht_ext h.valid
    · rw [e2.1, e1.1, e4.1, e3.1]
      rcases hk1 with ⟨rfl, _⟩ | ⟨rfl, _⟩ <;> rcases hk2 with ⟨rfl, _⟩ | ⟨rfl, _⟩ <;> rcases hk3 with ⟨rfl, _⟩ | ⟨rfl, _⟩ <;> rcases hk4 with ⟨rfl, _⟩ | ⟨rfl, _⟩ <;> omega
    · rw [e2.2, e1.2, e4.2, e3.2, e3.1, img_rep_hom hc, img_rep_hom hc, img_rep_w hc, ← rep_add]
      rcases hk3 with ⟨rfl, a3⟩ | ⟨rfl, a3⟩
      · rw [show (hd y + hd z - (0 : Nat) * p.o i).toNat = (hd z).toNat + (hd y).toNat by omega, pw_zero, Grp.one_mul]
        have : k4 = k2 + k1 := by omega
        rw [this, pw_add]
        simp only [Grp.mul_assoc]
      · have hs : (hd z).toNat + (hd y).toNat = (p.o i).toNat + (hd y + hd z - (1 : Nat) * p.o i).toNat := by
          have := h.valid.opos hi; omega
        rw [hs, rep_add, hc.all, pw_one]
        generalize rep (hd y + hd z - ((1 : Nat) : Int) * p.o i).toNat (Timg h.valid) (tl h.valid x) = S
        rw [← Grp.mul_assoc (pw (Tw h.valid hi) k2), ← Grp.mul_assoc (pw (Tw h.valid hi) k2), ← pw_add]
        have : k2 + k1 = k4 + 1 := by omega
        rw [this, pw_succ, Grp.mul_assoc, Grp.mul_assoc, ← Grp.mul_assoc (Tw h.valid hi), ← Grp.mul_assoc (Tw h.valid hi), ← Grp.mul_assoc (Tw h.valid hi), mul_cj]
        simp only [Grp.mul_assoc]
  inv := by
    intro x
    have hx := x.inr.rng i hi
    have ho := h.valid.opos hi
    have hd0 : hd x = x.v.getD i 0 := rfl
    have fin : ∀ y : T p i, hd (tmul h.valid y x) = 0 → tl h.valid (tmul h.valid y x) = 1 → tmul h.valid y x = tone h.valid i := by
      intro y h1 h2
      refine ht_ext h.valid (h1.trans (zeros_getD _ _).symm) (h2.trans (T.ext ?_))
      show zeros p.n = (zeros p.n).set i 0
      have := set_self (v := zeros p.n) (i := i) (by rw [zeros_len]; exact hi)
      rw [zeros_getD] at this
      exact this.symm
    by_cases hz : hd x = 0
    · refine ⟨mkT (tl h.valid x)⁻¹ 0 (by omega) (fun _ => by omega), ?_⟩
      have e := tmul_eq hi (mkT (tl h.valid x)⁻¹ 0 (by omega) (fun _ => by omega)) x 0 (.inl ⟨rfl, by rw [hd_mk hi]; omega⟩)
      refine fin _ ?_ ?_
      · rw [e.1, hd_mk hi]; omega
      · rw [e.2, pw_zero, Grp.one_mul, tl_mk h.valid hi, hz]
        exact Grp.inv_mul _
    · let w := Tw h.valid hi
      let v := rep (p.o i - hd x).toNat (Timg h.valid) ((tl h.valid x)⁻¹ * w⁻¹)
      refine ⟨mkT v (p.o i - hd x) (by omega) (fun _ => by omega), ?_⟩
      have e := tmul_eq hi (mkT v (p.o i - hd x) (by omega) (fun _ => by omega)) x 1 (.inr ⟨rfl, by rw [hd_mk hi]; omega⟩)
      refine fin _ ?_ ?_
      · rw [e.1, hd_mk hi]; omega
      · rw [e.2, pw_one, tl_mk h.valid hi]
        show w * (rep (hd x).toNat (Timg h.valid) v * tl h.valid x) = 1
        have : rep (hd x).toNat (Timg h.valid) v = rep (p.o i).toNat (Timg h.valid) ((tl h.valid x)⁻¹ * w⁻¹) := by
          show rep _ _ (rep _ _ _) = _
          rw [← rep_add, show (hd x).toNat + (p.o i - hd x).toNat = (p.o i).toNat by omega]
        rw [this, hc.all, ← Grp.mul_assoc, mul_cj]
        rw [Grp.inv_mul_cancel_right, Grp.inv_mul]
end
theorem con_end {p : Pr} (hv : Valid p) {i : Nat} (hi : p.n ≤ i) : Con p i where
  valid := hv
  assoc := by
    intro a b c
    apply T.ext
    show atv p i _ _ = atv p i _ _
    rw [atv_end _ _ _ _ hi, atv_end _ _ _ _ hi]
  inv := fun a => ⟨a, T.ext (atv_end _ _ _ _ hi)⟩
end Go.Pc

/-
  The coordinates of products in the group of a consistent presentation.
  Conditions: the tails at all levels are groups; nothing of the program stands here.
-/
namespace Go.Pc
open Grp
/-- The tails at all levels are groups. -/
class ConAll (p : Pr) : Prop where
  con : ∀ i, Con p i
instance {p : Pr} [h : ConAll p] (i : Nat) : Con p i := h.con i
theorem ConAll.valid {p : Pr} (h : ConAll p) : Valid p := (h.con 0).valid
/-- The elements of the group. -/
abbrev El (p : Pr) := T p 0
/-- A coordinate. -/
def co {p : Pr} (x : El p) (d : Nat) : Int := x.v.getD d 0
/-- The first d coordinates are zero. -/
def Tl {p : Pr} (d : Nat) (x : El p) : Prop := ZU d x.v
theorem atv_lead {p : Pr} {i : Nat} (hi : i < p.n) {a b : List Int} (hv : Valid p) (ha : InR p a) (hb : InR p b) (za : ZU i a) (zb : ZU i b) : (atv p i a b).getD i 0 = (a.getD i 0 + b.getD i 0) % p.o i := by
  have hl := (atv_in hv _ i rfl _ _ ha hb za zb).1.len
  have ra := ha.rng i hi
  have rb := hb.rng i hi
  have e := atv_eq p i a b hi
  split at e
  · rename_i h
    rw [e] at hl ⊢
    rw [List.length_set] at hl
    rw [getD_set_eq _ _ _ (by omega)]
    rw [show a.getD i 0 + b.getD i 0 = (a.getD i 0 + b.getD i 0 - p.o i) + p.o i by omega, Int.add_emod_right, Int.emod_eq_of_lt (by omega) (by omega)]
    omega
  · rename_i h
    rw [e] at hl ⊢
    rw [List.length_set] at hl
    rw [getD_set_eq _ _ _ (by omega), Int.emod_eq_of_lt (by omega) (by omega)]
theorem atv_skip {p : Pr} {i : Nat} (hi : i < p.n) {a b : List Int} (ha : InR p a) (zb : ZU (i + 1) b) : atv p i a b = (atv p (i + 1) (a.set i 0) b).set i (a.getD i 0) := by
  have ra := ha.rng i hi
  have hb0 : b.getD i 0 = 0 := zb i (by omega)
  have hbs : b.set i 0 = b := by
    by_cases hl : i < b.length
    · have := set_self (v := b) (i := i) hl
      rw [hb0] at this; exact this
    · exact List.set_eq_of_length_le (by omega)
  rw [atv_eq _ _ _ _ hi, hb0, if_neg (by omega), hbs]
  simp [rep_zero]
theorem atv_low {p : Pr} (hv : Valid p) {d : Nat} (hd : d < p.n) : ∀ (m i : Nat), d - i = m → i ≤ d → ∀ a b, InR p a → InR p b → ZU i a → ZU d b →
    (∀ k, k < d → (atv p i a b).getD k 0 = a.getD k 0) ∧ (atv p i a b).getD d 0 = (a.getD d 0 + b.getD d 0) % p.o d
  | 0, i, hm, hid, a, b, ha, hb, za, zb => by
    obtain rfl : i = d := by omega
    refine ⟨fun k hk => ?_, atv_lead hd hv ha hb za zb⟩
    rw [za k hk, (atv_in hv _ i rfl _ _ ha hb za zb).2 k hk]
  | m + 1, i, hm, hid, a, b, ha, hb, za, zb => by
    have hi : i < p.n := by omega
    have h0 : InR p (a.set i 0) := ha.set (by omega) (fun h => by have := hv.opos h; omega)
    have ih := atv_low hv hd m (i + 1) (by omega) (by omega) (a.set i 0) b h0 hb za.set0 zb
    have hl := (atv_in hv _ (i + 1) rfl _ _ h0 hb za.set0 (zb.mono (by omega))).1.len
    rw [atv_skip hi ha (zb.mono (by omega))]
    refine ⟨fun k hk => ?_, ?_⟩
    · by_cases e : i = k
      · subst e; rw [getD_set_eq _ _ _ (by omega)]
      · rw [getD_set_ne _ _ _ _ e, ih.1 k hk, getD_set_ne _ _ _ _ e]
    · rw [getD_set_ne _ _ _ _ (by omega), ih.2, getD_set_ne _ _ _ _ (by omega)]
section
variable {p : Pr} [hc : ConAll p] {d : Nat}
theorem co_rng (x : El p) (hd : d < p.n) : 0 ≤ co x d ∧ co x d < p.o d := x.inr.rng d hd
theorem co_low (x : El p) {y : El p} (hd : d < p.n) (hy : Tl d y) {k : Nat} (hk : k < d) : co (x * y) k = co x k :=
  (atv_low hc.valid hd _ 0 rfl (Nat.zero_le _) _ _ x.inr y.inr x.zu hy).1 k hk
theorem co_at (x : El p) {y : El p} (hd : d < p.n) (hy : Tl d y) : co (x * y) d = (co x d + co y d) % p.o d :=
  (atv_low hc.valid hd _ 0 rfl (Nat.zero_le _) _ _ x.inr y.inr x.zu hy).2
theorem Tl.zero (x : El p) : Tl 0 x := x.zu
theorem Tl.mono {x : El p} {e : Nat} (h : Tl d x) (he : e ≤ d) : Tl e x := ZU.mono h he
theorem Tl.succ {x : El p} (h : Tl d x) (h0 : co x d = 0) : Tl (d + 1) x := fun k hk => by
  by_cases e : k = d
  · subst e; exact h0
  · exact h k (by omega)
theorem Tl.one (d : Nat) : Tl d (1 : El p) := zeros_zu _ _
theorem co_one (d : Nat) : co (1 : El p) d = 0 := zeros_getD _ _
theorem el_ext {x y : El p} (h : ∀ d, d < p.n → co x d = co y d) : x = y := T.ext (inr_ext x.inr y.inr h)
theorem Tl.end_ {x : El p} (h : Tl p.n x) : x = 1 := el_ext fun d hd => by rw [co_one]; exact h d hd
theorem Tl.mul {x y : El p} (hd : d ≤ p.n) (hx : Tl d x) (hy : Tl d y) : Tl d (x * y) := by
  by_cases e : d = p.n
  · subst e; rw [hy.end_, mul_one]; exact hx
  · intro k hk
    have := co_low x (by omega) hy hk
    exact this.trans (hx k hk)
theorem Tl.inv {x : El p} (hx : Tl d x) : Tl d x⁻¹ := by
  let x' : T p d := ⟨x.v, x.inr, hx⟩
  let y' : T p d := x'⁻¹
  let y : El p := ⟨y'.v, y'.inr, fun k hk => by omega⟩
  have h1 : y' * x' = 1 := inv_mul x'
  have h2 : y * x = 1 := by
    apply T.ext
    have h3 : atv p d y'.v x.v = zeros p.n := congrArg T.v h1
    show atv p 0 y'.v x.v = zeros p.n
    rw [at_restrict' hc.valid (Nat.zero_le d) y'.inr x.inr y'.zu hx, h3]
  rw [← eq_inv_of_mul h2]
  exact y'.zu
theorem Tl.pw {x : El p} (hd : d ≤ p.n) (hx : Tl d x) : ∀ k, Tl d (pw x k)
  | 0 => Tl.one d
  | k + 1 => Tl.mul hd (Tl.pw hd hx k) hx
theorem co_pw {x : El p} (hd : d < p.n) (hx : Tl d x) : ∀ k : Nat, co (pw x k) d = (k * co x d) % p.o d
  | 0 => by rw [pw_zero, co_one]; simp
  | k + 1 => by
    rw [pw_succ, co_at _ hd hx, co_pw hd hx k, Int.emod_add_emod]
    congr 1
    rw [Int.natCast_succ, Int.add_mul, Int.one_mul]
theorem co_inv {x : El p} (hd : d < p.n) (hx : Tl d x) : (co x⁻¹ d + co x d) % p.o d = 0 := by
  rw [← co_at _ hd hx, inv_mul, co_one]
theorem Tl.cm {x y : El p} (hd : d < p.n) (hx : Tl d x) (hy : Tl d y) : Tl (d + 1) (cm x y) := by
  have h1 : Tl d (x * y) := hx.mul (by omega) hy
  have h2 : Tl d (y * x) := hy.mul (by omega) hx
  rw [cm_eq]
  refine Tl.succ (Tl.mul (by omega) h2.inv h1) ?_
  rw [co_at _ hd h1, co_at _ hd hy, Int.add_comm (co x d), ← co_at _ hd hx]
  exact co_inv hd h2
theorem Tl.cj {x y : El p} (hd : d < p.n) (hx : Tl (d + 1) x) (hy : Tl d y) : Tl (d + 1) (Grp.cj x y) := by
  have h : Grp.cj x y = x * Grp.cm x y := by unfold Grp.cm; rw [mul_inv_cancel_left]
  rw [h]
  exact hx.mul (by omega) (Tl.cm hd (hx.mono (by omega)) hy)
end
end Go.Pc

/-
  Subgroups and their tables: a table whose powers and commutators reduce to the identity gives a subgroup; canonical sequences are unique.
  Conditions: the tails at all levels are groups; nothing of the program stands here.
-/
namespace Go.Pc
open Grp
/-- A subgroup, as a set. -/
structure Sub {G : Type} [Grp G] (H : G → Prop) : Prop where
  one : H 1
  mul : ∀ a b, H a → H b → H (a * b)
  inv : ∀ a, H a → H a⁻¹
/-- The subgroup that a set generates. -/
inductive Gen {G : Type} [Grp G] (S : G → Prop) : G → Prop
  | of (a : G) : S a → Gen S a
  | one : Gen S 1
  | mul (a b : G) : Gen S a → Gen S b → Gen S (a * b)
  | inv (a : G) : Gen S a → Gen S a⁻¹
theorem Gen.sub {G : Type} [Grp G] (S : G → Prop) : Sub (Gen S) := ⟨.one, fun _ _ => .mul _ _, fun _ => .inv _⟩
theorem Gen.le {G : Type} [Grp G] {S H : G → Prop} (hH : Sub H) (h : ∀ a, S a → H a) : ∀ a, Gen S a → H a := by
  intro a ha
  induction ha with
  | of a h' => exact h a h'
  | one => exact hH.one
  | mul a b _ _ ih1 ih2 => exact hH.mul _ _ ih1 ih2
  | inv a _ ih => exact hH.inv _ ih
section
variable {G : Type} [Grp G] {H : G → Prop}
theorem Sub.pw (hH : Sub H) {a : G} (h : H a) : ∀ k, H (pw a k)
  | 0 => hH.one
  | k + 1 => hH.mul _ _ (Sub.pw hH h k) h
theorem Sub.pwz (hH : Sub H) {a : G} (h : H a) (k : Int) : H (pwz a k) := by
  unfold Grp.pwz
  split
  · exact hH.pw (hH.inv _ h) _
  · exact hH.pw h _
theorem Sub.left (hH : Sub H) {a b : G} (ha : H a) : H (a * b) ↔ H b :=
  ⟨fun h => by have := hH.mul _ _ (hH.inv _ ha) h; rwa [inv_mul_cancel_left] at this, hH.mul _ _ ha⟩
theorem Sub.right (hH : Sub H) {a b : G} (hb : H b) : H (a * b) ↔ H a :=
  ⟨fun h => by have := hH.mul _ _ h (hH.inv _ hb); rwa [mul_inv_cancel_right] at this, fun h => hH.mul _ _ h hb⟩
theorem Sub.cm (hH : Sub H) {a b : G} (ha : H a) (hb : H b) : H (Grp.cm a b) := by
  rw [cm_eq]; exact hH.mul _ _ (hH.inv _ (hH.mul _ _ hb ha)) (hH.mul _ _ ha hb)
theorem cm_inv (a b : G) : (Grp.cm a b)⁻¹ = Grp.cm b a := by rw [cm_eq, cm_eq, mul_inv_rev, inv_inv]
end
section
variable {p : Pr} [hc : ConAll p]
/-- A table: for each depth at most one element, with the leading exponent 1. -/
abbrev Tab (p : Pr) := Nat → Option (El p)
structure TabOk (t : Tab p) : Prop where
  lt : ∀ d y, t d = some y → d < p.n
  tl : ∀ d y, t d = some y → Tl d y
  lead : ∀ d y, t d = some y → co y d = 1
/-- x is brought to the identity by entries of the table. -/
inductive Red (t : Tab p) : El p → Prop
  | one : Red t 1
  | right (d : Nat) (y x : El p) (k : Int) : t d = some y → Tl d x → co x d ≠ 0 → Tl (d + 1) (x * pwz y k) → Red t (x * pwz y k) → Red t x
  | left (d : Nat) (y x : El p) (k : Int) : t d = some y → Tl d x → co x d ≠ 0 → Tl (d + 1) (pwz y k * x) → Red t (pwz y k * x) → Red t x
def Ents (t : Tab p) (x : El p) : Prop := ∃ d, t d = some x
/-- t' has all entries of t. -/
def Above (t t' : Tab p) : Prop := ∀ d y, t d = some y → t' d = some y
theorem Above.refl (t : Tab p) : Above t t := fun _ _ h => h
theorem Above.trans {t t' t'' : Tab p} (h : Above t t') (h' : Above t' t'') : Above t t'' := fun d y e => h' d y (h d y e)
theorem Red.gen {t : Tab p} {x : El p} (h : Red t x) : Gen (Ents t) x := by
  induction h with
  | one => exact .one
  | right d y x k e _ _ _ _ ih => exact ((Gen.sub _).right ((Gen.sub _).pwz (.of _ ⟨d, e⟩) k)).1 ih
  | left d y x k e _ _ _ _ ih => exact ((Gen.sub _).left ((Gen.sub _).pwz (.of _ ⟨d, e⟩) k)).1 ih
theorem Red.above {t t' : Tab p} (ha : Above t t') {x : El p} (h : Red t x) : Red t' x := by
  induction h with
  | one => exact .one
  | right d y x k e h1 h2 h3 _ ih => exact .right d y x k (ha _ _ e) h1 h2 h3 ih
  | left d y x k e h1 h2 h3 _ ih => exact .left d y x k (ha _ _ e) h1 h2 h3 ih
theorem depth_le {x : El p} {d e : Nat} (h : Tl d x) (h0 : co x e ≠ 0) : d ≤ e := by
  by_cases hd : d ≤ e
  · exact hd
  · exact absurd (h e (by omega)) h0
/-- The conditions on a full table. -/
structure Full (t : Tab p) : Prop where
  ok : TabOk t
  ptop : ∀ d y, t d = some y → Red t (Grp.pw y (p.o d).toNat)
  pcm : ∀ d e y z, t d = some y → t e = some z → d < e → Red t (Grp.cm y z) ∨ Red t (Grp.cm z y)
def Nat_ (t : Tab p) (d : Nat) (x : El p) : Prop := Red t x ∧ Tl d x
variable {t : Tab p}
theorem Full.top (hf : Full t) {d : Nat} {y : El p} (h : t d = some y) : Tl (d + 1) (pw y (p.o d).toNat) := by
  have hd := hf.ok.lt d y h
  have ho := hc.valid.opos hd
  refine (Tl.pw (by omega) (hf.ok.tl d y h) _).succ ?_
  rw [co_pw hd (hf.ok.tl d y h), hf.ok.lead d y h, Int.toNat_of_nonneg (by omega)]
  simp
theorem Full.entry (hf : Full t) {d : Nat} {y : El p} (h : t d = some y) : Red t y := by
  have hd := hf.ok.lt d y h
  have ho := hc.valid.opos hd
  have e : y * pw y ((p.o d).toNat - 1) = pw y (p.o d).toNat := by
    rw [← pw_succ', show (p.o d).toNat - 1 + 1 = (p.o d).toNat by omega]
  refine .right d y y (((p.o d).toNat - 1 : Nat) : Int) h (hf.ok.tl d y h) (by rw [hf.ok.lead d y h]; omega) ?_ ?_
  · rw [pwz_nat, e]; exact hf.top h
  · rw [pwz_nat, e]; exact hf.ptop d y h
theorem Full.norm (hf : Full t) {d : Nat} (hd : d < p.n) (hs : Sub (Nat_ t (d + 1))) {y : El p} (h : t d = some y) : ∀ n, Nat_ t (d + 1) n → Nat_ t (d + 1) (cj n y) := by
  rintro n ⟨hr, ht⟩
  have hy := hf.ok.tl d y h
  have hK : Sub fun n => Nat_ t (d + 1) (cj n y) := by
    refine ⟨?_, fun a b ha hb => ?_, fun a ha => ?_⟩
    · rw [cj_one]; exact hs.one
    · rw [cj_mul]; exact hs.mul _ _ ha hb
    · rw [cj_inv]; exact hs.inv _ ha
  have hz : ∀ e z, d < e → t e = some z → Nat_ t (d + 1) (cj z y) := by
    intro e z hde hz
    have hez := hf.ok.tl e z hz
    have hN : Nat_ t (d + 1) z := ⟨hf.entry hz, hez.mono hde⟩
    have hcm : Nat_ t (d + 1) (cm z y) := by
      rcases hf.pcm d e y z h hz hde with h1 | h1
      · rw [← cm_inv]
        exact hs.inv _ ⟨h1, Tl.cm hd hy (hez.mono (by omega))⟩
      · exact ⟨h1, Tl.cm hd (hez.mono (by omega)) hy⟩
    have e1 : cj z y = z * cm z y := by unfold Grp.cm; rw [mul_inv_cancel_left]
    rw [e1]
    exact hs.mul _ _ hN hcm
  induction hr with
  | one => exact hK.one
  | right e z x k hz' h1 h2 h3 _ ih =>
    have hle := depth_le ht h2
    exact (hK.right (hK.pwz (hz e z hle hz') k)).1 (ih (h3.mono (by omega)))
  | left e z x k hz' h1 h2 h3 _ ih =>
    have hle := depth_le ht h2
    exact (hK.left (hK.pwz (hz e z hle hz') k)).1 (ih (h3.mono (by omega)))
theorem Full.norm_pw (hf : Full t) {d : Nat} (hd : d < p.n) (hs : Sub (Nat_ t (d + 1))) {y : El p} (h : t d = some y) (n : El p) (hn : Nat_ t (d + 1) n) : ∀ k, Nat_ t (d + 1) (cj n (pw y k))
  | 0 => by rw [pw_zero, cj_by_one]; exact hn
  | k + 1 => by rw [pw_succ, ← cj_cj]; exact hf.norm hd hs h _ (hf.norm_pw hd hs h n hn k)
theorem Red.inv_at {x : El p} (h : Red t x) {d : Nat} (hd : Tl d x) (h0 : co x d ≠ 0) : ∃ y k, t d = some y ∧ ((Tl (d + 1) (x * pwz y k) ∧ Red t (x * pwz y k)) ∨ (Tl (d + 1) (pwz y k * x) ∧ Red t (pwz y k * x))) := by
  cases h with
  | one => exact absurd (co_one d) h0
  | right e y x k h1 h2 h3 h4 h5 =>
    obtain rfl : d = e := Nat.le_antisymm (depth_le hd h3) (depth_le h2 h0)
    exact ⟨y, k, h1, .inl ⟨h4, h5⟩⟩
  | left e y x k h1 h2 h3 h4 h5 =>
    obtain rfl : d = e := Nat.le_antisymm (depth_le hd h3) (depth_le h2 h0)
    exact ⟨y, k, h1, .inr ⟨h4, h5⟩⟩
theorem Full.sub (hf : Full t) : ∀ m d, p.n - d = m → d ≤ p.n → Sub (Nat_ t d)
  | 0, d, hm, hd => by
    obtain rfl : d = p.n := by omega
    refine ⟨⟨.one, Tl.one _⟩, fun a b ha hb => ?_, fun a ha => ?_⟩
    · rw [hb.2.end_, mul_one]; exact ha
    · have := ha.2.end_
      subst this
      rw [inv_one]; exact ha
  | m + 1, d, hm, hd => by
    have hdn : d < p.n := by omega
    have hs := hf.sub m (d + 1) (by omega) (by omega)
    have hup : ∀ x, Nat_ t d x → co x d = 0 → Nat_ t (d + 1) x := fun x hx h0 => ⟨hx.1, hx.2.succ h0⟩
    have hdn' : ∀ x, Nat_ t (d + 1) x → Nat_ t d x := fun x hx => ⟨hx.1, hx.2.mono (by omega)⟩
    cases ht : t d with
    | none =>
      have key : ∀ x, Nat_ t d x ↔ Nat_ t (d + 1) x := by
        intro x
        refine ⟨fun hx => ?_, hdn' x⟩
        by_cases h0 : co x d = 0
        · exact hup x hx h0
        · obtain ⟨y, k, h1, _⟩ := hx.1.inv_at hx.2 h0
          rw [ht] at h1; cases h1
      refine ⟨(key _).2 hs.one, fun a b ha hb => (key _).2 (hs.mul _ _ ((key _).1 ha) ((key _).1 hb)), fun a ha => (key _).2 (hs.inv _ ((key _).1 ha))⟩
    | some y =>
      have hy := hf.ok.tl d y ht
      have ho := hc.valid.opos hdn
      have htop : Nat_ t (d + 1) (pw y (p.o d).toNat) := ⟨hf.ptop d y ht, hf.top ht⟩
      have key : ∀ x, Nat_ t d x ↔ Tl d x ∧ ∃ k, Nat_ t (d + 1) (x * pw y k) := by
        intro x
        constructor
        · intro hx
          refine ⟨hx.2, ?_⟩
          by_cases h0 : co x d = 0
          · exact ⟨0, by rw [pw_zero, mul_one]; exact hup x hx h0⟩
          · obtain ⟨y', k, h1, h2⟩ := hx.1.inv_at hx.2 h0
            obtain rfl : y = y' := by rw [ht] at h1; exact Option.some.inj h1
            obtain ⟨j, m', e1, e2⟩ := pwz_top y (p.o d).toNat (by omega) k
            rcases h2 with h2 | h2
            · refine ⟨j, ?_⟩
              rw [e1, ← mul_assoc]
              exact hs.mul _ _ ⟨h2.2, h2.1⟩ (hs.pw htop m')
            · refine ⟨j, ?_⟩
              have h3 := hs.mul _ _ (hs.pw htop m') ⟨h2.2, h2.1⟩
              rw [← mul_assoc, ← e2] at h3
              have := hf.norm_pw hdn hs ht _ h3 j
              unfold cj at this
              rwa [mul_assoc, inv_mul_cancel_left] at this
        · rintro ⟨hx, k, hk⟩
          by_cases h0 : co x d = 0
          · have hk0 : (k : Int) % p.o d = 0 := by
              have := co_at x hdn (Tl.pw (by omega) hy k)
              rw [h0, co_pw hdn hy, hf.ok.lead d y ht, Int.mul_one, Int.zero_add, Int.emod_emod] at this
              rw [← this]
              exact hk.2 d (by omega)
            obtain ⟨j, hj⟩ : ∃ j : Nat, k = (p.o d).toNat * j := by
              refine ⟨(k / (p.o d)).toNat, ?_⟩
              have h1 := Int.mul_ediv_add_emod k (p.o d)
              rw [hk0, Int.add_zero] at h1
              have h2 : (0 : Int) ≤ k / p.o d := Int.ediv_nonneg (by omega) (by omega)
              apply Int.ofNat.inj
              show (k : Int) = ((p.o d).toNat * ((k : Int) / p.o d).toNat : Nat)
              rw [Int.natCast_mul, Int.toNat_of_nonneg h2, Int.toNat_of_nonneg (by omega), h1]
            rw [hj, pw_mul] at hk
            exact hdn' x ((hs.right (hs.pw htop j)).1 hk)
          · exact ⟨.right d y x (k : Int) ht hx h0 (by rw [pwz_nat]; exact hk.2) (by rw [pwz_nat]; exact hk.1), hx⟩
      refine ⟨(key _).2 ⟨Tl.one _, 0, by rw [pw_zero, mul_one]; exact hs.one⟩, fun a b ha hb => ?_, fun a ha => ?_⟩
      · obtain ⟨ha1, k, ha2⟩ := (key _).1 ha
        obtain ⟨hb1, l, hb2⟩ := (key _).1 hb
        refine (key _).2 ⟨ha1.mul (by omega) hb1, l + k, ?_⟩
        have h := hs.mul _ _ ha2 (hf.norm_pw hdn hs ht _ hb2 k)
        unfold cj at h
        rw [mul_assoc a, mul_inv_cancel_left, mul_assoc b, ← pw_add, ← mul_assoc] at h
        exact h
      · obtain ⟨ha1, k, ha2⟩ := (key _).1 ha
        refine (key _).2 ⟨ha1.inv, k * ((p.o d).toNat - 1), ?_⟩
        have h1 := hf.norm_pw hdn hs ht _ (hs.inv _ ha2) (k * ((p.o d).toNat - 1))
        have h2 : pw y k * pw y (k * ((p.o d).toNat - 1)) = pw (pw y (p.o d).toNat) k := by
          rw [← pw_add, ← pw_mul]
          congr 1
          obtain ⟨q, hq⟩ : ∃ q, (p.o d).toNat = q + 1 := ⟨(p.o d).toNat - 1, by omega⟩
          rw [hq, Nat.add_sub_cancel, Nat.add_mul, Nat.one_mul, Nat.mul_comm k q, Nat.add_comm]
        have h3 := hs.mul _ _ (hs.pw htop k) h1
        rw [← h2] at h3
        unfold cj at h3
        rw [mul_inv_rev, mul_assoc (pw y k), mul_inv_cancel_left, mul_assoc (pw y k)⁻¹, mul_inv_cancel_left] at h3
        exact h3
/-- The subgroup of a full table. -/
theorem Full.red_iff (hf : Full t) (x : El p) : Red t x ↔ Gen (Ents t) x := by
  refine ⟨Red.gen, fun h => ?_⟩
  have hs : Sub (Nat_ t 0) := hf.sub _ 0 rfl (Nat.zero_le _)
  exact (Gen.le hs (fun a ha => by obtain ⟨d, hd⟩ := ha; exact ⟨hf.entry hd, Tl.zero _⟩) x h).1
theorem Full.some_of (hf : Full t) {x : El p} (hx : Gen (Ents t) x) {d : Nat} (hd : Tl d x) (h0 : co x d ≠ 0) : ∃ y, t d = some y := by
  obtain ⟨y, _, h, _⟩ := ((hf.red_iff x).2 hx).inv_at hd h0
  exact ⟨y, h⟩

/-! ### canonical sequences -/
/-- Some element of H has the depth d. -/
def Dep (H : El p → Prop) (d : Nat) : Prop := ∃ h, H h ∧ Tl d h ∧ co h d ≠ 0
/-- The element of the canonical sequence at a depth. -/
structure CanAt (H : El p → Prop) (d : Nat) (x : El p) : Prop where
  mem : H x
  tl : Tl d x
  lead : co x d = 1
  zero : ∀ e, Dep H e → e ≠ d → co x e = 0
/-- Two elements that differ by an element of H and are zero at all depths of H are the same (but for some depths at which they agree anyhow). -/
theorem depth_ex {h : El p} (hn : h ≠ 1) : ∃ d, d < p.n ∧ Tl d h ∧ co h d ≠ 0 := by
  have key : ∀ m d, p.n - d = m → d ≤ p.n → Tl d h → ∃ d, d < p.n ∧ Tl d h ∧ co h d ≠ 0 := by
    intro m
    induction m with
    | zero => intro d hm hd ht; exact absurd (Tl.end_ (by obtain rfl : d = p.n := by omega
                                                          exact ht)) hn
    | succ m ih =>
      intro d hm hd ht
      by_cases h0 : co h d = 0
      · exact ih (d + 1) (by omega) (by omega) (ht.succ h0)
      · exact ⟨d, by omega, ht, h0⟩
  exact key _ 0 rfl (Nat.zero_le _) (Tl.zero _)
theorem rep_unique {H : El p → Prop} (hH : Sub H) {x y : El p} (h : H (x⁻¹ * y)) (hz : ∀ d, Dep H d → co x d = co y d) : x = y := by
  by_cases e : x⁻¹ * y = 1
  · have := congrArg (x * ·) e
    simp only [mul_inv_cancel_left, mul_one] at this
    exact this.symm
  · exfalso
    obtain ⟨d, hd, h1, h2⟩ := depth_ex e
    have h3 := hz d ⟨_, h, h1, h2⟩
    have h4 := co_at x hd h1
    rw [mul_inv_cancel_left, ← h3] at h4
    have rx := co_rng x hd
    have rh := co_rng (x⁻¹ * y) hd
    by_cases hlt : co x d + co (x⁻¹ * y) d < p.o d
    · rw [Int.emod_eq_of_lt (by omega) hlt] at h4; omega
    · rw [show co x d + co (x⁻¹ * y) d = (co x d + co (x⁻¹ * y) d - p.o d) + p.o d by omega, Int.add_emod_right, Int.emod_eq_of_lt (by omega) (by omega)] at h4
      omega
theorem CanAt.unique {H : El p → Prop} (hH : Sub H) {d : Nat} {x y : El p} (hx : CanAt H d x) (hy : CanAt H d y) : x = y := by
  refine rep_unique hH (hH.mul _ _ (hH.inv _ hx.mem) hy.mem) fun e he => ?_
  by_cases hed : e = d
  · subst hed; rw [hx.lead, hy.lead]
  · rw [hx.zero e he hed, hy.zero e he hed]
end
end Go.Pc

/-
  The work loop of subgroups: a table that is filled until no element is left gives the subgroup that the first elements generate; the canonical list.
  Conditions: the tails at all levels are groups; nothing of the program stands here.
-/
namespace Go.Pc
open Grp
section
variable {p : Pr} [hc : ConAll p]
theorem CanAt.dep {H : El p → Prop} {d : Nat} {x : El p} (h : CanAt H d x) : Dep H d := ⟨x, h.mem, h.tl, by rw [h.lead]; omega⟩
open Classical in
noncomputable def canF (H : El p → Prop) (d : Nat) : Option (List Int) := if h : ∃ x, CanAt H d x then some (Classical.choose h).v else none
/-- The canonical sequence of a subgroup. -/
noncomputable def canon (H : El p → Prop) : List (List Int) := (List.range p.n).filterMap (canF H)
/-- x is brought to r by entries of the table. -/
inductive Stp (t : Tab p) : El p → El p → Prop
  | refl (x : El p) : Stp t x x
  | right (d : Nat) (y x r : El p) (k : Int) : t d = some y → Tl d x → co x d ≠ 0 → Tl (d + 1) (x * pwz y k) → Stp t (x * pwz y k) r → Stp t x r
  | left (d : Nat) (y x r : El p) (k : Int) : t d = some y → Tl d x → co x d ≠ 0 → Tl (d + 1) (pwz y k * x) → Stp t (pwz y k * x) r → Stp t x r
theorem Stp.red {t t' : Tab p} (ha : Above t t') {x r : El p} (h : Stp t x r) (hr : Red t' r) : Red t' x := by
  induction h with
  | refl x => exact hr
  | right d y x r k e h1 h2 h3 _ ih => exact .right d y x k (ha _ _ e) h1 h2 h3 (ih hr)
  | left d y x r k e h1 h2 h3 _ ih => exact .left d y x k (ha _ _ e) h1 h2 h3 (ih hr)
theorem Stp.trans {t : Tab p} {x r s : El p} (h : Stp t x r) (h' : Stp t r s) : Stp t x s := by
  induction h with
  | refl x => exact h'
  | right d y x r k e h1 h2 h3 _ ih => exact .right d y x s k e h1 h2 h3 (ih h')
  | left d y x r k e h1 h2 h3 _ ih => exact .left d y x s k e h1 h2 h3 (ih h')
theorem Stp.mem {t : Tab p} {H : El p → Prop} (hH : Sub H) (ht : ∀ d y, t d = some y → H y) {x r : El p} (h : Stp t x r) (hx : H x) : H r := by
  induction h with
  | refl x => exact hx
  | right d y x r k e _ _ _ _ ih => exact ih (hH.mul _ _ hx (hH.pwz (ht d y e) k))
  | left d y x r k e _ _ _ _ ih => exact ih (hH.mul _ _ (hH.pwz (ht d y e) k) hx)
/-- x will be brought to the identity as soon as the waiting elements are. -/
def Cov (t : Tab p) (W : El p → Prop) (x : El p) : Prop := ∃ r, (r = 1 ∨ W r) ∧ ∀ t', Above t t' → Red t' r → Red t' x
/-- The state of the work: S the elements given, t the table, W the elements that wait. -/
structure Wk (S : El p → Prop) (t : Tab p) (W : El p → Prop) : Prop where
  ok : TabOk t
  tmem : ∀ d y, t d = some y → Gen S y
  wmem : ∀ x, W x → Gen S x
  need : ∀ x, S x → Cov t W x
  top : ∀ d y, t d = some y → Cov t W (pw y (p.o d).toNat)
  pair : ∀ d e y z, t d = some y → t e = some z → d ≠ e → Cov t W (cm y z) ∨ Cov t W (cm z y)
variable {S W W' : El p → Prop} {t : Tab p}
theorem Wk.start : Wk S (fun _ => none) S where
  ok := ⟨(fun _ _ h => by cases h), (fun _ _ h => by cases h), (fun _ _ h => by cases h)⟩
  tmem _ _ h := by cases h
  wmem := .of
  need x hx := ⟨x, .inr hx, fun _ _ h => h⟩
  top _ _ h := by cases h
  pair _ _ _ _ h := by cases h
theorem Wk.congr (h : Wk S t W) (e : ∀ a, W a ↔ W' a) : Wk S t W' := by
  have : W = W' := funext fun a => propext (e a)
  rw [← this]; exact h
theorem Cov.step {t' : Tab p} (ha : Above t t') {x r a : El p} (hx : Stp t x r) (hW : ∀ a, W a → a = x ∨ W' a) (hr : r = 1 ∨ W' r) (h : Cov t W a) : Cov t' W' a := by
  obtain ⟨s, hs, hs'⟩ := h
  rcases hs with rfl | hs
  · exact ⟨1, .inl rfl, fun t2 h2 hr2 => hs' t2 (ha.trans h2) hr2⟩
  · rcases hW s hs with rfl | h3
    · exact ⟨r, hr, fun t2 h2 hr2 => hs' t2 (ha.trans h2) (hx.red (ha.trans h2) hr2)⟩
    · exact ⟨s, .inr h3, fun t2 h2 hr2 => hs' t2 (ha.trans h2) hr2⟩
theorem Wk.drop (h : Wk S t W) {x : El p} (hx : Stp t x 1) (hW : ∀ a, W a → a = x ∨ W' a) (hW' : ∀ a, W' a → W a) : Wk S t W' where
  ok := h.ok
  tmem := h.tmem
  wmem a ha := h.wmem a (hW' a ha)
  need a ha := (h.need a ha).step (Above.refl t) hx hW (.inl rfl)
  top d y e := (h.top d y e).step (Above.refl t) hx hW (.inl rfl)
  pair d e y z h1 h2 h3 := (h.pair d e y z h1 h2 h3).imp (·.step (Above.refl t) hx hW (.inl rfl)) (·.step (Above.refl t) hx hW (.inl rfl))
def Tab.set (t : Tab p) (d : Nat) (y : El p) : Tab p := fun e => if e = d then some y else t e
theorem Tab.set_above {d : Nat} {y : El p} (h : t d = none) : Above t (Tab.set t d y) := fun e z hz => by
  unfold Tab.set
  split
  · rename_i he; subst he; rw [h] at hz; cases hz
  · exact hz
theorem Wk.fill (h : Wk S t W) {x r y : El p} {d k : Nat} (hd : d < p.n) (hx : Stp t x r) (hxW : W x) (hrd : Tl d r) (hr0 : co r d ≠ 0) (ht : t d = none) (hy : y = pw r k) (hk : (k * co r d) % p.o d = 1)
    (hW : ∀ a, W a → a = x ∨ W' a) (hW' : ∀ a, W' a → W a ∨ a = r ∨ a = pw y (p.o d).toNat ∨ ∃ e z, t e = some z ∧ (a = cm y z ∨ a = cm z y))
    (h1 : W' r) (h2 : W' (pw y (p.o d).toNat)) (h3 : ∀ e z, t e = some z → W' (cm y z) ∨ W' (cm z y)) : Wk S (Tab.set t d y) W' := by
  have ha : Above t (Tab.set t d y) := Tab.set_above ht
  have hrS : Gen S r := hx.mem (Gen.sub S) h.tmem (h.wmem x hxW)
  have hyS : Gen S y := by rw [hy]; exact (Gen.sub S).pw hrS k
  have hset : ∀ e z, Tab.set t d y e = some z → (e = d ∧ z = y) ∨ (e ≠ d ∧ t e = some z) := by
    intro e z hz
    unfold Tab.set at hz
    split at hz
    · rename_i he; exact .inl ⟨he, (Option.some.inj hz).symm⟩
    · rename_i he; exact .inr ⟨he, hz⟩
  have now : ∀ a, W' a → Cov (Tab.set t d y) W' a := fun a ha' => ⟨a, .inr ha', fun _ _ h => h⟩
  constructor
  · refine ⟨fun e z hz => ?_, fun e z hz => ?_, fun e z hz => ?_⟩
    · rcases hset e z hz with ⟨rfl, rfl⟩ | ⟨_, h'⟩
      · exact hd
      · exact h.ok.lt e z h'
    · rcases hset e z hz with ⟨rfl, rfl⟩ | ⟨_, h'⟩
      · rw [hy]; exact hrd.pw (by omega) k
      · exact h.ok.tl e z h'
    · rcases hset e z hz with ⟨rfl, rfl⟩ | ⟨_, h'⟩
      · rw [hy, co_pw hd hrd]; exact hk
      · exact h.ok.lead e z h'
  · intro e z hz
    rcases hset e z hz with ⟨rfl, rfl⟩ | ⟨_, h'⟩
    · exact hyS
    · exact h.tmem e z h'
  · intro a ha'
    rcases hW' a ha' with h' | rfl | rfl | ⟨e, z, hz, rfl | rfl⟩
    · exact h.wmem a h'
    · exact hrS
    · exact (Gen.sub S).pw hyS _
    · exact (Gen.sub S).cm hyS (h.tmem e z hz)
    · exact (Gen.sub S).cm (h.tmem e z hz) hyS
  · exact fun a ha' => (h.need a ha').step ha hx hW (.inr h1)
  · intro e z hz
    rcases hset e z hz with ⟨rfl, rfl⟩ | ⟨_, h'⟩
    · exact now _ h2
    · exact (h.top e z h').step ha hx hW (.inr h1)
  · intro e f z u hz hu hne
    rcases hset e z hz with ⟨rfl, rfl⟩ | ⟨_, hz'⟩
    · rcases hset f u hu with ⟨rfl, rfl⟩ | ⟨_, hu'⟩
      · exact absurd rfl hne
      · exact (h3 f u hu').imp (now _) (now _)
    · rcases hset f u hu with ⟨rfl, rfl⟩ | ⟨_, hu'⟩
      · exact (h3 e z hz').symm.imp (now _) (now _)
      · exact (h.pair e f z u hz' hu' hne).imp (·.step ha hx hW (.inr h1)) (·.step ha hx hW (.inr h1))
theorem Cov.done {a : El p} (h : Cov t W a) (hW : ∀ a, ¬ W a) : Red t a := by
  obtain ⟨r, hr, h⟩ := h
  rcases hr with rfl | hr
  · exact h t (Above.refl t) .one
  · exact absurd hr (hW r)
theorem Wk.full (h : Wk S t W) (hW : ∀ a, ¬ W a) : Full t where
  ok := h.ok
  ptop d y e := (h.top d y e).done hW
  pcm d e y z h1 h2 h3 := (h.pair d e y z h1 h2 (by omega)).imp (·.done hW) (·.done hW)
theorem Wk.gen (h : Wk S t W) (hW : ∀ a, ¬ W a) : Gen (Ents t) = Gen S := by
  funext a
  apply propext
  constructor
  · exact Gen.le (Gen.sub S) (fun a ⟨d, hd⟩ => h.tmem d a hd) a
  · exact Gen.le (Gen.sub _) (fun a ha => ((h.need a ha).done hW).gen) a
end
end Go.Pc

/-
  Inverses in the tails: the inverse of an element out of the inverses in the next tail.
  Conditions: the tails at the level and behind it are groups; nothing of the program stands here.
-/
namespace Go.Pc
open Grp
section
variable {p : Pr} {i : Nat} [h : Con p i] [h' : Con p (i + 1)]
/-- An element of the next tail in this one. -/
def up (x : T p (i + 1)) : T p i := ⟨x.v, x.inr, ZU.mono x.zu (by omega)⟩
theorem up_mul (hi : i < p.n) (x y : T p (i + 1)) : up x * up y = up (x * y) := T.ext (at_restrict h.valid hi x.inr y.inr x.zu y.zu)
theorem up_one : up (1 : T p (i + 1)) = 1 := rfl
theorem up_inv (hi : i < p.n) (x : T p (i + 1)) : up x⁻¹ = (up x)⁻¹ := eq_inv_of_mul (by rw [up_mul hi, inv_mul, up_one])
def unitT (hv : Valid p) (k : Int) (h0 : 0 ≤ k) (h1 : i < p.n → k < p.o i) : T p i := ⟨unitv p i k, unitv_in hv h0 h1, unitv_zu p (Nat.le_refl _) k⟩
theorem inv_zero (hi : i < p.n) (x : T p i) (h0 : x.v.getD i 0 = 0) (r : T p (i + 1)) (hr : r.v = x.v.set i 0) : x⁻¹.v = r⁻¹.v := by
  have hx : x = up r := T.ext (by
    show x.v = r.v
    rw [hr]
    have := set_self (v := x.v) (i := i) (by rw [x.inr.len]; exact hi)
    rw [h0] at this
    exact this.symm)
  rw [hx, ← up_inv hi]
  rfl
theorem inv_split (hi : i < p.n) (x : T p i) (h0 : x.v.getD i 0 ≠ 0) (r u : T p (i + 1)) (hr : r.v = x.v.set i 0) (hu : u.v = p.w i) :
    x⁻¹.v = atv p i (atv p i r⁻¹.v (unitv p i (p.o i - x.v.getD i 0))) u⁻¹.v := by
  have hv := h.valid
  have rx := x.inr.rng i hi
  let a : T p i := unitT hv (x.v.getD i 0) rx.1 (fun _ => rx.2)
  let b : T p i := unitT hv (p.o i - x.v.getD i 0) (by omega) (fun _ => by omega)
  have hx : x = a * up r := T.ext (by
    show x.v = atv p i (unitv p i (x.v.getD i 0)) r.v
    rw [unit_at hv (Nat.le_refl _) hi rx.1 rx.2 r.inr r.zu, hr, set_set, set_self (by rw [x.inr.len]; exact hi)])
  have hab : a * b = up u := T.ext (by
    have hl : (unitv p i (x.v.getD i 0)).getD i 0 = x.v.getD i 0 := getD_set_eq _ _ _ (by rw [zeros_len]; exact hi)
    have hl2 : (unitv p i (p.o i - x.v.getD i 0)).getD i 0 = p.o i - x.v.getD i 0 := getD_set_eq _ _ _ (by rw [zeros_len]; exact hi)
    have hz : (zeros p.n).set i 0 = zeros p.n := by
      have := set_self (v := zeros p.n) (i := i) (by rw [zeros_len]; exact hi)
      rw [zeros_getD] at this; exact this
    show atv p i (unitv p i (x.v.getD i 0)) (unitv p i (p.o i - x.v.getD i 0)) = u.v
    rw [atv_eq _ _ _ _ hi, hl, hl2, if_pos (by omega)]
    have e1 : ∀ k, (unitv p i k).set i 0 = zeros p.n := fun k => by unfold unitv; rw [set_set, hz]
    rw [e1, e1, rep_id (img_zeros i), one_at hv _ (i + 1) rfl _ hv.zeros_in (zeros_zu _ _), at_one hv _ (i + 1) rfl _ (hv.w_in i hi) (hv.w_zu i hi), hu]
    rw [show x.v.getD i 0 + (p.o i - x.v.getD i 0) - p.o i = 0 by omega]
    have := set_self (v := p.w i) (i := i) (by rw [(hv.w_in i hi).len]; exact hi)
    rw [hv.w_zu i hi i (by omega)] at this
    exact this)
  have hxi : x⁻¹ = (up r)⁻¹ * b * (up u)⁻¹ := by
    symm
    apply eq_inv_of_mul
    rw [hx, ← hab, mul_inv_rev]
    simp only [mul_assoc, inv_mul_cancel_left]
    rw [← mul_assoc b, mul_inv, one_mul, inv_mul]
  rw [hxi, ← up_inv hi, ← up_inv hi]
  rfl
end
end Go.Pc

/-
  Collection in the tails: what it is to multiply by one generator in place.
  Conditions: the tail is a group; nothing of the program stands here.
-/
namespace Go.Pc
open Grp
section
variable {H : Type} [Grp H]
theorem phi_split (c : Nat → H) (x : List Int) : ∀ a l b, phi c x l (a + b) = phi c x l a * phi c x (l + a) b
  | 0, l, b => by rw [Nat.zero_add, phi, Grp.one_mul]; rfl
  | a + 1, l, b => by rw [show a + 1 + b = (a + b) + 1 by omega, phi, phi_split c x a (l + 1) b, phi, Grp.mul_assoc, show l + 1 + a = l + (a + 1) by omega]
theorem phi_none (c : Nat → H) {x : List Int} : ∀ k l, (∀ j, l ≤ j → j < l + k → x.getD j 0 = 0 ∨ c j = 1) → phi c x l k = 1
  | 0, _, _ => rfl
  | k + 1, l, h => by
    rw [phi, phi_none c k (l + 1) (fun j h1 h2 => h j (by omega) (by omega)), Grp.mul_one]
    rcases h l (Nat.le_refl _) (by omega) with h | h
    · rw [h]; rfl
    · rw [h, one_pw]
theorem phi_cong2 (c c' : Nat → H) {x y : List Int} : ∀ k l, (∀ j, l ≤ j → j < l + k → x.getD j 0 = y.getD j 0 ∧ c j = c' j) → phi c x l k = phi c' y l k
  | 0, _, _ => rfl
  | k + 1, l, h => by
    rw [phi, phi, phi_cong2 c c' k (l + 1) (fun j h1 h2 => h j (by omega) (by omega)), (h l (Nat.le_refl _) (by omega)).1, (h l (Nat.le_refl _) (by omega)).2]
theorem phi_map {K : Type} [Grp K] (f : H → K) (hf : ∀ x y, f (x * y) = f x * f y) (c : Nat → H) (x : List Int) : ∀ k l, f (phi c x l k) = phi (fun j => f (c j)) x l k := by
  have f1 : f 1 = 1 := Grp.mul_left_cancel (a := f 1) (by rw [← hf, Grp.one_mul, Grp.mul_one])
  have fp : ∀ a q, f (pw a q) = pw (f a) q := by
    intro a q
    induction q with
    | zero => exact f1
    | succ q ih => rw [pw_succ, hf, ih, pw_succ]
  intro k
  induction k with
  | zero => intro l; exact f1
  | succ k ih => intro l; rw [phi, hf, fp, ih, phi]
end
section
variable {p : Pr} {i : Nat}
theorem img_unit (hv : Valid p) {j k : Nat} (hjk : j < k) (hk : k < p.n) : img p j (unitv p k 1) = p.c j k := by
  have key : ∀ m, m ≤ p.n - (j + 1) → imgTo p j (unitv p k 1) m = if j + 1 + m ≤ k then zeros p.n else p.c j k := by
    intro m
    induction m with
    | zero => intro _; rw [imgTo_zero, if_pos (by omega)]
    | succ m ih =>
      intro hm
      rw [imgTo_succ, ih (by omega)]
      by_cases e : j + 1 + m = k
      · rw [if_pos (by omega), if_neg (by omega), e]
        have e1 : (unitv p k 1).getD k 0 = 1 := getD_set_eq _ _ _ (by rw [zeros_len]; exact hk)
        rw [e1]
        show atv p (j + 1) (zeros p.n) (p.c j k) = p.c j k
        exact one_at hv _ (j + 1) rfl _ (hv.c_in _ _ hjk hk) (hv.c_zu _ _ hjk hk)
      · have e1 : (unitv p k 1).getD (j + 1 + m) 0 = 0 := by unfold unitv; rw [getD_set_ne _ _ _ _ (fun h => e h.symm), zeros_getD]
        rw [e1]
        show (if j + 1 + m ≤ k then zeros p.n else p.c j k) = _
        by_cases h : j + 1 + m ≤ k
        · rw [if_pos h, if_pos (by omega)]
        · rw [if_neg h, if_neg (by omega)]
  rw [img_eq, key _ (Nat.le_refl _), if_neg (by omega)]
def Tw' (hv : Valid p) {j : Nat} (hj : i ≤ j ∧ j < p.n) : T p i := ⟨p.w j, hv.w_in _ hj.2, (hv.w_zu _ hj.2).mono (by omega)⟩
variable [h : Con p i]
/-- The conjugate of generator k by generator j, in the tail at i. -/
noncomputable def cIn (p : Pr) (i : Nat) [h : Con p i] (j k : Nat) : T p i :=
  open Classical in if hk : i ≤ j ∧ j < k ∧ k < p.n then ⟨p.c j k, h.valid.c_in _ _ hk.2.1 hk.2.2, (h.valid.c_zu _ _ hk.2.1 hk.2.2).mono (by omega)⟩ else 1
theorem gOf_eq {j : Nat} (hj : i ≤ j ∧ j < p.n) : gOf p i j = gen h.valid i j hj := dif_pos hj
theorem rel_pow {j : Nat} (hj : i ≤ j ∧ j < p.n) : pw (gOf p i j) (p.o j).toNat = Tw' h.valid hj := by
  have hv := h.valid
  have ho := hv.opos hj.2
  obtain ⟨q, hq⟩ : ∃ q : Nat, (p.o j).toNat = q + 1 := ⟨(p.o j).toNat - 1, by omega⟩
  rw [gOf_eq hj, hq, pw_succ]
  apply T.ext
  rw [T.mul_val, gen_pw hj q (by omega)]
  show atv p i (unitv p j q) (unitv p j 1) = p.w j
  have hk := unitv_in hv (j := j) (k := (q : Int)) (by omega) (fun _ => by omega)
  have h1' := unitv_in hv (j := j) (k := 1) (by omega) (fun _ => by omega)
  have e1 : ∀ k, (unitv p j k).getD j 0 = k := fun k => getD_set_eq _ _ _ (by rw [zeros_len]; exact hj.2)
  have hz : (zeros p.n).set j 0 = zeros p.n := by
    have := set_self (v := zeros p.n) (i := j) (by rw [zeros_len]; exact hj.2)
    rw [zeros_getD] at this; exact this
  have e2 : ∀ k, (unitv p j k).set j 0 = zeros p.n := fun k => by unfold unitv; rw [set_set, hz]
  rw [at_restrict' hv hj.1 hk h1' (unitv_zu p (Nat.le_refl _) q) (unitv_zu p (Nat.le_refl _) 1), atv_eq _ _ _ _ hj.2, e1, e1, if_pos (by omega), e2, e2,
    rep_id (img_zeros j), one_at hv _ (j + 1) rfl _ hv.zeros_in (zeros_zu _ _), at_one hv _ (j + 1) rfl _ (hv.w_in j hj.2) (hv.w_zu j hj.2), show (q : Int) + 1 - p.o j = 0 by omega]
  have := set_self (v := p.w j) (i := j) (by rw [(hv.w_in j hj.2).len]; exact hj.2)
  rw [hv.w_zu j hj.2 j (by omega)] at this
  exact this
theorem rel_conj {j k : Nat} (hj : i ≤ j) (hjk : j < k) (hk : k < p.n) : gOf p i k * gOf p i j = gOf p i j * cIn p i j k := by
  have hv := h.valid
  have ho := hv.opos (show j < p.n by omega)
  have hok := hv.opos hk
  have hc : cIn p i j k = ⟨p.c j k, hv.c_in _ _ hjk hk, (hv.c_zu _ _ hjk hk).mono (by omega)⟩ := dif_pos ⟨hj, hjk, hk⟩
  rw [gOf_eq ⟨by omega, hk⟩, gOf_eq ⟨hj, by omega⟩, hc]
  apply T.ext
  rw [T.mul_val, T.mul_val]
  show atv p i (unitv p k 1) (unitv p j 1) = atv p i (unitv p j 1) (p.c j k)
  have hk1 := unitv_in hv (j := k) (k := 1) (by omega) (fun _ => by omega)
  have hj1 := unitv_in hv (j := j) (k := 1) (by omega) (fun _ => by omega)
  rw [unit_at hv hj (by omega) (by omega) (by omega) (hv.c_in _ _ hjk hk) (hv.c_zu _ _ hjk hk)]
  have e1 : (unitv p j 1).getD j 0 = 1 := getD_set_eq _ _ _ (by rw [zeros_len]; omega)
  have e0 : (unitv p k 1).getD j 0 = 0 := by unfold unitv; rw [getD_set_ne _ _ _ _ (by omega), zeros_getD]
  have hz : (zeros p.n).set j 0 = zeros p.n := by
    have := set_self (v := zeros p.n) (i := j) (by rw [zeros_len]; omega)
    rw [zeros_getD] at this; exact this
  have e2 : (unitv p j 1).set j 0 = zeros p.n := by unfold unitv; rw [set_set, hz]
  have e3 : (unitv p k 1).set j 0 = unitv p k 1 := by
    have := set_self (v := unitv p k 1) (i := j) (by rw [hk1.len]; omega)
    rw [e0] at this; exact this
  rw [at_restrict' hv hj hk1 hj1 (unitv_zu p (by omega) 1) (unitv_zu p (Nat.le_refl _) 1), atv_eq _ _ _ _ (show j < p.n by omega), e0, e1, if_neg (by omega), e2, e3]
  have hci := hv.c_in _ _ hjk hk
  have hcz := hv.c_zu _ _ hjk hk
  show (atv p (j + 1) (img p j (unitv p k 1)) (zeros p.n)).set j (0 + 1) = _
  rw [img_unit hv hjk hk, at_one hv _ (j + 1) rfl _ hci hcz]
  rfl
theorem phi_conj {j : Nat} (hj : i ≤ j) (x : List Int) : phi (gOf p i) x (j + 1) (p.n - (j + 1)) * gOf p i j = gOf p i j * phi (cIn p i j) x (j + 1) (p.n - (j + 1)) := by
  have h1 := phi_map (fun a : T p i => cj a (gOf p i j)) (fun a b => cj_mul a b _) (gOf p i) x (p.n - (j + 1)) (j + 1)
  have h2 : phi (fun t => cj (gOf p i t) (gOf p i j)) x (j + 1) (p.n - (j + 1)) = phi (cIn p i j) x (j + 1) (p.n - (j + 1)) := by
    refine phi_cong2 _ _ _ _ fun t h1 h2 => ⟨rfl, ?_⟩
    show cj (gOf p i t) (gOf p i j) = _
    unfold cj
    rw [rel_conj hj (by omega) (by omega), inv_mul_cancel_left]
  rw [← h2, ← h1, mul_cj]
/-- An element, cut at generator j. -/
theorem form_at {j : Nat} (hj : i ≤ j ∧ j < p.n) (x : T p i) : x = phi (gOf p i) x.v i (j - i) * (pw (gOf p i j) (x.v.getD j 0).toNat * phi (gOf p i) x.v (j + 1) (p.n - (j + 1))) := by
  have h1 := norm_form (p.n - i) i rfl (Nat.le_refl _) (by omega) x x.zu
  rw [show p.n - i = (j - i) + ((p.n - (j + 1)) + 1) by omega, phi_split, show i + (j - i) = j by omega, phi] at h1
  exact h1
section
variable {x e : T p i} {j : Nat} (hj : i ≤ j ∧ j < p.n) (hlow : ∀ t, t < j → e.v.getD t 0 = x.v.getD t 0) (hz : ∀ t, j < t → t < p.n → e.v.getD t 0 = 0)
include hj hlow hz
theorem tg_lt (hjv : e.v.getD j 0 = x.v.getD j 0 + 1) : e * phi (cIn p i j) x.v (j + 1) (p.n - (j + 1)) = x * gOf p i j := by
  have hx := x.inr.rng j hj.2
  have h1 : phi (gOf p i) e.v (j + 1) (p.n - (j + 1)) = 1 := phi_none _ _ _ fun t h1 h2 => .inl (hz t (by omega) (by omega))
  have h2 : phi (gOf p i) e.v i (j - i) = phi (gOf p i) x.v i (j - i) := phi_cong2 _ _ _ _ fun t h1 h2 => ⟨hlow t (by omega), rfl⟩
  have h3 := form_at hj e
  have h4 := form_at hj x
  rw [h1, h2, hjv, Grp.mul_one, show (x.v.getD j 0 + 1).toNat = (x.v.getD j 0).toNat + 1 by omega, pw_succ] at h3
  have h5 : x * gOf p i j = phi (gOf p i) x.v i (j - i) * (pw (gOf p i j) (x.v.getD j 0).toNat * (phi (gOf p i) x.v (j + 1) (p.n - (j + 1)) * gOf p i j)) := by
    conv => lhs; rw [h4]
    simp only [Grp.mul_assoc]
  rw [h5, phi_conj hj.1, h3]
  simp only [Grp.mul_assoc]
theorem tg_eq (hjv : e.v.getD j 0 = 0) (hxo : x.v.getD j 0 + 1 = p.o j) : e * Tw' h.valid hj * phi (cIn p i j) x.v (j + 1) (p.n - (j + 1)) = x * gOf p i j := by
  have hx := x.inr.rng j hj.2
  have h1 : phi (gOf p i) e.v (j + 1) (p.n - (j + 1)) = 1 := phi_none _ _ _ fun t h1 h2 => .inl (hz t (by omega) (by omega))
  have h2 : phi (gOf p i) e.v i (j - i) = phi (gOf p i) x.v i (j - i) := phi_cong2 _ _ _ _ fun t h1 h2 => ⟨hlow t (by omega), rfl⟩
  have h3 := form_at hj e
  have h4 := form_at hj x
  rw [h1, h2, hjv, Grp.mul_one] at h3
  have h6 : phi (gOf p i) x.v i (j - i) * pw (gOf p i j) (0 : Int).toNat = phi (gOf p i) x.v i (j - i) := Grp.mul_one _
  rw [h6] at h3
  have h5 : x * gOf p i j = phi (gOf p i) x.v i (j - i) * (pw (gOf p i j) (x.v.getD j 0).toNat * (phi (gOf p i) x.v (j + 1) (p.n - (j + 1)) * gOf p i j)) := by
    conv => lhs; rw [h4]
    simp only [Grp.mul_assoc]
  rw [h5, phi_conj hj.1, h3, ← rel_pow hj, show (p.o j).toNat = (x.v.getD j 0).toNat + 1 by omega, pw_succ]
  simp only [Grp.mul_assoc]
end
theorem phi_all (hi : i ≤ p.n) (y : T p i) : phi (gOf p i) y.v 0 p.n = y := by
  have h1 := norm_form (p.n - i) i rfl (Nat.le_refl _) hi y y.zu
  rw [show phi (gOf p i) y.v 0 p.n = phi (gOf p i) y.v 0 (i + (p.n - i)) by rw [show i + (p.n - i) = p.n by omega], phi_split, Nat.zero_add, ← h1,
    phi_none _ _ _ (fun t h1 h2 => .inl (y.zu t (by omega))), Grp.one_mul]
end
end Go.Pc
