/-
  Texts of one proof, put together by program: OwnR, OwnM, Mem6, Queue, Grow, Grow3, Grow4, Fork, Grow2, HomV, Tri, Bld, Of3, Dal, Types, W01, W07, I01, I01b, Grp, Dyck, Tail, Cons, Coord, Sub, Work, Inv.
  Conditions: those told at each part.
-/
import Derived.Test.YtflniifngfiekaaB1
import Derived.Deep.AppendSrc
import Derived.Deep.MidRow
import Derived.Test.YtflniifngfiekaaProg
import Derived.KernelRfl
set_option linter.unusedVariables false
set_option linter.unusedSimpArgs false
set_option linter.unusedSectionVars false
set_option linter.constructorNameAsVariable false
set_option linter.unnecessarySimpa false
set_option linter.deprecated false
/-
  Lists of integers that are the call's own, each in a block of its own; what may be written without touching the rest; marks.
  Conditions: none; nothing of the program stands here.
-/
namespace Go.Pc
open Go Go.RowKit
/-- Only blocks of B (and what is new) have turned. -/
inductive Wrt (B : Nat → Prop) : World → World → Prop where
  | refl (w : World) : Wrt B w w
  | step {w w1 w2 : World} {b : Nat} : Wrt B w w1 → B b → Chg b w1 w2 → Wrt B w w2
  | grow {w w1 w2 : World} : Wrt B w w1 → Ext w1 w2 → Wrt B w w2
section
variable {B B' : Nat → Prop} {w w' w0 w1 w2 : World} {b lo hi s : Nat} {v : Value} {xs : List Int}
theorem Wrt.one (hb : B b) (c : Chg b w w') : Wrt B w w' := .step (.refl w) hb c
theorem Wrt.ofExt (x : Ext w w') : Wrt B w w' := .grow (.refl w) x
theorem Wrt.trans (h : Wrt B w w1) (k : Wrt B w1 w2) : Wrt B w w2 := by
  induction k with
  | refl => exact h
  | step _ hb c ih => exact .step ih hb c
  | grow _ x ih => exact .grow ih x
theorem Wrt.mono (h : Wrt B w w1) (hb : ∀ b, B b → B' b) : Wrt B' w w1 := by
  induction h with
  | refl => exact .refl _
  | step _ hB c ih => exact .step ih (hb _ hB) c
  | grow _ x ih => exact .grow ih x
theorem Wrt.size (h : Wrt B w w1) : w.heap.size ≤ w1.heap.size := by
  induction h with
  | refl => exact Nat.le_refl _
  | step _ _ c ih => exact Nat.le_trans ih c.size
  | grow _ x ih => exact Nat.le_trans ih x.size
theorem Wrt.block (h : Wrt B w w1) {k : Nat} (hk : k < w.heap.size) (hn : ¬ B k) : w1.heap[k]? = w.heap[k]? := by
  induction h with
  | refl => rfl
  | @step w1 w2 b h1 hB c ih => rw [← ih]; exact c.by_.block k (Nat.lt_of_lt_of_le hk h1.size) (fun e => by injection e with e; subst e; exact hn hB)
  | @grow w1 w2 h1 x ih => rw [← ih]; exact x.below.block k (Nat.lt_of_lt_of_le hk h1.size)
theorem Wrt.same (h : Wrt B w w1) (hb : ∀ b, B b → b < lo ∨ hi ≤ b) : Same lo hi w w1 := fun k h1 h2 h3 => h.block h3 fun hk => by have := hb k hk; omega
theorem Wrt.ext (h : Wrt B w1 w2) (x : Ext w0 w1) (hb : ∀ b, B b → w0.heap.size ≤ b) : Ext w0 w2 := by
  induction h with
  | refl => exact x
  | step _ hB c ih => exact c.ext ih (hb _ hB)
  | grow _ y ih => exact ih.trans y
theorem OwnI.block (h : OwnI s b w v xs) : v.ownBlock = some b := by obtain ⟨cap, cur, rfl, _⟩ := h.own.ex; rfl
theorem Fr.block (h : Fr s w v xs) (hn : xs ≠ []) : ∃ b, v.ownBlock = some b ∧ s ≤ b ∧ b < w.heap.size := by
  obtain ⟨e, b, hb, ho⟩ := h.own hn
  exact ⟨b, ho.block, hb, ho.lt⟩
theorem Fr.nil_same (h : Fr s w v []) (hs : w.heap.size ≤ w'.heap.size) : Fr s w' v [] := by
  obtain ⟨A, c, hv, hc, hm, hcell⟩ := h.ints.sl.ex
  exact ⟨⟨⟨A, c, hv, hc, hm, fun k u hu => by simp at hu⟩⟩, fun hn => absurd rfl hn⟩
theorem Fr.chg (h : Fr s w v xs) (c : Chg b w w') (hb : xs ≠ [] → v.ownBlock ≠ some b) : Fr s w' v xs := by
  by_cases hn : xs = []
  · subst hn; exact h.nil_same c.size
  · obtain ⟨e, g, hg, ho⟩ := h.own hn
    exact (ho.chg' c (fun e => hb hn (by rw [ho.block, e]))).toFr hg
theorem Fr.wr (h : Fr s w v xs) (k : Wrt B w w') (hb : xs ≠ [] → ∀ b, v.ownBlock = some b → ¬ B b) : Fr s w' v xs := by
  induction k with
  | refl => exact h
  | step _ hB c ih => exact ih.chg c fun hn e => hb hn _ e hB
  | grow _ x ih => exact ih.ext' x
end
/-- Rows that are the call's own, from s on, no two in one block. -/
structure RowsO (s : Nat) (w : World) (rs : List (Value × List Int)) : Prop where
  fr : ∀ r, r ∈ rs → Fr s w r.1 r.2
  sep : rs.Pairwise fun a b => a.2 ≠ [] → b.2 ≠ [] → a.1.ownBlock ≠ b.1.ownBlock
/-- A block of one of the rows. -/
def BlkOf (rs : List (Value × List Int)) (b : Nat) : Prop := ∃ r, r ∈ rs ∧ r.2 ≠ [] ∧ r.1.ownBlock = some b
section
variable {B : Nat → Prop} {w w' : World} {b lo hi s s' : Nat} {u v : Value} {xs : List Int} {rs rs' : List (Value × List Int)}
theorem RowsO.nil (s : Nat) (w : World) : RowsO s w [] := ⟨fun r h => (by cases h), List.Pairwise.nil⟩
theorem RowsO.ext (h : RowsO s w rs) (x : Ext w w') : RowsO s w' rs := ⟨fun r hr => (h.fr r hr).ext' x, h.sep⟩
theorem RowsO.mono (h : RowsO s w rs) (hs : s' ≤ s) : RowsO s' w rs := ⟨fun r hr => (h.fr r hr).mono hs, h.sep⟩
theorem RowsO.wr (h : RowsO s w rs) (k : Wrt B w w') (hb : ∀ b, BlkOf rs b → ¬ B b) : RowsO s w' rs :=
  ⟨fun r hr => (h.fr r hr).wr k fun hn b e => hb b ⟨r, hr, hn, e⟩, h.sep⟩
theorem RowsO.blk (h : RowsO s w rs) (hb : BlkOf rs b) : s ≤ b ∧ b < w.heap.size := by
  obtain ⟨r, hr, hn, e⟩ := hb
  obtain ⟨g, h1, h2, h3⟩ := (h.fr r hr).block hn
  rw [e] at h1; injection h1 with h1; subst h1
  exact ⟨h2, h3⟩
theorem RowsO.cons (h : RowsO s w rs) (x : Ext w w') (hs : s ≤ w.heap.size) (hu : Fr w.heap.size w' u xs) : RowsO s w' ((u, xs) :: rs) := by
  refine ⟨fun r hr => ?_, List.Pairwise.cons (fun r hr h1 h2 e => ?_) h.sep⟩
  · rcases List.mem_cons.1 hr with rfl | hr
    · exact hu.mono hs
    · exact (h.fr r hr).ext' x
  · obtain ⟨g, e1, g1, _⟩ := hu.block h1
    obtain ⟨k, e2, _, k1⟩ := (h.fr r hr).block h2
    rw [e1, e2] at e; injection e with e; omega
theorem RowsO.push (h : RowsO s w rs) (x : Ext w w') (hs : s ≤ w.heap.size) (hu : Fr w.heap.size w' u xs) : RowsO s w' (rs ++ [(u, xs)]) := by
  refine ⟨fun r hr => ?_, List.pairwise_append.2 ⟨h.sep, List.pairwise_singleton _ _, fun r hr q hq h1 h2 e => ?_⟩⟩
  · rcases List.mem_append.1 hr with hr | hr
    · exact (h.fr r hr).ext' x
    · rw [List.mem_singleton.1 hr]; exact hu.mono hs
  · rw [List.mem_singleton.1 hq] at h2 e
    obtain ⟨g, e1, g1, _⟩ := hu.block h2
    obtain ⟨k, e2, _, k1⟩ := (h.fr r hr).block h1
    rw [e1, e2] at e; injection e with e; omega
theorem RowsO.append (h : RowsO s w rs) (x : Ext w w') (hs : s ≤ w.heap.size) (hu : RowsO w.heap.size w' rs') : RowsO s w' (rs ++ rs') := by
  refine ⟨fun r hr => ?_, List.pairwise_append.2 ⟨h.sep, hu.sep, fun r hr q hq h1 h2 e => ?_⟩⟩
  · rcases List.mem_append.1 hr with hr | hr
    · exact (h.fr r hr).ext' x
    · exact (hu.fr r hr).mono hs
  · obtain ⟨g, e1, g1, _⟩ := (hu.fr q hq).block h2
    obtain ⟨k, e2, _, k1⟩ := (h.fr r hr).block h1
    rw [e1, e2] at e; injection e with e; omega
theorem RowsO.left (h : RowsO s w (rs ++ rs')) : RowsO s w rs := ⟨fun r hr => h.fr r (List.mem_append_left _ hr), (List.pairwise_append.1 h.sep).1⟩
theorem RowsO.right (h : RowsO s w (rs ++ rs')) : RowsO s w rs' := ⟨fun r hr => h.fr r (List.mem_append_right _ hr), (List.pairwise_append.1 h.sep).2.1⟩
end
/-! ### marks -/
/-- n numbers from k on. -/
def marks (k : Int) (n : Nat) : List Int := (List.range n).map fun i : Nat => k + (i : Int)
/-- All numbers of the rows. -/
def tot : List (List Int) → Nat
  | [] => 0
  | xs :: l => xs.length + tot l
def mkR (k : Int) : List (Value × List Int) → List (Value × List Int)
  | [] => []
  | r :: l => (r.1, marks k r.2.length) :: mkR (k + r.2.length) l
theorem mkR_fst : ∀ (rs : List (Value × List Int)) (k : Int), (mkR k rs).map (·.1) = rs.map (·.1)
  | [], _ => rfl
  | r :: l, k => by simp [mkR, mkR_fst l]
section
variable {s b : Nat} {w : World} {rs : List (Value × List Int)}
end
/-! ### writing one row; spines -/
/-- The cells of v hold us, in blocks apart from A. -/
def SpA (A : Nat → Prop) (w : World) (v : Value) (us : List Value) : Prop := ∃ lo hi, Sl lo hi w v us ∧ ∀ b, A b → b < lo ∨ hi ≤ b
section
variable {A B : Nat → Prop} {s b lo hi : Nat} {w w' : World} {v : Value} {us : List Value} {xss : List (List Int)} {ys : List Int} {rs pre post : List (Value × List Int)} {r : Value × List Int}
theorem SpA.wr (h : SpA A w v us) (k : Wrt B w w') (hb : ∀ b, B b → A b) : SpA A w' v us := by
  obtain ⟨lo, hi, h1, h2⟩ := h
  exact ⟨lo, hi, h1.same (k.same fun b hB => h2 b (hb b hB)), h2⟩
theorem SpA.weak {A' : Nat → Prop} (h : SpA A w v us) (hb : ∀ b, A' b → A b) : SpA A' w v us := by
  obtain ⟨lo, hi, h1, h2⟩ := h
  exact ⟨lo, hi, h1, fun b hB => h2 b (hb b hB)⟩
theorem SpA.sl (h : SpA A w v us) : Sl 0 w.heap.size w v us := by
  obtain ⟨lo, hi, h1, h2⟩ := h
  exact h1.wide
theorem nil_val {α : Type} (l : List (α × List Int)) (i : Nat) (f : α) : i < l.length ∨ ((l.map (·.1)).getD i f = f ∧ (l.map (·.2)).getD i [] = []) := by
  by_cases h : i < l.length
  · exact .inl h
  · right
    constructor
    · rw [List.getD_eq_getElem?_getD, List.getElem?_eq_none (by simp; omega)]; rfl
    · rw [List.getD_eq_getElem?_getD, List.getElem?_eq_none (by simp; omega)]; rfl
theorem RowsO.vals (h : RowsO s w rs) (hs : s ≤ w.heap.size) : RowVals s w.heap.size w (rs.map (·.1)) (rs.map (·.2)) := by
  refine ⟨by simp, fun i => ?_⟩
  rcases nil_val rs i nilv with hi | ⟨e1, e2⟩
  · have := (h.fr rs[i] (List.getElem_mem hi)).ints
    simpa [hi] using this
  · rw [e1, e2]
    exact ⟨⟨none, 0, rfl, Nat.le_refl _, by omega, fun k u hu => by simp at hu⟩⟩
theorem RowsO.rows (h : RowsO s w rs) (hs : Sl 0 w.heap.size w v (rs.map (·.1))) : Rows 0 w.heap.size w v (rs.map (·.1)) (rs.map (·.2)) := by
  refine ⟨hs, by simp, fun i => ?_⟩
  rcases nil_val rs i nilv with hi | ⟨e1, e2⟩
  · have := (h.fr rs[i] (List.getElem_mem hi)).ints.wide
    simpa [hi] using this
  · rw [e1, e2]
    exact ⟨⟨none, 0, rfl, Nat.le_refl _, by omega, fun k u hu => by simp at hu⟩⟩
theorem blkOf_append {b : Nat} : BlkOf (pre ++ post) b ↔ BlkOf pre b ∨ BlkOf post b := by
  constructor
  · rintro ⟨q, hq, h1, h2⟩
    rcases List.mem_append.1 hq with hq | hq
    · exact .inl ⟨q, hq, h1, h2⟩
    · exact .inr ⟨q, hq, h1, h2⟩
  · rintro (⟨q, hq, h1, h2⟩ | ⟨q, hq, h1, h2⟩)
    · exact ⟨q, List.mem_append_left _ hq, h1, h2⟩
    · exact ⟨q, List.mem_append_right _ hq, h1, h2⟩
end
end Go.Pc

/-
  Lists of lists, lists of lists of lists and presentations that are the call's own, within a range of blocks.
  Conditions: none; nothing of the program stands here.
-/
namespace Go.Pc
open Go Go.RowKit
/-- A list of the call's own, in the blocks from s on, below t. -/
structure VecO (s t : Nat) (w : World) (v : Value) (xs : List Int) : Prop where
  ints : Ints s t w v xs
  fr : Fr s w v xs
  lt : xs ≠ [] → ∀ b, v.ownBlock = some b → b < t
structure MatO (s t : Nat) (w : World) (v : Value) (rs : List (Value × List Int)) : Prop where
  rows : Rows s t w v (rs.map (·.1)) (rs.map (·.2))
  own : RowsO s w rs
  lt : ∀ b, BlkOf rs b → b < t
  sp : SpA (fun b => BlkOf rs b ∨ b < s) w v (rs.map (·.1))
/-- All rows of the groups. -/
def flat (gs : List (Value × List (Value × List Int))) : List (Value × List Int) := (gs.map (·.2)).flatten
structure CubO (A : Nat → Prop) (w : World) (v : Value) (gs : List (Value × List (Value × List Int))) : Prop where
  sp0 : SpA A w v (gs.map (·.1))
  sp : ∀ q, q ∈ gs → SpA A w q.1 (q.2.map (·.1))
structure PresO (s t : Nat) (w : World) (v : Value) (p : Pr) : Prop where
  ex : ∃ vo vp vc rp gs, v = .agg #[vo, vp, vc] ∧ RowsO s w ((vo, p.ord) :: (rp ++ flat gs)) ∧ (∀ b, BlkOf ((vo, p.ord) :: (rp ++ flat gs)) b → b < t) ∧
    SpA (BlkOf ((vo, p.ord) :: (rp ++ flat gs))) w vp (rp.map (·.1)) ∧ CubO (BlkOf ((vo, p.ord) :: (rp ++ flat gs))) w vc gs ∧ p.pow = rp.map (·.2) ∧ (p.cnj = gs.map fun q => q.2.map (·.2)) ∧
    Ints s t w vo p.ord ∧ Rows s t w vp (rp.map (·.1)) (rp.map (·.2)) ∧ Rowss s t w vc (gs.map (·.1)) (gs.map fun q => q.2.map (·.1)) (gs.map fun q => q.2.map (·.2))
section
variable {A A' B : Nat → Prop} {e s t s' : Nat} {w w' : World} {v : Value} {us : List Value} {xs : List Int} {rs : List (Value × List Int)} {gs : List (Value × List (Value × List Int))} {p : Pr}
theorem VecO.ofFr (h : Fr s w v xs) : VecO s w.heap.size w v xs := ⟨h.ints, h, fun hn b e => by
  obtain ⟨g, h1, _, h3⟩ := h.block hn
  rw [e] at h1; injection h1 with h1; omega⟩
theorem VecO.wr (h : VecO s t w v xs) (k : Wrt B w w') (hb : ∀ b, B b → b < s ∨ t ≤ b) : VecO s t w' v xs :=
  ⟨h.ints.same (k.same hb), h.fr.wr k (fun hn b e hB => by
    have h1 := h.lt hn b e
    obtain ⟨g, h2, h3, _⟩ := h.fr.block hn
    rw [e] at h2; injection h2 with h2
    have := hb b hB; omega), h.lt⟩
theorem SpA.wr' (h : SpA A w v us) (k : Wrt B w w') (hs : Sl s t w v us) (hb : ∀ b, B b → b < s ∨ t ≤ b) : SpA A w' v us := by
  obtain ⟨lo, hi, h1, h2⟩ := h
  obtain ⟨X, c, rfl, hc, hm, hcell⟩ := h1.ex
  obtain ⟨X', c', hv, _, _, hcell'⟩ := hs.ex
  refine ⟨lo, hi, ⟨⟨X, c, rfl, hc, hm, fun i u hu => ?_⟩⟩, h2⟩
  obtain ⟨a, hA, e1, e2, e3⟩ := hcell i u hu
  obtain ⟨a', hA', g1, g2, g3⟩ := hcell' i u hu
  injection hv with hv _ _
  rw [hA, hA'] at hv; injection hv with hv; subst hv
  have hlt := block_lt e3
  rw [add_block] at hlt
  refine ⟨a, hA, e1, e2, ?_⟩
  rw [World.cell?_of_block (w := w) (w' := w') (by rw [add_block]; exact k.block hlt (fun hB => by have := hb _ hB; omega))]
  exact e3
theorem MatO.wr (h : MatO s t w v rs) (k : Wrt B w w') (hb : ∀ b, B b → b < s ∨ t ≤ b) : MatO s t w' v rs :=
  ⟨h.rows.same (k.same hb), h.own.wr k (fun b hR hB => by
    have h1 := h.lt b hR
    have h2 := (h.own.blk hR).1
    have := hb b hB; omega), h.lt, h.sp.wr' k h.rows.sl hb⟩
theorem MatO.lower (h : MatO s t w v rs) (hs : s' ≤ s) : MatO s' t w v rs := by
  refine ⟨h.rows.mono hs (Nat.le_refl _), h.own.mono hs, h.lt, h.sp.weak fun b hb => hb.imp id fun hb => by omega⟩
theorem MatO.sub (h : MatO s t w v rs) (hs : s' ≤ s) {t' : Nat} (ht : t ≤ t') : MatO s' t' w v rs := by
  refine ⟨h.rows.mono hs ht, h.own.mono hs, fun b hb => Nat.lt_of_lt_of_le (h.lt b hb) ht, h.sp.weak fun b hb => hb.imp id fun hb => by omega⟩
/-- Older spines, when memory has grown and more rows are there. -/
theorem SpA.grow (h : SpA A w v us) (x : Ext w w') (hA : ∀ b, A' b → A b ∨ w.heap.size ≤ b) : SpA A' w' v us := by
  obtain ⟨lo, hi, h1, h2⟩ := h
  obtain ⟨X, c, rfl, hc, hm, hcell⟩ := h1.ex
  have h3 : Sl lo (min hi w.heap.size) w (.slice X us.length c) us := ⟨⟨X, c, rfl, hc, hm, fun i u hu => by
    obtain ⟨a, hX, e1, e2, e3⟩ := hcell i u hu
    have hlt := block_lt e3
    rw [add_block] at hlt
    exact ⟨a, hX, e1, by omega, e3⟩⟩⟩
  refine ⟨lo, _, h3.same (x.same _ _), fun b hb => ?_⟩
  rcases hA b hb with hb | hb
  · have := h2 b hb; omega
  · exact .inr (by omega)
theorem OwnI.sl_in {e b lo hi : Nat} (h : OwnI e b w v xs) (hn : xs ≠ []) (k : Ints lo hi w v xs) : lo ≤ b ∧ b < hi := by
  obtain ⟨cap, cur, hv, _⟩ := h.own.ex
  obtain ⟨X, c, hv', _, _, hcell⟩ := k.sl.ex
  obtain ⟨x, l, rfl⟩ : ∃ x l, xs = x :: l := by cases xs with | nil => exact absurd rfl hn | cons x l => exact ⟨x, l, rfl⟩
  obtain ⟨a, hX, e1, e2, _⟩ := hcell 0 (.int .i64 x) (by simp)
  rw [hv] at hv'
  injection hv' with h1 _ _
  rw [hX] at h1; injection h1 with h1; subst h1
  exact ⟨e1, e2⟩
theorem CubO.wr (h : CubO A w v gs) (k : Wrt B w w') (hb : ∀ b, B b → A b) : CubO A w' v gs := ⟨h.sp0.wr k hb, fun q hq => (h.sp q hq).wr k hb⟩
theorem PresO.pres (h : PresO s t w v p) : Pres s t w v p := by
  obtain ⟨vo, vp, vc, rp, gs, rfl, _, _, _, _, h1, h2, h3, h4, h5⟩ := h.ex
  rw [← h1] at h4; rw [← h2] at h5
  exact ⟨⟨vo, vp, vc, _, _, _, rfl, h3, h4, h5⟩⟩
theorem PresO.wr (h : PresO s t w v p) (k : Wrt B w w') (hb : ∀ b, B b → b < s ∨ t ≤ b) : PresO s t w' v p := by
  obtain ⟨vo, vp, vc, rp, gs, rfl, hO, hl, hs, hc, h1, h2, h3, h4, h5⟩ := h.ex
  refine ⟨vo, vp, vc, rp, gs, rfl, hO.wr k (fun b hR hB => ?_), hl, hs.wr' k h4.sl hb, ⟨hc.sp0.wr' k h5.sl hb, fun q hq => ?_⟩, h1, h2, h3.same (k.same hb), h4.same (k.same hb), h5.same (k.same hb)⟩
  · have e1 := hl b hR
    have e2 := (hO.blk hR).1
    have := hb b hB; omega
  · obtain ⟨i, hi, rfl⟩ := List.getElem_of_mem hq
    have h6 := (h5.vals.at_ i).sl
    have e1 : (gs.map (·.1)).getD i nilv = gs[i].1 := by simp [hi]
    have e2 : (gs.map fun q => q.2.map (·.1)).getD i [] = gs[i].2.map (·.1) := by simp [hi]
    rw [e1, e2] at h6
    exact (hc.sp _ hq).wr' k h6 hb
theorem Blk.wr {b : Nat} {cs : List Value} (h : Blk w b cs) (k : Wrt B w w') (hb : ¬ B b) : Blk w' b cs := by
  obtain ⟨t, ht⟩ := h.ex
  exact ⟨t, by rw [k.block h.lt hb]; exact ht⟩
theorem flat_append (gs hs : List (Value × List (Value × List Int))) : flat (gs ++ hs) = flat gs ++ flat hs := by simp [flat]
theorem flat_one (q : Value × List (Value × List Int)) : flat [q] = q.2 := by simp [flat]
theorem blkOf_nil (b : Nat) : ¬ BlkOf [] b := by rintro ⟨r, hr, _⟩; cases hr
theorem blkOf_append' {rs qs : List (Value × List Int)} {b : Nat} : BlkOf (rs ++ qs) b ↔ BlkOf rs b ∨ BlkOf qs b := blkOf_append
end
end Go.Pc

/-
  More rules: a slice value stored in a drawn region; a slice of two values.
  Conditions: none; nothing of the program stands here.
-/
namespace Go.Pc
open Go Go.RowKit
theorem Ints.nilR (lo hi : Nat) (w : World) : Ints lo hi w nilv [] := ⟨⟨none, 0, rfl, Nat.le_refl _, by omega, fun k u hu => by simp at hu⟩⟩
theorem Fr.nilR (s : Nat) (w : World) : Fr s w nilv [] := ⟨Ints.nilR _ _ _, fun h => absurd rfl h⟩
theorem Rows.nilR (lo hi : Nat) (w : World) : Rows lo hi w nilv [] [] := ⟨⟨none, 0, rfl, Nat.le_refl _, by omega, fun k u hu => by simp at hu⟩, rfl, fun j => by simpa using Ints.nilR lo hi w⟩
theorem MatO.nilR (s t : Nat) (w : World) : MatO s t w nilv [] := ⟨Rows.nilR _ _ _, RowsO.nil _ _, fun b hb => absurd hb (blkOf_nil b), ⟨0, 0, ⟨none, 0, rfl, Nat.le_refl _, by omega, fun k u hu => by simp at hu⟩, fun b _ => .inr (Nat.zero_le _)⟩⟩
section
variable {P : Program} {N : Nat} {ops : Array Oper} {π : List Nat} {K : Env → World → Prop} {ρ : Env} {w w0 : World} {l : List Oper}
variable {i : Nat} {ty : TypeId} {pos : String} {after : Array Edge} {g : Option (Nat × Bool)} {d : Nat}
theorem st_slice2 {t e bytes : Nat} {x y : Operand} {u v z : Value} [ht : SlT P t e] [he : ElT P e 1 bytes z] (h : ev ρ x = u) (k : ev ρ y = v) (hu : u.cells = #[u]) (hv : v.cells = #[v]) (hz : z.cells = #[z]) (hg : Wants ops ρ g)
    (next : ∀ w' s, Ext w w' → w'.heap.size = w.heap.size + 2 - 1 → Sl w.heap.size (w.heap.size + 1) w' s [u, v] → rops P N ops K l (put ρ d s) w') : rops P N ops K (⟨some d, .buildSlice t 2 #[(0, x), (1, y)], ty, pos, after, g⟩ :: l) ρ w := by
  obtain ⟨i, hi, hs, hby, hz'⟩ := he.ex
  refine st_ex (v := .slice (some ⟨w.heap.size, 0, none⟩) 2 2) (w' := w.alloc (.cells #[u, v] e)) hg ⟨fun _ _ _ _ => ?_⟩ (next _ _ (Ext.alloc _ _) (by simp) ?_)
  · simp [execOp, h, k, Instr.buildSlice, run_underlying ht.eq, sizeOf, typeInfo, hi, hs, zeroValue, hz', hz, Instr.fill, hu, hv, newRow]
    refine congrArg (fun a => w.alloc (Obj.cells a e)) (Array.ext (by simp) fun j h1 h2 => ?_)
    have : j = 0 ∨ j = 1 := by simp at h2; omega
    rcases this with rfl | rfl <;> simp
  · have := own_alloc w [u, v] e (by simp [maxLen])
    simpa using this.toSl
end
end Go.Pc

/-
  A list that is appended to at its end and shortened at its front: a slice of the call's own, from some place of its block on.
  Conditions: none; nothing of the program stands here.
-/
namespace Go.Pc
open Go Go.RowKit
class OwnQ (e base : outParam Nat) (w : World) (v : Value) (us : outParam (List Value)) : Prop where
  ex : (v = nilv ∧ us = []) ∨ ∃ g off cap cur, v = .slice (some ⟨g, off, none⟩) us.length cap ∧ base ≤ g ∧ w.heap[g]? = some (.cells cur e (0, 0)) ∧ us.length ≤ cap ∧ cap ≤ maxLen ∧ off + cap ≤ cur.size ∧ (cur.toList.drop off).take us.length = us
section
variable {e base lo hi : Nat} {w w' : World} {v : Value} {us : List Value} {xss : List (List Int)} {av av' : Nat → Prop}
theorem add_lit (g o n : Nat) : (Addr.mk g o none).add n = ⟨g, o + n, none⟩ := by unfold Addr.add; split <;> simp_all
theorem OwnQ.lt (h : OwnQ e base w v us) : ∀ k, v.ownBlock = some k → base ≤ k ∧ k < w.heap.size := by
  intro k hk
  rcases h.ex with ⟨rfl, _⟩ | ⟨g, off, cap, cur, rfl, hb, hg, _⟩
  · cases hk
  · have : g = k := by simpa [Value.ownBlock] using hk
    subst this
    exact ⟨hb, (Array.getElem?_eq_some_iff.1 hg).1⟩
theorem OwnQ.keep (h : OwnQ e base w v us) (hb : ∀ k, v.ownBlock = some k → w'.heap[k]? = w.heap[k]?) : OwnQ e base w' v us := by
  rcases h.ex with h | ⟨g, off, cap, cur, rfl, hb', hg, h1, h2, h3, h4⟩
  · exact ⟨.inl h⟩
  · exact ⟨.inr ⟨g, off, cap, cur, rfl, hb', by rw [hb g rfl]; exact hg, h1, h2, h3, h4⟩⟩
instance (priority := low) OwnQ.ext [x : Ext w w'] [h : OwnQ e base w v us] : OwnQ e base w' v us := h.keep fun k hk => x.below.block k (h.lt k hk).2
theorem OwnQ.other {b : Nat} (h : OwnQ e base w v us) (c : Chg b w w') (hb : v.ownBlock ≠ some b) : OwnQ e base w' v us :=
  h.keep fun k hk => c.by_.block k (h.lt k hk).2 (fun e => hb (by rw [hk, e]))
theorem OwnQ.toSl (h : OwnQ e base w v us) : Sl base w.heap.size w v us := by
  rcases h.ex with ⟨rfl, rfl⟩ | ⟨g, off, cap, cur, rfl, hb, hg, h1, h2, h3, h4⟩
  · exact ⟨⟨none, 0, rfl, Nat.le_refl _, by omega, fun k u hu => by simp at hu⟩⟩
  · have hlt : g < w.heap.size := (Array.getElem?_eq_some_iff.1 hg).1
    refine ⟨⟨some ⟨g, off, none⟩, cap, rfl, h1, by simp only [maxLen] at h2; omega, fun k u hu => ⟨_, rfl, hb, hlt, ?_⟩⟩⟩
    rw [add_lit, cell_of_row w g (off + k) cur e (0, 0) hg]
    rw [← h4, List.getElem?_take, List.getElem?_drop] at hu
    split at hu
    · simpa using hu
    · cases hu
theorem cut_block (v : Value) (l h : Nat) : (cut v l h).ownBlock = v.ownBlock := by
  unfold cut
  split
  · rename_i a _ c
    unfold sliced
    split
    · cases a <;> rfl
    · cases a <;> simp [Value.ownBlock, add_block]
  · rfl
/-- The front is cut off. -/
theorem OwnQ.tail {u : Value} (h : OwnQ e base w v (u :: us)) : OwnQ e base w (cut v 1 (us.length + 1)) us := by
  rcases h.ex with ⟨_, h⟩ | ⟨g, off, cap, cur, rfl, hb, hg, h1, h2, h3, h4⟩
  · cases h
  · simp only [List.length_cons] at h1 h4
    have h5 : (cur.toList.drop (off + 1)).take us.length = us := by
      have e1 : cur.toList.drop (off + 1) = (cur.toList.drop off).drop 1 := by rw [List.drop_drop]
      have e2 : ((cur.toList.drop off).drop 1).take us.length = ((cur.toList.drop off).take (us.length + 1)).drop 1 := by rw [List.drop_take]; simp
      rw [e1, e2, h4]; rfl
    refine ⟨.inr ?_⟩
    by_cases hc : cap = 1
    · have hz : us = [] := List.eq_nil_of_length_eq_zero (by omega)
      subst hz
      refine ⟨g, off, 0, cur, ?_, hb, hg, Nat.le_refl _, by simp [maxLen], by omega, by simp⟩
      simp [cut, sliced, hc]
    · refine ⟨g, off + 1, cap - 1, cur, ?_, hb, hg, by omega, by omega, by omega, h5⟩
      simp [cut, sliced, hc, add_lit]
variable {P : Program} {ty : TypeId}
structure QLst (e base : Nat) (av : Nat → Prop) (w : World) (v : Value) (us : List Value) (xss : List (List Int)) : Prop where
  own : OwnQ e base w v us
  rows : RowsAp (fun g => av g ∨ v.ownBlock = some g) w us xss
  free : ∀ g, v.ownBlock = some g → ¬ av g
  bd : ∀ g, av g → g < w.heap.size
theorem QLst.len (h : QLst e base av w v us xss) : us.length = xss.length := h.rows.len
theorem QLst.lt (h : QLst e base av w v us xss) {g : Nat} (hg : v.ownBlock = some g) : base ≤ g ∧ g < w.heap.size := h.own.lt g hg
theorem QLst.ext (h : QLst e base av w v us xss) (x : Ext w w') : QLst e base av w' v us xss := by
  have := h.own
  exact ⟨inferInstance, h.rows.ext x, h.free, fun g hg => Nat.lt_of_lt_of_le (h.bd g hg) x.size⟩
theorem QLst.chg {g : Nat} (h : QLst e base av w v us xss) (c : Chg g w w') (hg : av g) : QLst e base av w' v us xss :=
  ⟨h.own.other c (fun e => h.free g e hg), h.rows.chg c (.inl hg), h.free, fun g hg => Nat.lt_of_lt_of_le (h.bd g hg) c.size⟩
theorem QLst.toRows (h : QLst e base av w v us xss) : Rows 0 w.heap.size w v us xss := h.rows.rows h.own.toSl
theorem QLst.tail {u : Value} {xs : List Int} (h : QLst e base av w v (u :: us) (xs :: xss)) : QLst e base av w (cut v 1 (us.length + 1)) us xss :=
  ⟨h.own.tail, by rw [cut_block]; exact h.rows.tail, by rw [cut_block]; exact h.free, h.bd⟩
theorem QLst.push {v' u : Value} {xs : List Int} (h : QLst e base av w v us xss) (hu : IntsAp (fun g => av g ∨ v.ownBlock = some g) w u xs)
    (ho : OwnQ e base w' v' (us ++ [u])) (hg : w.grownBy w' v.ownBlock) (hv : v'.ownBlock = v.ownBlock ∨ v'.ownBlock = some w.heap.size) : QLst e base av w' v' (us ++ [u]) (xss ++ [xs]) := by
  refine ⟨ho, ?_, fun g hg' => ?_, fun g hg' => Nat.lt_of_lt_of_le (h.bd g hg') hg.size⟩
  · have h1 : RowsAp (fun g => (av g ∨ v.ownBlock = some g) ∨ v'.ownBlock = some g) w (us ++ [u]) (xss ++ [xs]) := by
      refine (h.rows.push hu).weak fun g hg' => ?_
      rcases hg' with hg' | hg'
      · exact .inl hg'
      · rcases hv with e | e
        · exact .inl (.inr (by rw [← e]; exact hg'))
        · rw [e] at hg'; injection hg' with hg'; exact .inr (by omega)
    refine (h1.grown hg (fun g e => .inl (.inr e))).weak fun g hg' => .inl ?_
    exact hg'.imp .inl id
  · rcases hv with e | e
    · exact h.free g (by rw [← e]; exact hg')
    · rw [e] at hg'; injection hg' with hg'
      intro ha
      have := h.bd g ha
      omega
end
section
variable {P : Program} {N : Nat} {ops : Array Oper} {π : List Nat} {K : Env → World → Prop} {ρ : Env} {w w0 : World} {l : List Oper}
variable {i : Nat} {ty : TypeId} {pos : String} {after : Array Edge} {g : Option (Nat × Bool)} {d : Nat}
end
end Go.Pc

/-
  Lists that grow by one row, or by one number, at a time: 'out = append(out, x)'.
  Conditions: none; nothing of the program stands here.
-/
namespace Go.Pc
open Go Go.RowKit
/-- What one append has done. -/
structure GStep (w w' : World) (v v' : Value) : Prop where
  ex : ∃ w2, Ext w w2 ∧ w2.grownBy w' v.ownBlock ∧ (v'.ownBlock = v.ownBlock ∨ v'.ownBlock = some w2.heap.size)
theorem IntsAp.gstep {w w' : World} {v v' u : Value} {xs : List Int} (h : IntsAp (fun g => v.ownBlock = some g) w u xs) (k : GStep w w' v v') : IntsAp (fun g => v'.ownBlock = some g) w' u xs := by
  obtain ⟨w2, x, hg, hv⟩ := k.ex
  exact (h.ext x).beside hg (fun g e => e) fun g hg' => by
    rcases hv with e | e
    · rw [e] at hg'; exact .inl hg'
    · rw [e] at hg'; injection hg' with hg'; exact .inr hg'.symm
structure GrowL (e s : Nat) (w : World) (v : Value) (rs : List (Value × List Int)) : Prop where
  lst : Lst e s (· < s) w v (rs.map (·.1)) (rs.map (·.2))
  own : RowsO s w rs
class GrowI (e s : outParam Nat) (w : World) (v : Value) (xs : outParam (List Int)) : Prop where
  own : OwnN e s w v (xs.map (Value.int .i64))
section
variable {av : Nat → Prop} {e s : Nat} {w w' w0 w1 w2 w3 : World} {v v' u : Value} {xs : List Int} {rs : List (Value × List Int)}
theorem Lst.off (h : Lst e s av w v (rs.map (·.1)) (rs.map (·.2))) (hO : RowsO s w rs) {b : Nat} (hb : BlkOf rs b) : v.ownBlock ≠ some b := by
  intro hv
  obtain ⟨r, hr1, hn, eb⟩ := hb
  obtain ⟨i, hi, rfl⟩ := List.getElem_of_mem hr1
  obtain ⟨te, g, _, ho⟩ := (hO.fr _ hr1).own hn
  have hg := ho.block
  rw [eb] at hg; injection hg with hg; subst hg
  obtain ⟨lo, hi', h1, h2, h3⟩ := h.rows.at_ i
  have e1 : (rs.map (·.1)).getD i nilv = rs[i].1 := by simp [hi]
  have e2 : (rs.map (·.2)).getD i [] = rs[i].2 := by simp [hi]
  rw [e1, e2] at h1
  have h4 := ho.sl_in hn h1
  have h5 := h3 b (.inr hv)
  omega
theorem Wrt.grown {ob : Option Nat} (h : w.grownBy w' ob) : Wrt (fun b => ob = some b) w w' := by
  cases ob with
  | none =>
    exact .ofExt ⟨(Below.refl _ _).grown h (Nat.le_refl _) (fun k hk => by cases hk)⟩
  | some b => exact .one rfl ⟨h⟩
theorem GrowL.nil (e s : Nat) (w : World) (hs : s ≤ w.heap.size) : GrowL e s w nilv [] := ⟨Lst.nil _ _ _ (fun g hg => by omega), RowsO.nil _ _⟩
theorem GrowL.start {b : Nat} (h : Own e b w v []) (hb : s ≤ b) : GrowL e s w v [] := ⟨Lst.start h hb (by omega) (fun g hg => by have := h.lt; omega), RowsO.nil _ _⟩
theorem GrowL.ext (h : GrowL e s w v rs) (x : Ext w w') : GrowL e s w' v rs := ⟨h.lst.ext x, h.own.ext x⟩
theorem GrowL.rows (h : GrowL e s w v rs) : Rows s w.heap.size w v (rs.map (·.1)) (rs.map (·.2)) := h.lst.newRows
theorem GrowL.push (h : GrowL e s w0 v rs) (x01 : Ext w0 w1) (hu : Fr w0.heap.size w1 u xs) (hs : s ≤ w0.heap.size) (x12 : Ext w1 w2)
    (ho : OwnN e s w3 v' (rs.map (·.1) ++ [u])) (hg : w2.grownBy w3 v.ownBlock) (hv : v'.ownBlock = v.ownBlock ∨ v'.ownBlock = some w2.heap.size) : GrowL e s w3 v' (rs ++ [(u, xs)]) := by
  have h1 := (h.lst.ext (x01.trans x12)).push (IntsAp.ofFr (hu.ext' x12) (fun g hg => by
    rcases hg with hg | hg
    · omega
    · exact (h.lst.lt hg).2)) ho hg hv
  have h2 := (h.own.push x01 hs hu).ext x12
  refine ⟨by simpa using h1, h2.wr (Wrt.grown hg) fun b hb hB => ?_⟩
  rcases blkOf_append'.1 hb with hb | ⟨r, hr, hn, eb⟩
  · exact h.lst.off h.own hb hB
  · obtain rfl := List.mem_singleton.1 hr
    obtain ⟨g, e1, e2, _⟩ := hu.block hn
    rw [eb] at e1; injection e1 with e1
    have := (h.lst.lt hB).2
    omega
theorem GrowI.nil (e s : Nat) (w : World) : GrowI e s w nilv [] := ⟨OwnN.nil _ _ _⟩
theorem GrowI.start {b : Nat} (h : Own e b w v []) (hb : s ≤ b) : GrowI e s w v [] := ⟨h.toN.mono hb⟩
instance (priority := low) GrowI.ext [x : Ext w w'] [h : GrowI e s w v xs] : GrowI e s w' v xs := ⟨@OwnN.ext _ _ _ _ _ _ x h.own⟩
theorem GrowI.fr (h : GrowI e s w v xs) : Fr s w v xs := h.own.toFr
end
section
variable {P : Program} {N : Nat} {ops : Array Oper} {π : List Nat} {K : Env → World → Prop} {ρ : Env} {w w0 w1 w00 : World} {l : List Oper}
variable {i : Nat} {ty ty2 : TypeId} {pos pos2 : String} {after after2 : Array Edge} {g g2 : Option (Nat × Bool)} {d d2 : Nat}
theorem st_grow {s x : Operand} {t e bytes sb : Nat} {z v u : Value} {xs : List Int} {rs : List (Value × List Int)} [ht : SlT P t e] [he : ElT P e 1 bytes z] (hG : GrowL e sb w0 v rs) (x01 : Ext w0 w1) (hu : Fr w0.heap.size w1 u xs) (hs0 : sb ≤ w0.heap.size)
    (hn : rs.length ≤ 1000000) (next : ∀ v1 v' w', GrowL e sb w' v' (rs ++ [(u, xs)]) → (∀ wb, Ext wb w1 → wb.heap.size ≤ sb → Ext wb w') → w1.heap.size ≤ w'.heap.size → GStep w1 w' v v' → rops P N ops K l (put (put ρ d v1) d2 v') w')
    (hx : ev ρ x = u := by ((try simp only [ev_tmp, ev_const, ev_func, get_put, get_args, get_putL, get_putL_nil, Nat.reduceEqDiff, reduceIte, List.getD_cons_zero, List.getD_cons_succ, List.getD_nil]); first | done | with_reducible rfl)) (hs : ∀ v1, ev (put ρ d v1) s = v := by intro v1; ((try simp only [ev_tmp, ev_const, ev_func, get_put, get_args, get_putL, get_putL_nil, Nat.reduceEqDiff, reduceIte, List.getD_cons_zero, List.getD_cons_succ, List.getD_nil]); first | done | with_reducible rfl)) (hd : ∀ v1, ev (put ρ d v1) (.tmp d) = v1 := by intro v1; ((try simp only [ev_tmp, ev_const, ev_func, get_put, get_args, get_putL, get_putL_nil, Nat.reduceEqDiff, reduceIte, List.getD_cons_zero, List.getD_cons_succ, List.getD_nil]); first | done | with_reducible rfl)) (hz : z.cells = #[z] := by rfl) (hby : bytes ≤ 100 := by decide) (hg1 : Wants ops ρ g := by first | exact True.intro | exact ⟨_, rfl, by ((try simp only [ev_tmp, ev_const, ev_func, get_put, get_args, get_putL, get_putL_nil, Nat.reduceEqDiff, reduceIte, List.getD_cons_zero, List.getD_cons_succ, List.getD_nil, Bool.not_true, Bool.not_false]); first | done | with_reducible rfl)⟩) (hg2 : ∀ v1, Wants ops (put ρ d v1) g2 := by intro v1; first | exact True.intro | exact ⟨_, rfl, by ((try simp only [ev_tmp, ev_const, ev_func, get_put, get_args, get_putL, get_putL_nil, Nat.reduceEqDiff, reduceIte, List.getD_cons_zero, List.getD_cons_succ, List.getD_nil, Bool.not_true, Bool.not_false]); first | done | with_reducible rfl)⟩) :
    rops P N ops K (⟨some d, .buildSlice t 1 #[(0, x)], ty, pos, after, g⟩ :: ⟨some d2, .call { callee := .builtin .append, args := #[s, .tmp d], argTypes := #[t, t] }, ty2, pos2, after2, g2⟩ :: l) ρ w1 := by
  refine st_slice1 (u := u) hx hu.ints.sl.cells hz hg1 fun w2 v2 he2 hs2 ho2 => ?_
  have hO := (hG.lst.ext (x01.trans he2)).own
  have hz1 := x01.size
  have hz2 := he2.size
  have hb : (rs.length + 1) * bytes ≤ 1000001 * 100 := Nat.mul_le_mul (by omega) hby
  refine st_append (hv := hO) (hy := ho2) (hs v2) (hd v2) (by rw [hz]; rfl) ?_ ?_ ?_ ?_ (hg2 v2) fun v3 w3 ho3 hg3 ha3 => ?_
  · intro a ha
    rw [List.mem_singleton.1 ha]; exact hu.ints.sl.one
  · simp only [List.length_map, List.length_singleton]; omega
  · simp only [List.length_map, List.length_singleton, maxLen]; omega
  · omega
  · exact next v2 v3 w3 (hG.push x01 hu hs0 he2 ho3 hg3 ha3) (fun wb hb1 hb2 => (hb1.trans he2).app hg3 (fun k hk => by have := (hG.lst.lt hk).1; omega)) (Nat.le_trans hz2 hg3.size) ⟨w2, he2, hg3, ha3⟩
theorem z_grow {s x : Operand} {b t e bytes sb : Nat} {z v u : Value} {xs : List Int} {rs : List (Value × List Int)} [ht : SlT P t e] [he : ElT P e 1 bytes z] (hG : GrowL e sb w0 v rs) (x01 : Ext w0 w1) (hu : Fr w0.heap.size w1 u xs) (hs0 : sb ≤ w0.heap.size)
    (hn : rs.length ≤ 1000000) (hvb : ∀ g, v.ownBlock = some g → g = b) (hi1 : opAt ops π i = some ⟨some d, .buildSlice t 1 #[(0, x)], ty, pos, after, g⟩ := by exact rfl) (hi2 : opAt ops π (i + 1) = some ⟨some d2, .call { callee := .builtin .append, args := #[s, .tmp d], argTypes := #[t, t] }, ty2, pos2, after2, g2⟩ := by exact rfl)
    (next : ∀ v1 v' w', GrowL e sb w' v' (rs ++ [(u, xs)]) → (∀ wb, Ext wb w1 → wb.heap.size ≤ sb → Ext wb w') → w1.heap.size ≤ w'.heap.size → GStep w1 w' v v' → dops P N ops π (Chg b w00) K (i + 1 + 1) (put (put ρ d v1) d2 v') w')
    (hx : ev ρ x = u := by ((try simp only [ev_tmp, ev_const, ev_func, get_put, get_args, get_putL, get_putL_nil, Nat.reduceEqDiff, reduceIte, List.getD_cons_zero, List.getD_cons_succ, List.getD_nil]); first | done | with_reducible rfl)) (hs : ∀ v1, ev (put ρ d v1) s = v := by intro v1; ((try simp only [ev_tmp, ev_const, ev_func, get_put, get_args, get_putL, get_putL_nil, Nat.reduceEqDiff, reduceIte, List.getD_cons_zero, List.getD_cons_succ, List.getD_nil]); first | done | with_reducible rfl)) (hd : ∀ v1, ev (put ρ d v1) (.tmp d) = v1 := by intro v1; ((try simp only [ev_tmp, ev_const, ev_func, get_put, get_args, get_putL, get_putL_nil, Nat.reduceEqDiff, reduceIte, List.getD_cons_zero, List.getD_cons_succ, List.getD_nil]); first | done | with_reducible rfl)) (hz : z.cells = #[z] := by rfl) (hby : bytes ≤ 100 := by decide) (hg1 : Wants ops ρ g := by first | exact True.intro | exact ⟨_, rfl, by ((try simp only [ev_tmp, ev_const, ev_func, get_put, get_args, get_putL, get_putL_nil, Nat.reduceEqDiff, reduceIte, List.getD_cons_zero, List.getD_cons_succ, List.getD_nil, Bool.not_true, Bool.not_false]); first | done | with_reducible rfl)⟩) (hg2 : ∀ v1, Wants ops (put ρ d v1) g2 := by intro v1; first | exact True.intro | exact ⟨_, rfl, by ((try simp only [ev_tmp, ev_const, ev_func, get_put, get_args, get_putL, get_putL_nil, Nat.reduceEqDiff, reduceIte, List.getD_cons_zero, List.getD_cons_succ, List.getD_nil, Bool.not_true, Bool.not_false]); first | done | with_reducible rfl)⟩)
    (hn1 : nextOk ops π i = true := by decide +kernel) (hn2 : nextOk ops π (i + 1) = true := by decide +kernel) (hd1 : d < N := by decide) (hd2 : d2 < N := by decide) :
    dops P N ops π (Chg b w00) K i ρ w1 := by
  refine z_slice1 (u := u) hi1 hx hu.ints.sl.cells hz (fun w2 v2 he2 hs2 ho2 => ?_) hn1 hd1 hg1
  have hO := (hG.lst.ext (x01.trans he2)).own
  have hz1 := x01.size
  have hz2 := he2.size
  have hb : (rs.length + 1) * bytes ≤ 1000001 * 100 := Nat.mul_le_mul (by omega) hby
  refine z_append (hv := hO) (hy := ho2) hi2 (hs v2) (hd v2) (by rw [hz]; rfl) ?_ ?_ ?_ ?_ hvb (fun v3 w3 ho3 hg3 ha3 => ?_) hn2 hd2 (hg2 v2)
  · intro a ha
    rw [List.mem_singleton.1 ha]; exact hu.ints.sl.one
  · simp only [List.length_map, List.length_singleton]; omega
  · simp only [List.length_map, List.length_singleton, maxLen]; omega
  · omega
  · exact next v2 v3 w3 (hG.push x01 hu hs0 he2 ho3 hg3 ha3) (fun wb hb1 hb2 => (hb1.trans he2).app hg3 (fun k hk => by have := (hG.lst.lt hk).1; omega)) (Nat.le_trans hz2 hg3.size) ⟨w2, he2, hg3, ha3⟩
theorem st_growi {s x : Operand} {t e bytes sb : Nat} {z v : Value} {k : Int} {xs : List Int} [ht : SlT P t e] [he : ElT P e 1 bytes z] (hG : GrowI e sb w1 v xs) (hs0 : sb ≤ w1.heap.size)
    (hn : xs.length ≤ 1000000) (next : ∀ v1 v' w', GrowI e sb w' v' (xs ++ [k]) → (∀ wb, Ext wb w1 → wb.heap.size ≤ sb → Ext wb w') → w1.heap.size ≤ w'.heap.size → GStep w1 w' v v' → rops P N ops K l (put (put ρ d v1) d2 v') w')
    (hx : ev ρ x = .int .i64 k := by ((try simp only [ev_tmp, ev_const, ev_func, get_put, get_args, get_putL, get_putL_nil, Nat.reduceEqDiff, reduceIte, List.getD_cons_zero, List.getD_cons_succ, List.getD_nil]); first | done | with_reducible rfl)) (hs : ∀ v1, ev (put ρ d v1) s = v := by intro v1; ((try simp only [ev_tmp, ev_const, ev_func, get_put, get_args, get_putL, get_putL_nil, Nat.reduceEqDiff, reduceIte, List.getD_cons_zero, List.getD_cons_succ, List.getD_nil]); first | done | with_reducible rfl)) (hd : ∀ v1, ev (put ρ d v1) (.tmp d) = v1 := by intro v1; ((try simp only [ev_tmp, ev_const, ev_func, get_put, get_args, get_putL, get_putL_nil, Nat.reduceEqDiff, reduceIte, List.getD_cons_zero, List.getD_cons_succ, List.getD_nil]); first | done | with_reducible rfl)) (hz : z.cells = #[z] := by rfl) (hby : bytes ≤ 100 := by decide) (hg1 : Wants ops ρ g := by first | exact True.intro | exact ⟨_, rfl, by ((try simp only [ev_tmp, ev_const, ev_func, get_put, get_args, get_putL, get_putL_nil, Nat.reduceEqDiff, reduceIte, List.getD_cons_zero, List.getD_cons_succ, List.getD_nil, Bool.not_true, Bool.not_false]); first | done | with_reducible rfl)⟩) (hg2 : ∀ v1, Wants ops (put ρ d v1) g2 := by intro v1; first | exact True.intro | exact ⟨_, rfl, by ((try simp only [ev_tmp, ev_const, ev_func, get_put, get_args, get_putL, get_putL_nil, Nat.reduceEqDiff, reduceIte, List.getD_cons_zero, List.getD_cons_succ, List.getD_nil, Bool.not_true, Bool.not_false]); first | done | with_reducible rfl)⟩) :
    rops P N ops K (⟨some d, .buildSlice t 1 #[(0, x)], ty, pos, after, g⟩ :: ⟨some d2, .call { callee := .builtin .append, args := #[s, .tmp d], argTypes := #[t, t] }, ty2, pos2, after2, g2⟩ :: l) ρ w1 := by
  refine st_slice1 (u := .int .i64 k) hx rfl hz hg1 fun w2 v2 he2 hs2 ho2 => ?_
  have hO : OwnN e sb w2 v (xs.map (Value.int .i64)) := @OwnN.ext _ _ _ _ _ _ he2 hG.own
  have hz2 := he2.size
  have hb : (xs.length + 1) * bytes ≤ 1000001 * 100 := Nat.mul_le_mul (by omega) hby
  refine st_append (hv := hO) (hy := ho2) (hs v2) (hd v2) (by rw [hz]; rfl) ?_ ?_ ?_ ?_ (hg2 v2) fun v3 w3 ho3 hg3 ha3 => ?_
  · intro a ha
    rw [List.mem_singleton.1 ha]; rfl
  · simp only [List.length_map, List.length_singleton]; omega
  · simp only [List.length_map, List.length_singleton, maxLen]; omega
  · omega
  · exact next v2 v3 w3 ⟨by simpa using ho3⟩ (fun wb hb1 hb2 => (hb1.trans he2).app hg3 (fun k hk => by have := (hO.lt k hk).1; omega)) (Nat.le_trans hz2 hg3.size) ⟨w2, he2, hg3, ha3⟩
end
end Go.Pc

/-
  Lists of lists that come from a call and grow on: lowered bounds, 'out = append(out, x)' where the rows need not be the call's own.
  Conditions: none; nothing of the program stands here.
-/
namespace Go.Pc
open Go Go.RowKit
section
variable {e s s' : Nat} {w : World} {v : Value} {us : List Value} {xss : List (List Int)} {rs : List (Value × List Int)}
theorem Lst.low (h : Lst e s (· < s) w v us xss) (h1 : s' ≤ s) (h2 : s' ≤ w.heap.size) : Lst e s' (· < s') w v us xss :=
  (h.mono h1).weak (fun g hg => .inl (Nat.lt_of_lt_of_le hg h1)) (fun g hg hlt => by
    have h3 := (h.lt hg).1
    have h4 : g < s' := hlt
    omega) (fun g hg => Nat.lt_of_lt_of_le hg h2)
theorem GrowL.lower (h : GrowL e s w v rs) (h1 : s' ≤ s) (h2 : s' ≤ w.heap.size) : GrowL e s' w v rs := ⟨h.lst.low h1 h2, h.own.mono h1⟩
end
section
variable {P : Program} {N : Nat} {ops : Array Oper} {π : List Nat} {K : Env → World → Prop} {ρ : Env} {w w0 w1 w00 : World} {l : List Oper}
variable {i : Nat} {ty ty2 : TypeId} {pos pos2 : String} {after after2 : Array Edge} {g g2 : Option (Nat × Bool)} {d d2 : Nat}
end
end Go.Pc

/-
  Lists of integers: the literal of three, 'append(u, v...)', also in drawn regions that write another block.
  Conditions: none; nothing of the program stands here.
-/
namespace Go.Pc
open Go Go.RowKit
section
variable {P : Program} {N : Nat} {ops : Array Oper} {π : List Nat} {K : Env → World → Prop} {ρ : Env} {w w0 w1 w00 : World} {l : List Oper}
variable {i : Nat} {ty ty2 : TypeId} {pos pos2 : String} {after after2 : Array Edge} {g g2 : Option (Nat × Bool)} {d d2 : Nat}
theorem run_slice1o {t e bytes : Nat} {x : Operand} {u z : Value} [ht : SlT P t e] [he : ElT P e 1 bytes z] (h : ev ρ x = u) (hu : u.cells = #[u]) (hz : z.cells = #[z]) :
    ∃ v w', Ex P (.buildSlice t 1 #[(0, x)]) ty ρ w v w' ∧ Ext w w' ∧ w'.heap.size = w.heap.size + 1 ∧ Own e w.heap.size w' v [u] := by
  obtain ⟨i, hi, hs, hby, hz'⟩ := he.ex
  refine ⟨.slice (some ⟨w.heap.size, 0, none⟩) 1 1, w.alloc (.cells #[u] e), ⟨fun _ _ _ _ => ?_⟩, Ext.alloc _ _, by simp, ?_⟩
  · simp [execOp, h, Instr.buildSlice, run_underlying ht.eq, sizeOf, typeInfo, hi, hs, zeroValue, hz', hz, Instr.fill, hu, newRow]
    refine congrArg (fun a => w.alloc (Obj.cells a e)) (Array.ext (by simp) fun j h1 h2 => ?_)
    have : j = 0 := by simp at h2; omega
    subst this
    simp
  · have := own_alloc w [u] e (by simp [maxLen])
    simpa using this
theorem st_appi {s x : Operand} {t e bytes sb lo hi : Nat} {z v y : Value} {xs ys : List Int} [ht : SlT P t e] [he : ElT P e 1 bytes z] (hG : GrowI e sb w1 v xs) (hy : Ints lo hi w1 y ys) (hs0 : sb ≤ w1.heap.size)
    (hn : xs.length + ys.length ≤ 1000000) (next : ∀ v' w', GrowI e sb w' v' (xs ++ ys) → (∀ wb, Ext wb w1 → wb.heap.size ≤ sb → Ext wb w') → w1.heap.size ≤ w'.heap.size → rops P N ops K l (put ρ d v') w')
    (hs : ev ρ s = v := by ((try simp only [ev_tmp, ev_const, ev_func, get_put, get_args, get_putL, get_putL_nil, Nat.reduceEqDiff, reduceIte, List.getD_cons_zero, List.getD_cons_succ, List.getD_nil]); first | done | with_reducible rfl)) (hx : ev ρ x = y := by ((try simp only [ev_tmp, ev_const, ev_func, get_put, get_args, get_putL, get_putL_nil, Nat.reduceEqDiff, reduceIte, List.getD_cons_zero, List.getD_cons_succ, List.getD_nil]); first | done | with_reducible rfl)) (hz : z.cells = #[z] := by rfl) (hby : bytes ≤ 100 := by decide) (hg1 : Wants ops ρ g := by first | exact True.intro | exact ⟨_, rfl, by ((try simp only [ev_tmp, ev_const, ev_func, get_put, get_args, get_putL, get_putL_nil, Nat.reduceEqDiff, reduceIte, List.getD_cons_zero, List.getD_cons_succ, List.getD_nil, Bool.not_true, Bool.not_false]); first | done | with_reducible rfl)⟩) :
    rops P N ops K (⟨some d, .call { callee := .builtin .append, args := #[s, x], argTypes := #[t, t] }, ty, pos, after, g⟩ :: l) ρ w1 := by
  have hO := hG.own
  have hsl := hy.sl
  have hb : (xs.length + ys.length) * bytes ≤ 1000000 * 100 := Nat.mul_le_mul (by omega) hby
  refine st_append (hv := hO) (hy := hsl) hs hx (by rw [hz]; rfl) ?_ ?_ ?_ ?_ hg1 fun v3 w3 ho3 hg3 ha3 => ?_
  · intro a ha
    obtain ⟨k, _, rfl⟩ := List.mem_map.1 ha
    rfl
  · simp only [List.length_map]; omega
  · simp only [List.length_map, maxLen]; omega
  · omega
  · exact next v3 w3 ⟨by simpa using ho3⟩ (fun wb hb1 hb2 => hb1.app hg3 (fun k hk => by have := (hO.lt k hk).1; omega)) hg3.size
end
end Go.Pc

/-
  Drawn regions in which two operations may come up: both orders; reads at their place.
  Conditions: none; nothing of the program stands here.
-/
namespace Go.Pc
open Go Go.RowKit
section
variable {P : Program} {N : Nat} {ops : Array Oper} {π π' : List Nat} {S : World → Prop} {K : Env → World → Prop} {ρ : Env} {w : World}
variable {i : Nat} {d : Nat} {op : Op} {ty : TypeId} {pos : String} {after : Array Edge} {g : Option (Nat × Bool)}
/-- One operation at place i has been carried out. -/
def dstp (P : Program) (N : Nat) (ops : Array Oper) (π : List Nat) (S : World → Prop) (K : Env → World → Prop) (i : Nat) (ρ : Env) (w : World) : Prop :=
  S w → ∀ a, Ok N a ρ → Closed ops (listedTo ops.size (π.take (i + 1))) → wpOp P ops (liftQ N (onK K)) (π.getD i 0) (fun a' w' => (lastOf ops π ≠ some (π.getD i 0) → S w') ∧ wpAnyL P ops (liftQ N (onK K)) S (lastOf ops π) (π.length - (i + 1)) (listedTo ops.size (π.take (i + 1))) a' w') a w
theorem dstp_step {o : Oper} (hi : opAt ops π i = some o) (hg : Wants ops ρ o.guard)
    (h : S w → ∀ a, Ok N a ρ → o.wp P a w (fun a' w' => S w' ∧ ∃ ρ', Ok N a' ρ' ∧ (S w' → dops P N ops π S K (i + 1) ρ' w')) (liftQ N (onK K))) : dstp P N ops π S K i ρ w := by
  intro hS a ha hcl
  obtain ⟨hlt, hi⟩ := opAt_some hi
  unfold wpOp
  simp only [hi, Wants.wanted ha hg, if_true]
  refine .inl (Oper.wp_mono ?_ (h hS a ha))
  rintro a' w' ⟨hS', ρ', hok, hnx⟩
  have h5 := hnx hS'
  unfold dops at h5
  exact ⟨fun _ => hS', h5 hS' _ hok hcl⟩
theorem dstp_ex {v : Value} {w' : World} (hi : opAt ops π i = some ⟨some d, op, ty, pos, after, g⟩) (hd : d < N) (hg : Wants ops ρ g) (h : Ex P op ty ρ w v w') (hS' : S w → S w')
    (next : dops P N ops π S K (i + 1) (put ρ d v) w') : dstp P N ops π S K i ρ w := by
  refine dstp_step hi hg fun hS a ha => ?_
  unfold Oper.wp
  rw [ha.eval, h.run]
  exact ⟨hS' hS, _, ha.put hd v, fun _ => next⟩
theorem dt_fork (hl : i < π.length) (hl' : π'.length = π.length) (ht : listedTo ops.size (π'.take i) = listedTo ops.size (π.take i)) (hr : (Region.ready .any ops (listedTo ops.size (π.take i)) == [π.getD i 0, π'.getD i 0]) = true)
    (h1 : dstp P N ops π S K i ρ w) (h2 : dstp P N ops π' S K i ρ w) (hll : lastOf ops π' = lastOf ops π := by decide +kernel) : dops P N ops π S K i ρ w := by
  unfold dops
  intro hS a ha hcl
  have hnn : π.length - i = (π.length - (i + 1)) + 1 := by omega
  rw [hnn]
  refine wpAnyL_all (rs := [π.getD i 0, π'.getD i 0]) (by simpa only [beq_iff_eq] using hr) (by simp) ?_
  have hr' : Region.ready .any ops (listedTo ops.size (π.take i)) = [π.getD i 0, π'.getD i 0] := by simpa only [beq_iff_eq] using hr
  intro j hj
  have hcl' := hcl.step (j := j) (by rw [hr']; exact hj)
  rcases List.mem_cons.1 hj with rfl | hj
  · rw [listed_next _ _ _ hl] at hcl' ⊢
    exact h1 hS a ha hcl'
  · obtain rfl := List.mem_singleton.1 hj
    rw [← ht, listed_next _ _ _ (by omega)] at hcl'
    rw [← ht, listed_next _ _ _ (by omega), ← hl', ← hll]
    exact h2 hS a ha hcl'
end
end Go.Pc

/-
  Lists of lists of rows that grow by one list at a time: 'out = append(out, list)'.
  Conditions: none; nothing of the program stands here.
-/
namespace Go.Pc
open Go Go.RowKit
/-- Rows that lie apart from some blocks. -/
def RsA (s : Nat) (av : Nat → Prop) (w : World) (v : Value) (us : List Value) (xss : List (List Int)) : Prop := ∃ lo hi, Rows lo hi w v us xss ∧ s ≤ lo ∧ hi ≤ w.heap.size ∧ ∀ g, av g → g < lo ∨ hi ≤ g
structure GrowV (e sb s : Nat) (w : World) (v : Value) (us : List Value) (uss : List (List Value)) (xsss : List (List (List Int))) : Prop where
  own : OwnN e sb w v us
  len : us.length = xsss.length
  len' : uss.length = xsss.length
  at_ : ∀ i, i < us.length → RsA s (fun g => v.ownBlock = some g) w (us.getD i nilv) (uss.getD i []) (xsss.getD i [])
/-- The rows of the lists are the call's own. -/
structure OwnC (s : Nat) (w : World) (v : Value) (gs : List (Value × List (Value × List Int))) : Prop where
  own : RowsO s w (flat gs)
  off : ∀ b, v.ownBlock = some b → ¬ BlkOf (flat gs) b
  sp : ∀ q, q ∈ gs → SpA (fun b => BlkOf (flat gs) b ∨ b < s ∨ v.ownBlock = some b) w q.1 (q.2.map (·.1))
section
variable {av av' : Nat → Prop} {e sb s lo hi : Nat} {w w' w0 w1 w2 w3 : World} {v v' u : Value} {us ut : List Value} {uss : List (List Value)} {xss : List (List Int)} {xsss : List (List (List Int))} {rs : List (Value × List Int)} {gs : List (Value × List (Value × List Int))}
theorem RsA.ext (h : RsA s av w v us xss) (x : Ext w w') : RsA s av w' v us xss := by
  obtain ⟨lo, hi, h1, h2, h3, h4⟩ := h
  exact ⟨lo, hi, h1.same (x.same _ _), h2, Nat.le_trans h3 x.size, h4⟩
theorem RsA.beside {ob : Option Nat} (h : RsA s av w v us xss) (hg : w.grownBy w' ob) (hob : ∀ g, ob = some g → av g) (ha : ∀ g, av' g → av g ∨ g = w.heap.size) : RsA s av' w' v us xss := by
  obtain ⟨lo, hi, h1, h2, h3, h4⟩ := h
  refine ⟨lo, hi, h1.same ((Wrt.grown hg).same fun b hb => h4 b (hob b hb)), h2, Nat.le_trans h3 hg.size, fun g hg' => ?_⟩
  rcases ha g hg' with h | h
  · exact h4 g h
  · omega
theorem rows_nilv (lo : Nat) (w : World) : Rows lo lo w nilv [] [] :=
  ⟨⟨⟨none, 0, rfl, Nat.le_refl _, by omega, fun k u hu => by simp at hu⟩⟩, rfl, fun i => ⟨⟨none, 0, by simp, by simp, by omega, fun k u hu => by simp at hu⟩⟩⟩
theorem GrowV.ext (h : GrowV e sb s w v us uss xsss) (x : Ext w w') : GrowV e sb s w' v us uss xsss := ⟨@OwnN.ext _ _ _ _ _ _ x h.own, h.len, h.len', fun i hi => (h.at_ i hi).ext x⟩
theorem GrowV.rowss (h : GrowV e sb s w v us uss xsss) (hsb : s ≤ sb) (hs : s ≤ w.heap.size) : Rowss s w.heap.size w v us uss xsss := by
  refine ⟨h.own.toSl.mono hsb (Nat.le_refl _), h.len, h.len', fun i => ?_⟩
  by_cases hi : i < us.length
  · obtain ⟨lo, hi', h1, h2, h3, _⟩ := h.at_ i hi
    exact h1.mono h2 h3
  · have h1 := h.len
    have h2 := h.len'
    have e1 : us.getD i nilv = nilv := by rw [List.getD_eq_getElem?_getD, List.getElem?_eq_none (by omega)]; rfl
    have e2 : uss.getD i [] = [] := by rw [List.getD_eq_getElem?_getD, List.getElem?_eq_none (by omega)]; rfl
    have e3 : xsss.getD i [] = [] := by rw [List.getD_eq_getElem?_getD, List.getElem?_eq_none (by omega)]; rfl
    rw [e1, e2, e3]
    exact (rows_nilv s w).mono (Nat.le_refl _) hs
theorem GrowV.one {b : Nat} (ho : Own e b w2 v [u]) (hb : b = w1.heap.size) (hsb : sb ≤ b) (hu : Rows s w1.heap.size w1 u ut xss) (hs : s ≤ w1.heap.size) (x : Ext w1 w2) : GrowV e sb s w2 v [u] [ut] [xss] := by
  have h1 := x.size
  refine ⟨ho.toN.mono (by omega), rfl, rfl, fun i hi => ?_⟩
  obtain rfl : i = 0 := by simpa using hi
  refine ⟨s, w1.heap.size, hu.same (x.same _ _), Nat.le_refl _, h1, fun g hg => ?_⟩
  rw [ho.toN_block] at hg; injection hg with hg; omega
theorem GrowV.push (h : GrowV e sb s w0 v us uss xsss) (x01 : Ext w0 w1) (hu : Rows w0.heap.size w1.heap.size w1 u ut xss) (hs : s ≤ w0.heap.size) (x12 : Ext w1 w2)
    (ho : OwnN e sb w3 v' (us ++ [u])) (hg : w2.grownBy w3 v.ownBlock) (hv : v'.ownBlock = v.ownBlock ∨ v'.ownBlock = some w2.heap.size) : GrowV e sb s w3 v' (us ++ [u]) (uss ++ [ut]) (xsss ++ [xss]) := by
  have h1 := h.len
  have h2 := h.len'
  have hav : ∀ g, v'.ownBlock = some g → v.ownBlock = some g ∨ g = w2.heap.size := fun g hg' => by
    rcases hv with e | e
    · rw [e] at hg'; exact .inl hg'
    · rw [e] at hg'; injection hg' with hg'; exact .inr hg'.symm
  refine ⟨ho, by simp [h1], by simp [h2], fun i hi => ?_⟩
  by_cases hi2 : i < us.length
  · have e1 : (us ++ [u]).getD i nilv = us.getD i nilv := by simp [List.getElem?_append_left hi2]
    have e2 : (uss ++ [ut]).getD i [] = uss.getD i [] := by simp [List.getElem?_append_left (show i < uss.length by omega)]
    have e3 : (xsss ++ [xss]).getD i [] = xsss.getD i [] := by simp [List.getElem?_append_left (show i < xsss.length by omega)]
    rw [e1, e2, e3]
    exact ((h.at_ i hi2).ext (x01.trans x12)).beside hg (fun g e => e) hav
  · have hi3 : i = us.length := by simp at hi; omega
    have e1 : (us ++ [u]).getD i nilv = u := by rw [hi3]; simp
    have e2 : (uss ++ [ut]).getD i [] = ut := by rw [show i = uss.length by omega]; simp
    have e3 : (xsss ++ [xss]).getD i [] = xss := by rw [show i = xsss.length by omega]; simp
    rw [e1, e2, e3]
    have hr : RsA s (fun g => v.ownBlock = some g) w2 u ut xss := ⟨w0.heap.size, w1.heap.size, hu.same (x12.same _ _), hs, x12.size, fun g hg' => .inl (h.own.lt g hg').2⟩
    exact hr.beside hg (fun g e => e) hav
theorem OwnC.ext (h : OwnC s w v gs) (x : Ext w w') (hb : ∀ b, v.ownBlock = some b → b < w.heap.size) : OwnC s w' v gs :=
  ⟨h.own.ext x, h.off, fun q hq => (h.sp q hq).grow x fun b hb => .inl hb⟩
theorem OwnC.one {b : Nat} (ho : Own e b w2 v [u]) (hb : b = w1.heap.size) (hM : MatO s w1.heap.size w1 u rs) (hs : s ≤ w1.heap.size) (x : Ext w1 w2) : OwnC s w2 v [(u, rs)] := by
  have hvb := ho.toN_block
  have hf : flat [(u, rs)] = rs := flat_one _
  refine ⟨by rw [hf]; exact hM.own.ext x, fun b' hb' hB => ?_, fun q hq => ?_⟩
  · rw [hf] at hB
    rw [hvb] at hb'; injection hb' with hb'
    have := hM.lt _ hB
    omega
  · obtain rfl := List.mem_singleton.1 hq
    rw [hf]
    refine SpA.grow hM.sp x fun g hg => ?_
    rcases hg with hg | hg | hg
    · exact .inl (.inl hg)
    · exact .inl (.inr hg)
    · rw [hvb] at hg; injection hg with hg; exact .inr (by omega)
theorem OwnC.push (h : OwnC s w0 v gs) (hvl : ∀ b, v.ownBlock = some b → b < w0.heap.size) (x01 : Ext w0 w1) (hM : MatO w0.heap.size w1.heap.size w1 u rs) (hs : s ≤ w0.heap.size) (x12 : Ext w1 w2)
    (hg : w2.grownBy w3 v.ownBlock) (hv : v'.ownBlock = v.ownBlock ∨ v'.ownBlock = some w2.heap.size) : OwnC s w3 v' (gs ++ [(u, rs)]) := by
  have hz1 := x01.size
  have hz2 := x12.size
  have hf : flat (gs ++ [(u, rs)]) = flat gs ++ rs := by rw [flat_append, flat_one]
  have hav : ∀ g, v'.ownBlock = some g → v.ownBlock = some g ∨ g = w2.heap.size := fun g hg' => by
    rcases hv with e | e
    · rw [e] at hg'; exact .inl hg'
    · rw [e] at hg'; injection hg' with hg'; exact .inr hg'.symm
  have hoff : ∀ b, v.ownBlock = some b → ¬ BlkOf (flat gs ++ rs) b := fun b hb hB => by
    rcases blkOf_append'.1 hB with hB | hB
    · exact h.off b hb hB
    · have h1 := (hM.own.blk hB).1
      have h2 := hvl b hb
      omega
  have hO := (h.own.append x01 hs hM.own).ext x12
  refine ⟨?_, fun b hb hB => ?_, fun q hq => ?_⟩
  · rw [hf]
    exact hO.wr (Wrt.grown hg) fun b hb hB => hoff b hB hb
  · rw [hf] at hB
    rcases hav b hb with hb | hb
    · exact hoff b hb hB
    · rcases blkOf_append'.1 hB with hB | hB
      · have := (h.own.blk hB).2; omega
      · have := hM.lt b hB; omega
  · rw [hf]
    have key : SpA (fun b => BlkOf (flat gs ++ rs) b ∨ b < s ∨ v.ownBlock = some b ∨ b = w2.heap.size) w2 q.1 (q.2.map (·.1)) := by
      rcases List.mem_append.1 hq with hq | hq
      · refine SpA.grow (h.sp q hq) (x01.trans x12) fun b hb => ?_
        rcases hb with hb | hb | hb | hb
        · rcases blkOf_append'.1 hb with hb | hb
          · exact .inl (.inl hb)
          · exact .inr (hM.own.blk hb).1
        · exact .inl (.inr (.inl hb))
        · exact .inl (.inr (.inr hb))
        · exact .inr (by omega)
      · obtain rfl := List.mem_singleton.1 hq
        refine SpA.grow hM.sp x12 fun b hb => ?_
        rcases hb with hb | hb | hb | hb
        · rcases blkOf_append'.1 hb with hb | hb
          · exact .inl (.inr (h.own.blk hb).2)
          · exact .inl (.inl hb)
        · exact .inl (.inr (by omega))
        · exact .inl (.inr (hvl b hb))
        · exact .inr (by omega)
    refine (key.wr (Wrt.grown hg) fun b hb => .inr (.inr (.inl hb))).weak fun b hb => ?_
    rcases hb with hb | hb | hb
    · exact .inl hb
    · exact .inr (.inl hb)
    · rcases hav b hb with hb | hb
      · exact .inr (.inr (.inl hb))
      · exact .inr (.inr (.inr hb))
theorem OwnC.cub (h : OwnC s w v gs) (ho : OwnN e sb w v (gs.map (·.1))) (hsb : s ≤ sb) : CubO (fun b => BlkOf (flat gs) b ∨ b < s) w v gs := by
  refine ⟨?_, fun q hq => (h.sp q hq).weak fun b hb => hb.imp id .inl⟩
  cases hv : v.ownBlock with
  | none =>
    rcases ho.own.2 with ⟨rfl, h0⟩ | ⟨g, cap, cur, rfl, _⟩
    · have e0 : gs.map (·.1) = [] := List.eq_nil_of_length_eq_zero h0
      rw [e0]
      exact ⟨0, 0, ⟨⟨none, 0, rfl, Nat.le_refl _, by omega, fun k u hu => by simp at hu⟩⟩, fun b _ => .inr (Nat.zero_le _)⟩
    · cases hv
  | some k =>
    have hk := ho.lt k hv
    refine ⟨k, k + 1, ho.toSlAt hv, fun b hb => ?_⟩
    rcases hb with hb | hb
    · have : b ≠ k := fun e => h.off k hv (e ▸ hb)
      omega
    · omega
end
/-- A list of lists of rows that is the call's own, in blocks from s on, below t. -/
structure MatC (s t : Nat) (w : World) (v : Value) (gs : List (Value × List (Value × List Int))) : Prop where
  rows : Rowss s t w v (gs.map (·.1)) (gs.map fun q => q.2.map (·.1)) (gs.map fun q => q.2.map (·.2))
  own : RowsO s w (flat gs)
  lt : ∀ b, BlkOf (flat gs) b → b < t
  cub : CubO (fun b => BlkOf (flat gs) b ∨ b < s) w v gs
section
variable {e sb s s' t : Nat} {B : Nat → Prop} {w w' : World} {v : Value} {gs : List (Value × List (Value × List Int))}
theorem MatC.of (h : OwnC s w v gs) (hG : GrowV e sb s w v (gs.map (·.1)) (gs.map fun q => q.2.map (·.1)) (gs.map fun q => q.2.map (·.2))) (hsb : s ≤ sb) (hs : s ≤ w.heap.size) : MatC s w.heap.size w v gs :=
  ⟨hG.rowss hsb hs, h.own, fun b hb => (h.own.blk hb).2, h.cub hG.own hsb⟩
theorem MatC.lower (h : MatC s t w v gs) (hs : s' ≤ s) : MatC s' t w v gs :=
  ⟨⟨h.rows.sl.mono hs (Nat.le_refl _), h.rows.vals.len, h.rows.vals.len', fun i => (h.rows.vals.at_ i).mono hs (Nat.le_refl _)⟩, h.own.mono hs, h.lt,
    ⟨h.cub.sp0.weak fun b hb => hb.imp id fun hb => by omega, fun q hq => (h.cub.sp q hq).weak fun b hb => hb.imp id fun hb => by omega⟩⟩
theorem MatC.wr (h : MatC s t w v gs) (k : Wrt B w w') (hb : ∀ b, B b → b < s ∨ t ≤ b) : MatC s t w' v gs := by
  refine ⟨h.rows.same (k.same hb), h.own.wr k (fun b hR hB => by
    have h1 := h.lt b hR
    have h2 := (h.own.blk hR).1
    have := hb b hB; omega), h.lt, ⟨h.cub.sp0.wr' k h.rows.sl hb, fun q hq => ?_⟩⟩
  obtain ⟨i, hi, rfl⟩ := List.getElem_of_mem hq
  have h1 := (h.rows.vals.at_ i).sl
  have e1 : (gs.map (·.1)).getD i nilv = gs[i].1 := by simp [hi]
  have e2 : (gs.map fun q => q.2.map (·.1)).getD i [] = gs[i].2.map (·.1) := by simp [hi]
  rw [e1, e2] at h1
  exact (h.cub.sp _ hq).wr' k h1 hb
theorem MatC.nilR (s t : Nat) (w : World) (hst : s ≤ t) : MatC s t w nilv [] := by
  refine ⟨⟨⟨⟨none, 0, rfl, Nat.le_refl _, by omega, fun k u hu => by simp at hu⟩⟩, rfl, rfl, fun i => (rows_nilv s w).mono (Nat.le_refl _) hst⟩, RowsO.nil _ _, fun b hb => ?_, ⟨⟨0, 0, ⟨⟨none, 0, rfl, Nat.le_refl _, by omega, fun k u hu => by simp at hu⟩⟩, fun b _ => .inr (Nat.zero_le _)⟩, fun q hq => (by cases hq)⟩⟩
  obtain ⟨r, hr, _⟩ := hb
  cases hr
end
section
variable {P : Program} {N : Nat} {ops : Array Oper} {K : Env → World → Prop} {ρ : Env} {w0 w1 : World} {l : List Oper}
variable {ty ty2 : TypeId} {pos pos2 : String} {after after2 : Array Edge} {g g2 : Option (Nat × Bool)} {d d2 : Nat}
end
end Go.Pc

/-
  A homomorphism's value, and one of the call's own; stores into a part of a block.
  Conditions: none; nothing of the program stands here.
-/
namespace Go.Pc
open Go Go.RowKit
class HomV (lo hi : outParam Nat) (w : World) (v : Value) (p q : outParam Pr) (xss : outParam (List (List Int))) : Prop where
  ex : ∃ a0 a1 a2 a3 a4 a5 a6 us, v = .agg #[a0, a1, a2, a3, a4, a5, a6] ∧ Pres lo hi w (.agg #[a0, a1, a2]) p ∧ Pres lo hi w (.agg #[a3, a4, a5]) q ∧ Rows lo hi w a6 us xss
structure HomO (s t : Nat) (w : World) (v : Value) (p q : Pr) (rs : List (Value × List Int)) : Prop where
  ex : ∃ a0 a1 a2 a3 a4 a5 a6 m0 m1 m2 m3, v = .agg #[a0, a1, a2, a3, a4, a5, a6] ∧ s ≤ m0 ∧ m0 ≤ m1 ∧ m1 ≤ m2 ∧ m2 ≤ m3 ∧ m3 ≤ t ∧ PresO m0 m1 w (.agg #[a0, a1, a2]) p ∧ PresO m1 m2 w (.agg #[a3, a4, a5]) q ∧ MatO m2 m3 w a6 rs
section
variable {lo hi lo' hi' s t b : Nat} {w w' : World} {v : Value} {p q : Pr} {xss : List (List Int)} {rs : List (Value × List Int)} {B : Nat → Prop}
theorem Pres.mono (h : Pres lo hi w v p) (h1 : lo' ≤ lo) (h2 : hi ≤ hi') : Pres lo' hi' w v p := by
  obtain ⟨vo, vp, vc, ps, cs, css, rfl, k1, k2, k3⟩ := h.ex
  exact ⟨⟨vo, vp, vc, ps, cs, css, rfl, k1.mono h1 h2, k2.mono h1 h2, ⟨k3.sl.mono h1 h2, k3.vals.len, k3.vals.len', fun i => (k3.vals.at_ i).mono h1 h2⟩⟩⟩
theorem Pres.one3 {a0 a1 a2 : Value} (h : Pres lo hi w (.agg #[a0, a1, a2]) p) : a0.oneCell' = true ∧ a1.oneCell' = true ∧ a2.oneCell' = true := by
  obtain ⟨vo, vp, vc, ps, cs, css, e, h1, h2, h3⟩ := h.ex
  injection e with e
  have e0 : a0 = vo := by have := congrArg (fun a : Array Value => a.getD 0 undef) e; simpa using this
  have e1 : a1 = vp := by have := congrArg (fun a : Array Value => a.getD 1 undef) e; simpa using this
  have e2 : a2 = vc := by have := congrArg (fun a : Array Value => a.getD 2 undef) e; simpa using this
  subst e0 e1 e2
  exact ⟨h1.sl.one, h2.sl.one, h3.sl.one⟩
theorem HomV.same (h : HomV lo hi w v p q xss) (k : Same lo hi w w') : HomV lo hi w' v p q xss := by
  obtain ⟨a0, a1, a2, a3, a4, a5, a6, us, rfl, h1, h2, h3⟩ := h.ex
  exact ⟨⟨a0, a1, a2, a3, a4, a5, a6, us, rfl, h1.same k, h2.same k, h3.same k⟩⟩
theorem HomV.wide (h : HomV lo hi w v p q xss) : HomV 0 w.heap.size w v p q xss := by
  obtain ⟨a0, a1, a2, a3, a4, a5, a6, us, rfl, h1, h2, h3⟩ := h.ex
  exact ⟨⟨a0, a1, a2, a3, a4, a5, a6, us, rfl, h1.wide, h2.wide, h3.wide⟩⟩
instance (priority := low) HomV.ext [x : Ext w w'] [h : HomV lo hi w v p q xss] : HomV lo hi w' v p q xss := h.same (x.same _ _)
instance (priority := low) HomV.chg [c : Chg b w w'] [h : HomV lo hi w v p q xss] [a : Apart lo hi b] : HomV lo hi w' v p q xss := h.same (c.same a.out)
theorem HomO.hom (h : HomO s t w v p q rs) : HomV s t w v p q (rs.map (·.2)) := by
  obtain ⟨a0, a1, a2, a3, a4, a5, a6, m0, m1, m2, m3, rfl, l0, l1, l2, l3, l4, h1, h2, h3⟩ := h.ex
  exact ⟨⟨a0, a1, a2, a3, a4, a5, a6, _, rfl, h1.pres.mono (by omega) (by omega), h2.pres.mono (by omega) (by omega), h3.rows.mono (by omega) (by omega)⟩⟩
theorem HomO.wr (h : HomO s t w v p q rs) (k : Wrt B w w') (hb : ∀ b, B b → b < s ∨ t ≤ b) : HomO s t w' v p q rs := by
  obtain ⟨a0, a1, a2, a3, a4, a5, a6, m0, m1, m2, m3, rfl, l0, l1, l2, l3, l4, h1, h2, h3⟩ := h.ex
  exact ⟨a0, a1, a2, a3, a4, a5, a6, m0, m1, m2, m3, rfl, l0, l1, l2, l3, l4, h1.wr k (fun b h => by have := hb b h; omega), h2.wr k (fun b h => by have := hb b h; omega), h3.wr k (fun b h => by have := hb b h; omega)⟩
theorem Blk.cells7 {a0 a1 a2 a3 a4 a5 a6 : Value} (h : Blk w b [a0, a1, a2, a3, a4, a5, a6]) : Cell w b 0 a0 ∧ Cell w b 1 a1 ∧ Cell w b 2 a2 ∧ Cell w b 3 a3 ∧ Cell w b 4 a4 ∧ Cell w b 5 a5 ∧ Cell w b 6 a6 :=
  ⟨h.cell rfl, h.cell rfl, h.cell rfl, h.cell rfl, h.cell rfl, h.cell rfl, h.cell rfl⟩
end
section
variable {P : Program} {N : Nat} {ops : Array Oper} {K : Env → World → Prop} {l : List Oper} {ρ : Env} {w : World} {ty : TypeId} {pos : String} {after : Array Edge} {g : Option (Nat × Bool)}
end
section
variable {P : Program} {N : Nat} {ops : Array Oper} {ρ : Env} {w w0 : World}
end
section
variable {lo hi b : Nat} {w w' : World} {v : Value} {p q : Pr} {xss : List (List Int)}
/-- A block that holds a homomorphism. -/
class HomB (w : World) (b : Nat) (p q : outParam Pr) (xss : outParam (List (List Int))) : Prop where
  ex : ∃ a0 a1 a2 a3 a4 a5 a6 us, Cell w b 0 a0 ∧ Cell w b 1 a1 ∧ Cell w b 2 a2 ∧ Cell w b 3 a3 ∧ Cell w b 4 a4 ∧ Cell w b 5 a5 ∧ Cell w b 6 a6 ∧ Pres 0 w.heap.size w (.agg #[a0, a1, a2]) p ∧ Pres 0 w.heap.size w (.agg #[a3, a4, a5]) q ∧ Rows 0 w.heap.size w a6 us xss
theorem HomB.ext' (h : HomB w b p q xss) (x : Ext w w') : HomB w' b p q xss := by
  obtain ⟨a0, a1, a2, a3, a4, a5, a6, us, c0, c1, c2, c3, c4, c5, c6, hp, hq, hx⟩ := h.ex
  exact ⟨⟨a0, a1, a2, a3, a4, a5, a6, us, c0.same (x.same _ _) x.size, c1.same (x.same _ _) x.size, c2.same (x.same _ _) x.size, c3.same (x.same _ _) x.size, c4.same (x.same _ _) x.size, c5.same (x.same _ _) x.size, c6.same (x.same _ _) x.size,
    (hp.same (x.same _ _)).wide, (hq.same (x.same _ _)).wide, (hx.same (x.same _ _)).wide⟩⟩
instance (priority := low) HomB.ext [x : Ext w w'] [h : HomB w b p q xss] : HomB w' b p q xss := h.ext' x
theorem HomB.src (h : HomB w b p q xss) : PresP 0 w.heap.size w (.pointer (some ⟨b, 0, none⟩)) p := by
  obtain ⟨a0, a1, a2, a3, a4, a5, a6, us, c0, c1, c2, c3, c4, c5, c6, hp, hq, hx⟩ := h.ex
  exact PresP.part hp c0 c1 c2
/-- The block that a homomorphism given by value is put into. -/
theorem HomV.boxed {a0 a1 a2 a3 a4 a5 a6 : Value} (h : HomV lo hi w (.agg #[a0, a1, a2, a3, a4, a5, a6]) p q xss) (x : Ext w w') (hb : Blk w' b [a0, a1, a2, a3, a4, a5, a6]) : HomB w' b p q xss := by
  obtain ⟨d0, d1, d2, d3, d4, d5, d6, us, e, hp, hq, hx⟩ := h.ex
  injection e with e
  have f : ∀ i, (#[a0, a1, a2, a3, a4, a5, a6] : Array Value).getD i undef = (#[d0, d1, d2, d3, d4, d5, d6] : Array Value).getD i undef := fun i => by rw [e]
  obtain rfl : a0 = d0 := by simpa using f 0
  obtain rfl : a1 = d1 := by simpa using f 1
  obtain rfl : a2 = d2 := by simpa using f 2
  obtain rfl : a3 = d3 := by simpa using f 3
  obtain rfl : a4 = d4 := by simpa using f 4
  obtain rfl : a5 = d5 := by simpa using f 5
  obtain rfl : a6 = d6 := by simpa using f 6
  obtain ⟨c0, c1, c2, c3, c4, c5, c6⟩ := hb.cells7
  exact ⟨⟨_, _, _, _, _, _, _, us, c0, c1, c2, c3, c4, c5, c6, (hp.same (x.same _ _)).wide, (hq.same (x.same _ _)).wide, (hx.same (x.same _ _)).wide⟩⟩
end
end Go.Pc

/-
  Three lists that grow side by side, fields of one struct: what each takes up, and that none touches another.
  Conditions: none; nothing of the program stands here.
-/
namespace Go.Pc
open Go Go.RowKit
section
variable {A B : Nat → Prop} {e e' eo ep ec ei s s' : Nat} {w w' w0 w1 w2 w3 : World} {v v' u vo vo' vp vp' vc vc' : Value} {us : List Value} {xs ord : List Int} {rs rp : List (Value × List Int)} {gs : List (Value × List (Value × List Int))}
theorem OwnN.wr (h : OwnN e s w v us) (k : Wrt B w w') (hb : ∀ b, v.ownBlock = some b → ¬ B b) : OwnN e s w' v us := by
  induction k with
  | refl => exact h
  | step _ hB c ih => exact ih.other c (fun e => hb _ e hB)
  | grow _ x ih => exact @OwnN.ext _ _ _ _ _ _ x ih
theorem OwnN.spA (h : OwnN e s w v us) (hA : ∀ b, v.ownBlock = some b → ¬ A b) : SpA A w v us := by
  cases hv : v.ownBlock with
  | none =>
    rcases h.own.2 with ⟨rfl, h0⟩ | ⟨g, cap, cur, rfl, _⟩
    · have e0 : us = [] := List.eq_nil_of_length_eq_zero h0
      subst e0
      exact ⟨0, 0, ⟨⟨none, 0, rfl, Nat.le_refl _, by omega, fun k u hu => by simp at hu⟩⟩, fun b _ => .inr (Nat.zero_le _)⟩
    · cases hv
  | some g => exact ⟨g, g + 1, h.toSlAt hv, fun b hb => by
      have : b ≠ g := fun e => hA g hv (e ▸ hb)
      omega⟩
structure GrL (e s : Nat) (w : World) (v : Value) (rs : List (Value × List Int)) : Prop where
  own : OwnN e s w v (rs.map (·.1))
  rows : RowsO s w rs
  off : ∀ b, v.ownBlock = some b → ¬ BlkOf rs b
/-- What a list of rows takes up. -/
def FL (v : Value) (rs : List (Value × List Int)) (b : Nat) : Prop := v.ownBlock = some b ∨ BlkOf rs b
theorem GrL.of (h : GrowL e s w v rs) : GrL e s w v rs := ⟨h.lst.own, h.own, fun _ hb hB => h.lst.off h.own hB hb⟩
theorem GrL.wr (h : GrL e s w v rs) (k : Wrt B w w') (hb : ∀ b, FL v rs b → ¬ B b) : GrL e s w' v rs :=
  ⟨h.own.wr k fun b hB => hb b (.inl hB), h.rows.wr k fun b hB => hb b (.inr hB), h.off⟩
theorem GrL.lt (h : GrL e s w v rs) {b : Nat} (hb : FL v rs b) : s ≤ b ∧ b < w.heap.size := by
  rcases hb with hb | hb
  · exact h.own.lt b hb
  · exact h.rows.blk hb
theorem GrL.grow (h : GrL e s w v rs) (hs : s ≤ w.heap.size) : GrowL e s w v rs := by
  refine ⟨⟨h.own, ⟨by simp, fun i => ?_⟩, fun g hg hB => by have := (h.own.lt g hg).1; omega, fun g hg => by omega⟩, h.rows⟩
  by_cases hi : i < rs.length
  · have e1 : (rs.map (·.1)).getD i nilv = rs[i].1 := by simp [hi]
    have e2 : (rs.map (·.2)).getD i [] = rs[i].2 := by simp [hi]
    rw [e1, e2]
    have hf := h.rows.fr _ (List.getElem_mem hi)
    by_cases hn : rs[i].2 = []
    · rw [hn] at hf ⊢
      obtain ⟨X, c, hv, hc, hm, _⟩ := hf.ints.sl.ex
      exact ⟨0, 0, ⟨⟨X, c, hv, hc, hm, fun k u hu => by simp at hu⟩⟩, Nat.zero_le _, fun g _ => .inr (Nat.zero_le _)⟩
    · obtain ⟨te, b, hb, ho⟩ := hf.own hn
      refine ⟨b, b + 1, ⟨ho.own.toSl⟩, ho.lt, fun g hg => ?_⟩
      rcases hg with hg | hg
      · omega
      · have : g ≠ b := fun e => h.off g hg (e ▸ ⟨_, List.getElem_mem hi, hn, ho.block⟩)
        omega
  · have e1 : (rs.map (·.1)).getD i nilv = nilv := by rw [List.getD_eq_getElem?_getD, List.getElem?_eq_none (by simp; omega)]; rfl
    have e2 : (rs.map (·.2)).getD i [] = [] := by rw [List.getD_eq_getElem?_getD, List.getElem?_eq_none (by simp; omega)]; rfl
    rw [e1, e2]
    exact IntsAp.nil _ _
theorem Rows.ofOwn (h : OwnN e s w v (rs.map (·.1))) (hf : ∀ r, r ∈ rs → Fr s w r.1 r.2) (hs : s ≤ w.heap.size) : Rows s w.heap.size w v (rs.map (·.1)) (rs.map (·.2)) := by
  refine ⟨h.toSl, by simp, fun i => ?_⟩
  by_cases hi : i < rs.length
  · have e1 : (rs.map (·.1)).getD i nilv = rs[i].1 := by simp [hi]
    have e2 : (rs.map (·.2)).getD i [] = rs[i].2 := by simp [hi]
    rw [e1, e2]
    exact (hf _ (List.getElem_mem hi)).ints
  · have e1 : (rs.map (·.1)).getD i nilv = nilv := by rw [List.getD_eq_getElem?_getD, List.getElem?_eq_none (by simp; omega)]; rfl
    have e2 : (rs.map (·.2)).getD i [] = [] := by rw [List.getD_eq_getElem?_getD, List.getElem?_eq_none (by simp; omega)]; rfl
    rw [e1, e2]
    exact ⟨⟨none, 0, by simp, by simp, by omega, fun k u hu => by simp at hu⟩⟩
structure GrC (e e' s : Nat) (w : World) (v : Value) (gs : List (Value × List (Value × List Int))) : Prop where
  own : OwnN e s w v (gs.map (·.1))
  inn : ∀ q, q ∈ gs → OwnN e' s w q.1 (q.2.map (·.1))
  rows : RowsO s w (flat gs)
  off : ∀ b, v.ownBlock = some b → ¬ BlkOf (flat gs) b ∧ ∀ q, q ∈ gs → q.1.ownBlock ≠ some b
  offi : ∀ q, q ∈ gs → ∀ b, q.1.ownBlock = some b → ¬ BlkOf (flat gs) b
/-- What a list of lists of rows takes up. -/
def FC (v : Value) (gs : List (Value × List (Value × List Int))) (b : Nat) : Prop := v.ownBlock = some b ∨ (∃ q, q ∈ gs ∧ q.1.ownBlock = some b) ∨ BlkOf (flat gs) b
theorem GrC.nil (e e' s : Nat) (w : World) : GrC e e' s w nilv [] := ⟨OwnN.nil _ _ _, fun q h => (by cases h), RowsO.nil _ _, fun b h => (by cases h), fun q h => (by cases h)⟩
theorem GrC.wr (h : GrC e e' s w v gs) (k : Wrt B w w') (hb : ∀ b, FC v gs b → ¬ B b) : GrC e e' s w' v gs :=
  ⟨h.own.wr k fun b hB => hb b (.inl hB), fun q hq => (h.inn q hq).wr k fun b hB => hb b (.inr (.inl ⟨q, hq, hB⟩)), h.rows.wr k fun b hB => hb b (.inr (.inr hB)), h.off, h.offi⟩
theorem GrC.lt (h : GrC e e' s w v gs) {b : Nat} (hb : FC v gs b) : s ≤ b ∧ b < w.heap.size := by
  rcases hb with hb | ⟨q, hq, hb⟩ | hb
  · exact h.own.lt b hb
  · exact (h.inn q hq).lt b hb
  · exact h.rows.blk hb
theorem FC.push {b : Nat} (hL : GrL e' w0.heap.size w1 u rs) (x01 : Ext w0 w1) (x12 : Ext w1 w2) (hv : v'.ownBlock = v.ownBlock ∨ v'.ownBlock = some w2.heap.size) (h : FC v' (gs ++ [(u, rs)]) b) : FC v gs b ∨ w0.heap.size ≤ b := by
  have z1 := x01.size
  have z2 := x12.size
  rcases h with h | ⟨q, hq, h⟩ | h
  · rcases hv with e | e
    · exact .inl (.inl (e ▸ h))
    · rw [e] at h; injection h with h; exact .inr (by omega)
  · rcases List.mem_append.1 hq with hq | hq
    · exact .inl (.inr (.inl ⟨q, hq, h⟩))
    · obtain rfl := List.mem_singleton.1 hq
      exact .inr (hL.own.lt b h).1
  · rw [flat_append, flat_one] at h
    rcases blkOf_append'.1 h with h | h
    · exact .inl (.inr (.inr h))
    · exact .inr (hL.rows.blk h).1
theorem GrC.push (h : GrC e e' s w0 v gs) (x01 : Ext w0 w1) (hL : GrL e' w0.heap.size w1 u rs) (hs : s ≤ w0.heap.size) (x12 : Ext w1 w2)
    (ho : OwnN e s w3 v' (gs.map (·.1) ++ [u])) (hg : w2.grownBy w3 v.ownBlock) (hv : v'.ownBlock = v.ownBlock ∨ v'.ownBlock = some w2.heap.size) : GrC e e' s w3 v' (gs ++ [(u, rs)]) := by
  have z1 := x01.size
  have z2 := x12.size
  have x02 := x01.trans x12
  have hvl : ∀ b, v.ownBlock = some b → b < w0.heap.size := fun b hb => (h.own.lt b hb).2
  have hvn : ∀ b, v'.ownBlock = some b → (v.ownBlock = some b ∨ b = w2.heap.size) := fun b hb => by
    rcases hv with e | e
    · exact .inl (e ▸ hb)
    · rw [e] at hb; injection hb with hb; exact .inr hb.symm
  have k23 : Wrt (fun b => v.ownBlock = some b) w2 w3 := Wrt.grown hg
  have hI : ∀ q, q ∈ gs ++ [(u, rs)] → OwnN e' s w2 q.1 (q.2.map (·.1)) ∧ ∀ b, q.1.ownBlock = some b → v.ownBlock ≠ some b := fun q hq => by
    rcases List.mem_append.1 hq with hq | hq
    · exact ⟨@OwnN.ext _ _ _ _ _ _ x02 (h.inn q hq), fun b hb hB => (h.off b hB).2 q hq hb⟩
    · obtain rfl := List.mem_singleton.1 hq
      exact ⟨(@OwnN.ext _ _ _ _ _ _ x12 hL.own).mono hs, fun b hb hB => by have := hvl b hB; have := (hL.own.lt b hb).1; omega⟩
  have hR : RowsO s w2 (flat (gs ++ [(u, rs)])) := by
    rw [flat_append, flat_one]
    exact (h.rows.append x01 hs hL.rows).ext x12
  have hRv : ∀ b, BlkOf (flat (gs ++ [(u, rs)])) b → v.ownBlock ≠ some b := fun b hb hB => by
    rw [flat_append, flat_one] at hb
    rcases blkOf_append'.1 hb with hb | hb
    · exact (h.off b hB).1 hb
    · have := hvl b hB; have := (hL.rows.blk hb).1; omega
  refine ⟨by simpa using ho, fun q hq => (hI q hq).1.wr k23 (hI q hq).2, hR.wr k23 hRv, fun b hb => ⟨fun hB => ?_, fun q hq hB => ?_⟩, fun q hq b hb hB => ?_⟩
  · rcases hvn b hb with hb | rfl
    · exact hRv b hB hb
    · have := (hR.blk hB).2; omega
  · rcases hvn b hb with hb | rfl
    · exact (hI q hq).2 b hB hb
    · have := ((hI q hq).1.lt _ hB).2; omega
  · rw [flat_append, flat_one] at hB
    rcases List.mem_append.1 hq with hq | hq
    · rcases blkOf_append'.1 hB with hB | hB
      · exact h.offi q hq b hb hB
      · have := ((h.inn q hq).lt b hb).2; have := (hL.rows.blk hB).1; omega
    · obtain rfl := List.mem_singleton.1 hq
      rcases blkOf_append'.1 hB with hB | hB
      · have := (h.rows.blk hB).2; have := (hL.own.lt b hb).1; omega
      · exact hL.off b hb hB
/-- The three lists. -/
structure Tri (eo ep ec ei s : Nat) (w : World) (vo : Value) (ord : List Int) (vp : Value) (rp : List (Value × List Int)) (vc : Value) (gs : List (Value × List (Value × List Int))) : Prop where
  o : OwnN eo s w vo (ord.map (Value.int .i64))
  p : GrL ep s w vp rp
  c : GrC ec ei s w vc gs
  op : ∀ b, vo.ownBlock = some b → ¬ FL vp rp b
  oc : ∀ b, vo.ownBlock = some b → ¬ FC vc gs b
  pc : ∀ b, FL vp rp b → ¬ FC vc gs b
  lo : s ≤ w.heap.size
theorem Tri.nil (eo ep ec ei s : Nat) (w : World) (hs : s ≤ w.heap.size) : Tri eo ep ec ei s w nilv [] nilv [] nilv [] :=
  ⟨OwnN.nil _ _ _, ⟨OwnN.nil _ _ _, RowsO.nil _ _, fun b h => (by cases h)⟩, GrC.nil _ _ _ _, fun b h => (by cases h), fun b h => (by cases h), fun b h => (by
    rcases h with h | ⟨r, hr, _⟩
    · cases h
    · cases hr), hs⟩
theorem Tri.wr (h : Tri eo ep ec ei s w vo ord vp rp vc gs) (k : Wrt B w w') (hB : ∀ b, B b → b < s) : Tri eo ep ec ei s w' vo ord vp rp vc gs :=
  ⟨h.o.wr k fun b hb hb' => by have := (h.o.lt b hb).1; have := hB b hb'; omega, h.p.wr k fun b hb hb' => by have := (h.p.lt hb).1; have := hB b hb'; omega,
   h.c.wr k fun b hb hb' => by have := (h.c.lt hb).1; have := hB b hb'; omega, h.op, h.oc, h.pc, Nat.le_trans h.lo k.size⟩
theorem Tri.ext (h : Tri eo ep ec ei s w vo ord vp rp vc gs) (x : Ext w w') : Tri eo ep ec ei s w' vo ord vp rp vc gs := h.wr (.ofExt (B := fun _ => False) x) fun b hb => hb.elim
theorem GStep.wrt (h : GStep w w' v v') : Wrt (fun b => v.ownBlock = some b) w w' := by
  obtain ⟨w2, x, hg, _⟩ := h.ex
  exact (Wrt.ofExt x).trans (Wrt.grown hg)
theorem GStep.new (h : GStep w w' v v') {b : Nat} (hb : v'.ownBlock = some b) : v.ownBlock = some b ∨ w.heap.size ≤ b := by
  obtain ⟨w2, x, hg, e | e⟩ := h.ex
  · exact .inl (e ▸ hb)
  · rw [e] at hb; injection hb with hb; have := x.size; exact .inr (by omega)
theorem Tri.pushO {k : Int} (h : Tri eo ep ec ei s w0 vo ord vp rp vc gs) (x01 : Ext w0 w1) (hG : OwnN eo s w' vo' ((ord ++ [k]).map (Value.int .i64))) (hst : GStep w1 w' vo vo') : Tri eo ep ec ei s w' vo' (ord ++ [k]) vp rp vc gs := by
  have h1 := h.ext x01
  have k1 := hst.wrt
  refine ⟨hG, h1.p.wr k1 fun b hb hB => h.op b hB hb, h1.c.wr k1 fun b hb hB => h.oc b hB hb, fun b hb hB => ?_, fun b hb hB => ?_, h.pc, Nat.le_trans h1.lo k1.size⟩
  · rcases hst.new hb with hb | hb
    · exact h.op b hb hB
    · have := (h1.p.lt hB).2; omega
  · rcases hst.new hb with hb | hb
    · exact h.oc b hb hB
    · have := (h1.c.lt hB).2; omega
theorem FL.push {b : Nat} (hu : Fr w0.heap.size w1 u xs) (x01 : Ext w0 w1) (hst : GStep w1 w' v v') (h : FL v' (rs ++ [(u, xs)]) b) : FL v rs b ∨ w0.heap.size ≤ b := by
  have z1 := x01.size
  rcases h with h | h
  · rcases hst.new h with h | h
    · exact .inl (.inl h)
    · exact .inr (by omega)
  · rcases blkOf_append'.1 h with h | ⟨r, hr, hn, eb⟩
    · exact .inl (.inr h)
    · obtain rfl := List.mem_singleton.1 hr
      obtain ⟨g, e1, e2, _⟩ := hu.block hn
      rw [eb] at e1; injection e1 with e1
      exact .inr (by omega)
theorem Tri.pushP (h : Tri eo ep ec ei s w0 vo ord vp rp vc gs) (x01 : Ext w0 w1) (hu : Fr w0.heap.size w1 u xs) (hG : GrowL ep s w' vp' (rp ++ [(u, xs)])) (hst : GStep w1 w' vp vp') : Tri eo ep ec ei s w' vo ord vp' (rp ++ [(u, xs)]) vc gs := by
  have h1 := h.ext x01
  have k1 := hst.wrt
  refine ⟨h1.o.wr k1 fun b hb hB => h.op b hb (.inl hB), GrL.of hG, h1.c.wr k1 fun b hb hB => h.pc b (.inl hB) hb, fun b hb hB => ?_, h.oc, fun b hb hB => ?_, Nat.le_trans h1.lo k1.size⟩
  · rcases FL.push hu x01 hst hB with hB | hB
    · exact h.op b hb hB
    · have := (h.o.lt b hb).2; omega
  · rcases FL.push hu x01 hst hb with hb | hb
    · exact h.pc b hb hB
    · have := (h.c.lt hB).2; omega
theorem Tri.pushC (h : Tri eo ep ec ei s w0 vo ord vp rp vc gs) (x01 : Ext w0 w1) (hL : GrL ei w0.heap.size w1 u rs) (x12 : Ext w1 w2)
    (ho : OwnN ec s w3 vc' (gs.map (·.1) ++ [u])) (hg : w2.grownBy w3 vc.ownBlock) (hv : vc'.ownBlock = vc.ownBlock ∨ vc'.ownBlock = some w2.heap.size) : Tri eo ep ec ei s w3 vo ord vp rp vc' (gs ++ [(u, rs)]) := by
  have h2 := h.ext (x01.trans x12)
  have k1 := Wrt.grown hg
  refine ⟨h2.o.wr k1 fun b hb hB => h.oc b hb (.inl hB), h2.p.wr k1 fun b hb hB => h.pc b hb (.inl hB), h.c.push x01 hL h.lo x12 ho hg hv, h.op, fun b hb hB => ?_, fun b hb hB => ?_, Nat.le_trans h2.lo k1.size⟩
  · rcases FC.push hL x01 x12 hv hB with hB | hB
    · exact h.oc b hb hB
    · have := (h.o.lt b hb).2; omega
  · rcases FC.push hL x01 x12 hv hB with hB | hB
    · exact h.pc b hb hB
    · have := (h.p.lt hb).2; omega
theorem Tri.rowss (h : Tri eo ep ec ei s w vo ord vp rp vc gs) : Rowss s w.heap.size w vc (gs.map (·.1)) (gs.map fun q => q.2.map (·.1)) (gs.map fun q => q.2.map (·.2)) := by
  refine ⟨h.c.own.toSl, by simp, by simp, fun i => ?_⟩
  by_cases hi : i < gs.length
  · have e1 : (gs.map (·.1)).getD i nilv = gs[i].1 := by simp [hi]
    have e2 : (gs.map fun q => q.2.map (·.1)).getD i [] = gs[i].2.map (·.1) := by simp [hi]
    have e3 : (gs.map fun q => q.2.map (·.2)).getD i [] = gs[i].2.map (·.2) := by simp [hi]
    rw [e1, e2, e3]
    refine Rows.ofOwn (h.c.inn _ (List.getElem_mem hi)) (fun r hr => h.c.rows.fr r ?_) h.lo
    exact List.mem_flatten.2 ⟨gs[i].2, List.mem_map.2 ⟨gs[i], List.getElem_mem hi, rfl⟩, hr⟩
  · have e1 : (gs.map (·.1)).getD i nilv = nilv := by rw [List.getD_eq_getElem?_getD, List.getElem?_eq_none (by simp; omega)]; rfl
    have e2 : (gs.map fun q => q.2.map (·.1)).getD i [] = [] := by rw [List.getD_eq_getElem?_getD, List.getElem?_eq_none (by simp; omega)]; rfl
    have e3 : (gs.map fun q => q.2.map (·.2)).getD i [] = [] := by rw [List.getD_eq_getElem?_getD, List.getElem?_eq_none (by simp; omega)]; rfl
    rw [e1, e2, e3]
    exact (rows_nilv s w).mono (Nat.le_refl _) h.lo
theorem Tri.pres (h : Tri eo ep ec ei s w vo ord vp rp vc gs) : PresO s w.heap.size w (.agg #[vo, vp, vc]) ⟨ord, rp.map (·.2), gs.map fun q => q.2.map (·.2)⟩ := by
  have hfo := h.o.toFr
  have hO : RowsO s w ((vo, ord) :: (rp ++ flat gs)) := by
    refine ⟨fun r hr => ?_, List.pairwise_cons.2 ⟨fun r hr h1 h2 e => ?_, List.pairwise_append.2 ⟨h.p.rows.sep, h.c.rows.sep, fun a ha b hb h1 h2 e => ?_⟩⟩⟩
    · rcases List.mem_cons.1 hr with rfl | hr
      · exact hfo
      · rcases List.mem_append.1 hr with hr | hr
        · exact h.p.rows.fr r hr
        · exact h.c.rows.fr r hr
    · obtain ⟨g, e1, _⟩ := hfo.block h1
      rcases List.mem_append.1 hr with hr | hr
      · exact h.op g e1 (.inr ⟨r, hr, h2, e ▸ e1⟩)
      · exact h.oc g e1 (.inr (.inr ⟨r, hr, h2, e ▸ e1⟩))
    · obtain ⟨g, e1, _⟩ := (h.p.rows.fr a ha).block h1
      exact h.pc g (.inr ⟨a, ha, h1, e1⟩) (.inr (.inr ⟨b, hb, h2, e ▸ e1⟩))
  have hp : ∀ b, vp.ownBlock = some b → ¬ BlkOf ((vo, ord) :: (rp ++ flat gs)) b := fun b hb ⟨r, hr, hn, e⟩ => by
    rcases List.mem_cons.1 hr with rfl | hr
    · exact h.op b e (.inl hb)
    · rcases List.mem_append.1 hr with hr | hr
      · exact h.p.off b hb ⟨r, hr, hn, e⟩
      · exact h.pc b (.inl hb) (.inr (.inr ⟨r, hr, hn, e⟩))
  have hc : ∀ b, (vc.ownBlock = some b ∨ ∃ q, q ∈ gs ∧ q.1.ownBlock = some b) → ¬ BlkOf ((vo, ord) :: (rp ++ flat gs)) b := fun b hb ⟨r, hr, hn, e⟩ => by
    have hF : FC vc gs b := hb.imp id .inl
    rcases List.mem_cons.1 hr with rfl | hr
    · exact h.oc b e hF
    · rcases List.mem_append.1 hr with hr | hr
      · exact h.pc b (.inr ⟨r, hr, hn, e⟩) hF
      · rcases hb with hb | ⟨q, hq, hb⟩
        · exact (h.c.off b hb).1 ⟨r, hr, hn, e⟩
        · exact h.c.offi q hq b hb ⟨r, hr, hn, e⟩
  exact ⟨vo, vp, vc, rp, gs, rfl, hO, fun b hb => (hO.blk hb).2, h.p.own.spA hp, ⟨h.c.own.spA fun b hb => hc b (.inl hb), fun q hq => (h.c.inn q hq).spA fun b hb => hc b (.inr ⟨q, hq, hb⟩)⟩, rfl, rfl, hfo.ints, Rows.ofOwn h.p.own h.p.rows.fr h.lo, h.rowss⟩
end
end Go.Pc

/-
  A struct of three lists that is built up field by field: the append of a row to a list of lists, the store of a field that ends a drawn region, what stays.
  Conditions: none; nothing of the program stands here.
-/
namespace Go.Pc
open Go Go.RowKit
section
variable {P : Program} {N : Nat} {ops : Array Oper} {π : List Nat} {S : World → Prop} {K : Env → World → Prop} {ρ : Env} {w w0 w1 w00 : World} {l : List Oper}
variable {i : Nat} {ty ty2 : TypeId} {pos pos2 : String} {after after2 : Array Edge} {g g2 : Option (Nat × Bool)} {d d2 : Nat}
/-- 'append(s, x)', x of one cell, s the call's own. -/
theorem st_growu {s x : Operand} {t e bytes sb : Nat} {z v u : Value} {us : List Value} [ht : SlT P t e] [he : ElT P e 1 bytes z] (hO : OwnN e sb w1 v us) (hu1 : u.cells = #[u]) (hu2 : u.oneCell' = true) (hs0 : sb ≤ w1.heap.size)
    (hn : us.length ≤ 1000000) (next : ∀ v1 v' w', OwnN e sb w' v' (us ++ [u]) → (∀ wb, Ext wb w1 → wb.heap.size ≤ sb → Ext wb w') → w1.heap.size ≤ w'.heap.size → GStep w1 w' v v' → rops P N ops K l (put (put ρ d v1) d2 v') w')
    (hx : ev ρ x = u := by ((try simp only [ev_tmp, ev_const, ev_func, get_put, get_args, get_putL, get_putL_nil, Nat.reduceEqDiff, reduceIte, List.getD_cons_zero, List.getD_cons_succ, List.getD_nil]); first | done | with_reducible rfl)) (hs : ∀ v1, ev (put ρ d v1) s = v := by intro v1; ((try simp only [ev_tmp, ev_const, ev_func, get_put, get_args, get_putL, get_putL_nil, Nat.reduceEqDiff, reduceIte, List.getD_cons_zero, List.getD_cons_succ, List.getD_nil]); first | done | with_reducible rfl)) (hd : ∀ v1, ev (put ρ d v1) (.tmp d) = v1 := by intro v1; ((try simp only [ev_tmp, ev_const, ev_func, get_put, get_args, get_putL, get_putL_nil, Nat.reduceEqDiff, reduceIte, List.getD_cons_zero, List.getD_cons_succ, List.getD_nil]); first | done | with_reducible rfl)) (hz : z.cells = #[z] := by rfl) (hby : bytes ≤ 100 := by decide) (hg1 : Wants ops ρ g := by first | exact True.intro | exact ⟨_, rfl, by ((try simp only [ev_tmp, ev_const, ev_func, get_put, get_args, get_putL, get_putL_nil, Nat.reduceEqDiff, reduceIte, List.getD_cons_zero, List.getD_cons_succ, List.getD_nil, Bool.not_true, Bool.not_false]); first | done | with_reducible rfl)⟩) (hg2 : ∀ v1, Wants ops (put ρ d v1) g2 := by intro v1; first | exact True.intro | exact ⟨_, rfl, by ((try simp only [ev_tmp, ev_const, ev_func, get_put, get_args, get_putL, get_putL_nil, Nat.reduceEqDiff, reduceIte, List.getD_cons_zero, List.getD_cons_succ, List.getD_nil, Bool.not_true, Bool.not_false]); first | done | with_reducible rfl)⟩) :
    rops P N ops K (⟨some d, .buildSlice t 1 #[(0, x)], ty, pos, after, g⟩ :: ⟨some d2, .call { callee := .builtin .append, args := #[s, .tmp d], argTypes := #[t, t] }, ty2, pos2, after2, g2⟩ :: l) ρ w1 := by
  refine st_slice1 (u := u) hx hu1 hz hg1 fun w2 v2 he2 hs2 ho2 => ?_
  have hO2 : OwnN e sb w2 v us := @OwnN.ext _ _ _ _ _ _ he2 hO
  have hz2 := he2.size
  have hb : (us.length + 1) * bytes ≤ 1000001 * 100 := Nat.mul_le_mul (by omega) hby
  refine st_append (hv := hO2) (hy := ho2) (hs v2) (hd v2) (by rw [hz]; rfl) ?_ ?_ ?_ ?_ (hg2 v2) fun v3 w3 ho3 hg3 ha3 => ?_
  · intro a ha
    rw [List.mem_singleton.1 ha]; exact hu2
  · simp only [List.length_singleton]; omega
  · simp only [List.length_singleton, maxLen]; omega
  · omega
  · exact next v2 v3 w3 ho3 (fun wb hb1 hb2 => (hb1.trans he2).app hg3 (fun k hk => by have := (hO2.lt k hk).1; omega)) (Nat.le_trans hz2 hg3.size) ⟨w2, he2, hg3, ha3⟩
theorem retc2 {t s : Tmp} {ty : TypeId} {R : Value → World → Prop} {b n : Nat} {cs : List Value} {x : Value} [hp : StructT P ty n] [hb : Blk w b cs] (h : R (.tuple #[.agg cs.toArray, x]) w) (hn : n = cs.length) (hv : get ρ t = .pointer (some ⟨b, 0, none⟩) := by ((try simp only [ev_tmp, ev_const, ev_func, get_put, get_args, get_putL, get_putL_nil, Nat.reduceEqDiff, reduceIte, List.getD_cons_zero, List.getD_cons_succ, List.getD_nil, Bool.not_true, Bool.not_false]); first | done | with_reducible rfl)) (hx : get ρ s = x := by ((try simp only [ev_tmp, ev_const, ev_func, get_put, get_args, get_putL, get_putL_nil, Nat.reduceEqDiff, reduceIte, List.getD_cons_zero, List.getD_cons_succ, List.getD_nil, Bool.not_true, Bool.not_false]); first | done | with_reducible rfl)) : retQ P [.cell t ty, .tmp s] R .ret ρ w :=
  retQ_2 (rv_cell hv (run_loadAgg (h := hb) hn)) (rv_tmp hx) h
/-- The store of a field, the last operation of a drawn region. -/
theorem z_stfld {bo t m bytes : Nat} {x y : Operand} {u z : Value} {cs : List Value} [he : ElT P t 1 bytes z] (h : Blk w bo cs) (hu : u.oneCell' = true) (hm : m < cs.length)
    (next : ∀ w', Chg bo w w' → w'.heap.size = w.heap.size → Blk w' bo (cs.set m u) → K ρ w')
    (hi : opAt ops π i = some ⟨none, .store t x y, ty, pos, after, g⟩ := by exact rfl) (hx : ev ρ x = .pointer (some ⟨bo, m, none⟩) := by ((try simp only [ev_tmp, ev_const, ev_func, get_put, get_args, get_putL, get_putL_nil, Nat.reduceEqDiff, reduceIte, List.getD_cons_zero, List.getD_cons_succ, List.getD_nil]); first | done | with_reducible rfl)) (hy : ev ρ y = u := by ((try simp only [ev_tmp, ev_const, ev_func, get_put, get_args, get_putL, get_putL_nil, Nat.reduceEqDiff, reduceIte, List.getD_cons_zero, List.getD_cons_succ, List.getD_nil]); first | done | with_reducible rfl)) (hg : Wants ops ρ g := by first | exact True.intro | exact ⟨_, rfl, by ((try simp only [ev_tmp, ev_const, ev_func, get_put, get_args, get_putL, get_putL_nil, Nat.reduceEqDiff, reduceIte, List.getD_cons_zero, List.getD_cons_succ, List.getD_nil, Bool.not_true, Bool.not_false]); first | done | with_reducible rfl)⟩)
    (hn : nextOk ops π i = true := by decide +kernel) (hl : lastOf ops π = some (π.getD i 0) := by decide +kernel) (hd : doneOk ops π (i + 1) = true := by decide +kernel) : dops P N ops π S K i ρ w := by
  obtain ⟨tb, hb⟩ := h.ex
  have hr := run_storeVar_one (P := P) he hu hb (m := m) (by simpa using hm)
  have hw : Wr P (.store t x y) ty ρ w (w.setCell ⟨bo, m, none⟩ u) := by
    constructor; intro _ _ _ _
    simp [execOp, hx, hy, Instr.storeAt, Instr.sureAddr, hr]
  refine dt_lastw hi hn hl hd hg hw (next _ ⟨⟨rfl, rfl, rfl, by simp [World.setCell], fun k hk hne => Below.heap_setCell _ _ _ _ (by intro e; subst e; exact hne rfl)⟩⟩ (by simp [World.setCell]) ⟨tb, ?_⟩)
  simp [World.setCell, Array.getElem?_modify, hb]
end
section
variable {B : Nat → Prop} {e e' eo ep ec ei s s' s0 bo : Nat} {w w' w0 w1 w2 w3 w4 w5 : World} {v v' u vo vo' vp vp' vc vc' : Value} {us : List Value} {cs : List Value} {xs ord : List Int} {rs rp : List (Value × List Int)} {gs : List (Value × List (Value × List Int))}
theorem Tri.chg (h : Tri eo ep ec ei s w vo ord vp rp vc gs) (c : Chg bo w w') (hb : bo < s) : Tri eo ep ec ei s w' vo ord vp rp vc gs :=
  h.wr (.one (B := fun g => g = bo) rfl c) fun b e => e ▸ hb
/-- The block of the struct, when one of its lists has grown. -/
theorem Blk.gstep (h : Blk w bo cs) (k : GStep w w' v v') (hb : ∀ b, v.ownBlock = some b → bo < b) : Blk w' bo cs :=
  h.wr k.wrt fun e => by have := hb _ e; omega
theorem Tri.ob (h : Tri eo ep ec ei s w vo ord vp rp vc gs) (hb : bo < s) : ∀ b, vo.ownBlock = some b → bo < b := fun b e => Nat.lt_of_lt_of_le hb (h.o.lt b e).1
theorem PresO.sub {t t' : Nat} {p : Pr} (h : PresO s t w v p) (hs : s' ≤ s) (ht : t ≤ t') : PresO s' t' w v p := by
  obtain ⟨vo, vp, vc, rp, gs, rfl, hO, hl, h1, h2, h3, h4, h5, h6, h7⟩ := h.ex
  exact ⟨vo, vp, vc, rp, gs, rfl, hO.mono hs, fun b hb => Nat.lt_of_lt_of_le (hl b hb) ht, h1, h2, h3, h4, h5.mono hs ht, h6.mono hs ht, ⟨h7.sl.mono hs ht, h7.vals.len, h7.vals.len', fun i => (h7.vals.at_ i).mono hs ht⟩⟩
theorem getD_cut {α : Type} (l : List α) (z : α) {a k : Nat} (i : Nat) (hi : a + i < k) : ((l.take k).drop a).getD i z = l.getD (a + i) z := by
  rw [List.getD_eq_getElem?_getD, List.getElem?_drop, List.getElem?_take, if_pos hi, ← List.getD_eq_getElem?_getD]
theorem Rows.cut {lo hi : Nat} {xss : List (List Int)} (h : Rows lo hi w v us xss) {a k : Nat} (hlk : a ≤ k) (hk : k ≤ us.length) : Rows lo hi w (Pc.cut v a k) ((us.take k).drop a) ((xss.take k).drop a) := by
  refine ⟨h.sl.cut hlk hk, by simp [h.vals.len], fun i => ?_⟩
  by_cases hi : a + i < k
  · rw [getD_cut _ _ _ hi, getD_cut _ _ _ hi]
    exact h.vals.at_ _
  · have e1 : ((us.take k).drop a).getD i nilv = nilv := by rw [List.getD_eq_getElem?_getD, List.getElem?_eq_none (by simp; omega)]; rfl
    have e2 : ((xss.take k).drop a).getD i [] = [] := by rw [List.getD_eq_getElem?_getD, List.getElem?_eq_none (by simp; omega)]; rfl
    rw [e1, e2]
    exact ⟨⟨none, 0, by simp, by simp, by omega, fun k u hu => by simp at hu⟩⟩
theorem Fr.blt (h : Fr s w v xs) : xs ≠ [] → ∀ b, v.ownBlock = some b → b < w.heap.size := fun hn b e => by
  obtain ⟨g, h1, _, h3⟩ := h.block hn
  rw [e] at h1; injection h1 with h1; omega
end
end Go.Pc

/-
  A presentation whose three lists came one after the other; homomorphisms put together; the sizes of a group's lists.
  Conditions: none; nothing of the program stands here.
-/
namespace Go.Pc
open Go Go.RowKit
section
variable {e e' ep ec ei s m0 m1 m2 : Nat} {w w' : World} {v vo vp vc : Value} {us : List Value} {xs ord : List Int} {rs rp : List (Value × List Int)} {gs : List (Value × List (Value × List Int))}
/-- A homomorphism out of its parts. -/
theorem HomO.of {s t m0 m1 m2 m3 : Nat} {a0 a1 a2 a3 a4 a5 a6 : Value} {p q : Pr} (h1 : PresO m0 m1 w (.agg #[a0, a1, a2]) p) (h2 : PresO m1 m2 w (.agg #[a3, a4, a5]) q) (h3 : MatO m2 m3 w a6 rs) (l0 : s ≤ m0) (l1 : m0 ≤ m1) (l2 : m1 ≤ m2) (l3 : m2 ≤ m3) (l4 : m3 ≤ t) : HomO s t w (.agg #[a0, a1, a2, a3, a4, a5, a6]) p q rs :=
  ⟨a0, a1, a2, a3, a4, a5, a6, m0, m1, m2, m3, rfl, l0, l1, l2, l3, l4, h1, h2, h3⟩
end
end Go.Pc
namespace Go.Proofs.Ytflniifngfiekaa
open Go Go.Pc
end Go.Proofs.Ytflniifngfiekaa

/-
  Drawn regions in which a variable is made, at whatever moment; stores of structs in drawn regions.
  Conditions: none; nothing of the program stands here.
-/
namespace Go.Pc
open Go Go.RowKit
section
variable {P : Program} {N : Nat} {ops : Array Oper} {π : List Nat} {S : World → Prop} {K : Env → World → Prop} {ρ : Env} {w w0 : World}
variable {i : Nat} {d : Nat} {op : Op} {ty : TypeId} {pos : String} {after : Array Edge} {g : Option (Nat × Bool)}
/-- A drawn region and what holds behind it. -/
theorem d_post {Q : Post} {id : Nat} (R : Env → World → Prop) (h : rwp P N (.region id ops true) (fun e ρ w => e = .normal ∧ R ρ w) ρ w) (hk : ∀ ρ w, R ρ w → Q .normal ρ w) : rwp P N (.region id ops true) Q ρ w :=
  rwp_mono h fun e ρ w he => by
    obtain ⟨rfl, hr⟩ := he
    exact hk ρ w hr
theorem ds_call {f : FuncId} {args : Array Value} {R : Value → World → Prop} (hc : Calls P f args w (Ret R)) (hi : opAt ops π i = some ⟨some d, op, ty, pos, after, g⟩ := by exact rfl) (hd : d < N := by decide)
    (ho : Cl P op ty ρ f args := by ((first | refine cl_func ?_ | refine cl_fval ((by ((try simp only [ev_tmp, ev_const, ev_func, get_put, get_args, get_putL, get_putL_nil, Nat.reduceEqDiff, reduceIte, List.getD_cons_zero, List.getD_cons_succ, List.getD_nil]); first | done | with_reducible rfl))) ?_); ((try simp only [List.map_toArray, List.map_cons, List.map_nil, ev_tmp, ev_const, ev_func, get_put, get_args, get_putL, get_putL_nil, Nat.reduceEqDiff, reduceIte, List.getD_cons_zero, List.getD_cons_succ, List.getD_nil]); first | done | with_reducible rfl | rfl))) (hg : Wants ops ρ g := by first | exact True.intro | exact ⟨_, rfl, by ((try simp only [ev_tmp, ev_const, ev_func, get_put, get_args, get_putL, get_putL_nil, Nat.reduceEqDiff, reduceIte, List.getD_cons_zero, List.getD_cons_succ, List.getD_nil, Bool.not_true, Bool.not_false]); first | done | with_reducible rfl)⟩) (hR : ∀ v w', R v w' → Ext w w' := by first | exact fun _ _ h => And.left h | (rintro _ _ ⟨_, h⟩; exact h) | (rintro _ _ ⟨_, rfl, _, h⟩; exact h) | (rintro _ _ ⟨_, rfl, _, _, h⟩; exact h) | (rintro _ _ ⟨_, rfl, _, _, _, h⟩; exact h)) (next : ∀ v w', R v w' → dops P N ops π (Ext w0) K (i + 1) (put ρ d v) w') : dstp P N ops π (Ext w0) K i ρ w := by
  refine dstp_step hi hg fun hS a ha => ?_
  unfold Oper.wp
  rw [ha.eval, ho.run w]
  refine Calls.mono hc fun e w' he => ?_
  cases e with
  | returned v => exact ⟨hS.trans (hR v w' he), _, ha.put hd v, fun _ => next v w' he⟩
  | panicked c => exact he.elim
  | outgrown => exact he.elim
theorem ex_alloc {t : TypeId} {zs : List Value} [hz : ZeroT P t zs] : Ex P (.alloc t) ty ρ w (.pointer (some ⟨w.heap.size, 0, none⟩)) (w.alloc (.cells zs.toArray t)) := by
  obtain ⟨i, hi, hz, hs⟩ := hz.ex
  exact ⟨fun _ _ _ _ => by simp [execOp, Instr.alloc, zeroValue, typeInfo, hi, hz, newVar, newRow, Value.cells]⟩
theorem ds_alloc {t : TypeId} {zs : List Value} [hz : ZeroT P t zs] (next : ∀ w' b, Ext w w' → b = w.heap.size → w'.heap.size = b + 1 → Blk w' b zs → dops P N ops π (Ext w0) K (i + 1) (put ρ d (.pointer (some ⟨b, 0, none⟩))) w')
    (hi : opAt ops π i = some ⟨some d, .alloc t, ty, pos, after, g⟩ := by exact rfl) (hd : d < N := by decide) (hg : Wants ops ρ g := by first | exact True.intro | exact ⟨_, rfl, by ((try simp only [ev_tmp, ev_const, ev_func, get_put, get_args, get_putL, get_putL_nil, Nat.reduceEqDiff, reduceIte, List.getD_cons_zero, List.getD_cons_succ, List.getD_nil, Bool.not_true, Bool.not_false]); first | done | with_reducible rfl)⟩) : dstp P N ops π (Ext w0) K i ρ w :=
  dstp_ex hi hd hg ex_alloc (fun h => h.trans (Ext.alloc _ _)) (next _ _ (Ext.alloc _ _) rfl (by simp) (blk_alloc _ _ _))
theorem d_alloc {t : TypeId} {zs : List Value} [hz : ZeroT P t zs] (next : ∀ w' b, Ext w w' → b = w.heap.size → w'.heap.size = b + 1 → Blk w' b zs → dops P N ops π (Ext w0) K (i + 1) (put ρ d (.pointer (some ⟨b, 0, none⟩))) w')
    (hi : opAt ops π i = some ⟨some d, .alloc t, ty, pos, after, g⟩ := by exact rfl) (hn : nextOk ops π i = true := by decide +kernel) (hd : d < N := by decide) (hg : Wants ops ρ g := by first | exact True.intro | exact ⟨_, rfl, by ((try simp only [ev_tmp, ev_const, ev_func, get_put, get_args, get_putL, get_putL_nil, Nat.reduceEqDiff, reduceIte, List.getD_cons_zero, List.getD_cons_succ, List.getD_nil, Bool.not_true, Bool.not_false]); first | done | with_reducible rfl)⟩) : dops P N ops π (Ext w0) K i ρ w :=
  dt_ex hi hn hd hg ex_alloc (fun h => h.trans (Ext.alloc _ _)) (next _ _ (Ext.alloc _ _) rfl (by simp) (blk_alloc _ _ _))
theorem wr_agg {t b n : Nat} {x y : Operand} {cs vs : List Value} [hp : StructT P t n] (hb : Blk w b cs) (hx : ev ρ x = .pointer (some ⟨b, 0, none⟩)) (hy : ev ρ y = .agg vs.toArray) (hn : n = vs.length) (hc : cs.length = vs.length) (h1 : vs.all (·.oneCell') = true) :
    ∃ w', Wr P (.store t x y) ty ρ w w' ∧ Chg b w w' ∧ w'.heap.size = w.heap.size ∧ Blk w' b vs := by
  obtain ⟨fs, i, hu, hi, hs⟩ := hp.ex
  obtain ⟨tb, hb'⟩ := hb.ex
  have hr := run_storeVar_row (P := P) w b tb t cs.toArray vs.toArray hb' (by simp [hi, hs, hn]) (by simpa using hc) (by simpa using h1)
  exact ⟨w.setRow b vs.toArray, ⟨fun _ _ _ _ => by simp [execOp, hx, hy, Instr.storeAt, Instr.sureAddr, hr]⟩, ⟨⟨rfl, rfl, rfl, by simp, fun k hk hne => setRow_other w b k _ (fun e => hne (by simp [e]))⟩⟩, by simp, ⟨tb, setRow_heap w b _ _ tb _ hb'⟩⟩
/-- A struct is stored into a variable that is new in this region. -/
theorem d_store_agg {t b n : Nat} {x y : Operand} {cs vs : List Value} [hp : StructT P t n] (hb : Blk w b cs) (h0 : w0.heap.size ≤ b) (hn0 : n = vs.length) (hc : cs.length = vs.length) (h1 : vs.all (·.oneCell') = true)
    (next : ∀ w', Chg b w w' → w'.heap.size = w.heap.size → Blk w' b vs → dops P N ops π (Ext w0) K (i + 1) ρ w')
    (hi : opAt ops π i = some ⟨none, .store t x y, ty, pos, after, g⟩ := by exact rfl) (hx : ev ρ x = .pointer (some ⟨b, 0, none⟩) := by ((try simp only [ev_tmp, ev_const, ev_func, get_put, get_args, get_putL, get_putL_nil, Nat.reduceEqDiff, reduceIte, List.getD_cons_zero, List.getD_cons_succ, List.getD_nil]); first | done | with_reducible rfl)) (hy : ev ρ y = .agg vs.toArray := by ((try simp only [ev_tmp, ev_const, ev_func, get_put, get_args, get_putL, get_putL_nil, Nat.reduceEqDiff, reduceIte, List.getD_cons_zero, List.getD_cons_succ, List.getD_nil]); first | done | with_reducible rfl)) (hn : nextOk ops π i = true := by decide +kernel) (hg : Wants ops ρ g := by first | exact True.intro | exact ⟨_, rfl, by ((try simp only [ev_tmp, ev_const, ev_func, get_put, get_args, get_putL, get_putL_nil, Nat.reduceEqDiff, reduceIte, List.getD_cons_zero, List.getD_cons_succ, List.getD_nil, Bool.not_true, Bool.not_false]); first | done | with_reducible rfl)⟩) : dops P N ops π (Ext w0) K i ρ w := by
  obtain ⟨w', hw, hC, hs, hB⟩ := wr_agg (P := P) (t := t) (ty := ty) hb hx hy hn0 hc h1
  exact z_wr hi hn hg hw (fun h => hC.ext h h0) (next w' hC hs hB)
/-- A struct is stored into the variable that the region writes. -/
theorem z_store_agg {t b n : Nat} {x y : Operand} {cs vs : List Value} [hp : StructT P t n] (hb : Blk w b cs) (hn0 : n = vs.length) (hc : cs.length = vs.length) (h1 : vs.all (·.oneCell') = true)
    (next : ∀ w', Chg b w w' → w'.heap.size = w.heap.size → Blk w' b vs → dops P N ops π (Chg b w0) K (i + 1) ρ w')
    (hi : opAt ops π i = some ⟨none, .store t x y, ty, pos, after, g⟩ := by exact rfl) (hx : ev ρ x = .pointer (some ⟨b, 0, none⟩) := by ((try simp only [ev_tmp, ev_const, ev_func, get_put, get_args, get_putL, get_putL_nil, Nat.reduceEqDiff, reduceIte, List.getD_cons_zero, List.getD_cons_succ, List.getD_nil]); first | done | with_reducible rfl)) (hy : ev ρ y = .agg vs.toArray := by ((try simp only [ev_tmp, ev_const, ev_func, get_put, get_args, get_putL, get_putL_nil, Nat.reduceEqDiff, reduceIte, List.getD_cons_zero, List.getD_cons_succ, List.getD_nil]); first | done | with_reducible rfl)) (hn : nextOk ops π i = true := by decide +kernel) (hg : Wants ops ρ g := by first | exact True.intro | exact ⟨_, rfl, by ((try simp only [ev_tmp, ev_const, ev_func, get_put, get_args, get_putL, get_putL_nil, Nat.reduceEqDiff, reduceIte, List.getD_cons_zero, List.getD_cons_succ, List.getD_nil, Bool.not_true, Bool.not_false]); first | done | with_reducible rfl)⟩) : dops P N ops π (Chg b w0) K i ρ w := by
  obtain ⟨w', hw, hC, hs, hB⟩ := wr_agg (P := P) (t := t) (ty := ty) hb hx hy hn0 hc h1
  exact z_wr hi hn hg hw (fun h => h.trans hC) (next w' hC hs hB)
end
section
variable {P : Program} {N : Nat} {ops : Array Oper} {π : List Nat} {K : Env → World → Prop} {ρ : Env} {w00 w1 : World}
variable {i : Nat} {ty ty2 : TypeId} {pos pos2 : String} {after after2 : Array Edge} {g g2 : Option (Nat × Bool)} {d d2 : Nat}
/-- 'append(s, x)', x of one cell, s the call's own, in a drawn region. -/
theorem z_growu {s x : Operand} {b t e bytes sb : Nat} {z v u : Value} {us : List Value} [ht : SlT P t e] [he : ElT P e 1 bytes z] (hO : OwnN e sb w1 v us) (hu1 : u.cells = #[u]) (hu2 : u.oneCell' = true) (hs0 : sb ≤ w1.heap.size)
    (hn : us.length ≤ 1000000) (hvb : ∀ g, v.ownBlock = some g → g = b) (hi1 : opAt ops π i = some ⟨some d, .buildSlice t 1 #[(0, x)], ty, pos, after, g⟩ := by exact rfl) (hi2 : opAt ops π (i + 1) = some ⟨some d2, .call { callee := .builtin .append, args := #[s, .tmp d], argTypes := #[t, t] }, ty2, pos2, after2, g2⟩ := by exact rfl)
    (next : ∀ v1 v' w', OwnN e sb w' v' (us ++ [u]) → (∀ wb, Ext wb w1 → wb.heap.size ≤ sb → Ext wb w') → w1.heap.size ≤ w'.heap.size → GStep w1 w' v v' → dops P N ops π (Chg b w00) K (i + 1 + 1) (put (put ρ d v1) d2 v') w')
    (hx : ev ρ x = u := by ((try simp only [ev_tmp, ev_const, ev_func, get_put, get_args, get_putL, get_putL_nil, Nat.reduceEqDiff, reduceIte, List.getD_cons_zero, List.getD_cons_succ, List.getD_nil]); first | done | with_reducible rfl)) (hs : ∀ v1, ev (put ρ d v1) s = v := by intro v1; ((try simp only [ev_tmp, ev_const, ev_func, get_put, get_args, get_putL, get_putL_nil, Nat.reduceEqDiff, reduceIte, List.getD_cons_zero, List.getD_cons_succ, List.getD_nil]); first | done | with_reducible rfl)) (hd : ∀ v1, ev (put ρ d v1) (.tmp d) = v1 := by intro v1; ((try simp only [ev_tmp, ev_const, ev_func, get_put, get_args, get_putL, get_putL_nil, Nat.reduceEqDiff, reduceIte, List.getD_cons_zero, List.getD_cons_succ, List.getD_nil]); first | done | with_reducible rfl)) (hz : z.cells = #[z] := by rfl) (hby : bytes ≤ 100 := by decide) (hg1 : Wants ops ρ g := by first | exact True.intro | exact ⟨_, rfl, by ((try simp only [ev_tmp, ev_const, ev_func, get_put, get_args, get_putL, get_putL_nil, Nat.reduceEqDiff, reduceIte, List.getD_cons_zero, List.getD_cons_succ, List.getD_nil, Bool.not_true, Bool.not_false]); first | done | with_reducible rfl)⟩) (hg2 : ∀ v1, Wants ops (put ρ d v1) g2 := by intro v1; first | exact True.intro | exact ⟨_, rfl, by ((try simp only [ev_tmp, ev_const, ev_func, get_put, get_args, get_putL, get_putL_nil, Nat.reduceEqDiff, reduceIte, List.getD_cons_zero, List.getD_cons_succ, List.getD_nil, Bool.not_true, Bool.not_false]); first | done | with_reducible rfl)⟩)
    (hn1 : nextOk ops π i = true := by decide +kernel) (hn2 : nextOk ops π (i + 1) = true := by decide +kernel) (hd1 : d < N := by decide) (hd2 : d2 < N := by decide) :
    dops P N ops π (Chg b w00) K i ρ w1 := by
  refine z_slice1 (u := u) hi1 hx hu1 hz (fun w2 v2 he2 hs2 ho2 => ?_) hn1 hd1 hg1
  have hO2 : OwnN e sb w2 v us := @OwnN.ext _ _ _ _ _ _ he2 hO
  have hz2 := he2.size
  have hb : (us.length + 1) * bytes ≤ 1000001 * 100 := Nat.mul_le_mul (by omega) hby
  refine z_append (hv := hO2) (hy := ho2) hi2 (hs v2) (hd v2) (by rw [hz]; rfl) ?_ ?_ ?_ ?_ hvb (fun v3 w3 ho3 hg3 ha3 => ?_) hn2 hd2 (hg2 v2)
  · intro a ha
    rw [List.mem_singleton.1 ha]; exact hu2
  · simp only [List.length_singleton]; omega
  · simp only [List.length_singleton, maxLen]; omega
  · omega
  · exact next v2 v3 w3 ho3 (fun wb hb1 hb2 => (hb1.trans he2).app hg3 (fun k hk => by have := (hO2.lt k hk).1; omega)) (Nat.le_trans hz2 hg3.size) ⟨w2, he2, hg3, ha3⟩
end
section
variable {B : Nat → Prop} {ep ec ei m0 m1 m2 bq : Nat} {w w' : World} {vo vp vc : Value} {ord : List Int} {rp : List (Value × List Int)} {gs : List (Value × List (Value × List Int))}
/-- The first two lists of a presentation that is being copied into a variable. -/
structure Hd (ep m0 m1 m2 bq : Nat) (w : World) (vo : Value) (ord : List Int) (vp : Value) (rp : List (Value × List Int)) : Prop where
  o : Fr m0 w vo ord
  ol : ord ≠ [] → ∀ b, vo.ownBlock = some b → b < m1 ∧ b ≠ bq
  p : GrL ep m1 w vp rp
  pl : ∀ b, FL vp rp b → b < m2 ∧ b ≠ bq
  l1 : m0 ≤ m1
  l2 : m1 ≤ m2
  l3 : m2 ≤ w.heap.size
theorem Hd.wr (h : Hd ep m0 m1 m2 bq w vo ord vp rp) (k : Wrt B w w') (hB : ∀ b, B b → b = bq ∨ m2 ≤ b) : Hd ep m0 m1 m2 bq w' vo ord vp rp :=
  ⟨h.o.wr k fun hn b hb hb' => by
    have h1 := h.ol hn b hb
    have h2 := h.l2
    rcases hB b hb' with e | e
    · exact h1.2 e
    · omega, h.ol, h.p.wr k fun b hb hb' => by
    have h1 := h.pl b hb
    rcases hB b hb' with e | e
    · exact h1.2 e
    · omega, h.pl, h.l1, h.l2, Nat.le_trans h.l3 k.size⟩
theorem Hd.ext (h : Hd ep m0 m1 m2 bq w vo ord vp rp) (x : Ext w w') : Hd ep m0 m1 m2 bq w' vo ord vp rp := h.wr (.ofExt (B := fun _ => False) x) fun b hb => hb.elim
/-- One more list of rows. -/
theorem GrC.field {w1 w2 w3 : World} {s bo : Nat} {u : Value} {rs : List (Value × List Int)} {vc' : Value} (h : GrC ec ei s w vc gs) (hs : s ≤ w.heap.size) (x : Ext w w1) (hL : GrL ei w.heap.size w1 u rs) (hO : OwnN ec s w2 vc' (gs.map (·.1) ++ [u])) (hst : GStep w1 w2 vc vc') (c : Chg bo w2 w3) (hb : bo < s) : GrC ec ei s w3 vc' (gs ++ [(u, rs)]) := by
  obtain ⟨w5, x5, hg, ha⟩ := hst.ex
  exact (h.push x hL hs x5 hO hg ha).wr (.one (B := fun g => g = bo) rfl c) fun b hb' e => by
    have h1 := (h.push x hL hs x5 hO hg ha).lt hb'
    omega
theorem Hd.of {sA : Nat} {wB wC wD w6 : World} (hf : Fr sA wB vo ord) (h0 : m0 ≤ sA) (hA : sA ≤ wC.heap.size) (hBC : wB.heap.size ≤ wC.heap.size) (hG : GrowL ep wC.heap.size wD vp rp) (xB : Ext wB w6) (xD : Ext wD w6) (hCD : wC.heap.size ≤ wD.heap.size) (hq : bq < sA ∨ (wB.heap.size ≤ bq ∧ bq < wC.heap.size) ∨ wD.heap.size ≤ bq) : Hd ep m0 wC.heap.size w6.heap.size bq w6 vo ord vp rp := by
  have z1 := xB.size
  have z2 := xD.size
  have hL := GrL.of hG
  refine ⟨(hf.ext' xB).mono h0, fun hn b hb => ?_, hL.wr (.ofExt (B := fun _ => False) xD) fun b _ hb => hb.elim, fun b hb => ?_, by omega, by omega, Nat.le_refl _⟩
  · obtain ⟨g, e1, l1, l2⟩ := hf.block hn
    rw [hb] at e1; injection e1 with e1
    omega
  · have := hL.lt hb
    omega
end
end Go.Pc

/-
  One instance for each type and each function of the translation, by program (gen_types.py).
  Conditions: none.
-/
namespace Go.Proofs.Ytflniifngfiekaa
open Go Go.Pc
theorem structT {P : Program} {t n : Nat} {fs : Array Field} (h : P.underlying t = some (.struct fs)) (hi : (P.info? t).map (·.size) = some n) : StructT P t n := by
  cases hx : P.info? t with
  | none => rw [hx] at hi; cases hi
  | some i => rw [hx] at hi; exact ⟨⟨fs, i, h, hx, by simpa using hi⟩⟩
theorem zeroT {P : Program} {t n : Nat} {zs : List Value} (h : (P.info? t).map (fun i => (i.zero, i.size)) = some (some (.agg zs.toArray), n)) (hn : n = zs.length) : ZeroT P t zs := by
  cases hx : P.info? t with
  | none => rw [hx] at h; cases h
  | some i => rw [hx] at h; simp at h; exact ⟨⟨i, hx, h.1, by omega⟩⟩
theorem fldT {P : Program} {s f off n : Nat} {fs : Array Field} {fd : Field} (h : P.underlying s = some (.struct fs)) (hf : fs[f]? = some fd) (ho : fd.offset = off) (hi : (P.info? fd.type).map (·.size) = some n) (hn : n ≠ 0) : FldT P s f off := by
  cases hx : P.info? fd.type with
  | none => rw [hx] at hi; cases hi
  | some i => rw [hx] at hi; exact ⟨⟨fs, fd, i, h, hf, ho, hx, by simp at hi; omega⟩⟩
theorem elT {P : Program} {e size bytes : Nat} {z : Value} (h : (P.info? e).map (fun i => (i.size, i.bytes, i.zero)) = some (size, bytes, some z)) : ElT P e size bytes z := by
  cases hx : P.info? e with
  | none => rw [hx] at h; cases h
  | some i => rw [hx] at h; simp at h; exact ⟨⟨i, hx, h.1, h.2.1, h.2.2⟩⟩
instance : Draws Try.prog := ⟨by kernel_rfl⟩
instance : PlainT Try.prog 1 := ⟨⟨_, Try.underlying1, by simp, by simp⟩⟩
instance : PlainT Try.prog 2 := ⟨⟨_, Try.underlying2, by simp, by simp⟩⟩
instance : PlainT Try.prog 3 := ⟨⟨_, Try.underlying3, by simp, by simp⟩⟩
instance : PlainT Try.prog 4 := ⟨⟨_, Try.underlying4, by simp, by simp⟩⟩
instance : PlainT Try.prog 5 := ⟨⟨_, Try.underlying5, by simp, by simp⟩⟩
instance : PlainT Try.prog 9 := ⟨⟨_, Try.underlying9, by simp, by simp⟩⟩
instance : PlainT Try.prog 12 := ⟨⟨_, Try.underlying12, by simp, by simp⟩⟩
instance : PlainT Try.prog 15 := ⟨⟨_, Try.underlying15, by simp, by simp⟩⟩
instance : PlainT Try.prog 16 := ⟨⟨_, Try.underlying16, by simp, by simp⟩⟩
instance : PlainT Try.prog 17 := ⟨⟨_, Try.underlying17, by simp, by simp⟩⟩
instance : PlainT Try.prog 21 := ⟨⟨_, Try.underlying21, by simp, by simp⟩⟩
instance : SlT Try.prog 22 5 := ⟨Try.underlying22⟩
instance : PlainT Try.prog 22 := ⟨⟨_, Try.underlying22, by simp, by simp⟩⟩
instance : PlainT Try.prog 23 := ⟨⟨_, Try.underlying23, by simp, by simp⟩⟩
instance : SlT Try.prog 24 2 := ⟨Try.underlying24⟩
instance : PlainT Try.prog 24 := ⟨⟨_, Try.underlying24, by simp, by simp⟩⟩
instance : SlT Try.prog 25 24 := ⟨Try.underlying25⟩
instance : PlainT Try.prog 25 := ⟨⟨_, Try.underlying25, by simp, by simp⟩⟩
instance : SlT Try.prog 26 25 := ⟨Try.underlying26⟩
instance : PlainT Try.prog 26 := ⟨⟨_, Try.underlying26, by simp, by simp⟩⟩
instance : StructT Try.prog 27 3 := structT Try.underlying27 (by kernel_rfl : (Try.prog.info? 27).map (·.size) = some 3)
instance : ZeroT Try.prog 27 [.slice none 0 0, .slice none 0 0, .slice none 0 0] := zeroT (by kernel_rfl : (Try.prog.info? 27).map (fun i => (i.zero, i.size)) = some (some (.agg #[.slice none 0 0, .slice none 0 0, .slice none 0 0]), 3)) rfl
instance : FldT Try.prog 27 0 0 := fldT Try.underlying27 rfl rfl (by kernel_rfl : (Try.prog.info? 24).map (·.size) = some 1) (by decide)
instance : FldT Try.prog 27 1 1 := fldT Try.underlying27 rfl rfl (by kernel_rfl : (Try.prog.info? 25).map (·.size) = some 1) (by decide)
instance : FldT Try.prog 27 2 2 := fldT Try.underlying27 rfl rfl (by kernel_rfl : (Try.prog.info? 26).map (·.size) = some 1) (by decide)
instance : StructT Try.prog 28 3 := structT Try.underlying28 (by kernel_rfl : (Try.prog.info? 28).map (·.size) = some 3)
instance : ZeroT Try.prog 28 [.slice none 0 0, .slice none 0 0, .slice none 0 0] := zeroT (by kernel_rfl : (Try.prog.info? 28).map (fun i => (i.zero, i.size)) = some (some (.agg #[.slice none 0 0, .slice none 0 0, .slice none 0 0]), 3)) rfl
instance : FldT Try.prog 28 0 0 := fldT Try.underlying28 rfl rfl (by kernel_rfl : (Try.prog.info? 24).map (·.size) = some 1) (by decide)
instance : FldT Try.prog 28 1 1 := fldT Try.underlying28 rfl rfl (by kernel_rfl : (Try.prog.info? 25).map (·.size) = some 1) (by decide)
instance : FldT Try.prog 28 2 2 := fldT Try.underlying28 rfl rfl (by kernel_rfl : (Try.prog.info? 26).map (·.size) = some 1) (by decide)
instance : PlainT Try.prog 30 := ⟨⟨_, Try.underlying30, by simp, by simp⟩⟩
instance : PlainT Try.prog 32 := ⟨⟨_, Try.underlying32, by simp, by simp⟩⟩
instance : PlainT Try.prog 33 := ⟨⟨_, Try.underlying33, by simp, by simp⟩⟩
instance : PlainT Try.prog 34 := ⟨⟨_, Try.underlying34, by simp, by simp⟩⟩
instance : PlainT Try.prog 35 := ⟨⟨_, Try.underlying35, by simp, by simp⟩⟩
instance : PlainT Try.prog 36 := ⟨⟨_, Try.underlying36, by simp, by simp⟩⟩
instance : PlainT Try.prog 37 := ⟨⟨_, Try.underlying37, by simp, by simp⟩⟩
instance : PlainT Try.prog 38 := ⟨⟨_, Try.underlying38, by simp, by simp⟩⟩
instance : PlainT Try.prog 39 := ⟨⟨_, Try.underlying39, by simp, by simp⟩⟩
instance : PlainT Try.prog 40 := ⟨⟨_, Try.underlying40, by simp, by simp⟩⟩
instance : PlainT Try.prog 41 := ⟨⟨_, Try.underlying41, by simp, by simp⟩⟩
instance : PlainT Try.prog 42 := ⟨⟨_, Try.underlying42, by simp, by simp⟩⟩
instance : PlainT Try.prog 43 := ⟨⟨_, Try.underlying43, by simp, by simp⟩⟩
instance : PlainT Try.prog 45 := ⟨⟨_, Try.underlying45, by simp, by simp⟩⟩
instance : PlainT Try.prog 46 := ⟨⟨_, Try.underlying46, by simp, by simp⟩⟩
instance : PlainT Try.prog 47 := ⟨⟨_, Try.underlying47, by simp, by simp⟩⟩
instance : PlainT Try.prog 49 := ⟨⟨_, Try.underlying49, by simp, by simp⟩⟩
instance : PlainT Try.prog 50 := ⟨⟨_, Try.underlying50, by simp, by simp⟩⟩
instance : StructT Try.prog 51 3 := structT Try.underlying51 (by kernel_rfl : (Try.prog.info? 51).map (·.size) = some 3)
instance : ZeroT Try.prog 51 [.slice none 0 0, .int .i64 0, .int .i64 0] := zeroT (by kernel_rfl : (Try.prog.info? 51).map (fun i => (i.zero, i.size)) = some (some (.agg #[.slice none 0 0, .int .i64 0, .int .i64 0]), 3)) rfl
instance : FldT Try.prog 51 0 0 := fldT Try.underlying51 rfl rfl (by kernel_rfl : (Try.prog.info? 22).map (·.size) = some 1) (by decide)
instance : FldT Try.prog 51 1 1 := fldT Try.underlying51 rfl rfl (by kernel_rfl : (Try.prog.info? 3).map (·.size) = some 1) (by decide)
instance : FldT Try.prog 51 2 2 := fldT Try.underlying51 rfl rfl (by kernel_rfl : (Try.prog.info? 2).map (·.size) = some 1) (by decide)
instance : StructT Try.prog 52 3 := structT Try.underlying52 (by kernel_rfl : (Try.prog.info? 52).map (·.size) = some 3)
instance : ZeroT Try.prog 52 [.slice none 0 0, .int .i64 0, .int .i64 0] := zeroT (by kernel_rfl : (Try.prog.info? 52).map (fun i => (i.zero, i.size)) = some (some (.agg #[.slice none 0 0, .int .i64 0, .int .i64 0]), 3)) rfl
instance : FldT Try.prog 52 0 0 := fldT Try.underlying52 rfl rfl (by kernel_rfl : (Try.prog.info? 22).map (·.size) = some 1) (by decide)
instance : FldT Try.prog 52 1 1 := fldT Try.underlying52 rfl rfl (by kernel_rfl : (Try.prog.info? 3).map (·.size) = some 1) (by decide)
instance : FldT Try.prog 52 2 2 := fldT Try.underlying52 rfl rfl (by kernel_rfl : (Try.prog.info? 2).map (·.size) = some 1) (by decide)
instance : PlainT Try.prog 53 := ⟨⟨_, Try.underlying53, by simp, by simp⟩⟩
instance : PlainT Try.prog 54 := ⟨⟨_, Try.underlying54, by simp, by simp⟩⟩
instance : PlainT Try.prog 55 := ⟨⟨_, Try.underlying55, by simp, by simp⟩⟩
instance : PlainT Try.prog 56 := ⟨⟨_, Try.underlying56, by simp, by simp⟩⟩
instance : PlainT Try.prog 57 := ⟨⟨_, Try.underlying57, by simp, by simp⟩⟩
instance : PlainT Try.prog 58 := ⟨⟨_, Try.underlying58, by simp, by simp⟩⟩
instance : PlainT Try.prog 59 := ⟨⟨_, Try.underlying59, by simp, by simp⟩⟩
instance : PlainT Try.prog 60 := ⟨⟨_, Try.underlying60, by simp, by simp⟩⟩
instance : PlainT Try.prog 61 := ⟨⟨_, Try.underlying61, by simp, by simp⟩⟩
instance : PlainT Try.prog 62 := ⟨⟨_, Try.underlying62, by simp, by simp⟩⟩
instance : PlainT Try.prog 64 := ⟨⟨_, Try.underlying64, by simp, by simp⟩⟩
instance : PlainT Try.prog 65 := ⟨⟨_, Try.underlying65, by simp, by simp⟩⟩
instance : PlainT Try.prog 66 := ⟨⟨_, Try.underlying66, by simp, by simp⟩⟩
instance : PlainT Try.prog 67 := ⟨⟨_, Try.underlying67, by simp, by simp⟩⟩
instance : PlainT Try.prog 68 := ⟨⟨_, Try.underlying68, by simp, by simp⟩⟩
instance : PlainT Try.prog 69 := ⟨⟨_, Try.underlying69, by simp, by simp⟩⟩
instance : PlainT Try.prog 70 := ⟨⟨_, Try.underlying70, by simp, by simp⟩⟩
instance : PlainT Try.prog 71 := ⟨⟨_, Try.underlying71, by simp, by simp⟩⟩
instance : PlainT Try.prog 72 := ⟨⟨_, Try.underlying72, by simp, by simp⟩⟩
instance : PlainT Try.prog 73 := ⟨⟨_, Try.underlying73, by simp, by simp⟩⟩
instance : StructT Try.prog 74 4 := structT Try.underlying74 (by kernel_rfl : (Try.prog.info? 74).map (·.size) = some 4)
instance : ZeroT Try.prog 74 [.int .i64 0, .int .i64 0, .int .i64 0, .int .i64 0] := zeroT (by kernel_rfl : (Try.prog.info? 74).map (fun i => (i.zero, i.size)) = some (some (.agg #[.int .i64 0, .int .i64 0, .int .i64 0, .int .i64 0]), 4)) rfl
instance : FldT Try.prog 74 0 0 := fldT Try.underlying74 rfl rfl (by kernel_rfl : (Try.prog.info? 2).map (·.size) = some 1) (by decide)
instance : FldT Try.prog 74 1 1 := fldT Try.underlying74 rfl rfl (by kernel_rfl : (Try.prog.info? 2).map (·.size) = some 1) (by decide)
instance : FldT Try.prog 74 2 2 := fldT Try.underlying74 rfl rfl (by kernel_rfl : (Try.prog.info? 2).map (·.size) = some 1) (by decide)
instance : FldT Try.prog 74 3 3 := fldT Try.underlying74 rfl rfl (by kernel_rfl : (Try.prog.info? 2).map (·.size) = some 1) (by decide)
instance : StructT Try.prog 75 4 := structT Try.underlying75 (by kernel_rfl : (Try.prog.info? 75).map (·.size) = some 4)
instance : ZeroT Try.prog 75 [.int .i64 0, .int .i64 0, .int .i64 0, .int .i64 0] := zeroT (by kernel_rfl : (Try.prog.info? 75).map (fun i => (i.zero, i.size)) = some (some (.agg #[.int .i64 0, .int .i64 0, .int .i64 0, .int .i64 0]), 4)) rfl
instance : FldT Try.prog 75 0 0 := fldT Try.underlying75 rfl rfl (by kernel_rfl : (Try.prog.info? 2).map (·.size) = some 1) (by decide)
instance : FldT Try.prog 75 1 1 := fldT Try.underlying75 rfl rfl (by kernel_rfl : (Try.prog.info? 2).map (·.size) = some 1) (by decide)
instance : FldT Try.prog 75 2 2 := fldT Try.underlying75 rfl rfl (by kernel_rfl : (Try.prog.info? 2).map (·.size) = some 1) (by decide)
instance : FldT Try.prog 75 3 3 := fldT Try.underlying75 rfl rfl (by kernel_rfl : (Try.prog.info? 2).map (·.size) = some 1) (by decide)
instance : PlainT Try.prog 76 := ⟨⟨_, Try.underlying76, by simp, by simp⟩⟩
instance : PlainT Try.prog 77 := ⟨⟨_, Try.underlying77, by simp, by simp⟩⟩
instance : PlainT Try.prog 78 := ⟨⟨_, Try.underlying78, by simp, by simp⟩⟩
instance : PlainT Try.prog 79 := ⟨⟨_, Try.underlying79, by simp, by simp⟩⟩
instance : PlainT Try.prog 80 := ⟨⟨_, Try.underlying80, by simp, by simp⟩⟩
instance : PlainT Try.prog 81 := ⟨⟨_, Try.underlying81, by simp, by simp⟩⟩
instance : PlainT Try.prog 82 := ⟨⟨_, Try.underlying82, by simp, by simp⟩⟩
instance : PlainT Try.prog 83 := ⟨⟨_, Try.underlying83, by simp, by simp⟩⟩
instance : PlainT Try.prog 84 := ⟨⟨_, Try.underlying84, by simp, by simp⟩⟩
instance : PlainT Try.prog 85 := ⟨⟨_, Try.underlying85, by simp, by simp⟩⟩
instance : PlainT Try.prog 87 := ⟨⟨_, Try.underlying87, by simp, by simp⟩⟩
instance : PlainT Try.prog 88 := ⟨⟨_, Try.underlying88, by simp, by simp⟩⟩
instance : PlainT Try.prog 89 := ⟨⟨_, Try.underlying89, by simp, by simp⟩⟩
instance : PlainT Try.prog 90 := ⟨⟨_, Try.underlying90, by simp, by simp⟩⟩
instance : PlainT Try.prog 91 := ⟨⟨_, Try.underlying91, by simp, by simp⟩⟩
instance : PlainT Try.prog 92 := ⟨⟨_, Try.underlying92, by simp, by simp⟩⟩
instance : PlainT Try.prog 93 := ⟨⟨_, Try.underlying93, by simp, by simp⟩⟩
instance : PlainT Try.prog 94 := ⟨⟨_, Try.underlying94, by simp, by simp⟩⟩
instance : PlainT Try.prog 95 := ⟨⟨_, Try.underlying95, by simp, by simp⟩⟩
instance : PlainT Try.prog 96 := ⟨⟨_, Try.underlying96, by simp, by simp⟩⟩
instance : PlainT Try.prog 97 := ⟨⟨_, Try.underlying97, by simp, by simp⟩⟩
instance : PlainT Try.prog 98 := ⟨⟨_, Try.underlying98, by simp, by simp⟩⟩
instance : PlainT Try.prog 99 := ⟨⟨_, Try.underlying99, by simp, by simp⟩⟩
instance : PlainT Try.prog 100 := ⟨⟨_, Try.underlying100, by simp, by simp⟩⟩
instance : SlT Try.prog 101 9 := ⟨Try.underlying101⟩
instance : PlainT Try.prog 101 := ⟨⟨_, Try.underlying101, by simp, by simp⟩⟩
instance : PlainT Try.prog 102 := ⟨⟨_, Try.underlying102, by simp, by simp⟩⟩
instance : PlainT Try.prog 103 := ⟨⟨_, Try.underlying103, by simp, by simp⟩⟩
instance : PlainT Try.prog 104 := ⟨⟨_, Try.underlying104, by simp, by simp⟩⟩
instance : PlainT Try.prog 105 := ⟨⟨_, Try.underlying105, by simp, by simp⟩⟩
instance : PlainT Try.prog 106 := ⟨⟨_, Try.underlying106, by simp, by simp⟩⟩
instance : PlainT Try.prog 107 := ⟨⟨_, Try.underlying107, by simp, by simp⟩⟩
instance : PlainT Try.prog 109 := ⟨⟨_, Try.underlying109, by simp, by simp⟩⟩
instance : PlainT Try.prog 110 := ⟨⟨_, Try.underlying110, by simp, by simp⟩⟩
instance : PlainT Try.prog 111 := ⟨⟨_, Try.underlying111, by simp, by simp⟩⟩
instance : PlainT Try.prog 112 := ⟨⟨_, Try.underlying112, by simp, by simp⟩⟩
instance : PlainT Try.prog 113 := ⟨⟨_, Try.underlying113, by simp, by simp⟩⟩
instance : PlainT Try.prog 114 := ⟨⟨_, Try.underlying114, by simp, by simp⟩⟩
instance : PlainT Try.prog 115 := ⟨⟨_, Try.underlying115, by simp, by simp⟩⟩
instance : PlainT Try.prog 116 := ⟨⟨_, Try.underlying116, by simp, by simp⟩⟩
instance : PlainT Try.prog 117 := ⟨⟨_, Try.underlying117, by simp, by simp⟩⟩
instance : PlainT Try.prog 123 := ⟨⟨_, Try.underlying123, by simp, by simp⟩⟩
instance : PlainT Try.prog 124 := ⟨⟨_, Try.underlying124, by simp, by simp⟩⟩
instance : PlainT Try.prog 127 := ⟨⟨_, Try.underlying127, by simp, by simp⟩⟩
instance : PlainT Try.prog 128 := ⟨⟨_, Try.underlying128, by simp, by simp⟩⟩
instance : ElT Try.prog 2 1 8 (.int .i64 0) := elT (by kernel_rfl : (Try.prog.info? 2).map (fun i => (i.size, i.bytes, i.zero)) = some (1, 8, some (.int .i64 0)))
instance : ElT Try.prog 5 1 1 (.int .u8 0) := elT (by kernel_rfl : (Try.prog.info? 5).map (fun i => (i.size, i.bytes, i.zero)) = some (1, 1, some (.int .u8 0)))
instance : ElT Try.prog 9 1 16 (.string ⟨#[]⟩) := elT (by kernel_rfl : (Try.prog.info? 9).map (fun i => (i.size, i.bytes, i.zero)) = some (1, 16, some (.string ⟨#[]⟩)))
instance : ElT Try.prog 22 1 24 (.slice none 0 0) := elT (by kernel_rfl : (Try.prog.info? 22).map (fun i => (i.size, i.bytes, i.zero)) = some (1, 24, some (.slice none 0 0)))
instance : ElT Try.prog 24 1 24 (.slice none 0 0) := elT (by kernel_rfl : (Try.prog.info? 24).map (fun i => (i.size, i.bytes, i.zero)) = some (1, 24, some (.slice none 0 0)))
instance : ElT Try.prog 25 1 24 (.slice none 0 0) := elT (by kernel_rfl : (Try.prog.info? 25).map (fun i => (i.size, i.bytes, i.zero)) = some (1, 24, some (.slice none 0 0)))
instance : ElT Try.prog 26 1 24 (.slice none 0 0) := elT (by kernel_rfl : (Try.prog.info? 26).map (fun i => (i.size, i.bytes, i.zero)) = some (1, 24, some (.slice none 0 0)))
instance : ElT Try.prog 101 1 24 (.slice none 0 0) := elT (by kernel_rfl : (Try.prog.info? 101).map (fun i => (i.size, i.bytes, i.zero)) = some (1, 24, some (.slice none 0 0)))
instance : FnT Try.prog 3 := ⟨⟨_, _, Try.func3, rfl, by simp [Try.f3]⟩⟩
instance : FnT Try.prog 4 := ⟨⟨_, _, Try.func4, rfl, by simp [Try.f4]⟩⟩
instance : FnT Try.prog 5 := ⟨⟨_, _, Try.func5, rfl, by simp [Try.f5]⟩⟩
instance : FnT Try.prog 6 := ⟨⟨_, _, Try.func6, rfl, by simp [Try.f6]⟩⟩
instance : FnT Try.prog 7 := ⟨⟨_, _, Try.func7, rfl, by simp [Try.f7]⟩⟩
instance : FnT Try.prog 8 := ⟨⟨_, _, Try.func8, rfl, by simp [Try.f8]⟩⟩
instance : FnT Try.prog 9 := ⟨⟨_, _, Try.func9, rfl, by simp [Try.f9]⟩⟩
instance : FnT Try.prog 10 := ⟨⟨_, _, Try.func10, rfl, by simp [Try.f10]⟩⟩
instance : FnT Try.prog 11 := ⟨⟨_, _, Try.func11, rfl, by simp [Try.f11]⟩⟩
instance : FnT Try.prog 12 := ⟨⟨_, _, Try.func12, rfl, by simp [Try.f12]⟩⟩
instance : FnT Try.prog 13 := ⟨⟨_, _, Try.func13, rfl, by simp [Try.f13]⟩⟩
instance : FnT Try.prog 14 := ⟨⟨_, _, Try.func14, rfl, by simp [Try.f14]⟩⟩
instance : FnT Try.prog 15 := ⟨⟨_, _, Try.func15, rfl, by simp [Try.f15]⟩⟩
instance : FnT Try.prog 16 := ⟨⟨_, _, Try.func16, rfl, by simp [Try.f16]⟩⟩
instance : FnT Try.prog 17 := ⟨⟨_, _, Try.func17, rfl, by simp [Try.f17]⟩⟩
instance : FnT Try.prog 18 := ⟨⟨_, _, Try.func18, rfl, by simp [Try.f18]⟩⟩
instance : FnT Try.prog 19 := ⟨⟨_, _, Try.func19, rfl, by simp [Try.f19]⟩⟩
instance : FnT Try.prog 20 := ⟨⟨_, _, Try.func20, rfl, by simp [Try.f20]⟩⟩
instance : FnT Try.prog 21 := ⟨⟨_, _, Try.func21, rfl, by simp [Try.f21]⟩⟩
instance : FnT Try.prog 22 := ⟨⟨_, _, Try.func22, rfl, by simp [Try.f22]⟩⟩
instance : FnT Try.prog 23 := ⟨⟨_, _, Try.func23, rfl, by simp [Try.f23]⟩⟩
instance : FnT Try.prog 24 := ⟨⟨_, _, Try.func24, rfl, by simp [Try.f24]⟩⟩
instance : FnT Try.prog 25 := ⟨⟨_, _, Try.func25, rfl, by simp [Try.f25]⟩⟩
instance : FnT Try.prog 26 := ⟨⟨_, _, Try.func26, rfl, by simp [Try.f26]⟩⟩
instance : FnT Try.prog 27 := ⟨⟨_, _, Try.func27, rfl, by simp [Try.f27]⟩⟩
instance : FnT Try.prog 28 := ⟨⟨_, _, Try.func28, rfl, by simp [Try.f28]⟩⟩
instance : FnT Try.prog 29 := ⟨⟨_, _, Try.func29, rfl, by simp [Try.f29]⟩⟩
instance : FnT Try.prog 30 := ⟨⟨_, _, Try.func30, rfl, by simp [Try.f30]⟩⟩
instance : FnT Try.prog 31 := ⟨⟨_, _, Try.func31, rfl, by simp [Try.f31]⟩⟩
instance : FnT Try.prog 32 := ⟨⟨_, _, Try.func32, rfl, by simp [Try.f32]⟩⟩
instance : FnT Try.prog 33 := ⟨⟨_, _, Try.func33, rfl, by simp [Try.f33]⟩⟩
instance : FnT Try.prog 34 := ⟨⟨_, _, Try.func34, rfl, by simp [Try.f34]⟩⟩
instance : FnT Try.prog 35 := ⟨⟨_, _, Try.func35, rfl, by simp [Try.f35]⟩⟩
instance : FnT Try.prog 36 := ⟨⟨_, _, Try.func36, rfl, by simp [Try.f36]⟩⟩
instance : FnT Try.prog 37 := ⟨⟨_, _, Try.func37, rfl, by simp [Try.f37]⟩⟩
instance : FnT Try.prog 38 := ⟨⟨_, _, Try.func38, rfl, by simp [Try.f38]⟩⟩
instance : FnT Try.prog 39 := ⟨⟨_, _, Try.func39, rfl, by simp [Try.f39]⟩⟩
instance : FnT Try.prog 40 := ⟨⟨_, _, Try.func40, rfl, by simp [Try.f40]⟩⟩
instance : FnT Try.prog 41 := ⟨⟨_, _, Try.func41, rfl, by simp [Try.f41]⟩⟩
instance : FnT Try.prog 42 := ⟨⟨_, _, Try.func42, rfl, by simp [Try.f42]⟩⟩
instance : FnT Try.prog 43 := ⟨⟨_, _, Try.func43, rfl, by simp [Try.f43]⟩⟩
instance : FnT Try.prog 44 := ⟨⟨_, _, Try.func44, rfl, by simp [Try.f44]⟩⟩
instance : FnT Try.prog 45 := ⟨⟨_, _, Try.func45, rfl, by simp [Try.f45]⟩⟩
instance : FnT Try.prog 46 := ⟨⟨_, _, Try.func46, rfl, by simp [Try.f46]⟩⟩
instance : FnT Try.prog 47 := ⟨⟨_, _, Try.func47, rfl, by simp [Try.f47]⟩⟩
instance : FnT Try.prog 48 := ⟨⟨_, _, Try.func48, rfl, by simp [Try.f48]⟩⟩
instance : FnT Try.prog 49 := ⟨⟨_, _, Try.func49, rfl, by simp [Try.f49]⟩⟩
instance : FnT Try.prog 50 := ⟨⟨_, _, Try.func50, rfl, by simp [Try.f50]⟩⟩
instance : FnT Try.prog 51 := ⟨⟨_, _, Try.func51, rfl, by simp [Try.f51]⟩⟩
instance : FnT Try.prog 52 := ⟨⟨_, _, Try.func52, rfl, by simp [Try.f52]⟩⟩
instance : FnT Try.prog 53 := ⟨⟨_, _, Try.func53, rfl, by simp [Try.f53]⟩⟩
instance : FnT Try.prog 54 := ⟨⟨_, _, Try.func54, rfl, by simp [Try.f54]⟩⟩
instance : FnT Try.prog 55 := ⟨⟨_, _, Try.func55, rfl, by simp [Try.f55]⟩⟩
instance : FnT Try.prog 56 := ⟨⟨_, _, Try.func56, rfl, by simp [Try.f56]⟩⟩
instance : FnT Try.prog 57 := ⟨⟨_, _, Try.func57, rfl, by simp [Try.f57]⟩⟩
instance : FnT Try.prog 58 := ⟨⟨_, _, Try.func58, rfl, by simp [Try.f58]⟩⟩
instance : FnT Try.prog 59 := ⟨⟨_, _, Try.func59, rfl, by simp [Try.f59]⟩⟩
instance : FnT Try.prog 60 := ⟨⟨_, _, Try.func60, rfl, by simp [Try.f60]⟩⟩
instance : FnT Try.prog 61 := ⟨⟨_, _, Try.func61, rfl, by simp [Try.f61]⟩⟩
instance : FnT Try.prog 62 := ⟨⟨_, _, Try.func62, rfl, by simp [Try.f62]⟩⟩
instance : FnT Try.prog 63 := ⟨⟨_, _, Try.func63, rfl, by simp [Try.f63]⟩⟩
instance : FnT Try.prog 64 := ⟨⟨_, _, Try.func64, rfl, by simp [Try.f64]⟩⟩
instance : FnT Try.prog 65 := ⟨⟨_, _, Try.func65, rfl, by simp [Try.f65]⟩⟩
instance : FnT Try.prog 66 := ⟨⟨_, _, Try.func66, rfl, by simp [Try.f66]⟩⟩
instance : FnT Try.prog 67 := ⟨⟨_, _, Try.func67, rfl, by simp [Try.f67]⟩⟩
instance : FnT Try.prog 68 := ⟨⟨_, _, Try.func68, rfl, by simp [Try.f68]⟩⟩
instance : FnT Try.prog 69 := ⟨⟨_, _, Try.func69, rfl, by simp [Try.f69]⟩⟩
instance : FnT Try.prog 70 := ⟨⟨_, _, Try.func70, rfl, by simp [Try.f70]⟩⟩
instance : FnT Try.prog 71 := ⟨⟨_, _, Try.func71, rfl, by simp [Try.f71]⟩⟩
instance : FnT Try.prog 72 := ⟨⟨_, _, Try.func72, rfl, by simp [Try.f72]⟩⟩
instance : FnT Try.prog 73 := ⟨⟨_, _, Try.func73, rfl, by simp [Try.f73]⟩⟩
instance : FnT Try.prog 74 := ⟨⟨_, _, Try.func74, rfl, by simp [Try.f74]⟩⟩
instance : FnT Try.prog 75 := ⟨⟨_, _, Try.func75, rfl, by simp [Try.f75]⟩⟩
instance : FnT Try.prog 76 := ⟨⟨_, _, Try.func76, rfl, by simp [Try.f76]⟩⟩
instance : FnT Try.prog 77 := ⟨⟨_, _, Try.func77, rfl, by simp [Try.f77]⟩⟩
instance : FnT Try.prog 78 := ⟨⟨_, _, Try.func78, rfl, by simp [Try.f78]⟩⟩
instance : FnT Try.prog 79 := ⟨⟨_, _, Try.func79, rfl, by simp [Try.f79]⟩⟩
instance : FnT Try.prog 80 := ⟨⟨_, _, Try.func80, rfl, by simp [Try.f80]⟩⟩
instance : FnT Try.prog 81 := ⟨⟨_, _, Try.func81, rfl, by simp [Try.f81]⟩⟩
instance : FnT Try.prog 82 := ⟨⟨_, _, Try.func82, rfl, by simp [Try.f82]⟩⟩
instance : FnT Try.prog 83 := ⟨⟨_, _, Try.func83, rfl, by simp [Try.f83]⟩⟩
instance : FnT Try.prog 84 := ⟨⟨_, _, Try.func84, rfl, by simp [Try.f84]⟩⟩
instance : FnT Try.prog 85 := ⟨⟨_, _, Try.func85, rfl, by simp [Try.f85]⟩⟩
instance : FnT Try.prog 86 := ⟨⟨_, _, Try.func86, rfl, by simp [Try.f86]⟩⟩
instance : FnT Try.prog 87 := ⟨⟨_, _, Try.func87, rfl, by simp [Try.f87]⟩⟩
instance : FnT Try.prog 88 := ⟨⟨_, _, Try.func88, rfl, by simp [Try.f88]⟩⟩
instance : FnT Try.prog 89 := ⟨⟨_, _, Try.func89, rfl, by simp [Try.f89]⟩⟩
instance : FnT Try.prog 90 := ⟨⟨_, _, Try.func90, rfl, by simp [Try.f90]⟩⟩
instance : FnT Try.prog 91 := ⟨⟨_, _, Try.func91, rfl, by simp [Try.f91]⟩⟩
instance : FnT Try.prog 92 := ⟨⟨_, _, Try.func92, rfl, by simp [Try.f92]⟩⟩
instance : FnT Try.prog 93 := ⟨⟨_, _, Try.func93, rfl, by simp [Try.f93]⟩⟩
instance : FnT Try.prog 94 := ⟨⟨_, _, Try.func94, rfl, by simp [Try.f94]⟩⟩
instance : FnT Try.prog 95 := ⟨⟨_, _, Try.func95, rfl, by simp [Try.f95]⟩⟩
instance : FnT Try.prog 96 := ⟨⟨_, _, Try.func96, rfl, by simp [Try.f96]⟩⟩
instance : FnT Try.prog 97 := ⟨⟨_, _, Try.func97, rfl, by simp [Try.f97]⟩⟩
instance : FnT Try.prog 98 := ⟨⟨_, _, Try.func98, rfl, by simp [Try.f98]⟩⟩
end Go.Proofs.Ytflniifngfiekaa

/-
  Walks: the reference's small functions on lists (In, Own, Unit, Same, Zero, ..).
  Conditions: stated at each theorem: what the arguments read as, and that lists are short.
-/
namespace Go.Proofs.Ytflniifngfiekaa
open Go Go.Pc
set_option maxHeartbeats 400000 in
theorem l01Own_ok {w : World} {v : Value} {xs : List Int} {lo hi : Nat} [hx : Ints lo hi w v xs] (hl : xs.length ≤ 2000000) :
    Calls Try.prog 36 #[v] w (Ret fun v' w' => Ext w w' ∧ Fr w.heap.size w' v' xs) := by
  refine enter (args := [v]) (l := [.tmp 2]) Try.func36 rfl rfl Try.ntmps36 (by simp) ?_
  refine go ?_
  refine st_slice0 (by first | exact True.intro | exact ⟨_, rfl, by ((try simp only [ev_tmp, ev_const, ev_func, get_put, get_args, get_putL, get_putL_nil, Nat.reduceEqDiff, reduceIte, List.getD_cons_zero, List.getD_cons_succ, List.getD_nil, Bool.not_true, Bool.not_false]); first | done | with_reducible rfl)⟩) fun w1 v1 he1 hs1 ho1 => ?_
  refine go ?_
  have hN := ho1.toN
  have hsl : Sl lo hi w1 v _ := Sl.ext (h := hx.sl)
  refine st_append (hv := hN) (hy := hsl) (by ((try simp only [ev_tmp, ev_const, ev_func, get_put, get_args, get_putL, get_putL_nil, Nat.reduceEqDiff, reduceIte, List.getD_cons_zero, List.getD_cons_succ, List.getD_nil]); first | done | with_reducible rfl)) (by ((try simp only [ev_tmp, ev_const, ev_func, get_put, get_args, get_putL, get_putL_nil, Nat.reduceEqDiff, reduceIte, List.getD_cons_zero, List.getD_cons_succ, List.getD_nil]); first | done | with_reducible rfl)) rfl (oneCells xs) (by simp; omega) (by simp [maxLen]; omega) (by omega) (by first | exact True.intro | exact ⟨_, rfl, by ((try simp only [ev_tmp, ev_const, ev_func, get_put, get_args, get_putL, get_putL_nil, Nat.reduceEqDiff, reduceIte, List.getD_cons_zero, List.getD_cons_succ, List.getD_nil, Bool.not_true, Bool.not_false]); first | done | with_reducible rfl)⟩) fun v2 w2 ho2 hg2 ha2 => ?_
  refine go ?_
  have hN2 : OwnN 2 w.heap.size w2 v2 (xs.map (Value.int .i64)) := by simpa using ho2
  refine ret1 ⟨?_, hN2.toFr⟩
  obtain ⟨cap, cur, hv1, _⟩ := ho1.ex
  exact ⟨he1.below.grown hg2 (by omega) (fun k hk => by rw [hv1] at hk; simp [Value.ownBlock] at hk; omega)⟩
set_option maxHeartbeats 400000 in
theorem l07Unit_ok {w : World} {n i : Nat} {kn ki : Int} (hkn : kn = n) (hki : ki = i) (hn : n ≤ 2000000) (hi : i < n) :
    Calls Try.prog 71 #[.int .i64 kn, .int .i64 ki] w (Ret fun v' w' => Ext w w' ∧ Fr w.heap.size w' v' ((zeros n).set i 1)) := by
  subst hkn hki
  refine enter (args := [.int .i64 n, .int .i64 i]) (l := [.tmp 4]) Try.func71 rfl rfl Try.ntmps71 (by simp) ?_
  refine go ?_
  refine st_make_int (by ((try simp only [ev_tmp, ev_const, ev_func, get_put, get_args, get_putL, get_putL_nil, Nat.reduceEqDiff, reduceIte, List.getD_cons_zero, List.getD_cons_succ, List.getD_nil]); first | done | with_reducible rfl)) (by ((try simp only [ev_tmp, ev_const, ev_func, get_put, get_args, get_putL, get_putL_nil, Nat.reduceEqDiff, reduceIte, List.getD_cons_zero, List.getD_cons_succ, List.getD_nil]); first | done | with_reducible rfl)) (by omega) (by omega) (by first | exact True.intro | exact ⟨_, rfl, by ((try simp only [ev_tmp, ev_const, ev_func, get_put, get_args, get_putL, get_putL_nil, Nat.reduceEqDiff, reduceIte, List.getD_cons_zero, List.getD_cons_succ, List.getD_nil, Bool.not_true, Bool.not_false]); first | done | with_reducible rfl)⟩) fun w1 v1 he1 hs1 ho1 => ?_
  have hlen : (List.replicate n (0 : Int)).length = n := by simp
  refine go ?_
  refine st_store_int (by ((try simp only [ev_tmp, ev_const, ev_func, get_put, get_args, get_putL, get_putL_nil, Nat.reduceEqDiff, reduceIte, List.getD_cons_zero, List.getD_cons_succ, List.getD_nil]); first | done | with_reducible rfl)) (by ((try simp only [ev_tmp, ev_const, ev_func, get_put, get_args, get_putL, get_putL_nil, Nat.reduceEqDiff, reduceIte, List.getD_cons_zero, List.getD_cons_succ, List.getD_nil]); first | done | with_reducible rfl)) ?_ (by first | exact True.intro | exact ⟨_, rfl, by ((try simp only [ev_tmp, ev_const, ev_func, get_put, get_args, get_putL, get_putL_nil, Nat.reduceEqDiff, reduceIte, List.getD_cons_zero, List.getD_cons_succ, List.getD_nil, Bool.not_true, Bool.not_false]); first | done | with_reducible rfl)⟩) fun w2 hc2 hs2 ho2 => ?_
  · omega
  refine go ?_
  exact ret1 ⟨hc2.ext he1 (Nat.le_refl _), ho2.toFr (Nat.le_refl _)⟩
theorem take_succ_eq {xs ys : List Int} {k : Nat} (h : xs.take k = ys.take k) (hk : k < xs.length) (hl : xs.length = ys.length) (e : xs.getD k 0 = ys.getD k 0) : xs.take (k + 1) = ys.take (k + 1) := by
  rw [List.take_succ_eq_append_getElem hk, List.take_succ_eq_append_getElem (by omega), h]
  simp [hk, show k < ys.length by omega] at e
  rw [e]
set_option maxHeartbeats 400000 in
theorem l01Same_ok {w : World} {va vb : Value} {xs ys : List Int} {lo hi lo' hi' : Nat} [hx : Ints lo hi w va xs] [hy : Ints lo' hi' w vb ys] (hm : xs.length ≤ 2000000) :
    Calls Try.prog 73 #[va, vb] w (Ret fun v w' => ∃ b, v = .bool b ∧ (b = true ↔ xs = ys) ∧ Ext w w') := by
  refine enter (args := [va, vb]) (l := [.tmp 4]) Try.func73 rfl rfl Try.ntmps73 (by simp) ?_
  refine go ?_
  refine c_if (fun h1 => ?_) (fun h1 => ?_)
  · refine go ?_
    refine ret1 ⟨_, rfl, ?_, Ext.refl _⟩
    simp only [Bool.false_eq_true, false_iff]
    rintro rfl
    simp at h1
  · refine go ?_
    refine r_for xs.length (fun k ρ w' => Has ρ [(0, va), (1, vb), (5, .int .i64 k)] ∧ Ext w w' ∧ xs.take k = ys.take k) ?_ ?_
    · refine ⟨?_, Ext.refl _, rfl⟩
      simp only [Has, ev_tmp, ev_const, ev_func, get_put, get_args, get_putL, get_putL_nil, Nat.reduceEqDiff, reduceIte, List.getD_cons_zero, List.getD_cons_succ, List.getD_nil]; simp
    · rintro k ρ w1 hk ⟨hH, he, ht⟩
      refine rwp_has hH fun ρ0 => ?_
      refine go ?_
      refine c_if (fun h2 => ?_) (fun h2 => ?_)
      · refine go ?_
        refine d_region fun w2 he2 _ => ?_
        refine dgo ?_
        refine d_end (h := ?_)
        refine go ?_
        refine c_if (fun h3 => ?_) (fun h3 => ?_)
        · refine go ?_
          refine ret1 ⟨_, rfl, ?_, he.trans he2⟩
          simp only [Bool.false_eq_true, false_iff]
          rintro rfl
          exact h3 rfl
        · refine go ?_
          refine forQ_normal (by omega) ⟨?_, he.trans he2, take_succ_eq ht (by omega) (by omega) ?_⟩
          · simp only [Has, ev_tmp, ev_const, ev_func, get_put, get_args, get_putL, get_putL_nil, Nat.reduceEqDiff, reduceIte, List.getD_cons_zero, List.getD_cons_succ, List.getD_nil]; simp
          · exact Decidable.not_not.1 h3
      · refine go ?_
        refine ret1 ⟨_, rfl, ?_, he⟩
        have : k = xs.length := by omega
        subst this
        simp only [true_iff]
        rw [List.take_of_length_le (Nat.le_refl _), List.take_of_length_le (by omega)] at ht
        exact ht
end Go.Proofs.Ytflniifngfiekaa

/-
  Walks: the reference's checks of a presentation (l01Prime, l07Product, l07Exponents, IsPresentation).
  Conditions: stated at each theorem.
-/
namespace Go.Proofs.Ytflniifngfiekaa
open Go Go.Pc
theorem l01In_ok {n l h : Int} {w : World} : Calls Try.prog 21 #[.int .i64 n, .int .i64 l, .int .i64 h] w (Ret fun v w' => ∃ b, v = .bool b ∧ (b = true ↔ l ≤ n ∧ n ≤ h) ∧ Ext w w') := by
  refine enter (args := [.int .i64 n, .int .i64 l, .int .i64 h]) (l := [.tmp 6]) Try.func21 rfl rfl Try.ntmps21 (by simp) ?_
  refine go ?_
  refine spd (fun h1 => ?_) (fun h1 => ?_)
  · refine go ?_
    refine ret1 ⟨_, rfl, ?_, Ext.refl _⟩
    simp [h1]
  · refine go ?_
    refine ret1 ⟨_, rfl, ?_, Ext.refl _⟩
    simp [h1]
theorem l01Prime_ok {n : Int} {w : World} : Calls Try.prog 45 #[.int .i64 n] w (Ret fun v w' => ∃ b, v = .bool b ∧ (b = true ↔ (n = 2 ∨ n = 3 ∨ n = 5 ∨ n = 7)) ∧ Ext w w') := by
  refine enter (args := [.int .i64 n]) (l := [.tmp 2]) Try.func45 rfl rfl Try.ntmps45 (by simp) ?_
  refine go ?_
  refine spd (fun h1 => ?_) (fun h1 => ?_)
  · refine go ?_
    refine ret1 ⟨_, rfl, ?_, Ext.refl _⟩
    simp [h1]
  · refine go ?_
    refine spd (fun h2 => ?_) (fun h2 => ?_)
    · refine go ?_
      refine ret1 ⟨_, rfl, ?_, Ext.refl _⟩
      simp [h2]
    · refine go ?_
      refine spd (fun h3 => ?_) (fun h3 => ?_)
      · refine go ?_
        refine ret1 ⟨_, rfl, ?_, Ext.refl _⟩
        simp [h3]
      · refine go ?_
        refine ret1 ⟨_, rfl, ?_, Ext.refl _⟩
        simp [h1, h2, h3]
def capMul (a o : Int) : Int := if a ≤ 729 then a * o else a
theorem capMul_foldl : ∀ (l : List Int) (a : Int), (∀ o ∈ l, 1 ≤ o) → 1 ≤ a → (l.foldl capMul a ≤ 729 ↔ l.foldl (· * ·) a ≤ 729) ∧ a ≤ l.foldl (· * ·) a ∧ (l.foldl capMul a ≤ 729 → l.foldl capMul a = l.foldl (· * ·) a)
  | [], a, _, _ => by simp
  | o :: l, a, ho, ha => by
    have h1 := ho o (by simp)
    have hao : a ≤ a * o := by
      have := Int.mul_le_mul_of_nonneg_left h1 (show 0 ≤ a by omega)
      rw [Int.mul_one] at this; exact this
    have ih := fun b hb => capMul_foldl l b (fun x hx => ho x (by simp [hx])) hb
    simp only [List.foldl_cons, capMul]
    have i2 := ih (a * o) (by omega)
    by_cases h : a ≤ 729
    · rw [if_pos h]
      exact ⟨i2.1, by omega, i2.2.2⟩
    · rw [if_neg h]
      have i1 := ih a ha
      have hcap : ¬ l.foldl capMul a ≤ 729 := by rw [i1.1]; omega
      exact ⟨⟨fun h => absurd h hcap, fun h => by omega⟩, by omega, fun h => absurd h hcap⟩
theorem capMul_bd : ∀ (l : List Int) (a : Int), (∀ o ∈ l, 1 ≤ o ∧ o ≤ 7) → 1 ≤ a → a ≤ 5103 → 1 ≤ l.foldl capMul a ∧ l.foldl capMul a ≤ 5103
  | [], a, _, h1, h2 => ⟨h1, h2⟩
  | o :: l, a, ho, h1, h2 => by
    have h := ho o (by simp)
    simp only [List.foldl_cons]
    have hc : 1 ≤ capMul a o ∧ capMul a o ≤ 5103 := by
      unfold capMul
      split
      · have e1 := Int.mul_le_mul_of_nonneg_left h.1 (show 0 ≤ a by omega)
        have e2 : a * o ≤ 729 * 7 := Int.mul_le_mul (by omega) h.2 (by omega) (by omega)
        omega
      · omega
    exact capMul_bd l _ (fun x hx => ho x (by simp [hx])) hc.1 hc.2
theorem foldl_take_succ {α β : Type} (f : β → α → β) (b : β) (d : α) (l : List α) (k : Nat) (hk : k < l.length) : (l.take (k + 1)).foldl f b = f ((l.take k).foldl f b) (l.getD k d) := by
  rw [List.take_succ_eq_append_getElem hk, List.foldl_append]; simp [hk]
set_option maxHeartbeats 400000 in
theorem l07Product_ok {w : World} {v : Value} {xs : List Int} {lo hi : Nat} [hx : Ints lo hi w v xs] (ho : ∀ o ∈ xs, 1 ≤ o ∧ o ≤ 7) (hl : xs.length ≤ 2000000) :
    Calls Try.prog 46 #[v] w (Ret fun v' w' => v' = .int .i64 (xs.foldl capMul 1) ∧ Ext w w') := by
  refine enter (args := [v]) (l := [.tmp 2]) Try.func46 rfl rfl Try.ntmps46 (by simp) ?_
  refine go ?_
  refine r_for xs.length (fun k ρ w' => Has ρ [(0, v), (3, .int .i64 ((xs.take k).foldl capMul 1)), (4, .int .i64 k)] ∧ Ext w w') ?_ ?_
  · refine ⟨?_, Ext.refl _⟩
    exact hasP
  · rintro k ρ w1 hk ⟨hH, he⟩
    refine rwp_has hH fun ρ0 => ?_
    refine go ?_
    refine c_if (fun h1 => ?_) (fun h1 => ?_)
    · have hkl : k < xs.length := by omega
      have hb := capMul_bd (xs.take k) 1 (fun o h => ho o (List.mem_of_mem_take h)) (by omega) (by omega)
      have hok := ho (xs.getD k 0) (by simp [hkl])
      have hsucc := foldl_take_succ capMul 1 0 xs k hkl
      refine go ?_
      refine c_if (fun h2 => ?_) (fun h2 => ?_)
      · have e1 := Int.mul_le_mul_of_nonneg_left hok.1 (show 0 ≤ (xs.take k).foldl capMul 1 by omega)
        have e2 : (xs.take k).foldl capMul 1 * xs.getD k 0 ≤ 729 * 7 := Int.mul_le_mul (by omega) hok.2 (by omega) (by omega)
        have hc : capMul ((xs.take k).foldl capMul 1) (xs.getD k 0) = (xs.take k).foldl capMul 1 * xs.getD k 0 := if_pos h2
        rw [hc] at hsucc
        refine go ?_
        refine ra (h := rd_mul (by ((try simp only [ev_tmp, ev_const, ev_func, get_put, get_args, get_putL, get_putL_nil, Nat.reduceEqDiff, reduceIte, List.getD_cons_zero, List.getD_cons_succ, List.getD_nil]); first | done | with_reducible rfl)) (by ((try simp only [ev_tmp, ev_const, ev_func, get_put, get_args, get_putL, get_putL_nil, Nat.reduceEqDiff, reduceIte, List.getD_cons_zero, List.getD_cons_succ, List.getD_nil]); first | done | with_reducible rfl)) ?_) (next := ?_)
        · omega
        refine go ?_
        refine forQ_normal hkl ⟨?_, he⟩
        rw [hsucc]
        exact hasP
      · have hc : capMul ((xs.take k).foldl capMul 1) (xs.getD k 0) = (xs.take k).foldl capMul 1 := if_neg h2
        rw [hc] at hsucc
        refine go ?_
        refine forQ_normal hkl ⟨?_, he⟩
        rw [hsucc]
        exact hasP
    · refine go ?_
      have : k = xs.length := by omega
      subst this
      refine ret1 ⟨?_, he⟩
      rw [List.take_of_length_le (Nat.le_refl _)]
/-- The entries of a vector under a list of orders. -/
def ExpP (os v : List Int) (z : Int) : Prop := v.length = os.length ∧ ∀ i, i < v.length → (0 ≤ v.getD i 0 ∧ v.getD i 0 ≤ os.getD i 0 - 1) ∧ ((i : Int) ≤ z → v.getD i 0 = 0)
set_option maxHeartbeats 1000000 in
theorem l07Exponents_ok {w : World} {vo vv : Value} {os xs : List Int} {z : Int} {lo hi lo1 hi1 : Nat} [ho : Ints lo hi w vo os] [hx : Ints lo1 hi1 w vv xs] (hb : ∀ i, i < os.length → 0 ≤ os.getD i 0 ∧ os.getD i 0 ≤ 2000000) (hl : os.length ≤ 2000000) :
    Calls Try.prog 35 #[vo, vv, .int .i64 z] w (Ret fun v' w' => ∃ b, v' = .bool b ∧ (b = true ↔ ExpP os xs z) ∧ Ext w w') := by
  refine enter (args := [vo, vv, .int .i64 z]) (l := [.tmp 6]) Try.func35 rfl rfl Try.ntmps35 (by simp) ?_
  refine go ?_
  refine c_if (fun h1 => ?_) (fun h1 => ?_)
  · refine go ?_
    refine ret1 ⟨_, rfl, ?_, Ext.refl _⟩
    simp only [Bool.false_eq_true, false_iff]
    rintro ⟨h, _⟩
    exact h1 (by rw [h])
  · refine go ?_
    refine r_for xs.length (fun k ρ w' => Has ρ [(0, vo), (1, vv), (2, .int .i64 z), (7, .int .i64 k)] ∧ Ext w w' ∧ ∀ i, i < k → (0 ≤ xs.getD i 0 ∧ xs.getD i 0 ≤ os.getD i 0 - 1) ∧ ((i : Int) ≤ z → xs.getD i 0 = 0)) ?_ ?_
    · refine ⟨?_, Ext.refl _, fun i hi => by omega⟩
      exact hasP
    · rintro k ρ w1 hk ⟨hH, he, hpre⟩
      refine rwp_has hH fun ρ0 => ?_
      refine go ?_
      refine c_if (fun h2 => ?_) (fun h2 => ?_)
      · have hkl : k < xs.length := by omega
        have hko : k < os.length := by omega
        have hbk := hb k hko
        refine go ?_
        refine d_region fun w2 he2 _ => ?_
        refine dgo ?_
        refine dc l01In_ok (next := fun v3 w3 h3 => ?_)
        obtain ⟨b3, rfl, hb3, he3⟩ := h3
        refine ⟨fun h => h.trans he3, ?_⟩
        have hE := (he.trans he2).trans he3
        have close_no : ∀ (hneg : ¬ ((0 ≤ xs.getD k 0 ∧ xs.getD k 0 ≤ os.getD k 0 - 1) ∧ ((k : Int) ≤ z → xs.getD k 0 = 0))), (false = true ↔ ExpP os xs z) := by
          intro hneg
          simp only [Bool.false_eq_true, false_iff]
          rintro ⟨_, h⟩
          exact hneg (h k hkl)
        refine da (next := ?_)
        refine da (next := ?_)
        refine dsp (fun h5 => ?_) (fun h5 => ?_)
        · refine dgo ?_
          refine d_end (h := ?_)
          refine go ?_
          refine ret1 ⟨_, rfl, close_no ?_, hE⟩
          rintro ⟨h, _⟩
          rw [hb3.2 h] at h5; cases h5
        · have h6 := hb3.1 (by simpa using h5)
          refine dgo ?_
          refine dspd (fun h7 => ?_) (fun h7 => ?_)
          · refine dgo ?_
            refine d_end (h := ?_)
            refine go ?_
            refine c_if (fun h8 => ?_) (fun h8 => ?_)
            · refine go ?_
              refine ret1 ⟨_, rfl, close_no ?_, hE⟩
              rintro ⟨_, h⟩
              exact h8 (h h7)
            · refine go ?_
              refine forQ_normal hkl ⟨?_, hE, fun i hi => ?_⟩
              · exact hasP
              · by_cases e : i = k
                · subst e; exact ⟨h6, fun _ => Decidable.not_not.1 h8⟩
                · exact hpre i (by omega)
          · refine dgo ?_
            refine d_end (h := ?_)
            refine go ?_
            refine forQ_normal hkl ⟨?_, hE, fun i hi => ?_⟩
            · exact hasP
            · by_cases e : i = k
              · subst e; exact ⟨h6, fun h => absurd h h7⟩
              · exact hpre i (by omega)
      · refine go ?_
        refine ret1 ⟨_, rfl, ?_, he⟩
        simp only [true_iff]
        exact ⟨by omega, fun i hi => hpre i (by omega)⟩
end Go.Proofs.Ytflniifngfiekaa

/-
  Walks: the program's small functions on lists, and those of package slices that it calls.
  Conditions: stated at each theorem: what the arguments read as, and that lists are short.
-/
namespace Go.Proofs.Ytflniifngfiekaa
open Go Go.Pc
theorem inside_ok {n l h : Int} {w : World} : Calls Try.prog 17 #[.int .i64 n, .int .i64 l, .int .i64 h] w (Ret fun v w' => ∃ b, v = .bool b ∧ (b = true ↔ l ≤ n ∧ n ≤ h) ∧ Ext w w') := by
  refine enter (args := [.int .i64 n, .int .i64 l, .int .i64 h]) (l := [.tmp 6]) Try.func17 rfl rfl Try.ntmps17 (by simp) ?_
  refine go ?_
  refine spd (fun h1 => ?_) (fun h1 => ?_)
  · refine go ?_
    refine ret1 ⟨_, rfl, ?_, Ext.refl _⟩
    simp [h1]
  · refine go ?_
    refine ret1 ⟨_, rfl, ?_, Ext.refl _⟩
    simp [h1]
theorem IsGroupPrime_ok {n : Int} {w : World} : Calls Try.prog 31 #[.int .i64 n] w (Ret fun v w' => ∃ b, v = .bool b ∧ (b = true ↔ (n = 2 ∨ n = 3 ∨ n = 5 ∨ n = 7)) ∧ Ext w w') := by
  refine enter (args := [.int .i64 n]) (l := [.tmp 2]) Try.func31 rfl rfl Try.ntmps31 (by simp) ?_
  refine go ?_
  refine spd (fun h1 => ?_) (fun h1 => ?_)
  · refine go ?_
    refine ret1 ⟨_, rfl, ?_, Ext.refl _⟩
    simp [h1]
  · refine go ?_
    refine spd (fun h2 => ?_) (fun h2 => ?_)
    · refine go ?_
      refine ret1 ⟨_, rfl, ?_, Ext.refl _⟩
      simp [h2]
    · refine go ?_
      refine spd (fun h3 => ?_) (fun h3 => ?_)
      · refine go ?_
        refine ret1 ⟨_, rfl, ?_, Ext.refl _⟩
        simp [h3]
      · refine go ?_
        refine ret1 ⟨_, rfl, ?_, Ext.refl _⟩
        simp [h1, h2, h3]
set_option maxHeartbeats 400000 in
theorem isZero_ok {w : World} {v : Value} {xs : List Int} {lo hi : Nat} [hx : Ints lo hi w v xs] (hl : xs.length ≤ 2000000) :
    Calls Try.prog 48 #[v] w (Ret fun v w' => ∃ b, v = .bool b ∧ (b = true ↔ ∀ i, i < xs.length → xs.getD i 0 = 0) ∧ Ext w w') := by
  refine enter (args := [v]) (l := [.tmp 2]) Try.func48 rfl rfl Try.ntmps48 (by simp) ?_
  refine go ?_
  refine r_for xs.length (fun k ρ w' => Has ρ [(0, v), (5, v), (6, .int .i64 xs.length), (7, .int .i64 k)] ∧ Ext w w' ∧ ∀ i, i < k → xs.getD i 0 = 0) ?_ ?_
  · refine ⟨?_, Ext.refl _, fun i hi => by omega⟩
    exact hasP
  rintro k ρ w2 hk ⟨hH, he2, hI⟩
  refine rwp_has hH fun ρ0 => ?_
  refine go ?_
  refine c_if (fun h4 => ?_) (fun h4 => ?_)
  · refine go ?_
    refine c_if (fun h5 => ?_) (fun h5 => ?_)
    · refine go ?_
      refine ret1 ⟨_, rfl, ?_, he2⟩
      simp only [Bool.false_eq_true, false_iff]
      exact fun h => h5 (h k (by omega))
    · refine go ?_
      refine forQ_normal (by omega) ⟨?_, he2, fun i hi => ?_⟩
      · exact hasP
      · by_cases e : i = k
        · subst e; exact Decidable.not_not.1 h5
        · exact hI i (by omega)
  · refine go ?_
    refine ret1 ⟨_, rfl, ?_, he2⟩
    simp only [true_iff]
    exact fun i hi => hI i (by omega)
set_option maxHeartbeats 400000 in
theorem isExponents_ok {w : World} {vp vx : Value} {p : Pr} {xs : List Int} {lo hi lo1 hi1 : Nat} [hp : PresP lo hi w vp p] [hx : Ints lo1 hi1 w vx xs] (hb : ∀ i, i < p.n → 2 ≤ p.o i ∧ p.o i ≤ 7) (hl : p.n ≤ 2000000) :
    Calls Try.prog 16 #[vp, vx] w (Ret fun v w' => ∃ b, v = .bool b ∧ (b = true ↔ InR p xs) ∧ Ext w w') := by
  have hol : p.ord.length = p.n := rfl
  obtain ⟨b, og, vo, vpw, vc, ps, cs, css, rfl, hb1, hb2, hc0, hc1, hc2, h1, h2, h3⟩ := hp.ex
  refine enter (args := [.pointer (some ⟨b, og, none⟩), vx]) (l := [.tmp 4]) Try.func16 rfl rfl Try.ntmps16 (by simp) ?_
  refine go ?_
  refine c_if (fun h4 => ?_) (fun h4 => ?_)
  · refine go ?_
    refine ret1 ⟨_, rfl, ?_, Ext.refl _⟩
    simp only [Bool.false_eq_true, false_iff]
    intro h
    have := h.len
    omega
  have hxl : xs.length = p.n := by omega
  refine go ?_
  refine r_for xs.length (fun k ρ w' => Has ρ [(0, .pointer (some ⟨b, og, none⟩)), (1, vx), (15, vx), (16, .int .i64 xs.length), (17, .int .i64 k)] ∧ Ext w w' ∧ ∀ i, i < k → 0 ≤ xs.getD i 0 ∧ xs.getD i 0 < p.o i) ?_ ?_
  · refine ⟨?_, Ext.refl _, fun i hi => by omega⟩
    exact hasP
  rintro k ρ w2 hk ⟨hH, he2, hI⟩
  refine rwp_has hH fun ρ0 => ?_
  refine go ?_
  refine c_if (fun h5 => ?_) (fun h5 => ?_)
  · have hbk := hb k (by omega)
    have hoe : p.ord.getD k 0 = p.o k := rfl
    refine go ?_
    refine rc inside_ok (next := fun v3 w3 h3 => ?_)
    obtain ⟨b3, rfl, hb3, he3⟩ := h3
    refine go ?_
    refine c_b (fun h6 => ?_) (fun h6 => ?_)
    · refine go ?_
      refine ret1 ⟨_, rfl, ?_, he2.trans he3⟩
      simp only [Bool.false_eq_true, false_iff]
      intro h
      have h7 := h.rng k (by omega)
      have := hb3.2 (by omega)
      rw [this] at h6; cases h6
    · have h7 := hb3.1 (by simpa using h6)
      refine go ?_
      refine forQ_normal (by omega) ⟨?_, he2.trans he3, fun i hi => ?_⟩
      · exact hasP
      · by_cases e : i = k
        · subst e; omega
        · exact hI i (by omega)
  · refine go ?_
    refine ret1 ⟨_, rfl, ?_, he2⟩
    simp only [true_iff]
    exact ⟨hxl, fun i hi => hI i (by omega)⟩
set_option maxHeartbeats 400000 in
theorem tailVector_ok {w : World} {vp vx : Value} {p : Pr} {xs : List Int} {i : Nat} {ki : Int} {lo hi lo1 hi1 : Nat} [hp : PresP lo hi w vp p] [hx : Ints lo1 hi1 w vx xs] (hki : ki = i) (hi' : i < p.n) (hb : ∀ i, i < p.n → 2 ≤ p.o i ∧ p.o i ≤ 7) (hl : p.n ≤ 2000000) :
    Calls Try.prog 32 #[vp, .int .i64 ki, vx] w (Ret fun v w' => ∃ b, v = .bool b ∧ (b = true ↔ InR p xs ∧ ZU (i + 1) xs) ∧ Ext w w') := by
  subst hki
  refine enter (args := [vp, .int .i64 i, vx]) (l := [.tmp 6]) Try.func32 rfl rfl Try.ntmps32 (by simp) ?_
  refine go ?_
  refine rc (isExponents_ok (xs := xs) hb hl) (next := fun v3 w3 h3 => ?_)
  obtain ⟨b3, rfl, hb3, he3⟩ := h3
  refine go ?_
  refine sp (fun e3 => ?_) (fun e3 => ?_)
  · have hr := hb3.1 e3
    have hxl := hr.len
    refine go ?_
    have hcut : Ints lo1 hi1 w (cutTo vx (i + 1)) (xs.take (i + 1)) := hx.cutTo (by omega)
    refine rc (isZero_ok (xs := xs.take (i + 1)) ?_) (next := fun v4 w4 h4 => ?_)
    · rw [List.length_take]; omega
    obtain ⟨b4, rfl, hb4, he4⟩ := h4
    refine go ?_
    refine ret1 ⟨_, rfl, hb4.trans ?_, he3.trans he4⟩
    constructor
    · intro h
      refine ⟨hr, fun k hk => ?_⟩
      have := h k (by rw [List.length_take]; omega)
      simpa [List.getElem?_take, hk] using this
    · rintro ⟨_, h⟩ k hk
      rw [List.length_take] at hk
      have := h k (by omega)
      simpa [List.getElem?_take, show k < i + 1 by omega] using this
  · refine go ?_
    refine ret1 ⟨_, rfl, ?_, he3⟩
    simp only [Bool.false_eq_true, false_iff]
    rintro ⟨h, _⟩
    have := hb3.2 h
    rw [e3] at this; cases this
end Go.Proofs.Ytflniifngfiekaa

/-
  Walks: the program's residues and inverses modulo a group prime (residue, inverseMod).
  Conditions: stated at each theorem.
-/
namespace Go.Proofs.Ytflniifngfiekaa
open Go Go.Pc
end Go.Proofs.Ytflniifngfiekaa

/-
  Plain mathematics: groups, powers, conjugates, homomorphisms out of normal forms.
  Conditions: none; nothing of the program stands here.
-/
namespace Go.Pc

class Grp (G : Type) extends Mul G, One G, Inv G where
  mul_assoc : ∀ a b c : G, a * b * c = a * (b * c)
  one_mul : ∀ a : G, 1 * a = a
  inv_mul : ∀ a : G, a⁻¹ * a = 1
namespace Grp
variable {G : Type} [Grp G]
theorem inv_mul_cancel_left (a b : G) : a⁻¹ * (a * b) = b := by rw [← mul_assoc, inv_mul, one_mul]
theorem mul_left_cancel {a b c : G} (h : a * b = a * c) : b = c := by
  rw [← inv_mul_cancel_left a b, h, inv_mul_cancel_left]
theorem mul_inv (a : G) : a * a⁻¹ = 1 := by
  apply mul_left_cancel (a := a⁻¹)
  rw [inv_mul_cancel_left]
  apply mul_left_cancel (a := a⁻¹⁻¹)
  rw [inv_mul, inv_mul_cancel_left]
theorem mul_one (a : G) : a * 1 = a := by
  apply mul_left_cancel (a := a⁻¹)
  rw [inv_mul_cancel_left, inv_mul]
theorem mul_inv_cancel_left (a b : G) : a * (a⁻¹ * b) = b := by rw [← mul_assoc, mul_inv, one_mul]
theorem mul_inv_cancel_right (a b : G) : a * b * b⁻¹ = a := by rw [mul_assoc, mul_inv, mul_one]
theorem inv_mul_cancel_right (a b : G) : a * b⁻¹ * b = a := by rw [mul_assoc, inv_mul, mul_one]
theorem mul_right_cancel {a b c : G} (h : a * c = b * c) : a = b := by
  rw [← mul_inv_cancel_right a c, h, mul_inv_cancel_right]
theorem eq_inv_of_mul {a b : G} (h : a * b = 1) : a = b⁻¹ := mul_right_cancel (c := b) (by rw [h, inv_mul])
theorem eq_inv_of_mul' {a b : G} (h : a * b = 1) : b = a⁻¹ := mul_left_cancel (a := a) (by rw [h, mul_inv])
theorem inv_inv (a : G) : a⁻¹⁻¹ = a := (eq_inv_of_mul (mul_inv a)).symm
theorem inv_one : (1 : G)⁻¹ = 1 := (eq_inv_of_mul (one_mul 1)).symm
theorem mul_inv_rev (a b : G) : (a * b)⁻¹ = b⁻¹ * a⁻¹ := (eq_inv_of_mul (by rw [mul_assoc, inv_mul_cancel_left, inv_mul])).symm

/-- Powers. -/
def pw (a : G) : Nat → G
  | 0 => 1
  | k + 1 => pw a k * a
theorem pw_zero (a : G) : pw a 0 = 1 := rfl
theorem pw_succ (a : G) (k : Nat) : pw a (k + 1) = pw a k * a := rfl
theorem pw_one (a : G) : pw a 1 = a := by rw [pw_succ, pw_zero, one_mul]
theorem pw_add (a : G) (j k : Nat) : pw a (j + k) = pw a j * pw a k := by
  induction k with
  | zero => rw [pw_zero, mul_one]; rfl
  | succ k ih => rw [← Nat.add_assoc, pw_succ, ih, pw_succ, mul_assoc]
theorem pw_succ' (a : G) (k : Nat) : pw a (k + 1) = a * pw a k := by rw [Nat.add_comm, pw_add, pw_one]
theorem pw_mul (a : G) (j k : Nat) : pw a (j * k) = pw (pw a j) k := by
  induction k with
  | zero => rfl
  | succ k ih => rw [Nat.mul_succ, pw_add, ih, pw_succ]
theorem one_pw (k : Nat) : pw (1 : G) k = 1 := by
  induction k with
  | zero => rfl
  | succ k ih => rw [pw_succ, ih, one_mul]
theorem inv_pw (a : G) (k : Nat) : pw a⁻¹ k = (pw a k)⁻¹ := by
  induction k with
  | zero => exact inv_one.symm
  | succ k ih => rw [pw_succ, ih, pw_succ', mul_inv_rev]
/-- The power by any integer. -/
def pwz (x : G) (k : Int) : G := if k < 0 then pw x⁻¹ (-k).toNat else pw x k.toNat
theorem pwz_nat (x : G) (k : Nat) : pwz x k = pw x k := by unfold pwz; rw [if_neg (by omega)]; simp
theorem pwz_of {k : Int} (x : G) (h : 0 ≤ k) : pwz x k = pw x k.toNat := by unfold pwz; rw [if_neg (by omega)]
theorem pwz_neg (x : G) (k : Nat) : pwz x (-(k : Int)) = (pw x k)⁻¹ := by
  unfold pwz
  by_cases h : k = 0
  · subst h; rw [if_neg (by omega)]; show (1 : G) = (1 : G)⁻¹; rw [inv_one]
  · rw [if_pos (by omega), Int.neg_neg, Int.toNat_natCast, inv_pw]
theorem pwz_top (y : G) (o : Nat) (ho : 1 ≤ o) (k : Int) : ∃ j m : Nat, pw y j = pwz y k * pw (pw y o) m ∧ pw y j = pw (pw y o) m * pwz y k := by
  by_cases h : 0 ≤ k
  · obtain ⟨n, rfl⟩ := Int.eq_ofNat_of_zero_le h
    exact ⟨n, 0, by rw [pwz_nat, pw_zero, mul_one], by rw [pwz_nat, pw_zero, one_mul]⟩
  · obtain ⟨n, hn⟩ : ∃ n : Nat, k = -(n : Int) := ⟨(-k).toNat, by omega⟩
    subst hn
    obtain ⟨q, rfl⟩ : ∃ q, o = q + 1 := ⟨o - 1, by omega⟩
    have e : (q + 1) * n = n + q * n := by rw [Nat.add_mul, Nat.one_mul, Nat.add_comm]
    refine ⟨q * n, n, ?_, ?_⟩
    · rw [pwz_neg, ← pw_mul, e, pw_add, inv_mul_cancel_left]
    · rw [pwz_neg, ← pw_mul, e, Nat.add_comm, pw_add, mul_inv_cancel_right]
/-- Conjugates: cj a b is b⁻¹ a b. -/
def cj (a b : G) : G := b⁻¹ * (a * b)
theorem cj_mul (a b c : G) : cj (a * b) c = cj a c * cj b c := by
  unfold cj; simp only [mul_assoc]; rw [mul_inv_cancel_left]
theorem cj_one (b : G) : cj 1 b = 1 := by unfold cj; rw [one_mul, inv_mul]
theorem cj_by_one (a : G) : cj a 1 = a := by unfold cj; rw [inv_one, one_mul, mul_one]
theorem cj_cj (a b c : G) : cj (cj a b) c = cj a (b * c) := by unfold cj; rw [mul_inv_rev]; simp only [mul_assoc]
theorem cj_pw (a b : G) (k : Nat) : cj (pw a k) b = pw (cj a b) k := by
  induction k with
  | zero => exact cj_one b
  | succ k ih => rw [pw_succ, cj_mul, ih, pw_succ]
theorem cj_inv (a b : G) : cj a⁻¹ b = (cj a b)⁻¹ := eq_inv_of_mul (by rw [← cj_mul, inv_mul, cj_one])
theorem mul_cj (a b : G) : b * cj a b = a * b := by unfold cj; rw [mul_inv_cancel_left]
/-- Commutators: cm a b is a⁻¹ b⁻¹ a b. -/
def cm (a b : G) : G := a⁻¹ * cj a b
theorem cm_eq (a b : G) : cm a b = (b * a)⁻¹ * (a * b) := by unfold cm cj; rw [mul_inv_rev, mul_assoc]
end Grp

/-- The product of c_j to the power x_j, from j = l on, over k generators. -/
def phi {H : Type} [Grp H] (c : Nat → H) (x : List Int) (l : Nat) : Nat → H
  | 0 => 1
  | k + 1 => Grp.pw (c l) (x.getD l 0).toNat * phi c x (l + 1) k
theorem phi_congr {H : Type} [Grp H] (c : Nat → H) {x y : List Int} : ∀ (k l : Nat), (∀ j, l ≤ j → x.getD j 0 = y.getD j 0) → phi c x l k = phi c y l k
  | 0, _, _ => rfl
  | k + 1, l, h => by rw [phi, phi, h l (Nat.le_refl _), phi_congr c k (l + 1) (fun j hj => h j (by omega))]
theorem phi_zero {H : Type} [Grp H] (c : Nat → H) {x : List Int} : ∀ (k l : Nat), (∀ j, l ≤ j → x.getD j 0 = 0) → phi c x l k = 1
  | 0, _, _ => rfl
  | k + 1, l, h => by rw [phi, h l (Nat.le_refl _), phi_zero c k (l + 1) (fun j hj => h j (by omega))]; exact Grp.one_mul _
/-- From the right: the last factor split off. -/
theorem phi_last {H : Type} [Grp H] (c : Nat → H) (x : List Int) : ∀ (k l : Nat), phi c x l (k + 1) = phi c x l k * Grp.pw (c (l + k)) (x.getD (l + k) 0).toNat
  | 0, l => by rw [phi, phi, phi]; rw [Grp.mul_one, Grp.one_mul]; rfl
  | k + 1, l => by
    rw [phi, phi_last c x k (l + 1), phi, Grp.mul_assoc, show l + 1 + k = l + (k + 1) by omega]
end Go.Pc

/-
  Plain mathematics: a map on generators that respects the relations is a homomorphism; the tail of one generator more is a group.
  Conditions: none; nothing of the program stands here.
-/
namespace Go.Pc
open Grp

section dyck
variable {p : Pr} {H : Type} [Grp H] (c : Nat → H)
theorem phi_set {x : List Int} {l k : Nat} {a : Int} (j : Nat) (hj : j < l) : phi c (x.set j a) l k = phi c x l k :=
  phi_congr c k l fun i hi => getD_set_ne _ _ _ _ (by omega)
theorem phi_rep (hv : Valid p) {l m : Nat} (hom : ∀ x y, InR p x → InR p y → ZU l x → ZU l y → phi c (atv p l x y) l m = phi c x l m * phi c y l m)
    {d : List Int} (hd : InR p d ∧ ZU l d) {x : List Int} (hx : InR p x ∧ ZU l x) : ∀ q, phi c (rep q (fun o => atv p l o d) x) l m = phi c x l m * pw (phi c d l m) q
  | 0 => by rw [rep_zero, pw_zero, Grp.mul_one]
  | q + 1 => by
    have hin := rep_inv (fun v => InR p v ∧ ZU l v) (f := fun o => atv p l o d) (fun o ho => atv_in hv _ _ rfl _ _ ho.1 hd.1 ho.2 hd.2) hx q
    rw [rep_succ, hom _ _ hin.1 hd.1 hin.2 hd.2, phi_rep hv hom hd hx q, Grp.mul_assoc, pw_succ]
theorem phi_img (hv : Valid p) {l : Nat} (hl : l < p.n) (hom : ∀ x y, InR p x → InR p y → ZU (l + 1) x → ZU (l + 1) y → phi c (atv p (l + 1) x y) (l + 1) (p.n - (l + 1)) = phi c x (l + 1) (p.n - (l + 1)) * phi c y (l + 1) (p.n - (l + 1)))
    (hC : ∀ k, l < k → k < p.n → cj (c k) (c l) = phi c (p.c l k) (l + 1) (p.n - (l + 1))) (x : List Int) :
    ∀ k, k ≤ p.n - (l + 1) → phi c (imgTo p l x k) (l + 1) (p.n - (l + 1)) = cj (phi c x (l + 1) k) (c l)
  | 0, _ => by rw [imgTo_zero, phi_zero c _ _ (fun _ _ => zeros_getD _ _), phi, cj_one]
  | k + 1, hk => by
    rw [imgTo_succ, phi_rep c hv hom ⟨hv.c_in _ _ (by omega) (by omega), hv.c_zu _ _ (by omega) (by omega)⟩ (imgTo_in hv (atv_in hv _ (l + 1) rfl) x k (by omega)),
      phi_img hv hl hom hC x k (by omega), ← hC _ (by omega) (by omega), phi_last, cj_mul, cj_pw]
theorem phi_rep_img (hv : Valid p) {l : Nat} (hl : l < p.n) (hom : ∀ x y, InR p x → InR p y → ZU (l + 1) x → ZU (l + 1) y → phi c (atv p (l + 1) x y) (l + 1) (p.n - (l + 1)) = phi c x (l + 1) (p.n - (l + 1)) * phi c y (l + 1) (p.n - (l + 1)))
    (hC : ∀ k, l < k → k < p.n → cj (c k) (c l) = phi c (p.c l k) (l + 1) (p.n - (l + 1))) (x : List Int) :
    ∀ q, phi c (rep q (img p l) x) (l + 1) (p.n - (l + 1)) = cj (phi c x (l + 1) (p.n - (l + 1))) (pw (c l) q)
  | 0 => by rw [rep_zero, pw_zero, cj_by_one]
  | q + 1 => by rw [rep_succ, img_eq, phi_img c hv hl hom hC _ _ (Nat.le_refl _), phi_rep_img hv hl hom hC x q, cj_cj, pw_succ]
/-- What respects the relations behind l0 is a homomorphism on every tail from l0 on. -/
theorem dyck (hv : Valid p) (l0 : Nat) (hP : ∀ j, l0 ≤ j → j < p.n → pw (c j) (p.o j).toNat = phi c (p.w j) (j + 1) (p.n - (j + 1)))
    (hC : ∀ j k, l0 ≤ j → j < k → k < p.n → cj (c k) (c j) = phi c (p.c j k) (j + 1) (p.n - (j + 1))) :
    ∀ (m l : Nat), l0 ≤ l → p.n - l = m → ∀ x y, InR p x → InR p y → ZU l x → ZU l y → phi c (atv p l x y) l m = phi c x l m * phi c y l m
  | 0, l, _, hm, x, y, _, _, _, _ => (Grp.one_mul _).symm
  | m + 1, l, h0, hm, x, y, hx, hy, zx, zy => by
    have hl : l < p.n := by omega
    have hm' : p.n - (l + 1) = m := by omega
    have ih := dyck hv l0 hP hC m (l + 1) (by omega) hm'
    rw [← hm'] at ih ⊢
    have hC' := fun k hk hk' => hC l k h0 hk hk'
    have hx' : InR p (x.set l 0) ∧ ZU (l + 1) (x.set l 0) := ⟨hx.set (by omega) (fun h => by have := hv.opos h; omega), zx.set0⟩
    have hy' : InR p (y.set l 0) ∧ ZU (l + 1) (y.set l 0) := ⟨hy.set (by omega) (fun h => by have := hv.opos h; omega), zy.set0⟩
    have hL := rep_inv (fun v => InR p v ∧ ZU (l + 1) v) (f := img p l) (fun u _ => img_in hv l u) hx' (y.getD l 0).toNat
    have hR := atv_in hv _ (l + 1) rfl _ _ hL.1 hy'.1 hL.2 hy'.2
    have hxr := hx.rng l hl
    have hyr := hy.rng l hl
    have hrest : phi c (atv p (l + 1) (rep (y.getD l 0).toNat (img p l) (x.set l 0)) (y.set l 0)) (l + 1) (p.n - (l + 1)) =
        cj (phi c x (l + 1) (p.n - (l + 1))) (pw (c l) (y.getD l 0).toNat) * phi c y (l + 1) (p.n - (l + 1)) := by
      rw [ih _ _ hL.1 hy'.1 hL.2 hy'.2, phi_rep_img c hv hl ih hC', phi_set c l (by omega), phi_set c l (by omega)]
    show pw (c l) ((atv p l x y).getD l 0).toNat * phi c (atv p l x y) (l + 1) (p.n - (l + 1)) = _
    rw [atv_eq p l x y hl]
    split
    · rename_i hcar
      have hW := atv_in hv _ (l + 1) rfl _ _ (hv.w_in l hl) hR.1 (hv.w_zu l hl) hR.2
      rw [getD_set_eq _ _ _ (by rw [hW.1.len]; exact hl), phi_set c l (by omega), ih _ _ (hv.w_in l hl) hR.1 (hv.w_zu l hl) hR.2, hrest, ← hP l h0 hl]
      rw [← Grp.mul_assoc, ← pw_add, show (x.getD l 0 + y.getD l 0 - p.o l).toNat + (p.o l).toNat = (x.getD l 0).toNat + (y.getD l 0).toNat by omega, pw_add]
      rw [Grp.mul_assoc, ← Grp.mul_assoc (pw (c l) (y.getD l 0).toNat), mul_cj]
      show _ = (pw (c l) (x.getD l 0).toNat * phi c x (l + 1) (p.n - (l + 1))) * (pw (c l) (y.getD l 0).toNat * phi c y (l + 1) (p.n - (l + 1)))
      simp only [Grp.mul_assoc]
    · rw [getD_set_eq _ _ _ (by rw [hR.1.len]; exact hl), phi_set c l (by omega), hrest]
      rw [show (x.getD l 0 + y.getD l 0).toNat = (x.getD l 0).toNat + (y.getD l 0).toNat by omega, pw_add]
      rw [Grp.mul_assoc, ← Grp.mul_assoc (pw (c l) (y.getD l 0).toNat), mul_cj]
      show _ = (pw (c l) (x.getD l 0).toNat * phi c x (l + 1) (p.n - (l + 1))) * (pw (c l) (y.getD l 0).toNat * phi c y (l + 1) (p.n - (l + 1)))
      simp only [Grp.mul_assoc]
end dyck
end Go.Pc

/-
  Plain mathematics: the vectors with zeros ahead of a level, as a type; where the level's conditions hold they form a group.
  Conditions: none; nothing of the program stands here.
-/
namespace Go.Pc
open Grp

/-- The vectors of the tail at i. -/
structure T (p : Pr) (i : Nat) where
  v : List Int
  inr : InR p v
  zu : ZU i v
theorem T.ext {p : Pr} {i : Nat} {a b : T p i} (h : a.v = b.v) : a = b := by cases a; cases b; cases h; rfl
theorem list_ext0 {v u : List Int} (hl : v.length = u.length) (h : ∀ k, k < v.length → v.getD k 0 = u.getD k 0) : v = u := by
  apply List.ext_getElem hl
  intro k h1 h2
  have := h k h1
  simpa [List.getD_eq_getElem?_getD, h1, h2] using this
theorem inr_ext {p : Pr} {v u : List Int} (hv : InR p v) (hu : InR p u) (h : ∀ k, k < p.n → v.getD k 0 = u.getD k 0) : v = u :=
  list_ext0 (by rw [hv.len, hu.len]) fun k hk => h k (by rw [← hv.len]; exact hk)

section
variable {p : Pr} (hv : Valid p)
theorem img_zeros (l : Nat) : img p l (zeros p.n) = zeros p.n := by
  rw [img_eq]
  have : ∀ k, imgTo p l (zeros p.n) k = zeros p.n := by
    intro k
    induction k with
    | zero => rfl
    | succ k ih => rw [imgTo_succ, zeros_getD, ih]; rfl
  exact this _
theorem rep_id {α : Type} {f : α → α} {x : α} (h : f x = x) : ∀ k, rep k f x = x
  | 0 => rfl
  | k + 1 => by rw [rep_succ, rep_id h k, h]
theorem set_self {v : List Int} {i : Nat} (h : i < v.length) : v.set i (v.getD i 0) = v := by
  apply list_ext0 (by simp)
  intro k hk
  by_cases e : i = k
  · subst e; rw [getD_set_eq _ _ _ h]
  · rw [getD_set_ne _ _ _ _ e]
theorem set_set {v : List Int} {i : Nat} {a b : Int} : (v.set i a).set i b = v.set i b := by simp
include hv
theorem one_at : ∀ (m i : Nat), p.n - i = m → ∀ b, InR p b → ZU i b → atv p i (zeros p.n) b = b
  | 0, i, hm, b, hb, zb => by
    rw [atv_end _ _ _ _ (by omega)]
    exact inr_ext hv.zeros_in hb fun k hk => by rw [zeros_getD, zb k (by omega)]
  | m + 1, i, hm, b, hb, zb => by
    have hi : i < p.n := by omega
    have h1 := hb.rng i hi
    rw [atv_eq _ _ _ _ hi, zeros_getD, if_neg (by omega)]
    have hz : (zeros p.n).set i 0 = zeros p.n := by
      have := set_self (v := zeros p.n) (i := i) (by rw [zeros_len]; exact hi)
      rwa [zeros_getD] at this
    rw [hz, rep_id (img_zeros i), one_at m (i + 1) (by omega) _ (hb.set (by omega) (fun _ => by omega)) zb.set0, set_set, Int.zero_add, set_self (by rw [hb.len]; exact hi)]
theorem at_one : ∀ (m i : Nat), p.n - i = m → ∀ a, InR p a → ZU i a → atv p i a (zeros p.n) = a
  | 0, i, hm, b, hb, zb => by
    rw [atv_end _ _ _ _ (by omega)]
    exact inr_ext hv.zeros_in hb fun k hk => by rw [zeros_getD, zb k (by omega)]
  | m + 1, i, hm, a, ha, za => by
    have hi : i < p.n := by omega
    have h1 := ha.rng i hi
    rw [atv_eq _ _ _ _ hi, zeros_getD, if_neg (by omega)]
    have hz : (zeros p.n).set i 0 = zeros p.n := by
      have := set_self (v := zeros p.n) (i := i) (by rw [zeros_len]; exact hi)
      rwa [zeros_getD] at this
    rw [hz, show (0 : Int).toNat = 0 from rfl, rep_zero, at_one m (i + 1) (by omega) _ (ha.set (by omega) (fun _ => by omega)) za.set0, set_set, Int.add_zero, set_self (by rw [ha.len]; exact hi)]
/-- In a shorter tail the product is the same. -/
theorem at_restrict {i : Nat} (hi : i < p.n) {a b : List Int} (ha : InR p a) (hb : InR p b) (za : ZU (i + 1) a) (zb : ZU (i + 1) b) : atv p i a b = atv p (i + 1) a b := by
  have h1 := hv.opos hi
  have ea : a.set i 0 = a := by rw [← za i (by omega)]; exact set_self (by rw [ha.len]; exact hi)
  have eb : b.set i 0 = b := by rw [← zb i (by omega)]; exact set_self (by rw [hb.len]; exact hi)
  have hr := atv_in hv _ (i + 1) rfl _ _ ha hb za zb
  rw [atv_eq _ _ _ _ hi, za i (by omega), zb i (by omega), if_neg (by omega), ea, eb]
  show (atv p (i + 1) (rep 0 (img p i) a) b).set i 0 = _
  rw [rep_zero, ← hr.2 i (by omega)]
  exact set_self (by rw [hr.1.len]; exact hi)
theorem at_restrict' {i d : Nat} (hid : i ≤ d) {a b : List Int} (ha : InR p a) (hb : InR p b) (za : ZU d a) (zb : ZU d b) : atv p i a b = atv p d a b := by
  obtain ⟨k, rfl⟩ : ∃ k, d = i + k := ⟨d - i, by omega⟩
  clear hid
  induction k with
  | zero => rfl
  | succ k ih =>
    rw [ih (za.mono (by omega)) (zb.mono (by omega))]
    by_cases hi : i + k < p.n
    · exact at_restrict hv hi ha hb za zb
    · rw [atv_end _ _ _ _ (by omega), atv_end _ _ _ _ (by omega)]
end

def tmul {p : Pr} (hv : Valid p) {i : Nat} (a b : T p i) : T p i := ⟨atv p i a.v b.v, (atv_in hv _ i rfl _ _ a.inr b.inr a.zu b.zu).1, (atv_in hv _ i rfl _ _ a.inr b.inr a.zu b.zu).2⟩
def tone {p : Pr} (hv : Valid p) (i : Nat) : T p i := ⟨zeros p.n, hv.zeros_in, zeros_zu _ _⟩
/-- The tail at i is a group. -/
class Con (p : Pr) (i : Nat) : Prop where
  valid : Valid p
  assoc : ∀ a b c : T p i, tmul valid (tmul valid a b) c = tmul valid a (tmul valid b c)
  inv : ∀ a : T p i, ∃ b, tmul valid b a = tone valid i
noncomputable instance {p : Pr} {i : Nat} [h : Con p i] : Grp (T p i) where
  mul := tmul h.valid
  one := tone h.valid i
  inv a := Classical.choose (h.inv a)
  mul_assoc := h.assoc
  one_mul a := T.ext (one_at h.valid _ i rfl a.v a.inr a.zu)
  inv_mul a := Classical.choose_spec (h.inv a)
theorem T.mul_val {p : Pr} {i : Nat} [h : Con p i] (a b : T p i) : (a * b).v = atv p i a.v b.v := rfl
/-! ### one generator more -/
section ext
variable {p : Pr} {i : Nat}
/-- The conjugate of generator j by generator i, in the tail behind i. -/
def Tc (hv : Valid p) {j : Nat} (hj : i < j ∧ j < p.n) : T p (i + 1) := ⟨p.c i j, hv.c_in _ _ hj.1 hj.2, hv.c_zu _ _ hj.1 hj.2⟩
def Tw (hv : Valid p) (hi : i < p.n) : T p (i + 1) := ⟨p.w i, hv.w_in _ hi, hv.w_zu _ hi⟩
/-- The same as a function on all numbers. -/
noncomputable def cOf (p : Pr) (i : Nat) [h : Con p (i + 1)] (j : Nat) : T p (i + 1) := open Classical in if hj : i < j ∧ j < p.n then Tc h.valid hj else 1
def Timg (hv : Valid p) (x : T p (i + 1)) : T p (i + 1) := ⟨img p i x.v, (img_in hv i x.v).1, (img_in hv i x.v).2⟩

theorem imgTo_phi [h : Con p (i + 1)] (x : List Int) : ∀ k, k ≤ p.n - (i + 1) → ∀ hin hzu, (⟨imgTo p i x k, hin, hzu⟩ : T p (i + 1)) = phi (cOf p i) x (i + 1) k
  | 0, _, _, _ => rfl
  | k + 1, hk, hin, _ => by
    have hk' := imgTo_in h.valid (atv_in h.valid _ (i + 1) rfl) x k (by omega)
    rw [phi_last, ← imgTo_phi x k (by omega) hk'.1 hk'.2]
    have hj : i < i + 1 + k ∧ i + 1 + k < p.n := ⟨by omega, by omega⟩
    have hc : cOf p i (i + 1 + k) = Tc h.valid hj := dif_pos hj
    have key : ∀ q (acc : T p (i + 1)), rep q (fun o => atv p (i + 1) o (p.c i (i + 1 + k))) acc.v = (acc * pw (Tc h.valid hj) q).v := by
      intro q acc
      induction q with
      | zero => rw [rep_zero, pw_zero, Grp.mul_one]
      | succ q ih => rw [rep_succ, ih, pw_succ, ← Grp.mul_assoc]; rfl
    apply T.ext
    show imgTo p i x (k + 1) = _
    rw [imgTo_succ, hc]
    exact key _ ⟨imgTo p i x k, hk'.1, hk'.2⟩
theorem img_phi [h : Con p (i + 1)] (x : T p (i + 1)) : Timg h.valid x = phi (cOf p i) x.v (i + 1) (p.n - (i + 1)) := imgTo_phi x.v _ (Nat.le_refl _) _ _

/-- The four conditions of a level. -/
def unitv (p : Pr) (j : Nat) (k : Int) : List Int := (zeros p.n).set j k
theorem unitv_in {p : Pr} (hv : Valid p) {j : Nat} {k : Int} (h0 : 0 ≤ k) (h1 : j < p.n → k < p.o j) : InR p (unitv p j k) := hv.zeros_in.set h0 h1
theorem unitv_zu (p : Pr) {i j : Nat} (hij : i ≤ j) (k : Int) : ZU i (unitv p j k) := (zeros_zu _ _).set hij
/-- Generator j, in the tail at i. -/
def gen (hv : Valid p) (i j : Nat) (hj : i ≤ j ∧ j < p.n) : T p i := ⟨unitv p j 1, unitv_in hv (by omega) (fun h => by have := hv.opos h; omega), unitv_zu p hj.1 1⟩
structure Chk (p : Pr) (i : Nat) [h : Con p (i + 1)] (hi : i < p.n) : Prop where
  P : ∀ j (hj : i < j ∧ j < p.n), pw (Tc h.valid hj) (p.o j).toNat = Timg h.valid (⟨p.w j, h.valid.w_in _ hj.2, (h.valid.w_zu _ hj.2).mono (by omega)⟩ : T p (i + 1))
  C : ∀ j k (hj : i < j ∧ j < p.n) (hk : i < k ∧ k < p.n) (hjk : j < k), cj (Tc h.valid hk) (Tc h.valid hj) = Timg h.valid (⟨p.c j k, h.valid.c_in _ _ hjk hk.2, (h.valid.c_zu _ _ hjk hk.2).mono (by omega)⟩ : T p (i + 1))
  F : Timg h.valid (Tw h.valid hi) = Tw h.valid hi
  I : ∀ j (hj : i + 1 ≤ j ∧ j < p.n), rep (p.o i).toNat (Timg h.valid) (gen h.valid (i + 1) j hj) = cj (gen h.valid (i + 1) j hj) (Tw h.valid hi)

theorem img_hom [h : Con p (i + 1)] {hi : i < p.n} (hc : Chk p i hi) (x y : T p (i + 1)) : Timg h.valid (x * y) = Timg h.valid x * Timg h.valid y := by
  have hcof : ∀ j (hj : i < j ∧ j < p.n), cOf p i j = Tc h.valid hj := fun j hj => dif_pos hj
  have hphi : ∀ (v : List Int) (j : Nat), InR p v → ZU j v → i + 1 ≤ j → j ≤ p.n → ∀ hin hzu, Timg h.valid (⟨v, hin, hzu⟩ : T p (i + 1)) = phi (cOf p i) v j (p.n - j) := by
    intro v j hv zv h1 h2 hin hzu
    rw [img_phi]
    obtain ⟨q, rfl⟩ : ∃ q, j = i + 1 + q := ⟨j - (i + 1), by omega⟩
    clear h1
    induction q with
    | zero => rfl
    | succ q ih =>
      rw [ih (zv.mono (by omega)) (by omega), show p.n - (i + 1 + q) = (p.n - (i + 1 + (q + 1))) + 1 by omega, phi]
      rw [zv (i + 1 + q) (by omega)]
      exact Grp.one_mul _
  rw [img_phi, img_phi, img_phi, T.mul_val]
  refine dyck (cOf p i) h.valid (i + 1) ?_ ?_ _ (i + 1) (Nat.le_refl _) rfl _ _ x.inr y.inr x.zu y.zu
  · intro j h1 h2
    rw [hcof j ⟨by omega, h2⟩, hc.P j ⟨by omega, h2⟩]
    exact hphi _ _ (h.valid.w_in _ h2) (h.valid.w_zu _ h2) (by omega) (by omega) _ _
  · intro j k h1 h2 h3
    rw [hcof j ⟨by omega, by omega⟩, hcof k ⟨by omega, h3⟩, hc.C j k ⟨by omega, by omega⟩ ⟨by omega, h3⟩ h2]
    exact hphi _ _ (h.valid.c_in _ _ h2 h3) (h.valid.c_zu _ _ h2 h3) (by omega) (by omega) _ _
end ext

/-! ### normal forms -/
section norm
variable {p : Pr} {i : Nat} (hv : Valid p)
include hv
theorem unit_at {l : Nat} (hil : i ≤ l) (hl : l < p.n) {k : Int} (h0 : 0 ≤ k) (h1 : k < p.o l) {u : List Int} (hu : InR p u) (zu : ZU (l + 1) u) : atv p i (unitv p l k) u = u.set l k := by
  have ho := hv.opos hl
  have hk := unitv_in hv (j := l) (k := k) h0 (fun _ => h1)
  rw [at_restrict' hv hil hk hu (unitv_zu p (Nat.le_refl _) k) (zu.mono (by omega)), atv_eq _ _ _ _ hl, zu l (by omega)]
  have e1 : (unitv p l k).getD l 0 = k := getD_set_eq _ _ _ (by rw [zeros_len]; exact hl)
  have hz : (zeros p.n).set l 0 = zeros p.n := by
    have := set_self (v := zeros p.n) (i := l) (by rw [zeros_len]; exact hl)
    rwa [zeros_getD] at this
  have e2 : (unitv p l k).set l 0 = zeros p.n := by unfold unitv; rw [set_set, hz]
  have e3 : u.set l 0 = u := by rw [← zu l (by omega)]; exact set_self (by rw [hu.len]; exact hl)
  rw [e1, if_neg (by omega), show (0 : Int).toNat = 0 from rfl, rep_zero, e2, e3, one_at hv _ _ rfl _ hu zu, Int.add_zero]
theorem unit_succ {l : Nat} (hil : i ≤ l) (hl : l < p.n) {k : Int} (h0 : 0 ≤ k) (h1 : k + 1 < p.o l) : atv p i (unitv p l k) (unitv p l 1) = unitv p l (k + 1) := by
  have ho := hv.opos hl
  have hk := unitv_in hv (j := l) (k := k) h0 (fun _ => by omega)
  have h1' := unitv_in hv (j := l) (k := 1) (by omega) (fun _ => by omega)
  rw [at_restrict' hv hil hk h1' (unitv_zu p (Nat.le_refl _) k) (unitv_zu p (Nat.le_refl _) 1), atv_eq _ _ _ _ hl]
  have e1 : ∀ k, (unitv p l k).getD l 0 = k := fun k => getD_set_eq _ _ _ (by rw [zeros_len]; exact hl)
  have hz : (zeros p.n).set l 0 = zeros p.n := by
    have := set_self (v := zeros p.n) (i := l) (by rw [zeros_len]; exact hl)
    rwa [zeros_getD] at this
  have e2 : ∀ k, (unitv p l k).set l 0 = zeros p.n := fun k => by unfold unitv; rw [set_set, hz]
  rw [e1, e1, if_neg (by omega), e2, e2, rep_id (img_zeros l), one_at hv _ _ rfl _ hv.zeros_in (zeros_zu _ _)]
  rfl
omit hv in
theorem gen_pw [h : Con p i] {l : Nat} (hl : i ≤ l ∧ l < p.n) : ∀ k : Nat, (k : Int) < p.o l → (pw (gen h.valid i l hl) k).v = unitv p l k
  | 0, _ => by
    show zeros p.n = (zeros p.n).set l 0
    have := set_self (v := zeros p.n) (i := l) (by rw [zeros_len]; exact hl.2)
    rw [zeros_getD] at this
    exact this.symm
  | k + 1, hk => by
    rw [pw_succ, T.mul_val, gen_pw hl k (by omega)]
    exact unit_succ h.valid hl.1 hl.2 (by omega) (by omega)
/-- The generators as a function on all numbers. -/
noncomputable def gOf (p : Pr) (i : Nat) [h : Con p i] (j : Nat) : T p i := open Classical in if hj : i ≤ j ∧ j < p.n then gen h.valid i j hj else 1
omit hv in
theorem norm_form [h : Con p i] : ∀ (m l : Nat), p.n - l = m → i ≤ l → l ≤ p.n → ∀ x : T p i, ZU l x.v → x = phi (gOf p i) x.v l m
  | 0, l, hm, _, _, x, zx => by
    apply T.ext
    show x.v = zeros p.n
    exact inr_ext x.inr h.valid.zeros_in fun k hk => by rw [zeros_getD, zx k (by omega)]
  | m + 1, l, hm, hil, hln, x, zx => by
    have hl : l < p.n := by omega
    have hxl := x.inr.rng l hl
    have ho := h.valid.opos hl
    let u : T p i := ⟨x.v.set l 0, x.inr.set (by omega) (fun _ => by omega), (zx.set0).mono (by omega)⟩
    have hu : ZU (l + 1) u.v := zx.set0
    have ih := norm_form m (l + 1) (by omega) (by omega) (by omega) u hu
    have hg : gOf p i l = gen h.valid i l ⟨hil, hl⟩ := dif_pos ⟨hil, hl⟩
    have e : phi (gOf p i) x.v (l + 1) m = phi (gOf p i) u.v (l + 1) m := phi_congr _ _ _ fun j hj => (getD_set_ne _ _ _ _ (by omega)).symm
    rw [phi, e, ← ih, hg]
    apply T.ext
    rw [T.mul_val, gen_pw ⟨hil, hl⟩ _ (by omega)]
    rw [unit_at h.valid hil hl (by omega) (by omega) u.inr hu]
    show x.v = (x.v.set l 0).set l _
    rw [set_set, show (((x.v.getD l 0).toNat : Nat) : Int) = x.v.getD l 0 by omega, set_self (by rw [x.inr.len]; exact hl)]
end norm
end Go.Pc

/-
  Plain mathematics: a level's conditions make the tail of one generator more a group.
  Conditions: none; nothing of the program stands here.
-/
namespace Go.Pc
open Grp

theorem rep_add {α : Type} (f : α → α) (x : α) (j : Nat) : ∀ k, rep (k + j) f x = rep k f (rep j f x)
  | 0 => by rw [Nat.zero_add]; rfl
  | k + 1 => by rw [Nat.add_right_comm, rep_succ, rep_add f x j k, rep_succ]

section
variable {p : Pr} {i : Nat}
/-- What stands behind the head. -/
def tl (hv : Valid p) (x : T p i) : T p (i + 1) := ⟨x.v.set i 0, x.inr.set (by omega) (fun h => by have := hv.opos h; omega), x.zu.set0⟩
def hd (x : T p i) : Int := x.v.getD i 0
theorem ht_ext (hv : Valid p) {x y : T p i} (h : hd x = hd y) (k : tl hv x = tl hv y) : x = y := by
  apply T.ext
  have hk : x.v.set i 0 = y.v.set i 0 := congrArg T.v k
  apply inr_ext x.inr y.inr
  intro j hj
  by_cases e : i = j
  · subst e; exact h
  · have := congrArg (fun l => l.getD j 0) hk
    simp only [getD_set_ne _ _ _ _ e] at this
    exact this
/-- The element with a head and a tail. -/
def mkT (x : T p (i + 1)) (a : Int) (h0 : 0 ≤ a) (h1 : i < p.n → a < p.o i) : T p i := ⟨x.v.set i a, x.inr.set h0 h1, (x.zu.mono (by omega)).set (Nat.le_refl _)⟩
theorem hd_mk (hi : i < p.n) (x : T p (i + 1)) (a : Int) (h0 : 0 ≤ a) (h1 : i < p.n → a < p.o i) : hd (mkT x a h0 h1) = a := getD_set_eq _ _ _ (by rw [x.inr.len]; exact hi)
theorem tl_mk (hv : Valid p) (hi : i < p.n) (x : T p (i + 1)) (a : Int) (h0 : 0 ≤ a) (h1 : i < p.n → a < p.o i) : tl hv (mkT x a h0 h1) = x := by
  apply T.ext
  show (x.v.set i a).set i 0 = x.v
  rw [set_set, ← x.zu i (by omega)]
  exact set_self (by rw [x.inr.len]; exact hi)

variable [h : Con p (i + 1)]
theorem tmul_eq (hi : i < p.n) (x y : T p i) (k : Nat) (hk : (k = 0 ∧ hd x + hd y < p.o i) ∨ (k = 1 ∧ p.o i ≤ hd x + hd y)) :
    hd (tmul h.valid x y) = hd x + hd y - k * p.o i ∧ tl h.valid (tmul h.valid x y) = pw (Tw h.valid hi) k * (rep (hd y).toNat (Timg h.valid) (tl h.valid x) * tl h.valid y) := by
  have hrep : ∀ q (u : T p (i + 1)), (rep q (Timg h.valid) u).v = rep q (img p i) u.v := by
    intro q u
    induction q with
    | zero => rfl
    | succ q ih => rw [rep_succ, rep_succ, ← ih]; rfl
  have hin := atv_in h.valid _ (i + 1) rfl _ _ (rep (hd y).toNat (Timg h.valid) (tl h.valid x)).inr (tl h.valid y).inr (rep (hd y).toNat (Timg h.valid) (tl h.valid x)).zu (tl h.valid y).zu
  rw [hrep] at hin
  have heq : (tmul h.valid x y).v = _ := atv_eq p i x.v y.v hi
  rcases hk with ⟨rfl, hk⟩ | ⟨rfl, hk⟩
  · rw [if_neg (by unfold hd at hk; omega)] at heq
    constructor
    · show (tmul h.valid x y).v.getD i 0 = _
      rw [heq]
      exact (getD_set_eq _ _ _ (Nat.lt_of_lt_of_eq hi hin.1.len.symm)).trans (by unfold hd; simp)
    · rw [pw_zero, Grp.one_mul]
      apply T.ext
      show (tmul h.valid x y).v.set i 0 = atv p (i + 1) (rep (hd y).toNat (Timg h.valid) (tl h.valid x)).v (tl h.valid y).v
      rw [heq, set_set, hrep]
      exact (congrArg (fun z => List.set _ i z) (hin.2 i (by omega)).symm).trans (set_self (Nat.lt_of_lt_of_eq hi hin.1.len.symm))
  · rw [if_pos (by unfold hd at hk; omega)] at heq
    have hW := atv_in h.valid _ (i + 1) rfl _ _ (h.valid.w_in i hi) hin.1 (h.valid.w_zu i hi) hin.2
    constructor
    · show (tmul h.valid x y).v.getD i 0 = _
      rw [heq]
      exact (getD_set_eq _ _ _ (Nat.lt_of_lt_of_eq hi hW.1.len.symm)).trans (by unfold hd; simp)
    · rw [pw_one]
      apply T.ext
      show (tmul h.valid x y).v.set i 0 = atv p (i + 1) (p.w i) (atv p (i + 1) (rep (hd y).toNat (Timg h.valid) (tl h.valid x)).v (tl h.valid y).v)
      rw [heq, set_set, hrep]
      exact (congrArg (fun z => List.set _ i z) (hW.2 i (by omega)).symm).trans (set_self (Nat.lt_of_lt_of_eq hi hW.1.len.symm))

theorem img_rep_hom {hi : i < p.n} (hc : Chk p i hi) (x y : T p (i + 1)) : ∀ q, rep q (Timg h.valid) (x * y) = rep q (Timg h.valid) x * rep q (Timg h.valid) y
  | 0 => rfl
  | q + 1 => by rw [rep_succ, img_rep_hom hc x y q, img_hom hc]; rfl
theorem img_one {hi : i < p.n} (hc : Chk p i hi) : Timg h.valid (1 : T p (i + 1)) = 1 := by
  have := img_hom hc (1 : T p (i + 1)) 1
  rw [Grp.one_mul] at this
  exact (Grp.mul_left_cancel (a := Timg h.valid 1) (by rw [Grp.mul_one]; exact this)).symm
theorem img_rep_one {hi : i < p.n} (hc : Chk p i hi) (q : Nat) : rep q (Timg h.valid) (1 : T p (i + 1)) = 1 := rep_id (img_one hc) q
theorem img_rep_w {hi : i < p.n} (hc : Chk p i hi) (q k : Nat) : rep q (Timg h.valid) (pw (Tw h.valid hi) k) = pw (Tw h.valid hi) k := by
  induction k with
  | zero => exact img_rep_one hc q
  | succ k ih => rw [pw_succ, img_rep_hom hc, ih, rep_id hc.F]

theorem hom_phi {K : Type} [Grp K] (f : T p (i + 1) → K) (hf : ∀ x y, f (x * y) = f x * f y) (c : Nat → T p (i + 1)) (x : List Int) : ∀ k l, f (phi c x l k) = phi (fun j => f (c j)) x l k := by
  have f1 : f 1 = 1 := Grp.mul_left_cancel (a := f 1) (by rw [← hf, Grp.one_mul, Grp.mul_one])
  have fp : ∀ a q, f (pw a q) = pw (f a) q := by
    intro a q
    induction q with
    | zero => exact f1
    | succ q ih => rw [pw_succ, hf, ih, pw_succ]
  intro k
  induction k with
  | zero => intro l; exact f1
  | succ k ih => intro l; rw [phi, hf, fp, ih, phi]
theorem Chk.all {hi : i < p.n} (hc : Chk p i hi) (x : T p (i + 1)) : rep (p.o i).toNat (Timg h.valid) x = cj x (Tw h.valid hi) := by
  have hx := norm_form (p := p) (i := i + 1) _ (i + 1) rfl (Nat.le_refl _) (by omega) x x.zu
  have e : (fun j => rep (p.o i).toNat (Timg h.valid) (gOf p (i + 1) j)) = fun j => cj (gOf p (i + 1) j) (Tw h.valid hi) := by
    funext j
    by_cases hj : i + 1 ≤ j ∧ j < p.n
    · have : gOf p (i + 1) j = gen h.valid (i + 1) j hj := dif_pos hj
      rw [this]; exact hc.I j hj
    · have : gOf p (i + 1) j = 1 := dif_neg hj
      rw [this, img_rep_one hc, cj_one]
  rw [hx, hom_phi (fun x => rep (p.o i).toNat (Timg h.valid) x) (fun x y => img_rep_hom hc x y _), e, ← hom_phi (fun x => cj x (Tw h.valid hi)) (fun x y => cj_mul x y _)]

/-- The level's conditions make the tail a group. -/
theorem con_step (hi : i < p.n) (hc : Chk p i hi) : Con p i where
  valid := h.valid
  assoc := by
    intro x y z
    have hx := x.inr.rng i hi
    have hy := y.inr.rng i hi
    have hz := z.inr.rng i hi
    have ex : ∀ a b : T p i, ∃ k : Nat, (k = 0 ∧ hd a + hd b < p.o i) ∨ (k = 1 ∧ p.o i ≤ hd a + hd b) := fun a b => by
      by_cases hab : p.o i ≤ hd a + hd b
      · exact ⟨1, .inr ⟨rfl, hab⟩⟩
      · exact ⟨0, .inl ⟨rfl, by omega⟩⟩
    obtain ⟨k1, hk1⟩ := ex x y
    obtain ⟨k2, hk2⟩ := ex (tmul h.valid x y) z
    obtain ⟨k3, hk3⟩ := ex y z
    obtain ⟨k4, hk4⟩ := ex x (tmul h.valid y z)
    have e1 := tmul_eq hi x y k1 hk1
    have e2 := tmul_eq hi (tmul h.valid x y) z k2 hk2
    have e3 := tmul_eq hi y z k3 hk3
    have e4 := tmul_eq hi x (tmul h.valid y z) k4 hk4
    have hd0 : hd x = x.v.getD i 0 := rfl
    have hd1 : hd y = y.v.getD i 0 := rfl
    have hd2 : hd z = z.v.getD i 0 := rfl
    have hkk : k1 + k2 = k3 + k4 := by
      rcases hk1 with ⟨rfl, a1⟩ | ⟨rfl, a1⟩ <;> rcases hk2 with ⟨rfl, a2⟩ | ⟨rfl, a2⟩ <;> rcases hk3 with ⟨rfl, a3⟩ | ⟨rfl, a3⟩ <;> rcases hk4 with ⟨rfl, a4⟩ | ⟨rfl, a4⟩ <;>
        rw [e1.1] at a2 <;> rw [e3.1] at a4 <;> omega
    apply ht_ext h.valid
    · rw [e2.1, e1.1, e4.1, e3.1]
      rcases hk1 with ⟨rfl, _⟩ | ⟨rfl, _⟩ <;> rcases hk2 with ⟨rfl, _⟩ | ⟨rfl, _⟩ <;> rcases hk3 with ⟨rfl, _⟩ | ⟨rfl, _⟩ <;> rcases hk4 with ⟨rfl, _⟩ | ⟨rfl, _⟩ <;> omega
    · rw [e2.2, e1.2, e4.2, e3.2, e3.1, img_rep_hom hc, img_rep_hom hc, img_rep_w hc, ← rep_add]
      rcases hk3 with ⟨rfl, a3⟩ | ⟨rfl, a3⟩
      · rw [show (hd y + hd z - (0 : Nat) * p.o i).toNat = (hd z).toNat + (hd y).toNat by omega, pw_zero, Grp.one_mul]
        have : k4 = k2 + k1 := by omega
        rw [this, pw_add]
        simp only [Grp.mul_assoc]
      · have hs : (hd z).toNat + (hd y).toNat = (p.o i).toNat + (hd y + hd z - (1 : Nat) * p.o i).toNat := by
          have := h.valid.opos hi; omega
        rw [hs, rep_add, hc.all, pw_one]
        generalize rep (hd y + hd z - ((1 : Nat) : Int) * p.o i).toNat (Timg h.valid) (tl h.valid x) = S
        rw [← Grp.mul_assoc (pw (Tw h.valid hi) k2), ← Grp.mul_assoc (pw (Tw h.valid hi) k2), ← pw_add]
        have : k2 + k1 = k4 + 1 := by omega
        rw [this, pw_succ, Grp.mul_assoc, Grp.mul_assoc, ← Grp.mul_assoc (Tw h.valid hi), ← Grp.mul_assoc (Tw h.valid hi), ← Grp.mul_assoc (Tw h.valid hi), mul_cj]
        simp only [Grp.mul_assoc]
  inv := by
    intro x
    have hx := x.inr.rng i hi
    have ho := h.valid.opos hi
    have hd0 : hd x = x.v.getD i 0 := rfl
    have fin : ∀ y : T p i, hd (tmul h.valid y x) = 0 → tl h.valid (tmul h.valid y x) = 1 → tmul h.valid y x = tone h.valid i := by
      intro y h1 h2
      refine ht_ext h.valid (h1.trans (zeros_getD _ _).symm) (h2.trans (T.ext ?_))
      show zeros p.n = (zeros p.n).set i 0
      have := set_self (v := zeros p.n) (i := i) (by rw [zeros_len]; exact hi)
      rw [zeros_getD] at this
      exact this.symm
    by_cases hz : hd x = 0
    · refine ⟨mkT (tl h.valid x)⁻¹ 0 (by omega) (fun _ => by omega), ?_⟩
      have e := tmul_eq hi (mkT (tl h.valid x)⁻¹ 0 (by omega) (fun _ => by omega)) x 0 (.inl ⟨rfl, by rw [hd_mk hi]; omega⟩)
      refine fin _ ?_ ?_
      · rw [e.1, hd_mk hi]; omega
      · rw [e.2, pw_zero, Grp.one_mul, tl_mk h.valid hi, hz]
        exact Grp.inv_mul _
    · let w := Tw h.valid hi
      let v := rep (p.o i - hd x).toNat (Timg h.valid) ((tl h.valid x)⁻¹ * w⁻¹)
      refine ⟨mkT v (p.o i - hd x) (by omega) (fun _ => by omega), ?_⟩
      have e := tmul_eq hi (mkT v (p.o i - hd x) (by omega) (fun _ => by omega)) x 1 (.inr ⟨rfl, by rw [hd_mk hi]; omega⟩)
      refine fin _ ?_ ?_
      · rw [e.1, hd_mk hi]; omega
      · rw [e.2, pw_one, tl_mk h.valid hi]
        show w * (rep (hd x).toNat (Timg h.valid) v * tl h.valid x) = 1
        have : rep (hd x).toNat (Timg h.valid) v = rep (p.o i).toNat (Timg h.valid) ((tl h.valid x)⁻¹ * w⁻¹) := by
          show rep _ _ (rep _ _ _) = _
          rw [← rep_add, show (hd x).toNat + (p.o i - hd x).toNat = (p.o i).toNat by omega]
        rw [this, hc.all, ← Grp.mul_assoc, mul_cj]
        rw [Grp.inv_mul_cancel_right, Grp.inv_mul]
end
theorem con_end {p : Pr} (hv : Valid p) {i : Nat} (hi : p.n ≤ i) : Con p i where
  valid := hv
  assoc := by
    intro a b c
    apply T.ext
    show atv p i _ _ = atv p i _ _
    rw [atv_end _ _ _ _ hi, atv_end _ _ _ _ hi]
  inv := fun a => ⟨a, T.ext (atv_end _ _ _ _ hi)⟩
end Go.Pc

/-
  The coordinates of products in the group of a consistent presentation.
  Conditions: the tails at all levels are groups; nothing of the program stands here.
-/
namespace Go.Pc
open Grp
/-- The tails at all levels are groups. -/
class ConAll (p : Pr) : Prop where
  con : ∀ i, Con p i
instance {p : Pr} [h : ConAll p] (i : Nat) : Con p i := h.con i
theorem ConAll.valid {p : Pr} (h : ConAll p) : Valid p := (h.con 0).valid
/-- The elements of the group. -/
abbrev El (p : Pr) := T p 0
/-- A coordinate. -/
def co {p : Pr} (x : El p) (d : Nat) : Int := x.v.getD d 0
/-- The first d coordinates are zero. -/
def Tl {p : Pr} (d : Nat) (x : El p) : Prop := ZU d x.v
theorem atv_lead {p : Pr} {i : Nat} (hi : i < p.n) {a b : List Int} (hv : Valid p) (ha : InR p a) (hb : InR p b) (za : ZU i a) (zb : ZU i b) : (atv p i a b).getD i 0 = (a.getD i 0 + b.getD i 0) % p.o i := by
  have hl := (atv_in hv _ i rfl _ _ ha hb za zb).1.len
  have ra := ha.rng i hi
  have rb := hb.rng i hi
  have e := atv_eq p i a b hi
  split at e
  · rename_i h
    rw [e] at hl ⊢
    rw [List.length_set] at hl
    rw [getD_set_eq _ _ _ (by omega)]
    rw [show a.getD i 0 + b.getD i 0 = (a.getD i 0 + b.getD i 0 - p.o i) + p.o i by omega, Int.add_emod_right, Int.emod_eq_of_lt (by omega) (by omega)]
    omega
  · rename_i h
    rw [e] at hl ⊢
    rw [List.length_set] at hl
    rw [getD_set_eq _ _ _ (by omega), Int.emod_eq_of_lt (by omega) (by omega)]
theorem atv_skip {p : Pr} {i : Nat} (hi : i < p.n) {a b : List Int} (ha : InR p a) (zb : ZU (i + 1) b) : atv p i a b = (atv p (i + 1) (a.set i 0) b).set i (a.getD i 0) := by
  have ra := ha.rng i hi
  have hb0 : b.getD i 0 = 0 := zb i (by omega)
  have hbs : b.set i 0 = b := by
    by_cases hl : i < b.length
    · have := set_self (v := b) (i := i) hl
      rw [hb0] at this; exact this
    · exact List.set_eq_of_length_le (by omega)
  rw [atv_eq _ _ _ _ hi, hb0, if_neg (by omega), hbs]
  simp [rep_zero]
theorem atv_low {p : Pr} (hv : Valid p) {d : Nat} (hd : d < p.n) : ∀ (m i : Nat), d - i = m → i ≤ d → ∀ a b, InR p a → InR p b → ZU i a → ZU d b →
    (∀ k, k < d → (atv p i a b).getD k 0 = a.getD k 0) ∧ (atv p i a b).getD d 0 = (a.getD d 0 + b.getD d 0) % p.o d
  | 0, i, hm, hid, a, b, ha, hb, za, zb => by
    obtain rfl : i = d := by omega
    refine ⟨fun k hk => ?_, atv_lead hd hv ha hb za zb⟩
    rw [za k hk, (atv_in hv _ i rfl _ _ ha hb za zb).2 k hk]
  | m + 1, i, hm, hid, a, b, ha, hb, za, zb => by
    have hi : i < p.n := by omega
    have h0 : InR p (a.set i 0) := ha.set (by omega) (fun h => by have := hv.opos h; omega)
    have ih := atv_low hv hd m (i + 1) (by omega) (by omega) (a.set i 0) b h0 hb za.set0 zb
    have hl := (atv_in hv _ (i + 1) rfl _ _ h0 hb za.set0 (zb.mono (by omega))).1.len
    rw [atv_skip hi ha (zb.mono (by omega))]
    refine ⟨fun k hk => ?_, ?_⟩
    · by_cases e : i = k
      · subst e; rw [getD_set_eq _ _ _ (by omega)]
      · rw [getD_set_ne _ _ _ _ e, ih.1 k hk, getD_set_ne _ _ _ _ e]
    · rw [getD_set_ne _ _ _ _ (by omega), ih.2, getD_set_ne _ _ _ _ (by omega)]
section
variable {p : Pr} [hc : ConAll p] {d : Nat}
theorem co_rng (x : El p) (hd : d < p.n) : 0 ≤ co x d ∧ co x d < p.o d := x.inr.rng d hd
theorem co_low (x : El p) {y : El p} (hd : d < p.n) (hy : Tl d y) {k : Nat} (hk : k < d) : co (x * y) k = co x k :=
  (atv_low hc.valid hd _ 0 rfl (Nat.zero_le _) _ _ x.inr y.inr x.zu hy).1 k hk
theorem co_at (x : El p) {y : El p} (hd : d < p.n) (hy : Tl d y) : co (x * y) d = (co x d + co y d) % p.o d :=
  (atv_low hc.valid hd _ 0 rfl (Nat.zero_le _) _ _ x.inr y.inr x.zu hy).2
theorem Tl.zero (x : El p) : Tl 0 x := x.zu
theorem Tl.mono {x : El p} {e : Nat} (h : Tl d x) (he : e ≤ d) : Tl e x := ZU.mono h he
theorem Tl.succ {x : El p} (h : Tl d x) (h0 : co x d = 0) : Tl (d + 1) x := fun k hk => by
  by_cases e : k = d
  · subst e; exact h0
  · exact h k (by omega)
theorem Tl.one (d : Nat) : Tl d (1 : El p) := zeros_zu _ _
theorem co_one (d : Nat) : co (1 : El p) d = 0 := zeros_getD _ _
theorem el_ext {x y : El p} (h : ∀ d, d < p.n → co x d = co y d) : x = y := T.ext (inr_ext x.inr y.inr h)
theorem Tl.end_ {x : El p} (h : Tl p.n x) : x = 1 := el_ext fun d hd => by rw [co_one]; exact h d hd
theorem Tl.mul {x y : El p} (hd : d ≤ p.n) (hx : Tl d x) (hy : Tl d y) : Tl d (x * y) := by
  by_cases e : d = p.n
  · subst e; rw [hy.end_, mul_one]; exact hx
  · intro k hk
    have := co_low x (by omega) hy hk
    exact this.trans (hx k hk)
theorem Tl.inv {x : El p} (hx : Tl d x) : Tl d x⁻¹ := by
  let x' : T p d := ⟨x.v, x.inr, hx⟩
  let y' : T p d := x'⁻¹
  let y : El p := ⟨y'.v, y'.inr, fun k hk => by omega⟩
  have h1 : y' * x' = 1 := inv_mul x'
  have h2 : y * x = 1 := by
    apply T.ext
    have h3 : atv p d y'.v x.v = zeros p.n := congrArg T.v h1
    show atv p 0 y'.v x.v = zeros p.n
    rw [at_restrict' hc.valid (Nat.zero_le d) y'.inr x.inr y'.zu hx, h3]
  rw [← eq_inv_of_mul h2]
  exact y'.zu
theorem Tl.pw {x : El p} (hd : d ≤ p.n) (hx : Tl d x) : ∀ k, Tl d (pw x k)
  | 0 => Tl.one d
  | k + 1 => Tl.mul hd (Tl.pw hd hx k) hx
theorem co_pw {x : El p} (hd : d < p.n) (hx : Tl d x) : ∀ k : Nat, co (pw x k) d = (k * co x d) % p.o d
  | 0 => by rw [pw_zero, co_one]; simp
  | k + 1 => by
    rw [pw_succ, co_at _ hd hx, co_pw hd hx k, Int.emod_add_emod]
    congr 1
    rw [Int.natCast_succ, Int.add_mul, Int.one_mul]
theorem co_inv {x : El p} (hd : d < p.n) (hx : Tl d x) : (co x⁻¹ d + co x d) % p.o d = 0 := by
  rw [← co_at _ hd hx, inv_mul, co_one]
theorem Tl.cm {x y : El p} (hd : d < p.n) (hx : Tl d x) (hy : Tl d y) : Tl (d + 1) (cm x y) := by
  have h1 : Tl d (x * y) := hx.mul (by omega) hy
  have h2 : Tl d (y * x) := hy.mul (by omega) hx
  rw [cm_eq]
  refine Tl.succ (Tl.mul (by omega) h2.inv h1) ?_
  rw [co_at _ hd h1, co_at _ hd hy, Int.add_comm (co x d), ← co_at _ hd hx]
  exact co_inv hd h2
theorem Tl.cj {x y : El p} (hd : d < p.n) (hx : Tl (d + 1) x) (hy : Tl d y) : Tl (d + 1) (Grp.cj x y) := by
  have h : Grp.cj x y = x * Grp.cm x y := by unfold Grp.cm; rw [mul_inv_cancel_left]
  rw [h]
  exact hx.mul (by omega) (Tl.cm hd (hx.mono (by omega)) hy)
end
end Go.Pc

/-
  Subgroups and their tables: a table whose powers and commutators reduce to the identity gives a subgroup; canonical sequences are unique.
  Conditions: the tails at all levels are groups; nothing of the program stands here.
-/
namespace Go.Pc
open Grp
/-- A subgroup, as a set. -/
structure Sub {G : Type} [Grp G] (H : G → Prop) : Prop where
  one : H 1
  mul : ∀ a b, H a → H b → H (a * b)
  inv : ∀ a, H a → H a⁻¹
/-- The subgroup that a set generates. -/
inductive Gen {G : Type} [Grp G] (S : G → Prop) : G → Prop
  | of (a : G) : S a → Gen S a
  | one : Gen S 1
  | mul (a b : G) : Gen S a → Gen S b → Gen S (a * b)
  | inv (a : G) : Gen S a → Gen S a⁻¹
theorem Gen.sub {G : Type} [Grp G] (S : G → Prop) : Sub (Gen S) := ⟨.one, fun _ _ => .mul _ _, fun _ => .inv _⟩
theorem Gen.le {G : Type} [Grp G] {S H : G → Prop} (hH : Sub H) (h : ∀ a, S a → H a) : ∀ a, Gen S a → H a := by
  intro a ha
  induction ha with
  | of a h' => exact h a h'
  | one => exact hH.one
  | mul a b _ _ ih1 ih2 => exact hH.mul _ _ ih1 ih2
  | inv a _ ih => exact hH.inv _ ih
section
variable {G : Type} [Grp G] {H : G → Prop}
theorem Sub.pw (hH : Sub H) {a : G} (h : H a) : ∀ k, H (pw a k)
  | 0 => hH.one
  | k + 1 => hH.mul _ _ (Sub.pw hH h k) h
theorem Sub.pwz (hH : Sub H) {a : G} (h : H a) (k : Int) : H (pwz a k) := by
  unfold Grp.pwz
  split
  · exact hH.pw (hH.inv _ h) _
  · exact hH.pw h _
theorem Sub.left (hH : Sub H) {a b : G} (ha : H a) : H (a * b) ↔ H b :=
  ⟨fun h => by have := hH.mul _ _ (hH.inv _ ha) h; rwa [inv_mul_cancel_left] at this, hH.mul _ _ ha⟩
theorem Sub.right (hH : Sub H) {a b : G} (hb : H b) : H (a * b) ↔ H a :=
  ⟨fun h => by have := hH.mul _ _ h (hH.inv _ hb); rwa [mul_inv_cancel_right] at this, fun h => hH.mul _ _ h hb⟩
theorem Sub.cm (hH : Sub H) {a b : G} (ha : H a) (hb : H b) : H (Grp.cm a b) := by
  rw [cm_eq]; exact hH.mul _ _ (hH.inv _ (hH.mul _ _ hb ha)) (hH.mul _ _ ha hb)
theorem cm_inv (a b : G) : (Grp.cm a b)⁻¹ = Grp.cm b a := by rw [cm_eq, cm_eq, mul_inv_rev, inv_inv]
end
section
variable {p : Pr} [hc : ConAll p]
/-- A table: for each depth at most one element, with the leading exponent 1. -/
abbrev Tab (p : Pr) := Nat → Option (El p)
structure TabOk (t : Tab p) : Prop where
  lt : ∀ d y, t d = some y → d < p.n
  tl : ∀ d y, t d = some y → Tl d y
  lead : ∀ d y, t d = some y → co y d = 1
/-- x is brought to the identity by entries of the table. -/
inductive Red (t : Tab p) : El p → Prop
  | one : Red t 1
  | right (d : Nat) (y x : El p) (k : Int) : t d = some y → Tl d x → co x d ≠ 0 → Tl (d + 1) (x * pwz y k) → Red t (x * pwz y k) → Red t x
  | left (d : Nat) (y x : El p) (k : Int) : t d = some y → Tl d x → co x d ≠ 0 → Tl (d + 1) (pwz y k * x) → Red t (pwz y k * x) → Red t x
def Ents (t : Tab p) (x : El p) : Prop := ∃ d, t d = some x
/-- t' has all entries of t. -/
def Above (t t' : Tab p) : Prop := ∀ d y, t d = some y → t' d = some y
theorem Above.refl (t : Tab p) : Above t t := fun _ _ h => h
theorem Above.trans {t t' t'' : Tab p} (h : Above t t') (h' : Above t' t'') : Above t t'' := fun d y e => h' d y (h d y e)
theorem Red.gen {t : Tab p} {x : El p} (h : Red t x) : Gen (Ents t) x := by
  induction h with
  | one => exact .one
  | right d y x k e _ _ _ _ ih => exact ((Gen.sub _).right ((Gen.sub _).pwz (.of _ ⟨d, e⟩) k)).1 ih
  | left d y x k e _ _ _ _ ih => exact ((Gen.sub _).left ((Gen.sub _).pwz (.of _ ⟨d, e⟩) k)).1 ih
theorem Red.above {t t' : Tab p} (ha : Above t t') {x : El p} (h : Red t x) : Red t' x := by
  induction h with
  | one => exact .one
  | right d y x k e h1 h2 h3 _ ih => exact .right d y x k (ha _ _ e) h1 h2 h3 ih
  | left d y x k e h1 h2 h3 _ ih => exact .left d y x k (ha _ _ e) h1 h2 h3 ih
theorem depth_le {x : El p} {d e : Nat} (h : Tl d x) (h0 : co x e ≠ 0) : d ≤ e := by
  by_cases hd : d ≤ e
  · exact hd
  · exact absurd (h e (by omega)) h0
/-- The conditions on a full table. -/
structure Full (t : Tab p) : Prop where
  ok : TabOk t
  ptop : ∀ d y, t d = some y → Red t (Grp.pw y (p.o d).toNat)
  pcm : ∀ d e y z, t d = some y → t e = some z → d < e → Red t (Grp.cm y z) ∨ Red t (Grp.cm z y)
def Nat_ (t : Tab p) (d : Nat) (x : El p) : Prop := Red t x ∧ Tl d x
variable {t : Tab p}
theorem Full.top (hf : Full t) {d : Nat} {y : El p} (h : t d = some y) : Tl (d + 1) (pw y (p.o d).toNat) := by
  have hd := hf.ok.lt d y h
  have ho := hc.valid.opos hd
  refine (Tl.pw (by omega) (hf.ok.tl d y h) _).succ ?_
  rw [co_pw hd (hf.ok.tl d y h), hf.ok.lead d y h, Int.toNat_of_nonneg (by omega)]
  simp
theorem Full.entry (hf : Full t) {d : Nat} {y : El p} (h : t d = some y) : Red t y := by
  have hd := hf.ok.lt d y h
  have ho := hc.valid.opos hd
  have e : y * pw y ((p.o d).toNat - 1) = pw y (p.o d).toNat := by
    rw [← pw_succ', show (p.o d).toNat - 1 + 1 = (p.o d).toNat by omega]
  refine .right d y y (((p.o d).toNat - 1 : Nat) : Int) h (hf.ok.tl d y h) (by rw [hf.ok.lead d y h]; omega) ?_ ?_
  · rw [pwz_nat, e]; exact hf.top h
  · rw [pwz_nat, e]; exact hf.ptop d y h
theorem Full.norm (hf : Full t) {d : Nat} (hd : d < p.n) (hs : Sub (Nat_ t (d + 1))) {y : El p} (h : t d = some y) : ∀ n, Nat_ t (d + 1) n → Nat_ t (d + 1) (cj n y) := by
  rintro n ⟨hr, ht⟩
  have hy := hf.ok.tl d y h
  have hK : Sub fun n => Nat_ t (d + 1) (cj n y) := by
    refine ⟨?_, fun a b ha hb => ?_, fun a ha => ?_⟩
    · rw [cj_one]; exact hs.one
    · rw [cj_mul]; exact hs.mul _ _ ha hb
    · rw [cj_inv]; exact hs.inv _ ha
  have hz : ∀ e z, d < e → t e = some z → Nat_ t (d + 1) (cj z y) := by
    intro e z hde hz
    have hez := hf.ok.tl e z hz
    have hN : Nat_ t (d + 1) z := ⟨hf.entry hz, hez.mono hde⟩
    have hcm : Nat_ t (d + 1) (cm z y) := by
      rcases hf.pcm d e y z h hz hde with h1 | h1
      · rw [← cm_inv]
        exact hs.inv _ ⟨h1, Tl.cm hd hy (hez.mono (by omega))⟩
      · exact ⟨h1, Tl.cm hd (hez.mono (by omega)) hy⟩
    have e1 : cj z y = z * cm z y := by unfold Grp.cm; rw [mul_inv_cancel_left]
    rw [e1]
    exact hs.mul _ _ hN hcm
  induction hr with
  | one => exact hK.one
  | right e z x k hz' h1 h2 h3 _ ih =>
    have hle := depth_le ht h2
    exact (hK.right (hK.pwz (hz e z hle hz') k)).1 (ih (h3.mono (by omega)))
  | left e z x k hz' h1 h2 h3 _ ih =>
    have hle := depth_le ht h2
    exact (hK.left (hK.pwz (hz e z hle hz') k)).1 (ih (h3.mono (by omega)))
theorem Full.norm_pw (hf : Full t) {d : Nat} (hd : d < p.n) (hs : Sub (Nat_ t (d + 1))) {y : El p} (h : t d = some y) (n : El p) (hn : Nat_ t (d + 1) n) : ∀ k, Nat_ t (d + 1) (cj n (pw y k))
  | 0 => by rw [pw_zero, cj_by_one]; exact hn
  | k + 1 => by rw [pw_succ, ← cj_cj]; exact hf.norm hd hs h _ (hf.norm_pw hd hs h n hn k)
theorem Red.inv_at {x : El p} (h : Red t x) {d : Nat} (hd : Tl d x) (h0 : co x d ≠ 0) : ∃ y k, t d = some y ∧ ((Tl (d + 1) (x * pwz y k) ∧ Red t (x * pwz y k)) ∨ (Tl (d + 1) (pwz y k * x) ∧ Red t (pwz y k * x))) := by
  cases h with
  | one => exact absurd (co_one d) h0
  | right e y x k h1 h2 h3 h4 h5 =>
    obtain rfl : d = e := Nat.le_antisymm (depth_le hd h3) (depth_le h2 h0)
    exact ⟨y, k, h1, .inl ⟨h4, h5⟩⟩
  | left e y x k h1 h2 h3 h4 h5 =>
    obtain rfl : d = e := Nat.le_antisymm (depth_le hd h3) (depth_le h2 h0)
    exact ⟨y, k, h1, .inr ⟨h4, h5⟩⟩
theorem Full.sub (hf : Full t) : ∀ m d, p.n - d = m → d ≤ p.n → Sub (Nat_ t d)
  | 0, d, hm, hd => by
    obtain rfl : d = p.n := by omega
    refine ⟨⟨.one, Tl.one _⟩, fun a b ha hb => ?_, fun a ha => ?_⟩
    · rw [hb.2.end_, mul_one]; exact ha
    · have := ha.2.end_
      subst this
      rw [inv_one]; exact ha
  | m + 1, d, hm, hd => by
    have hdn : d < p.n := by omega
    have hs := hf.sub m (d + 1) (by omega) (by omega)
    have hup : ∀ x, Nat_ t d x → co x d = 0 → Nat_ t (d + 1) x := fun x hx h0 => ⟨hx.1, hx.2.succ h0⟩
    have hdn' : ∀ x, Nat_ t (d + 1) x → Nat_ t d x := fun x hx => ⟨hx.1, hx.2.mono (by omega)⟩
    cases ht : t d with
    | none =>
      have key : ∀ x, Nat_ t d x ↔ Nat_ t (d + 1) x := by
        intro x
        refine ⟨fun hx => ?_, hdn' x⟩
        by_cases h0 : co x d = 0
        · exact hup x hx h0
        · obtain ⟨y, k, h1, _⟩ := hx.1.inv_at hx.2 h0
          rw [ht] at h1; cases h1
      refine ⟨(key _).2 hs.one, fun a b ha hb => (key _).2 (hs.mul _ _ ((key _).1 ha) ((key _).1 hb)), fun a ha => (key _).2 (hs.inv _ ((key _).1 ha))⟩
    | some y =>
      have hy := hf.ok.tl d y ht
      have ho := hc.valid.opos hdn
      have htop : Nat_ t (d + 1) (pw y (p.o d).toNat) := ⟨hf.ptop d y ht, hf.top ht⟩
      have key : ∀ x, Nat_ t d x ↔ Tl d x ∧ ∃ k, Nat_ t (d + 1) (x * pw y k) := by
        intro x
        constructor
        · intro hx
          refine ⟨hx.2, ?_⟩
          by_cases h0 : co x d = 0
          · exact ⟨0, by rw [pw_zero, mul_one]; exact hup x hx h0⟩
          · obtain ⟨y', k, h1, h2⟩ := hx.1.inv_at hx.2 h0
            obtain rfl : y = y' := by rw [ht] at h1; exact Option.some.inj h1
            obtain ⟨j, m', e1, e2⟩ := pwz_top y (p.o d).toNat (by omega) k
            rcases h2 with h2 | h2
            · refine ⟨j, ?_⟩
              rw [e1, ← mul_assoc]
              exact hs.mul _ _ ⟨h2.2, h2.1⟩ (hs.pw htop m')
            · refine ⟨j, ?_⟩
              have h3 := hs.mul _ _ (hs.pw htop m') ⟨h2.2, h2.1⟩
              rw [← mul_assoc, ← e2] at h3
              have := hf.norm_pw hdn hs ht _ h3 j
              unfold cj at this
              rwa [mul_assoc, inv_mul_cancel_left] at this
        · rintro ⟨hx, k, hk⟩
          by_cases h0 : co x d = 0
          · have hk0 : (k : Int) % p.o d = 0 := by
              have := co_at x hdn (Tl.pw (by omega) hy k)
              rw [h0, co_pw hdn hy, hf.ok.lead d y ht, Int.mul_one, Int.zero_add, Int.emod_emod] at this
              rw [← this]
              exact hk.2 d (by omega)
            obtain ⟨j, hj⟩ : ∃ j : Nat, k = (p.o d).toNat * j := by
              refine ⟨(k / (p.o d)).toNat, ?_⟩
              have h1 := Int.mul_ediv_add_emod k (p.o d)
              rw [hk0, Int.add_zero] at h1
              have h2 : (0 : Int) ≤ k / p.o d := Int.ediv_nonneg (by omega) (by omega)
              apply Int.ofNat.inj
              show (k : Int) = ((p.o d).toNat * ((k : Int) / p.o d).toNat : Nat)
              rw [Int.natCast_mul, Int.toNat_of_nonneg h2, Int.toNat_of_nonneg (by omega), h1]
            rw [hj, pw_mul] at hk
            exact hdn' x ((hs.right (hs.pw htop j)).1 hk)
          · exact ⟨.right d y x (k : Int) ht hx h0 (by rw [pwz_nat]; exact hk.2) (by rw [pwz_nat]; exact hk.1), hx⟩
      refine ⟨(key _).2 ⟨Tl.one _, 0, by rw [pw_zero, mul_one]; exact hs.one⟩, fun a b ha hb => ?_, fun a ha => ?_⟩
      · obtain ⟨ha1, k, ha2⟩ := (key _).1 ha
        obtain ⟨hb1, l, hb2⟩ := (key _).1 hb
        refine (key _).2 ⟨ha1.mul (by omega) hb1, l + k, ?_⟩
        have h := hs.mul _ _ ha2 (hf.norm_pw hdn hs ht _ hb2 k)
        unfold cj at h
        rw [mul_assoc a, mul_inv_cancel_left, mul_assoc b, ← pw_add, ← mul_assoc] at h
        exact h
      · obtain ⟨ha1, k, ha2⟩ := (key _).1 ha
        refine (key _).2 ⟨ha1.inv, k * ((p.o d).toNat - 1), ?_⟩
        have h1 := hf.norm_pw hdn hs ht _ (hs.inv _ ha2) (k * ((p.o d).toNat - 1))
        have h2 : pw y k * pw y (k * ((p.o d).toNat - 1)) = pw (pw y (p.o d).toNat) k := by
          rw [← pw_add, ← pw_mul]
          congr 1
          obtain ⟨q, hq⟩ : ∃ q, (p.o d).toNat = q + 1 := ⟨(p.o d).toNat - 1, by omega⟩
          rw [hq, Nat.add_sub_cancel, Nat.add_mul, Nat.one_mul, Nat.mul_comm k q, Nat.add_comm]
        have h3 := hs.mul _ _ (hs.pw htop k) h1
        rw [← h2] at h3
        unfold cj at h3
        rw [mul_inv_rev, mul_assoc (pw y k), mul_inv_cancel_left, mul_assoc (pw y k)⁻¹, mul_inv_cancel_left] at h3
        exact h3
/-- The subgroup of a full table. -/
theorem Full.red_iff (hf : Full t) (x : El p) : Red t x ↔ Gen (Ents t) x := by
  refine ⟨Red.gen, fun h => ?_⟩
  have hs : Sub (Nat_ t 0) := hf.sub _ 0 rfl (Nat.zero_le _)
  exact (Gen.le hs (fun a ha => by obtain ⟨d, hd⟩ := ha; exact ⟨hf.entry hd, Tl.zero _⟩) x h).1
theorem Full.some_of (hf : Full t) {x : El p} (hx : Gen (Ents t) x) {d : Nat} (hd : Tl d x) (h0 : co x d ≠ 0) : ∃ y, t d = some y := by
  obtain ⟨y, _, h, _⟩ := ((hf.red_iff x).2 hx).inv_at hd h0
  exact ⟨y, h⟩

/-! ### canonical sequences -/
/-- Some element of H has the depth d. -/
def Dep (H : El p → Prop) (d : Nat) : Prop := ∃ h, H h ∧ Tl d h ∧ co h d ≠ 0
/-- The element of the canonical sequence at a depth. -/
structure CanAt (H : El p → Prop) (d : Nat) (x : El p) : Prop where
  mem : H x
  tl : Tl d x
  lead : co x d = 1
  zero : ∀ e, Dep H e → e ≠ d → co x e = 0
/-- Two elements that differ by an element of H and are zero at all depths of H are the same (but for some depths at which they agree anyhow). -/
theorem depth_ex {h : El p} (hn : h ≠ 1) : ∃ d, d < p.n ∧ Tl d h ∧ co h d ≠ 0 := by
  have key : ∀ m d, p.n - d = m → d ≤ p.n → Tl d h → ∃ d, d < p.n ∧ Tl d h ∧ co h d ≠ 0 := by
    intro m
    induction m with
    | zero => intro d hm hd ht; exact absurd (Tl.end_ (by obtain rfl : d = p.n := by omega
                                                          exact ht)) hn
    | succ m ih =>
      intro d hm hd ht
      by_cases h0 : co h d = 0
      · exact ih (d + 1) (by omega) (by omega) (ht.succ h0)
      · exact ⟨d, by omega, ht, h0⟩
  exact key _ 0 rfl (Nat.zero_le _) (Tl.zero _)
theorem rep_unique {H : El p → Prop} (hH : Sub H) {x y : El p} (h : H (x⁻¹ * y)) (hz : ∀ d, Dep H d → co x d = co y d) : x = y := by
  by_cases e : x⁻¹ * y = 1
  · have := congrArg (x * ·) e
    simp only [mul_inv_cancel_left, mul_one] at this
    exact this.symm
  · exfalso
    obtain ⟨d, hd, h1, h2⟩ := depth_ex e
    have h3 := hz d ⟨_, h, h1, h2⟩
    have h4 := co_at x hd h1
    rw [mul_inv_cancel_left, ← h3] at h4
    have rx := co_rng x hd
    have rh := co_rng (x⁻¹ * y) hd
    by_cases hlt : co x d + co (x⁻¹ * y) d < p.o d
    · rw [Int.emod_eq_of_lt (by omega) hlt] at h4; omega
    · rw [show co x d + co (x⁻¹ * y) d = (co x d + co (x⁻¹ * y) d - p.o d) + p.o d by omega, Int.add_emod_right, Int.emod_eq_of_lt (by omega) (by omega)] at h4
      omega
theorem CanAt.unique {H : El p → Prop} (hH : Sub H) {d : Nat} {x y : El p} (hx : CanAt H d x) (hy : CanAt H d y) : x = y := by
  refine rep_unique hH (hH.mul _ _ (hH.inv _ hx.mem) hy.mem) fun e he => ?_
  by_cases hed : e = d
  · subst hed; rw [hx.lead, hy.lead]
  · rw [hx.zero e he hed, hy.zero e he hed]
end
end Go.Pc

/-
  The work loop of subgroups: a table that is filled until no element is left gives the subgroup that the first elements generate; the canonical list.
  Conditions: the tails at all levels are groups; nothing of the program stands here.
-/
namespace Go.Pc
open Grp
section
variable {p : Pr} [hc : ConAll p]
theorem CanAt.dep {H : El p → Prop} {d : Nat} {x : El p} (h : CanAt H d x) : Dep H d := ⟨x, h.mem, h.tl, by rw [h.lead]; omega⟩
open Classical in
noncomputable def canF (H : El p → Prop) (d : Nat) : Option (List Int) := if h : ∃ x, CanAt H d x then some (Classical.choose h).v else none
/-- The canonical sequence of a subgroup. -/
noncomputable def canon (H : El p → Prop) : List (List Int) := (List.range p.n).filterMap (canF H)
/-- x is brought to r by entries of the table. -/
inductive Stp (t : Tab p) : El p → El p → Prop
  | refl (x : El p) : Stp t x x
  | right (d : Nat) (y x r : El p) (k : Int) : t d = some y → Tl d x → co x d ≠ 0 → Tl (d + 1) (x * pwz y k) → Stp t (x * pwz y k) r → Stp t x r
  | left (d : Nat) (y x r : El p) (k : Int) : t d = some y → Tl d x → co x d ≠ 0 → Tl (d + 1) (pwz y k * x) → Stp t (pwz y k * x) r → Stp t x r
theorem Stp.red {t t' : Tab p} (ha : Above t t') {x r : El p} (h : Stp t x r) (hr : Red t' r) : Red t' x := by
  induction h with
  | refl x => exact hr
  | right d y x r k e h1 h2 h3 _ ih => exact .right d y x k (ha _ _ e) h1 h2 h3 (ih hr)
  | left d y x r k e h1 h2 h3 _ ih => exact .left d y x k (ha _ _ e) h1 h2 h3 (ih hr)
theorem Stp.trans {t : Tab p} {x r s : El p} (h : Stp t x r) (h' : Stp t r s) : Stp t x s := by
  induction h with
  | refl x => exact h'
  | right d y x r k e h1 h2 h3 _ ih => exact .right d y x s k e h1 h2 h3 (ih h')
  | left d y x r k e h1 h2 h3 _ ih => exact .left d y x s k e h1 h2 h3 (ih h')
theorem Stp.mem {t : Tab p} {H : El p → Prop} (hH : Sub H) (ht : ∀ d y, t d = some y → H y) {x r : El p} (h : Stp t x r) (hx : H x) : H r := by
  induction h with
  | refl x => exact hx
  | right d y x r k e _ _ _ _ ih => exact ih (hH.mul _ _ hx (hH.pwz (ht d y e) k))
  | left d y x r k e _ _ _ _ ih => exact ih (hH.mul _ _ (hH.pwz (ht d y e) k) hx)
/-- x will be brought to the identity as soon as the waiting elements are. -/
def Cov (t : Tab p) (W : El p → Prop) (x : El p) : Prop := ∃ r, (r = 1 ∨ W r) ∧ ∀ t', Above t t' → Red t' r → Red t' x
/-- The state of the work: S the elements given, t the table, W the elements that wait. -/
structure Wk (S : El p → Prop) (t : Tab p) (W : El p → Prop) : Prop where
  ok : TabOk t
  tmem : ∀ d y, t d = some y → Gen S y
  wmem : ∀ x, W x → Gen S x
  need : ∀ x, S x → Cov t W x
  top : ∀ d y, t d = some y → Cov t W (pw y (p.o d).toNat)
  pair : ∀ d e y z, t d = some y → t e = some z → d ≠ e → Cov t W (cm y z) ∨ Cov t W (cm z y)
variable {S W W' : El p → Prop} {t : Tab p}
theorem Wk.start : Wk S (fun _ => none) S where
  ok := ⟨(fun _ _ h => by cases h), (fun _ _ h => by cases h), (fun _ _ h => by cases h)⟩
  tmem _ _ h := by cases h
  wmem := .of
  need x hx := ⟨x, .inr hx, fun _ _ h => h⟩
  top _ _ h := by cases h
  pair _ _ _ _ h := by cases h
theorem Wk.congr (h : Wk S t W) (e : ∀ a, W a ↔ W' a) : Wk S t W' := by
  have : W = W' := funext fun a => propext (e a)
  rw [← this]; exact h
theorem Cov.step {t' : Tab p} (ha : Above t t') {x r a : El p} (hx : Stp t x r) (hW : ∀ a, W a → a = x ∨ W' a) (hr : r = 1 ∨ W' r) (h : Cov t W a) : Cov t' W' a := by
  obtain ⟨s, hs, hs'⟩ := h
  rcases hs with rfl | hs
  · exact ⟨1, .inl rfl, fun t2 h2 hr2 => hs' t2 (ha.trans h2) hr2⟩
  · rcases hW s hs with rfl | h3
    · exact ⟨r, hr, fun t2 h2 hr2 => hs' t2 (ha.trans h2) (hx.red (ha.trans h2) hr2)⟩
    · exact ⟨s, .inr h3, fun t2 h2 hr2 => hs' t2 (ha.trans h2) hr2⟩
theorem Wk.drop (h : Wk S t W) {x : El p} (hx : Stp t x 1) (hW : ∀ a, W a → a = x ∨ W' a) (hW' : ∀ a, W' a → W a) : Wk S t W' where
  ok := h.ok
  tmem := h.tmem
  wmem a ha := h.wmem a (hW' a ha)
  need a ha := (h.need a ha).step (Above.refl t) hx hW (.inl rfl)
  top d y e := (h.top d y e).step (Above.refl t) hx hW (.inl rfl)
  pair d e y z h1 h2 h3 := (h.pair d e y z h1 h2 h3).imp (·.step (Above.refl t) hx hW (.inl rfl)) (·.step (Above.refl t) hx hW (.inl rfl))
def Tab.set (t : Tab p) (d : Nat) (y : El p) : Tab p := fun e => if e = d then some y else t e
theorem Tab.set_above {d : Nat} {y : El p} (h : t d = none) : Above t (Tab.set t d y) := fun e z hz => by
  unfold Tab.set
  split
  · rename_i he; subst he; rw [h] at hz; cases hz
  · exact hz
theorem Wk.fill (h : Wk S t W) {x r y : El p} {d k : Nat} (hd : d < p.n) (hx : Stp t x r) (hxW : W x) (hrd : Tl d r) (hr0 : co r d ≠ 0) (ht : t d = none) (hy : y = pw r k) (hk : (k * co r d) % p.o d = 1)
    (hW : ∀ a, W a → a = x ∨ W' a) (hW' : ∀ a, W' a → W a ∨ a = r ∨ a = pw y (p.o d).toNat ∨ ∃ e z, t e = some z ∧ (a = cm y z ∨ a = cm z y))
    (h1 : W' r) (h2 : W' (pw y (p.o d).toNat)) (h3 : ∀ e z, t e = some z → W' (cm y z) ∨ W' (cm z y)) : Wk S (Tab.set t d y) W' := by
  have ha : Above t (Tab.set t d y) := Tab.set_above ht
  have hrS : Gen S r := hx.mem (Gen.sub S) h.tmem (h.wmem x hxW)
  have hyS : Gen S y := by rw [hy]; exact (Gen.sub S).pw hrS k
  have hset : ∀ e z, Tab.set t d y e = some z → (e = d ∧ z = y) ∨ (e ≠ d ∧ t e = some z) := by
    intro e z hz
    unfold Tab.set at hz
    split at hz
    · rename_i he; exact .inl ⟨he, (Option.some.inj hz).symm⟩
    · rename_i he; exact .inr ⟨he, hz⟩
  have now : ∀ a, W' a → Cov (Tab.set t d y) W' a := fun a ha' => ⟨a, .inr ha', fun _ _ h => h⟩
  constructor
  · refine ⟨fun e z hz => ?_, fun e z hz => ?_, fun e z hz => ?_⟩
    · rcases hset e z hz with ⟨rfl, rfl⟩ | ⟨_, h'⟩
      · exact hd
      · exact h.ok.lt e z h'
    · rcases hset e z hz with ⟨rfl, rfl⟩ | ⟨_, h'⟩
      · rw [hy]; exact hrd.pw (by omega) k
      · exact h.ok.tl e z h'
    · rcases hset e z hz with ⟨rfl, rfl⟩ | ⟨_, h'⟩
      · rw [hy, co_pw hd hrd]; exact hk
      · exact h.ok.lead e z h'
  · intro e z hz
    rcases hset e z hz with ⟨rfl, rfl⟩ | ⟨_, h'⟩
    · exact hyS
    · exact h.tmem e z h'
  · intro a ha'
    rcases hW' a ha' with h' | rfl | rfl | ⟨e, z, hz, rfl | rfl⟩
    · exact h.wmem a h'
    · exact hrS
    · exact (Gen.sub S).pw hyS _
    · exact (Gen.sub S).cm hyS (h.tmem e z hz)
    · exact (Gen.sub S).cm (h.tmem e z hz) hyS
  · exact fun a ha' => (h.need a ha').step ha hx hW (.inr h1)
  · intro e z hz
    rcases hset e z hz with ⟨rfl, rfl⟩ | ⟨_, h'⟩
    · exact now _ h2
    · exact (h.top e z h').step ha hx hW (.inr h1)
  · intro e f z u hz hu hne
    rcases hset e z hz with ⟨rfl, rfl⟩ | ⟨_, hz'⟩
    · rcases hset f u hu with ⟨rfl, rfl⟩ | ⟨_, hu'⟩
      · exact absurd rfl hne
      · exact (h3 f u hu').imp (now _) (now _)
    · rcases hset f u hu with ⟨rfl, rfl⟩ | ⟨_, hu'⟩
      · exact (h3 e z hz').symm.imp (now _) (now _)
      · exact (h.pair e f z u hz' hu' hne).imp (·.step ha hx hW (.inr h1)) (·.step ha hx hW (.inr h1))
theorem Cov.done {a : El p} (h : Cov t W a) (hW : ∀ a, ¬ W a) : Red t a := by
  obtain ⟨r, hr, h⟩ := h
  rcases hr with rfl | hr
  · exact h t (Above.refl t) .one
  · exact absurd hr (hW r)
theorem Wk.full (h : Wk S t W) (hW : ∀ a, ¬ W a) : Full t where
  ok := h.ok
  ptop d y e := (h.top d y e).done hW
  pcm d e y z h1 h2 h3 := (h.pair d e y z h1 h2 (by omega)).imp (·.done hW) (·.done hW)
theorem Wk.gen (h : Wk S t W) (hW : ∀ a, ¬ W a) : Gen (Ents t) = Gen S := by
  funext a
  apply propext
  constructor
  · exact Gen.le (Gen.sub S) (fun a ⟨d, hd⟩ => h.tmem d a hd) a
  · exact Gen.le (Gen.sub _) (fun a ha => ((h.need a ha).done hW).gen) a
end
end Go.Pc

/-
  Inverses in the tails: the inverse of an element out of the inverses in the next tail.
  Conditions: the tails at the level and behind it are groups; nothing of the program stands here.
-/
namespace Go.Pc
open Grp
section
variable {p : Pr} {i : Nat} [h : Con p i] [h' : Con p (i + 1)]
/-- An element of the next tail in this one. -/
def up (x : T p (i + 1)) : T p i := ⟨x.v, x.inr, ZU.mono x.zu (by omega)⟩
end
end Go.Pc
