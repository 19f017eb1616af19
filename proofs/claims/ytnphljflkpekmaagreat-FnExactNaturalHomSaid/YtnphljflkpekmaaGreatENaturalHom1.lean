/-
  Texts of one proof, put together by program: Hom, Grow2, HomV, Tri, Bld, Of3, SpqS, Hoa, Lif, W33, W38, W39, Dal, W40, W43, W44, I35, I40, I41, I42, I45, I46, L07, Ser2, L06, L08, L09.
  Conditions: those told at each part.
-/
import Derived.Test.YtnphljflkpekmaaGreatB5
import Derived.Deep.MidRow
set_option linter.unusedVariables false
set_option linter.unusedSimpArgs false
set_option linter.unusedSectionVars false
set_option linter.constructorNameAsVariable false
set_option linter.unnecessarySimpa false
set_option linter.deprecated false
/-
  Homomorphisms by images: what the tests ask for.
  Conditions: none.
-/
namespace Go.Proofs.YtnphljflkpekmaaGreat
open Go Go.Pc
/-- The image. -/
def HiV (q : Pr) (xss r : List (List Int)) (e : Int) : Prop := (∃ (_ : ConAll q) (ys : List (El q)), xss = vecs ys ∧ r = canon (Gen (fun a : El q => a ∈ ys))) ∧ e = 0
theorem HiV.uniq {q : Pr} {xss : List (List Int)} (a b : List (List Int)) (c d : Int) (h : HiV q xss a c) (k : HiV q xss b d) : a = b ∧ c = d := by
  obtain ⟨⟨hc, ys, h2, h3⟩, h5⟩ := h
  obtain ⟨⟨hc', ys', k2, k3⟩, k5⟩ := k
  obtain rfl := vecs_inj (h2.symm.trans k2)
  exact ⟨by rw [h3, k3], by rw [h5, k5]⟩
/-- The image of a subgroup. -/
def SiV (p q : Pr) (xss uss r : List (List Int)) (e : Int) : Prop := (∃ (_ : ConAll p) (_ : ConAll q) (ys : List (El q)) (zs : List (El p)), xss = vecs ys ∧ uss = vecs zs ∧ r = canon (Gen (fun a : El q => a ∈ zs.map fun z => imgE ys z.v))) ∧ e = 0
theorem SiV.uniq {p q : Pr} {xss uss : List (List Int)} (a b : List (List Int)) (c d : Int) (h : SiV p q xss uss a c) (k : SiV p q xss uss b d) : a = b ∧ c = d := by
  obtain ⟨⟨hc, _, ys, zs, h2, h3, h4⟩, h5⟩ := h
  obtain ⟨⟨hc', _, ys', zs', k2, k3, k4⟩, k5⟩ := k
  obtain rfl := vecs_inj (h2.symm.trans k2)
  obtain rfl := vecs_inj (h3.symm.trans k3)
  exact ⟨by rw [h4, k4], by rw [h5, k5]⟩
/-- The least element that is mapped to an element. -/
def PeV (p q : Pr) (xss : List (List Int)) (xs r : List Int) (e : Int) : Prop := ∃ (_ : ConAll p) (_ : ConAll q) (ys : List (El q)), xss = vecs ys ∧
  (((∀ j, j < ordN p → (imgE ys (allE p j).v).v ≠ xs) ∧ r = [] ∧ e = 4) ∨ (∃ k, k < ordN p ∧ (imgE ys (allE p k).v).v = xs ∧ (∀ j, j < k → (imgE ys (allE p j).v).v ≠ xs) ∧ r = (allE p k).v ∧ e = 0))
theorem PeV.uniq {p q : Pr} {xss : List (List Int)} {xs : List Int} (a b : List Int) (c d : Int) (h : PeV p q xss xs a c) (k : PeV p q xss xs b d) : a = b ∧ c = d := by
  obtain ⟨hc, _, ys, h2, h4⟩ := h
  obtain ⟨hc', _, ys', k2, k4⟩ := k
  obtain rfl := vecs_inj (h2.symm.trans k2)
  rcases h4 with ⟨h5, rfl, rfl⟩ | ⟨i, hi, h6, h7, rfl, rfl⟩ <;> rcases k4 with ⟨k5, rfl, rfl⟩ | ⟨j, hj, k6, k7, rfl, rfl⟩
  · exact ⟨rfl, rfl⟩
  · exact absurd k6 (h5 j hj)
  · exact absurd h6 (k5 i hi)
  · rcases Nat.lt_trichotomy i j with e | e | e
    · exact absurd h6 (k7 i e)
    · subst e; exact ⟨rfl, rfl⟩
    · exact absurd k6 (h7 j e)
end Go.Proofs.YtnphljflkpekmaaGreat

/-
  Lists of lists of rows that grow by one list at a time: 'out = append(out, list)'.
  Conditions: none; nothing of the program stands here.
-/
namespace Go.Pc
open Go Go.RowKit
/-- Rows that lie apart from some blocks. -/
def RsA (s : Nat) (av : Nat → Prop) (w : World) (v : Value) (us : List Value) (xss : List (List Int)) : Prop := ∃ lo hi, Rows lo hi w v us xss ∧ s ≤ lo ∧ hi ≤ w.heap.size ∧ ∀ g, av g → g < lo ∨ hi ≤ g
structure GrowV (e sb s : Nat) (w : World) (v : Value) (us : List Value) (uss : List (List Value)) (xsss : List (List (List Int))) : Prop where
  own : OwnN e sb w v us
  len : us.length = xsss.length
  len' : uss.length = xsss.length
  at_ : ∀ i, i < us.length → RsA s (fun g => v.ownBlock = some g) w (us.getD i nilv) (uss.getD i []) (xsss.getD i [])
/-- The rows of the lists are the call's own. -/
structure OwnC (s : Nat) (w : World) (v : Value) (gs : List (Value × List (Value × List Int))) : Prop where
  own : RowsO s w (flat gs)
  off : ∀ b, v.ownBlock = some b → ¬ BlkOf (flat gs) b
  sp : ∀ q, q ∈ gs → SpA (fun b => BlkOf (flat gs) b ∨ b < s ∨ v.ownBlock = some b) w q.1 (q.2.map (·.1))
section
variable {av av' : Nat → Prop} {e sb s lo hi : Nat} {w w' w0 w1 w2 w3 : World} {v v' u : Value} {us ut : List Value} {uss : List (List Value)} {xss : List (List Int)} {xsss : List (List (List Int))} {rs : List (Value × List Int)} {gs : List (Value × List (Value × List Int))}
theorem RsA.ext (h : RsA s av w v us xss) (x : Ext w w') : RsA s av w' v us xss := by
  obtain ⟨lo, hi, h1, h2, h3, h4⟩ := h
  exact ⟨lo, hi, h1.same (x.same _ _), h2, Nat.le_trans h3 x.size, h4⟩
theorem RsA.beside {ob : Option Nat} (h : RsA s av w v us xss) (hg : w.grownBy w' ob) (hob : ∀ g, ob = some g → av g) (ha : ∀ g, av' g → av g ∨ g = w.heap.size) : RsA s av' w' v us xss := by
  obtain ⟨lo, hi, h1, h2, h3, h4⟩ := h
  refine ⟨lo, hi, h1.same ((Wrt.grown hg).same fun b hb => h4 b (hob b hb)), h2, Nat.le_trans h3 hg.size, fun g hg' => ?_⟩
  rcases ha g hg' with h | h
  · exact h4 g h
  · omega
theorem rows_nilv (lo : Nat) (w : World) : Rows lo lo w nilv [] [] :=
  ⟨⟨⟨none, 0, rfl, Nat.le_refl _, by omega, fun k u hu => by simp at hu⟩⟩, rfl, fun i => ⟨⟨none, 0, by simp, by simp, by omega, fun k u hu => by simp at hu⟩⟩⟩
theorem GrowV.ext (h : GrowV e sb s w v us uss xsss) (x : Ext w w') : GrowV e sb s w' v us uss xsss := ⟨@OwnN.ext _ _ _ _ _ _ x h.own, h.len, h.len', fun i hi => (h.at_ i hi).ext x⟩
theorem GrowV.rowss (h : GrowV e sb s w v us uss xsss) (hsb : s ≤ sb) (hs : s ≤ w.heap.size) : Rowss s w.heap.size w v us uss xsss := by
  refine ⟨h.own.toSl.mono hsb (Nat.le_refl _), h.len, h.len', fun i => ?_⟩
  by_cases hi : i < us.length
  · obtain ⟨lo, hi', h1, h2, h3, _⟩ := h.at_ i hi
    exact h1.mono h2 h3
  · have h1 := h.len
    have h2 := h.len'
    have e1 : us.getD i nilv = nilv := by rw [List.getD_eq_getElem?_getD, List.getElem?_eq_none (by omega)]; rfl
    have e2 : uss.getD i [] = [] := by rw [List.getD_eq_getElem?_getD, List.getElem?_eq_none (by omega)]; rfl
    have e3 : xsss.getD i [] = [] := by rw [List.getD_eq_getElem?_getD, List.getElem?_eq_none (by omega)]; rfl
    rw [e1, e2, e3]
    exact (rows_nilv s w).mono (Nat.le_refl _) hs
theorem GrowV.one {b : Nat} (ho : Own e b w2 v [u]) (hb : b = w1.heap.size) (hsb : sb ≤ b) (hu : Rows s w1.heap.size w1 u ut xss) (hs : s ≤ w1.heap.size) (x : Ext w1 w2) : GrowV e sb s w2 v [u] [ut] [xss] := by
  have h1 := x.size
  refine ⟨ho.toN.mono (by omega), rfl, rfl, fun i hi => ?_⟩
  obtain rfl : i = 0 := by simpa using hi
  refine ⟨s, w1.heap.size, hu.same (x.same _ _), Nat.le_refl _, h1, fun g hg => ?_⟩
  rw [ho.toN_block] at hg; injection hg with hg; omega
theorem GrowV.push (h : GrowV e sb s w0 v us uss xsss) (x01 : Ext w0 w1) (hu : Rows w0.heap.size w1.heap.size w1 u ut xss) (hs : s ≤ w0.heap.size) (x12 : Ext w1 w2)
    (ho : OwnN e sb w3 v' (us ++ [u])) (hg : w2.grownBy w3 v.ownBlock) (hv : v'.ownBlock = v.ownBlock ∨ v'.ownBlock = some w2.heap.size) : GrowV e sb s w3 v' (us ++ [u]) (uss ++ [ut]) (xsss ++ [xss]) := by
  have h1 := h.len
  have h2 := h.len'
  have hav : ∀ g, v'.ownBlock = some g → v.ownBlock = some g ∨ g = w2.heap.size := fun g hg' => by
    rcases hv with e | e
    · rw [e] at hg'; exact .inl hg'
    · rw [e] at hg'; injection hg' with hg'; exact .inr hg'.symm
  refine ⟨ho, by simp [h1], by simp [h2], fun i hi => ?_⟩
  by_cases hi2 : i < us.length
  · have e1 : (us ++ [u]).getD i nilv = us.getD i nilv := by simp [List.getElem?_append_left hi2]
    have e2 : (uss ++ [ut]).getD i [] = uss.getD i [] := by simp [List.getElem?_append_left (show i < uss.length by omega)]
    have e3 : (xsss ++ [xss]).getD i [] = xsss.getD i [] := by simp [List.getElem?_append_left (show i < xsss.length by omega)]
    rw [e1, e2, e3]
    exact ((h.at_ i hi2).ext (x01.trans x12)).beside hg (fun g e => e) hav
  · have hi3 : i = us.length := by simp at hi; omega
    have e1 : (us ++ [u]).getD i nilv = u := by rw [hi3]; simp
    have e2 : (uss ++ [ut]).getD i [] = ut := by rw [show i = uss.length by omega]; simp
    have e3 : (xsss ++ [xss]).getD i [] = xss := by rw [show i = xsss.length by omega]; simp
    rw [e1, e2, e3]
    have hr : RsA s (fun g => v.ownBlock = some g) w2 u ut xss := ⟨w0.heap.size, w1.heap.size, hu.same (x12.same _ _), hs, x12.size, fun g hg' => .inl (h.own.lt g hg').2⟩
    exact hr.beside hg (fun g e => e) hav
theorem OwnC.ext (h : OwnC s w v gs) (x : Ext w w') (hb : ∀ b, v.ownBlock = some b → b < w.heap.size) : OwnC s w' v gs :=
  ⟨h.own.ext x, h.off, fun q hq => (h.sp q hq).grow x fun b hb => .inl hb⟩
theorem OwnC.one {b : Nat} (ho : Own e b w2 v [u]) (hb : b = w1.heap.size) (hM : MatO s w1.heap.size w1 u rs) (hs : s ≤ w1.heap.size) (x : Ext w1 w2) : OwnC s w2 v [(u, rs)] := by
  have hvb := ho.toN_block
  have hf : flat [(u, rs)] = rs := flat_one _
  refine ⟨by rw [hf]; exact hM.own.ext x, fun b' hb' hB => ?_, fun q hq => ?_⟩
  · rw [hf] at hB
    rw [hvb] at hb'; injection hb' with hb'
    have := hM.lt _ hB
    omega
  · obtain rfl := List.mem_singleton.1 hq
    rw [hf]
    refine SpA.grow hM.sp x fun g hg => ?_
    rcases hg with hg | hg | hg
    · exact .inl (.inl hg)
    · exact .inl (.inr hg)
    · rw [hvb] at hg; injection hg with hg; exact .inr (by omega)
theorem OwnC.push (h : OwnC s w0 v gs) (hvl : ∀ b, v.ownBlock = some b → b < w0.heap.size) (x01 : Ext w0 w1) (hM : MatO w0.heap.size w1.heap.size w1 u rs) (hs : s ≤ w0.heap.size) (x12 : Ext w1 w2)
    (hg : w2.grownBy w3 v.ownBlock) (hv : v'.ownBlock = v.ownBlock ∨ v'.ownBlock = some w2.heap.size) : OwnC s w3 v' (gs ++ [(u, rs)]) := by
  have hz1 := x01.size
  have hz2 := x12.size
  have hf : flat (gs ++ [(u, rs)]) = flat gs ++ rs := by rw [flat_append, flat_one]
  have hav : ∀ g, v'.ownBlock = some g → v.ownBlock = some g ∨ g = w2.heap.size := fun g hg' => by
    rcases hv with e | e
    · rw [e] at hg'; exact .inl hg'
    · rw [e] at hg'; injection hg' with hg'; exact .inr hg'.symm
  have hoff : ∀ b, v.ownBlock = some b → ¬ BlkOf (flat gs ++ rs) b := fun b hb hB => by
    rcases blkOf_append'.1 hB with hB | hB
    · exact h.off b hb hB
    · have h1 := (hM.own.blk hB).1
      have h2 := hvl b hb
      omega
  have hO := (h.own.append x01 hs hM.own).ext x12
  refine ⟨?_, fun b hb hB => ?_, fun q hq => ?_⟩
  · rw [hf]
    exact hO.wr (Wrt.grown hg) fun b hb hB => hoff b hB hb
  · rw [hf] at hB
    rcases hav b hb with hb | hb
    · exact hoff b hb hB
    · rcases blkOf_append'.1 hB with hB | hB
      · have := (h.own.blk hB).2; omega
      · have := hM.lt b hB; omega
  · rw [hf]
    have key : SpA (fun b => BlkOf (flat gs ++ rs) b ∨ b < s ∨ v.ownBlock = some b ∨ b = w2.heap.size) w2 q.1 (q.2.map (·.1)) := by
      rcases List.mem_append.1 hq with hq | hq
      · refine SpA.grow (h.sp q hq) (x01.trans x12) fun b hb => ?_
        rcases hb with hb | hb | hb | hb
        · rcases blkOf_append'.1 hb with hb | hb
          · exact .inl (.inl hb)
          · exact .inr (hM.own.blk hb).1
        · exact .inl (.inr (.inl hb))
        · exact .inl (.inr (.inr hb))
        · exact .inr (by omega)
      · obtain rfl := List.mem_singleton.1 hq
        refine SpA.grow hM.sp x12 fun b hb => ?_
        rcases hb with hb | hb | hb | hb
        · rcases blkOf_append'.1 hb with hb | hb
          · exact .inl (.inr (h.own.blk hb).2)
          · exact .inl (.inl hb)
        · exact .inl (.inr (by omega))
        · exact .inl (.inr (hvl b hb))
        · exact .inr (by omega)
    refine (key.wr (Wrt.grown hg) fun b hb => .inr (.inr (.inl hb))).weak fun b hb => ?_
    rcases hb with hb | hb | hb
    · exact .inl hb
    · exact .inr (.inl hb)
    · rcases hav b hb with hb | hb
      · exact .inr (.inr (.inl hb))
      · exact .inr (.inr (.inr hb))
theorem OwnC.cub (h : OwnC s w v gs) (ho : OwnN e sb w v (gs.map (·.1))) (hsb : s ≤ sb) : CubO (fun b => BlkOf (flat gs) b ∨ b < s) w v gs := by
  refine ⟨?_, fun q hq => (h.sp q hq).weak fun b hb => hb.imp id .inl⟩
  cases hv : v.ownBlock with
  | none =>
    rcases ho.own.2 with ⟨rfl, h0⟩ | ⟨g, cap, cur, rfl, _⟩
    · have e0 : gs.map (·.1) = [] := List.eq_nil_of_length_eq_zero h0
      rw [e0]
      exact ⟨0, 0, ⟨⟨none, 0, rfl, Nat.le_refl _, by omega, fun k u hu => by simp at hu⟩⟩, fun b _ => .inr (Nat.zero_le _)⟩
    · cases hv
  | some k =>
    have hk := ho.lt k hv
    refine ⟨k, k + 1, ho.toSlAt hv, fun b hb => ?_⟩
    rcases hb with hb | hb
    · have : b ≠ k := fun e => h.off k hv (e ▸ hb)
      omega
    · omega
end
/-- A list of lists of rows that is the call's own, in blocks from s on, below t. -/
structure MatC (s t : Nat) (w : World) (v : Value) (gs : List (Value × List (Value × List Int))) : Prop where
  rows : Rowss s t w v (gs.map (·.1)) (gs.map fun q => q.2.map (·.1)) (gs.map fun q => q.2.map (·.2))
  own : RowsO s w (flat gs)
  lt : ∀ b, BlkOf (flat gs) b → b < t
  cub : CubO (fun b => BlkOf (flat gs) b ∨ b < s) w v gs
section
variable {e sb s s' t : Nat} {B : Nat → Prop} {w w' : World} {v : Value} {gs : List (Value × List (Value × List Int))}
theorem MatC.of (h : OwnC s w v gs) (hG : GrowV e sb s w v (gs.map (·.1)) (gs.map fun q => q.2.map (·.1)) (gs.map fun q => q.2.map (·.2))) (hsb : s ≤ sb) (hs : s ≤ w.heap.size) : MatC s w.heap.size w v gs :=
  ⟨hG.rowss hsb hs, h.own, fun b hb => (h.own.blk hb).2, h.cub hG.own hsb⟩
theorem MatC.lower (h : MatC s t w v gs) (hs : s' ≤ s) : MatC s' t w v gs :=
  ⟨⟨h.rows.sl.mono hs (Nat.le_refl _), h.rows.vals.len, h.rows.vals.len', fun i => (h.rows.vals.at_ i).mono hs (Nat.le_refl _)⟩, h.own.mono hs, h.lt,
    ⟨h.cub.sp0.weak fun b hb => hb.imp id fun hb => by omega, fun q hq => (h.cub.sp q hq).weak fun b hb => hb.imp id fun hb => by omega⟩⟩
theorem MatC.wr (h : MatC s t w v gs) (k : Wrt B w w') (hb : ∀ b, B b → b < s ∨ t ≤ b) : MatC s t w' v gs := by
  refine ⟨h.rows.same (k.same hb), h.own.wr k (fun b hR hB => by
    have h1 := h.lt b hR
    have h2 := (h.own.blk hR).1
    have := hb b hB; omega), h.lt, ⟨h.cub.sp0.wr' k h.rows.sl hb, fun q hq => ?_⟩⟩
  obtain ⟨i, hi, rfl⟩ := List.getElem_of_mem hq
  have h1 := (h.rows.vals.at_ i).sl
  have e1 : (gs.map (·.1)).getD i nilv = gs[i].1 := by simp [hi]
  have e2 : (gs.map fun q => q.2.map (·.1)).getD i [] = gs[i].2.map (·.1) := by simp [hi]
  rw [e1, e2] at h1
  exact (h.cub.sp _ hq).wr' k h1 hb
theorem MatC.nilR (s t : Nat) (w : World) (hst : s ≤ t) : MatC s t w nilv [] := by
  refine ⟨⟨⟨⟨none, 0, rfl, Nat.le_refl _, by omega, fun k u hu => by simp at hu⟩⟩, rfl, rfl, fun i => (rows_nilv s w).mono (Nat.le_refl _) hst⟩, RowsO.nil _ _, fun b hb => ?_, ⟨⟨0, 0, ⟨⟨none, 0, rfl, Nat.le_refl _, by omega, fun k u hu => by simp at hu⟩⟩, fun b _ => .inr (Nat.zero_le _)⟩, fun q hq => (by cases hq)⟩⟩
  obtain ⟨r, hr, _⟩ := hb
  cases hr
end
section
variable {P : Program} {N : Nat} {ops : Array Oper} {K : Env → World → Prop} {ρ : Env} {w0 w1 : World} {l : List Oper}
variable {ty ty2 : TypeId} {pos pos2 : String} {after after2 : Array Edge} {g g2 : Option (Nat × Bool)} {d d2 : Nat}
end
end Go.Pc

/-
  A homomorphism's value, and one of the call's own; stores into a part of a block.
  Conditions: none; nothing of the program stands here.
-/
namespace Go.Pc
open Go Go.RowKit
class HomV (lo hi : outParam Nat) (w : World) (v : Value) (p q : outParam Pr) (xss : outParam (List (List Int))) : Prop where
  ex : ∃ a0 a1 a2 a3 a4 a5 a6 us, v = .agg #[a0, a1, a2, a3, a4, a5, a6] ∧ Pres lo hi w (.agg #[a0, a1, a2]) p ∧ Pres lo hi w (.agg #[a3, a4, a5]) q ∧ Rows lo hi w a6 us xss
structure HomO (s t : Nat) (w : World) (v : Value) (p q : Pr) (rs : List (Value × List Int)) : Prop where
  ex : ∃ a0 a1 a2 a3 a4 a5 a6 m0 m1 m2 m3, v = .agg #[a0, a1, a2, a3, a4, a5, a6] ∧ s ≤ m0 ∧ m0 ≤ m1 ∧ m1 ≤ m2 ∧ m2 ≤ m3 ∧ m3 ≤ t ∧ PresO m0 m1 w (.agg #[a0, a1, a2]) p ∧ PresO m1 m2 w (.agg #[a3, a4, a5]) q ∧ MatO m2 m3 w a6 rs
section
variable {lo hi lo' hi' s t b : Nat} {w w' : World} {v : Value} {p q : Pr} {xss : List (List Int)} {rs : List (Value × List Int)} {B : Nat → Prop}
theorem Pres.mono (h : Pres lo hi w v p) (h1 : lo' ≤ lo) (h2 : hi ≤ hi') : Pres lo' hi' w v p := by
  obtain ⟨vo, vp, vc, ps, cs, css, rfl, k1, k2, k3⟩ := h.ex
  exact ⟨⟨vo, vp, vc, ps, cs, css, rfl, k1.mono h1 h2, k2.mono h1 h2, ⟨k3.sl.mono h1 h2, k3.vals.len, k3.vals.len', fun i => (k3.vals.at_ i).mono h1 h2⟩⟩⟩
theorem Pres.one3 {a0 a1 a2 : Value} (h : Pres lo hi w (.agg #[a0, a1, a2]) p) : a0.oneCell' = true ∧ a1.oneCell' = true ∧ a2.oneCell' = true := by
  obtain ⟨vo, vp, vc, ps, cs, css, e, h1, h2, h3⟩ := h.ex
  injection e with e
  have e0 : a0 = vo := by have := congrArg (fun a : Array Value => a.getD 0 undef) e; simpa using this
  have e1 : a1 = vp := by have := congrArg (fun a : Array Value => a.getD 1 undef) e; simpa using this
  have e2 : a2 = vc := by have := congrArg (fun a : Array Value => a.getD 2 undef) e; simpa using this
  subst e0 e1 e2
  exact ⟨h1.sl.one, h2.sl.one, h3.sl.one⟩
theorem HomV.same (h : HomV lo hi w v p q xss) (k : Same lo hi w w') : HomV lo hi w' v p q xss := by
  obtain ⟨a0, a1, a2, a3, a4, a5, a6, us, rfl, h1, h2, h3⟩ := h.ex
  exact ⟨⟨a0, a1, a2, a3, a4, a5, a6, us, rfl, h1.same k, h2.same k, h3.same k⟩⟩
theorem HomV.wide (h : HomV lo hi w v p q xss) : HomV 0 w.heap.size w v p q xss := by
  obtain ⟨a0, a1, a2, a3, a4, a5, a6, us, rfl, h1, h2, h3⟩ := h.ex
  exact ⟨⟨a0, a1, a2, a3, a4, a5, a6, us, rfl, h1.wide, h2.wide, h3.wide⟩⟩
instance (priority := low) HomV.ext [x : Ext w w'] [h : HomV lo hi w v p q xss] : HomV lo hi w' v p q xss := h.same (x.same _ _)
instance (priority := low) HomV.chg [c : Chg b w w'] [h : HomV lo hi w v p q xss] [a : Apart lo hi b] : HomV lo hi w' v p q xss := h.same (c.same a.out)
theorem HomO.hom (h : HomO s t w v p q rs) : HomV s t w v p q (rs.map (·.2)) := by
  obtain ⟨a0, a1, a2, a3, a4, a5, a6, m0, m1, m2, m3, rfl, l0, l1, l2, l3, l4, h1, h2, h3⟩ := h.ex
  exact ⟨⟨a0, a1, a2, a3, a4, a5, a6, _, rfl, h1.pres.mono (by omega) (by omega), h2.pres.mono (by omega) (by omega), h3.rows.mono (by omega) (by omega)⟩⟩
theorem HomO.wr (h : HomO s t w v p q rs) (k : Wrt B w w') (hb : ∀ b, B b → b < s ∨ t ≤ b) : HomO s t w' v p q rs := by
  obtain ⟨a0, a1, a2, a3, a4, a5, a6, m0, m1, m2, m3, rfl, l0, l1, l2, l3, l4, h1, h2, h3⟩ := h.ex
  exact ⟨a0, a1, a2, a3, a4, a5, a6, m0, m1, m2, m3, rfl, l0, l1, l2, l3, l4, h1.wr k (fun b h => by have := hb b h; omega), h2.wr k (fun b h => by have := hb b h; omega), h3.wr k (fun b h => by have := hb b h; omega)⟩
theorem Blk.cells7 {a0 a1 a2 a3 a4 a5 a6 : Value} (h : Blk w b [a0, a1, a2, a3, a4, a5, a6]) : Cell w b 0 a0 ∧ Cell w b 1 a1 ∧ Cell w b 2 a2 ∧ Cell w b 3 a3 ∧ Cell w b 4 a4 ∧ Cell w b 5 a5 ∧ Cell w b 6 a6 :=
  ⟨h.cell rfl, h.cell rfl, h.cell rfl, h.cell rfl, h.cell rfl, h.cell rfl, h.cell rfl⟩
end
section
variable {P : Program} {N : Nat} {ops : Array Oper} {K : Env → World → Prop} {l : List Oper} {ρ : Env} {w : World} {ty : TypeId} {pos : String} {after : Array Edge} {g : Option (Nat × Bool)}
end
section
variable {P : Program} {N : Nat} {ops : Array Oper} {ρ : Env} {w w0 : World}
end
section
variable {lo hi b : Nat} {w w' : World} {v : Value} {p q : Pr} {xss : List (List Int)}
theorem Pres.ints3 {a0 a1 a2 : Value} (h : Pres lo hi w (.agg #[a0, a1, a2]) p) : Ints lo hi w a0 p.ord ∧ ∃ ps cs css, Rows lo hi w a1 ps p.pow ∧ Rowss lo hi w a2 cs css p.cnj := by
  obtain ⟨vo, vp, vc, ps, cs, css, e, h1, h2, h3⟩ := h.ex
  injection e with e
  have e0 : a0 = vo := by have := congrArg (fun a : Array Value => a.getD 0 undef) e; simpa using this
  have e1 : a1 = vp := by have := congrArg (fun a : Array Value => a.getD 1 undef) e; simpa using this
  have e2 : a2 = vc := by have := congrArg (fun a : Array Value => a.getD 2 undef) e; simpa using this
  subst e0 e1 e2
  exact ⟨h1, ps, cs, css, h2, h3⟩
/-- A block that holds a homomorphism. -/
class HomB (w : World) (b : Nat) (p q : outParam Pr) (xss : outParam (List (List Int))) : Prop where
  ex : ∃ a0 a1 a2 a3 a4 a5 a6 us, Cell w b 0 a0 ∧ Cell w b 1 a1 ∧ Cell w b 2 a2 ∧ Cell w b 3 a3 ∧ Cell w b 4 a4 ∧ Cell w b 5 a5 ∧ Cell w b 6 a6 ∧ Pres 0 w.heap.size w (.agg #[a0, a1, a2]) p ∧ Pres 0 w.heap.size w (.agg #[a3, a4, a5]) q ∧ Rows 0 w.heap.size w a6 us xss
theorem HomB.ext' (h : HomB w b p q xss) (x : Ext w w') : HomB w' b p q xss := by
  obtain ⟨a0, a1, a2, a3, a4, a5, a6, us, c0, c1, c2, c3, c4, c5, c6, hp, hq, hx⟩ := h.ex
  exact ⟨⟨a0, a1, a2, a3, a4, a5, a6, us, c0.same (x.same _ _) x.size, c1.same (x.same _ _) x.size, c2.same (x.same _ _) x.size, c3.same (x.same _ _) x.size, c4.same (x.same _ _) x.size, c5.same (x.same _ _) x.size, c6.same (x.same _ _) x.size,
    (hp.same (x.same _ _)).wide, (hq.same (x.same _ _)).wide, (hx.same (x.same _ _)).wide⟩⟩
instance (priority := low) HomB.ext [x : Ext w w'] [h : HomB w b p q xss] : HomB w' b p q xss := h.ext' x
/-- The block that a homomorphism given by value is put into. -/
theorem HomV.boxed {a0 a1 a2 a3 a4 a5 a6 : Value} (h : HomV lo hi w (.agg #[a0, a1, a2, a3, a4, a5, a6]) p q xss) (x : Ext w w') (hb : Blk w' b [a0, a1, a2, a3, a4, a5, a6]) : HomB w' b p q xss := by
  obtain ⟨d0, d1, d2, d3, d4, d5, d6, us, e, hp, hq, hx⟩ := h.ex
  injection e with e
  have f : ∀ i, (#[a0, a1, a2, a3, a4, a5, a6] : Array Value).getD i undef = (#[d0, d1, d2, d3, d4, d5, d6] : Array Value).getD i undef := fun i => by rw [e]
  obtain rfl : a0 = d0 := by simpa using f 0
  obtain rfl : a1 = d1 := by simpa using f 1
  obtain rfl : a2 = d2 := by simpa using f 2
  obtain rfl : a3 = d3 := by simpa using f 3
  obtain rfl : a4 = d4 := by simpa using f 4
  obtain rfl : a5 = d5 := by simpa using f 5
  obtain rfl : a6 = d6 := by simpa using f 6
  obtain ⟨c0, c1, c2, c3, c4, c5, c6⟩ := hb.cells7
  exact ⟨⟨_, _, _, _, _, _, _, us, c0, c1, c2, c3, c4, c5, c6, (hp.same (x.same _ _)).wide, (hq.same (x.same _ _)).wide, (hx.same (x.same _ _)).wide⟩⟩
end
end Go.Pc

/-
  Three lists that grow side by side, fields of one struct: what each takes up, and that none touches another.
  Conditions: none; nothing of the program stands here.
-/
namespace Go.Pc
open Go Go.RowKit
section
variable {A B : Nat → Prop} {e e' eo ep ec ei s s' : Nat} {w w' w0 w1 w2 w3 : World} {v v' u vo vo' vp vp' vc vc' : Value} {us : List Value} {xs ord : List Int} {rs rp : List (Value × List Int)} {gs : List (Value × List (Value × List Int))}
theorem OwnN.wr (h : OwnN e s w v us) (k : Wrt B w w') (hb : ∀ b, v.ownBlock = some b → ¬ B b) : OwnN e s w' v us := by
  induction k with
  | refl => exact h
  | step _ hB c ih => exact ih.other c (fun e => hb _ e hB)
  | grow _ x ih => exact @OwnN.ext _ _ _ _ _ _ x ih
theorem OwnN.spA (h : OwnN e s w v us) (hA : ∀ b, v.ownBlock = some b → ¬ A b) : SpA A w v us := by
  cases hv : v.ownBlock with
  | none =>
    rcases h.own.2 with ⟨rfl, h0⟩ | ⟨g, cap, cur, rfl, _⟩
    · have e0 : us = [] := List.eq_nil_of_length_eq_zero h0
      subst e0
      exact ⟨0, 0, ⟨⟨none, 0, rfl, Nat.le_refl _, by omega, fun k u hu => by simp at hu⟩⟩, fun b _ => .inr (Nat.zero_le _)⟩
    · cases hv
  | some g => exact ⟨g, g + 1, h.toSlAt hv, fun b hb => by
      have : b ≠ g := fun e => hA g hv (e ▸ hb)
      omega⟩
structure GrL (e s : Nat) (w : World) (v : Value) (rs : List (Value × List Int)) : Prop where
  own : OwnN e s w v (rs.map (·.1))
  rows : RowsO s w rs
  off : ∀ b, v.ownBlock = some b → ¬ BlkOf rs b
/-- What a list of rows takes up. -/
def FL (v : Value) (rs : List (Value × List Int)) (b : Nat) : Prop := v.ownBlock = some b ∨ BlkOf rs b
theorem GrL.of (h : GrowL e s w v rs) : GrL e s w v rs := ⟨h.lst.own, h.own, fun _ hb hB => h.lst.off h.own hB hb⟩
theorem GrL.wr (h : GrL e s w v rs) (k : Wrt B w w') (hb : ∀ b, FL v rs b → ¬ B b) : GrL e s w' v rs :=
  ⟨h.own.wr k fun b hB => hb b (.inl hB), h.rows.wr k fun b hB => hb b (.inr hB), h.off⟩
theorem GrL.lt (h : GrL e s w v rs) {b : Nat} (hb : FL v rs b) : s ≤ b ∧ b < w.heap.size := by
  rcases hb with hb | hb
  · exact h.own.lt b hb
  · exact h.rows.blk hb
theorem GrL.grow (h : GrL e s w v rs) (hs : s ≤ w.heap.size) : GrowL e s w v rs := by
  refine ⟨⟨h.own, ⟨by simp, fun i => ?_⟩, fun g hg hB => by have := (h.own.lt g hg).1; omega, fun g hg => by omega⟩, h.rows⟩
  by_cases hi : i < rs.length
  · have e1 : (rs.map (·.1)).getD i nilv = rs[i].1 := by simp [hi]
    have e2 : (rs.map (·.2)).getD i [] = rs[i].2 := by simp [hi]
    rw [e1, e2]
    have hf := h.rows.fr _ (List.getElem_mem hi)
    by_cases hn : rs[i].2 = []
    · rw [hn] at hf ⊢
      obtain ⟨X, c, hv, hc, hm, _⟩ := hf.ints.sl.ex
      exact ⟨0, 0, ⟨⟨X, c, hv, hc, hm, fun k u hu => by simp at hu⟩⟩, Nat.zero_le _, fun g _ => .inr (Nat.zero_le _)⟩
    · obtain ⟨te, b, hb, ho⟩ := hf.own hn
      refine ⟨b, b + 1, ⟨ho.own.toSl⟩, ho.lt, fun g hg => ?_⟩
      rcases hg with hg | hg
      · omega
      · have : g ≠ b := fun e => h.off g hg (e ▸ ⟨_, List.getElem_mem hi, hn, ho.block⟩)
        omega
  · have e1 : (rs.map (·.1)).getD i nilv = nilv := by rw [List.getD_eq_getElem?_getD, List.getElem?_eq_none (by simp; omega)]; rfl
    have e2 : (rs.map (·.2)).getD i [] = [] := by rw [List.getD_eq_getElem?_getD, List.getElem?_eq_none (by simp; omega)]; rfl
    rw [e1, e2]
    exact IntsAp.nil _ _
theorem Rows.ofOwn (h : OwnN e s w v (rs.map (·.1))) (hf : ∀ r, r ∈ rs → Fr s w r.1 r.2) (hs : s ≤ w.heap.size) : Rows s w.heap.size w v (rs.map (·.1)) (rs.map (·.2)) := by
  refine ⟨h.toSl, by simp, fun i => ?_⟩
  by_cases hi : i < rs.length
  · have e1 : (rs.map (·.1)).getD i nilv = rs[i].1 := by simp [hi]
    have e2 : (rs.map (·.2)).getD i [] = rs[i].2 := by simp [hi]
    rw [e1, e2]
    exact (hf _ (List.getElem_mem hi)).ints
  · have e1 : (rs.map (·.1)).getD i nilv = nilv := by rw [List.getD_eq_getElem?_getD, List.getElem?_eq_none (by simp; omega)]; rfl
    have e2 : (rs.map (·.2)).getD i [] = [] := by rw [List.getD_eq_getElem?_getD, List.getElem?_eq_none (by simp; omega)]; rfl
    rw [e1, e2]
    exact ⟨⟨none, 0, by simp, by simp, by omega, fun k u hu => by simp at hu⟩⟩
structure GrC (e e' s : Nat) (w : World) (v : Value) (gs : List (Value × List (Value × List Int))) : Prop where
  own : OwnN e s w v (gs.map (·.1))
  inn : ∀ q, q ∈ gs → OwnN e' s w q.1 (q.2.map (·.1))
  rows : RowsO s w (flat gs)
  off : ∀ b, v.ownBlock = some b → ¬ BlkOf (flat gs) b ∧ ∀ q, q ∈ gs → q.1.ownBlock ≠ some b
  offi : ∀ q, q ∈ gs → ∀ b, q.1.ownBlock = some b → ¬ BlkOf (flat gs) b
/-- What a list of lists of rows takes up. -/
def FC (v : Value) (gs : List (Value × List (Value × List Int))) (b : Nat) : Prop := v.ownBlock = some b ∨ (∃ q, q ∈ gs ∧ q.1.ownBlock = some b) ∨ BlkOf (flat gs) b
theorem GrC.nil (e e' s : Nat) (w : World) : GrC e e' s w nilv [] := ⟨OwnN.nil _ _ _, fun q h => (by cases h), RowsO.nil _ _, fun b h => (by cases h), fun q h => (by cases h)⟩
theorem GrC.wr (h : GrC e e' s w v gs) (k : Wrt B w w') (hb : ∀ b, FC v gs b → ¬ B b) : GrC e e' s w' v gs :=
  ⟨h.own.wr k fun b hB => hb b (.inl hB), fun q hq => (h.inn q hq).wr k fun b hB => hb b (.inr (.inl ⟨q, hq, hB⟩)), h.rows.wr k fun b hB => hb b (.inr (.inr hB)), h.off, h.offi⟩
theorem GrC.lt (h : GrC e e' s w v gs) {b : Nat} (hb : FC v gs b) : s ≤ b ∧ b < w.heap.size := by
  rcases hb with hb | ⟨q, hq, hb⟩ | hb
  · exact h.own.lt b hb
  · exact (h.inn q hq).lt b hb
  · exact h.rows.blk hb
theorem FC.push {b : Nat} (hL : GrL e' w0.heap.size w1 u rs) (x01 : Ext w0 w1) (x12 : Ext w1 w2) (hv : v'.ownBlock = v.ownBlock ∨ v'.ownBlock = some w2.heap.size) (h : FC v' (gs ++ [(u, rs)]) b) : FC v gs b ∨ w0.heap.size ≤ b := by
  have z1 := x01.size
  have z2 := x12.size
  rcases h with h | ⟨q, hq, h⟩ | h
  · rcases hv with e | e
    · exact .inl (.inl (e ▸ h))
    · rw [e] at h; injection h with h; exact .inr (by omega)
  · rcases List.mem_append.1 hq with hq | hq
    · exact .inl (.inr (.inl ⟨q, hq, h⟩))
    · obtain rfl := List.mem_singleton.1 hq
      exact .inr (hL.own.lt b h).1
  · rw [flat_append, flat_one] at h
    rcases blkOf_append'.1 h with h | h
    · exact .inl (.inr (.inr h))
    · exact .inr (hL.rows.blk h).1
theorem GrC.push (h : GrC e e' s w0 v gs) (x01 : Ext w0 w1) (hL : GrL e' w0.heap.size w1 u rs) (hs : s ≤ w0.heap.size) (x12 : Ext w1 w2)
    (ho : OwnN e s w3 v' (gs.map (·.1) ++ [u])) (hg : w2.grownBy w3 v.ownBlock) (hv : v'.ownBlock = v.ownBlock ∨ v'.ownBlock = some w2.heap.size) : GrC e e' s w3 v' (gs ++ [(u, rs)]) := by
  have z1 := x01.size
  have z2 := x12.size
  have x02 := x01.trans x12
  have hvl : ∀ b, v.ownBlock = some b → b < w0.heap.size := fun b hb => (h.own.lt b hb).2
  have hvn : ∀ b, v'.ownBlock = some b → (v.ownBlock = some b ∨ b = w2.heap.size) := fun b hb => by
    rcases hv with e | e
    · exact .inl (e ▸ hb)
    · rw [e] at hb; injection hb with hb; exact .inr hb.symm
  have k23 : Wrt (fun b => v.ownBlock = some b) w2 w3 := Wrt.grown hg
  have hI : ∀ q, q ∈ gs ++ [(u, rs)] → OwnN e' s w2 q.1 (q.2.map (·.1)) ∧ ∀ b, q.1.ownBlock = some b → v.ownBlock ≠ some b := fun q hq => by
    rcases List.mem_append.1 hq with hq | hq
    · exact ⟨@OwnN.ext _ _ _ _ _ _ x02 (h.inn q hq), fun b hb hB => (h.off b hB).2 q hq hb⟩
    · obtain rfl := List.mem_singleton.1 hq
      exact ⟨(@OwnN.ext _ _ _ _ _ _ x12 hL.own).mono hs, fun b hb hB => by have := hvl b hB; have := (hL.own.lt b hb).1; omega⟩
  have hR : RowsO s w2 (flat (gs ++ [(u, rs)])) := by
    rw [flat_append, flat_one]
    exact (h.rows.append x01 hs hL.rows).ext x12
  have hRv : ∀ b, BlkOf (flat (gs ++ [(u, rs)])) b → v.ownBlock ≠ some b := fun b hb hB => by
    rw [flat_append, flat_one] at hb
    rcases blkOf_append'.1 hb with hb | hb
    · exact (h.off b hB).1 hb
    · have := hvl b hB; have := (hL.rows.blk hb).1; omega
  refine ⟨by simpa using ho, fun q hq => (hI q hq).1.wr k23 (hI q hq).2, hR.wr k23 hRv, fun b hb => ⟨fun hB => ?_, fun q hq hB => ?_⟩, fun q hq b hb hB => ?_⟩
  · rcases hvn b hb with hb | rfl
    · exact hRv b hB hb
    · have := (hR.blk hB).2; omega
  · rcases hvn b hb with hb | rfl
    · exact (hI q hq).2 b hB hb
    · have := ((hI q hq).1.lt _ hB).2; omega
  · rw [flat_append, flat_one] at hB
    rcases List.mem_append.1 hq with hq | hq
    · rcases blkOf_append'.1 hB with hB | hB
      · exact h.offi q hq b hb hB
      · have := ((h.inn q hq).lt b hb).2; have := (hL.rows.blk hB).1; omega
    · obtain rfl := List.mem_singleton.1 hq
      rcases blkOf_append'.1 hB with hB | hB
      · have := (h.rows.blk hB).2; have := (hL.own.lt b hb).1; omega
      · exact hL.off b hb hB
/-- The three lists. -/
structure Tri (eo ep ec ei s : Nat) (w : World) (vo : Value) (ord : List Int) (vp : Value) (rp : List (Value × List Int)) (vc : Value) (gs : List (Value × List (Value × List Int))) : Prop where
  o : OwnN eo s w vo (ord.map (Value.int .i64))
  p : GrL ep s w vp rp
  c : GrC ec ei s w vc gs
  op : ∀ b, vo.ownBlock = some b → ¬ FL vp rp b
  oc : ∀ b, vo.ownBlock = some b → ¬ FC vc gs b
  pc : ∀ b, FL vp rp b → ¬ FC vc gs b
  lo : s ≤ w.heap.size
theorem Tri.nil (eo ep ec ei s : Nat) (w : World) (hs : s ≤ w.heap.size) : Tri eo ep ec ei s w nilv [] nilv [] nilv [] :=
  ⟨OwnN.nil _ _ _, ⟨OwnN.nil _ _ _, RowsO.nil _ _, fun b h => (by cases h)⟩, GrC.nil _ _ _ _, fun b h => (by cases h), fun b h => (by cases h), fun b h => (by
    rcases h with h | ⟨r, hr, _⟩
    · cases h
    · cases hr), hs⟩
theorem Tri.wr (h : Tri eo ep ec ei s w vo ord vp rp vc gs) (k : Wrt B w w') (hB : ∀ b, B b → b < s) : Tri eo ep ec ei s w' vo ord vp rp vc gs :=
  ⟨h.o.wr k fun b hb hb' => by have := (h.o.lt b hb).1; have := hB b hb'; omega, h.p.wr k fun b hb hb' => by have := (h.p.lt hb).1; have := hB b hb'; omega,
   h.c.wr k fun b hb hb' => by have := (h.c.lt hb).1; have := hB b hb'; omega, h.op, h.oc, h.pc, Nat.le_trans h.lo k.size⟩
theorem Tri.ext (h : Tri eo ep ec ei s w vo ord vp rp vc gs) (x : Ext w w') : Tri eo ep ec ei s w' vo ord vp rp vc gs := h.wr (.ofExt (B := fun _ => False) x) fun b hb => hb.elim
theorem GStep.wrt (h : GStep w w' v v') : Wrt (fun b => v.ownBlock = some b) w w' := by
  obtain ⟨w2, x, hg, _⟩ := h.ex
  exact (Wrt.ofExt x).trans (Wrt.grown hg)
theorem GStep.new (h : GStep w w' v v') {b : Nat} (hb : v'.ownBlock = some b) : v.ownBlock = some b ∨ w.heap.size ≤ b := by
  obtain ⟨w2, x, hg, e | e⟩ := h.ex
  · exact .inl (e ▸ hb)
  · rw [e] at hb; injection hb with hb; have := x.size; exact .inr (by omega)
theorem Tri.pushO {k : Int} (h : Tri eo ep ec ei s w0 vo ord vp rp vc gs) (x01 : Ext w0 w1) (hG : OwnN eo s w' vo' ((ord ++ [k]).map (Value.int .i64))) (hst : GStep w1 w' vo vo') : Tri eo ep ec ei s w' vo' (ord ++ [k]) vp rp vc gs := by
  have h1 := h.ext x01
  have k1 := hst.wrt
  refine ⟨hG, h1.p.wr k1 fun b hb hB => h.op b hB hb, h1.c.wr k1 fun b hb hB => h.oc b hB hb, fun b hb hB => ?_, fun b hb hB => ?_, h.pc, Nat.le_trans h1.lo k1.size⟩
  · rcases hst.new hb with hb | hb
    · exact h.op b hb hB
    · have := (h1.p.lt hB).2; omega
  · rcases hst.new hb with hb | hb
    · exact h.oc b hb hB
    · have := (h1.c.lt hB).2; omega
theorem FL.push {b : Nat} (hu : Fr w0.heap.size w1 u xs) (x01 : Ext w0 w1) (hst : GStep w1 w' v v') (h : FL v' (rs ++ [(u, xs)]) b) : FL v rs b ∨ w0.heap.size ≤ b := by
  have z1 := x01.size
  rcases h with h | h
  · rcases hst.new h with h | h
    · exact .inl (.inl h)
    · exact .inr (by omega)
  · rcases blkOf_append'.1 h with h | ⟨r, hr, hn, eb⟩
    · exact .inl (.inr h)
    · obtain rfl := List.mem_singleton.1 hr
      obtain ⟨g, e1, e2, _⟩ := hu.block hn
      rw [eb] at e1; injection e1 with e1
      exact .inr (by omega)
theorem Tri.pushP (h : Tri eo ep ec ei s w0 vo ord vp rp vc gs) (x01 : Ext w0 w1) (hu : Fr w0.heap.size w1 u xs) (hG : GrowL ep s w' vp' (rp ++ [(u, xs)])) (hst : GStep w1 w' vp vp') : Tri eo ep ec ei s w' vo ord vp' (rp ++ [(u, xs)]) vc gs := by
  have h1 := h.ext x01
  have k1 := hst.wrt
  refine ⟨h1.o.wr k1 fun b hb hB => h.op b hb (.inl hB), GrL.of hG, h1.c.wr k1 fun b hb hB => h.pc b (.inl hB) hb, fun b hb hB => ?_, h.oc, fun b hb hB => ?_, Nat.le_trans h1.lo k1.size⟩
  · rcases FL.push hu x01 hst hB with hB | hB
    · exact h.op b hb hB
    · have := (h.o.lt b hb).2; omega
  · rcases FL.push hu x01 hst hb with hb | hb
    · exact h.pc b hb hB
    · have := (h.c.lt hB).2; omega
theorem Tri.pushC (h : Tri eo ep ec ei s w0 vo ord vp rp vc gs) (x01 : Ext w0 w1) (hL : GrL ei w0.heap.size w1 u rs) (x12 : Ext w1 w2)
    (ho : OwnN ec s w3 vc' (gs.map (·.1) ++ [u])) (hg : w2.grownBy w3 vc.ownBlock) (hv : vc'.ownBlock = vc.ownBlock ∨ vc'.ownBlock = some w2.heap.size) : Tri eo ep ec ei s w3 vo ord vp rp vc' (gs ++ [(u, rs)]) := by
  have h2 := h.ext (x01.trans x12)
  have k1 := Wrt.grown hg
  refine ⟨h2.o.wr k1 fun b hb hB => h.oc b hb (.inl hB), h2.p.wr k1 fun b hb hB => h.pc b hb (.inl hB), h.c.push x01 hL h.lo x12 ho hg hv, h.op, fun b hb hB => ?_, fun b hb hB => ?_, Nat.le_trans h2.lo k1.size⟩
  · rcases FC.push hL x01 x12 hv hB with hB | hB
    · exact h.oc b hb hB
    · have := (h.o.lt b hb).2; omega
  · rcases FC.push hL x01 x12 hv hB with hB | hB
    · exact h.pc b hb hB
    · have := (h.p.lt hb).2; omega
theorem Tri.rowss (h : Tri eo ep ec ei s w vo ord vp rp vc gs) : Rowss s w.heap.size w vc (gs.map (·.1)) (gs.map fun q => q.2.map (·.1)) (gs.map fun q => q.2.map (·.2)) := by
  refine ⟨h.c.own.toSl, by simp, by simp, fun i => ?_⟩
  by_cases hi : i < gs.length
  · have e1 : (gs.map (·.1)).getD i nilv = gs[i].1 := by simp [hi]
    have e2 : (gs.map fun q => q.2.map (·.1)).getD i [] = gs[i].2.map (·.1) := by simp [hi]
    have e3 : (gs.map fun q => q.2.map (·.2)).getD i [] = gs[i].2.map (·.2) := by simp [hi]
    rw [e1, e2, e3]
    refine Rows.ofOwn (h.c.inn _ (List.getElem_mem hi)) (fun r hr => h.c.rows.fr r ?_) h.lo
    exact List.mem_flatten.2 ⟨gs[i].2, List.mem_map.2 ⟨gs[i], List.getElem_mem hi, rfl⟩, hr⟩
  · have e1 : (gs.map (·.1)).getD i nilv = nilv := by rw [List.getD_eq_getElem?_getD, List.getElem?_eq_none (by simp; omega)]; rfl
    have e2 : (gs.map fun q => q.2.map (·.1)).getD i [] = [] := by rw [List.getD_eq_getElem?_getD, List.getElem?_eq_none (by simp; omega)]; rfl
    have e3 : (gs.map fun q => q.2.map (·.2)).getD i [] = [] := by rw [List.getD_eq_getElem?_getD, List.getElem?_eq_none (by simp; omega)]; rfl
    rw [e1, e2, e3]
    exact (rows_nilv s w).mono (Nat.le_refl _) h.lo
theorem Tri.pres (h : Tri eo ep ec ei s w vo ord vp rp vc gs) : PresO s w.heap.size w (.agg #[vo, vp, vc]) ⟨ord, rp.map (·.2), gs.map fun q => q.2.map (·.2)⟩ := by
  have hfo := h.o.toFr
  have hO : RowsO s w ((vo, ord) :: (rp ++ flat gs)) := by
    refine ⟨fun r hr => ?_, List.pairwise_cons.2 ⟨fun r hr h1 h2 e => ?_, List.pairwise_append.2 ⟨h.p.rows.sep, h.c.rows.sep, fun a ha b hb h1 h2 e => ?_⟩⟩⟩
    · rcases List.mem_cons.1 hr with rfl | hr
      · exact hfo
      · rcases List.mem_append.1 hr with hr | hr
        · exact h.p.rows.fr r hr
        · exact h.c.rows.fr r hr
    · obtain ⟨g, e1, _⟩ := hfo.block h1
      rcases List.mem_append.1 hr with hr | hr
      · exact h.op g e1 (.inr ⟨r, hr, h2, e ▸ e1⟩)
      · exact h.oc g e1 (.inr (.inr ⟨r, hr, h2, e ▸ e1⟩))
    · obtain ⟨g, e1, _⟩ := (h.p.rows.fr a ha).block h1
      exact h.pc g (.inr ⟨a, ha, h1, e1⟩) (.inr (.inr ⟨b, hb, h2, e ▸ e1⟩))
  have hp : ∀ b, vp.ownBlock = some b → ¬ BlkOf ((vo, ord) :: (rp ++ flat gs)) b := fun b hb ⟨r, hr, hn, e⟩ => by
    rcases List.mem_cons.1 hr with rfl | hr
    · exact h.op b e (.inl hb)
    · rcases List.mem_append.1 hr with hr | hr
      · exact h.p.off b hb ⟨r, hr, hn, e⟩
      · exact h.pc b (.inl hb) (.inr (.inr ⟨r, hr, hn, e⟩))
  have hc : ∀ b, (vc.ownBlock = some b ∨ ∃ q, q ∈ gs ∧ q.1.ownBlock = some b) → ¬ BlkOf ((vo, ord) :: (rp ++ flat gs)) b := fun b hb ⟨r, hr, hn, e⟩ => by
    have hF : FC vc gs b := hb.imp id .inl
    rcases List.mem_cons.1 hr with rfl | hr
    · exact h.oc b e hF
    · rcases List.mem_append.1 hr with hr | hr
      · exact h.pc b (.inr ⟨r, hr, hn, e⟩) hF
      · rcases hb with hb | ⟨q, hq, hb⟩
        · exact (h.c.off b hb).1 ⟨r, hr, hn, e⟩
        · exact h.c.offi q hq b hb ⟨r, hr, hn, e⟩
  exact ⟨vo, vp, vc, rp, gs, rfl, hO, fun b hb => (hO.blk hb).2, h.p.own.spA hp, ⟨h.c.own.spA fun b hb => hc b (.inl hb), fun q hq => (h.c.inn q hq).spA fun b hb => hc b (.inr ⟨q, hq, hb⟩)⟩, rfl, rfl, hfo.ints, Rows.ofOwn h.p.own h.p.rows.fr h.lo, h.rowss⟩
end
end Go.Pc

/-
  A struct of three lists that is built up field by field: the append of a row to a list of lists, the store of a field that ends a drawn region, what stays.
  Conditions: none; nothing of the program stands here.
-/
namespace Go.Pc
open Go Go.RowKit
section
variable {P : Program} {N : Nat} {ops : Array Oper} {π : List Nat} {S : World → Prop} {K : Env → World → Prop} {ρ : Env} {w w0 w1 w00 : World} {l : List Oper}
variable {i : Nat} {ty ty2 : TypeId} {pos pos2 : String} {after after2 : Array Edge} {g g2 : Option (Nat × Bool)} {d d2 : Nat}
/-- 'append(s, x)', x of one cell, s the call's own. -/
theorem st_growu {s x : Operand} {t e bytes sb : Nat} {z v u : Value} {us : List Value} [ht : SlT P t e] [he : ElT P e 1 bytes z] (hO : OwnN e sb w1 v us) (hu1 : u.cells = #[u]) (hu2 : u.oneCell' = true) (hs0 : sb ≤ w1.heap.size)
    (hn : us.length ≤ 1000000) (next : ∀ v1 v' w', OwnN e sb w' v' (us ++ [u]) → (∀ wb, Ext wb w1 → wb.heap.size ≤ sb → Ext wb w') → w1.heap.size ≤ w'.heap.size → GStep w1 w' v v' → rops P N ops K l (put (put ρ d v1) d2 v') w')
    (hx : ev ρ x = u := by ((try simp only [ev_tmp, ev_const, ev_func, get_put, get_args, get_putL, get_putL_nil, Nat.reduceEqDiff, reduceIte, List.getD_cons_zero, List.getD_cons_succ, List.getD_nil]); first | done | with_reducible rfl)) (hs : ∀ v1, ev (put ρ d v1) s = v := by intro v1; ((try simp only [ev_tmp, ev_const, ev_func, get_put, get_args, get_putL, get_putL_nil, Nat.reduceEqDiff, reduceIte, List.getD_cons_zero, List.getD_cons_succ, List.getD_nil]); first | done | with_reducible rfl)) (hd : ∀ v1, ev (put ρ d v1) (.tmp d) = v1 := by intro v1; ((try simp only [ev_tmp, ev_const, ev_func, get_put, get_args, get_putL, get_putL_nil, Nat.reduceEqDiff, reduceIte, List.getD_cons_zero, List.getD_cons_succ, List.getD_nil]); first | done | with_reducible rfl)) (hz : z.cells = #[z] := by rfl) (hby : bytes ≤ 100 := by decide) (hg1 : Wants ops ρ g := by first | exact True.intro | exact ⟨_, rfl, by ((try simp only [ev_tmp, ev_const, ev_func, get_put, get_args, get_putL, get_putL_nil, Nat.reduceEqDiff, reduceIte, List.getD_cons_zero, List.getD_cons_succ, List.getD_nil, Bool.not_true, Bool.not_false]); first | done | with_reducible rfl)⟩) (hg2 : ∀ v1, Wants ops (put ρ d v1) g2 := by intro v1; first | exact True.intro | exact ⟨_, rfl, by ((try simp only [ev_tmp, ev_const, ev_func, get_put, get_args, get_putL, get_putL_nil, Nat.reduceEqDiff, reduceIte, List.getD_cons_zero, List.getD_cons_succ, List.getD_nil, Bool.not_true, Bool.not_false]); first | done | with_reducible rfl)⟩) :
    rops P N ops K (⟨some d, .buildSlice t 1 #[(0, x)], ty, pos, after, g⟩ :: ⟨some d2, .call { callee := .builtin .append, args := #[s, .tmp d], argTypes := #[t, t] }, ty2, pos2, after2, g2⟩ :: l) ρ w1 := by
  refine st_slice1 (u := u) hx hu1 hz hg1 fun w2 v2 he2 hs2 ho2 => ?_
  have hO2 : OwnN e sb w2 v us := @OwnN.ext _ _ _ _ _ _ he2 hO
  have hz2 := he2.size
  have hb : (us.length + 1) * bytes ≤ 1000001 * 100 := Nat.mul_le_mul (by omega) hby
  refine st_append (hv := hO2) (hy := ho2) (hs v2) (hd v2) (by rw [hz]; rfl) ?_ ?_ ?_ ?_ (hg2 v2) fun v3 w3 ho3 hg3 ha3 => ?_
  · intro a ha
    rw [List.mem_singleton.1 ha]; exact hu2
  · simp only [List.length_singleton]; omega
  · simp only [List.length_singleton, maxLen]; omega
  · omega
  · exact next v2 v3 w3 ho3 (fun wb hb1 hb2 => (hb1.trans he2).app hg3 (fun k hk => by have := (hO2.lt k hk).1; omega)) (Nat.le_trans hz2 hg3.size) ⟨w2, he2, hg3, ha3⟩
theorem retc2 {t s : Tmp} {ty : TypeId} {R : Value → World → Prop} {b n : Nat} {cs : List Value} {x : Value} [hp : StructT P ty n] [hb : Blk w b cs] (h : R (.tuple #[.agg cs.toArray, x]) w) (hn : n = cs.length) (hv : get ρ t = .pointer (some ⟨b, 0, none⟩) := by ((try simp only [ev_tmp, ev_const, ev_func, get_put, get_args, get_putL, get_putL_nil, Nat.reduceEqDiff, reduceIte, List.getD_cons_zero, List.getD_cons_succ, List.getD_nil, Bool.not_true, Bool.not_false]); first | done | with_reducible rfl)) (hx : get ρ s = x := by ((try simp only [ev_tmp, ev_const, ev_func, get_put, get_args, get_putL, get_putL_nil, Nat.reduceEqDiff, reduceIte, List.getD_cons_zero, List.getD_cons_succ, List.getD_nil, Bool.not_true, Bool.not_false]); first | done | with_reducible rfl)) : retQ P [.cell t ty, .tmp s] R .ret ρ w :=
  retQ_2 (rv_cell hv (run_loadAgg (h := hb) hn)) (rv_tmp hx) h
/-- The store of a field, the last operation of a drawn region. -/
theorem z_stfld {bo t m bytes : Nat} {x y : Operand} {u z : Value} {cs : List Value} [he : ElT P t 1 bytes z] (h : Blk w bo cs) (hu : u.oneCell' = true) (hm : m < cs.length)
    (next : ∀ w', Chg bo w w' → w'.heap.size = w.heap.size → Blk w' bo (cs.set m u) → K ρ w')
    (hi : opAt ops π i = some ⟨none, .store t x y, ty, pos, after, g⟩ := by exact rfl) (hx : ev ρ x = .pointer (some ⟨bo, m, none⟩) := by ((try simp only [ev_tmp, ev_const, ev_func, get_put, get_args, get_putL, get_putL_nil, Nat.reduceEqDiff, reduceIte, List.getD_cons_zero, List.getD_cons_succ, List.getD_nil]); first | done | with_reducible rfl)) (hy : ev ρ y = u := by ((try simp only [ev_tmp, ev_const, ev_func, get_put, get_args, get_putL, get_putL_nil, Nat.reduceEqDiff, reduceIte, List.getD_cons_zero, List.getD_cons_succ, List.getD_nil]); first | done | with_reducible rfl)) (hg : Wants ops ρ g := by first | exact True.intro | exact ⟨_, rfl, by ((try simp only [ev_tmp, ev_const, ev_func, get_put, get_args, get_putL, get_putL_nil, Nat.reduceEqDiff, reduceIte, List.getD_cons_zero, List.getD_cons_succ, List.getD_nil, Bool.not_true, Bool.not_false]); first | done | with_reducible rfl)⟩)
    (hn : nextOk ops π i = true := by decide +kernel) (hl : lastOf ops π = some (π.getD i 0) := by decide +kernel) (hd : doneOk ops π (i + 1) = true := by decide +kernel) : dops P N ops π S K i ρ w := by
  obtain ⟨tb, hb⟩ := h.ex
  have hr := run_storeVar_one (P := P) he hu hb (m := m) (by simpa using hm)
  have hw : Wr P (.store t x y) ty ρ w (w.setCell ⟨bo, m, none⟩ u) := by
    constructor; intro _ _ _ _
    simp [execOp, hx, hy, Instr.storeAt, Instr.sureAddr, hr]
  refine dt_lastw hi hn hl hd hg hw (next _ ⟨⟨rfl, rfl, rfl, by simp [World.setCell], fun k hk hne => Below.heap_setCell _ _ _ _ (by intro e; subst e; exact hne rfl)⟩⟩ (by simp [World.setCell]) ⟨tb, ?_⟩)
  simp [World.setCell, Array.getElem?_modify, hb]
end
section
variable {B : Nat → Prop} {e e' eo ep ec ei s s' s0 bo : Nat} {w w' w0 w1 w2 w3 w4 w5 : World} {v v' u vo vo' vp vp' vc vc' : Value} {us : List Value} {cs : List Value} {xs ord : List Int} {rs rp : List (Value × List Int)} {gs : List (Value × List (Value × List Int))}
theorem Tri.chg (h : Tri eo ep ec ei s w vo ord vp rp vc gs) (c : Chg bo w w') (hb : bo < s) : Tri eo ep ec ei s w' vo ord vp rp vc gs :=
  h.wr (.one (B := fun g => g = bo) rfl c) fun b e => e ▸ hb
/-- The block of the struct, when one of its lists has grown. -/
theorem Blk.gstep (h : Blk w bo cs) (k : GStep w w' v v') (hb : ∀ b, v.ownBlock = some b → bo < b) : Blk w' bo cs :=
  h.wr k.wrt fun e => by have := hb _ e; omega
theorem Tri.ob (h : Tri eo ep ec ei s w vo ord vp rp vc gs) (hb : bo < s) : ∀ b, vo.ownBlock = some b → bo < b := fun b e => Nat.lt_of_lt_of_le hb (h.o.lt b e).1
theorem Tri.pb (h : Tri eo ep ec ei s w vo ord vp rp vc gs) (hb : bo < s) : ∀ b, vp.ownBlock = some b → bo < b := fun b e => Nat.lt_of_lt_of_le hb (h.p.own.lt b e).1
theorem Tri.cb (h : Tri eo ep ec ei s w vo ord vp rp vc gs) (hb : bo < s) : ∀ b, vc.ownBlock = some b → bo < b := fun b e => Nat.lt_of_lt_of_le hb (h.c.own.lt b e).1
/-- One more order, stored. -/
theorem Tri.fieldO {k : Int} (h : Tri eo ep ec ei s w vo ord vp rp vc gs) (x : Ext w w1) (hG : GrowI eo s w2 vo' (ord ++ [k])) (hst : GStep w1 w2 vo vo') (c : Chg bo w2 w3) (hb : bo < s) : Tri eo ep ec ei s w3 vo' (ord ++ [k]) vp rp vc gs :=
  (h.pushO x hG.own hst).chg c hb
/-- One more power, stored. -/
theorem Tri.fieldP (h : Tri eo ep ec ei s w vo ord vp rp vc gs) (x : Ext w w1) (hu : Fr w.heap.size w1 u xs) (hG : GrowL ep s w2 vp' (rp ++ [(u, xs)])) (hst : GStep w1 w2 vp vp') (c : Chg bo w2 w3) (hb : bo < s) : Tri eo ep ec ei s w3 vo ord vp' (rp ++ [(u, xs)]) vc gs :=
  (h.pushP x hu hG hst).chg c hb
/-- One more list of conjugates, stored. -/
theorem Tri.fieldC (h : Tri eo ep ec ei s w vo ord vp rp vc gs) (x : Ext w w1) (hL : GrL ei w.heap.size w1 u rs) (hO : OwnN ec s w2 vc' (gs.map (·.1) ++ [u])) (hst : GStep w1 w2 vc vc') (c : Chg bo w2 w3) (hb : bo < s) : Tri eo ep ec ei s w3 vo ord vp rp vc' (gs ++ [(u, rs)]) := by
  obtain ⟨w5, x5, hg, ha⟩ := hst.ex
  exact (h.pushC x hL x5 hO hg ha).chg c hb
/-- The three lists, the first of which came from elsewhere. -/
theorem Tri.presO (h : Tri eo ep ec ei s w nilv [] vp rp vc gs) (hfo : Fr s0 w vo ord) (hs0 : s0 ≤ s) (hlt : ord ≠ [] → ∀ b, vo.ownBlock = some b → b < s) : PresO s0 w.heap.size w (.agg #[vo, vp, vc]) ⟨ord, rp.map (·.2), gs.map fun q => q.2.map (·.2)⟩ := by
  have hP := h.p.rows.mono hs0
  have hC := h.c.rows.mono hs0
  have hpl : ∀ b, FL vp rp b → s ≤ b := fun b hb => (h.p.lt hb).1
  have hcl : ∀ b, FC vc gs b → s ≤ b := fun b hb => (h.c.lt hb).1
  have hO : RowsO s0 w ((vo, ord) :: (rp ++ flat gs)) := by
    refine ⟨fun r hr => ?_, List.pairwise_cons.2 ⟨fun r hr h1 h2 e => ?_, List.pairwise_append.2 ⟨h.p.rows.sep, h.c.rows.sep, fun a ha b hb h1 h2 e => ?_⟩⟩⟩
    · rcases List.mem_cons.1 hr with rfl | hr
      · exact hfo
      · rcases List.mem_append.1 hr with hr | hr
        · exact hP.fr r hr
        · exact hC.fr r hr
    · obtain ⟨g, e1, _⟩ := hfo.block h1
      have h3 := hlt h1 g e1
      rcases List.mem_append.1 hr with hr | hr
      · have := hpl g (.inr ⟨r, hr, h2, e ▸ e1⟩); omega
      · have := hcl g (.inr (.inr ⟨r, hr, h2, e ▸ e1⟩)); omega
    · obtain ⟨g, e1, _⟩ := (h.p.rows.fr a ha).block h1
      exact h.pc g (.inr ⟨a, ha, h1, e1⟩) (.inr (.inr ⟨b, hb, h2, e ▸ e1⟩))
  have hp : ∀ b, vp.ownBlock = some b → ¬ BlkOf ((vo, ord) :: (rp ++ flat gs)) b := fun b hb ⟨r, hr, hn, e⟩ => by
    rcases List.mem_cons.1 hr with rfl | hr
    · have := hlt hn b e; have := hpl b (.inl hb); omega
    · rcases List.mem_append.1 hr with hr | hr
      · exact h.p.off b hb ⟨r, hr, hn, e⟩
      · exact h.pc b (.inl hb) (.inr (.inr ⟨r, hr, hn, e⟩))
  have hc : ∀ b, (vc.ownBlock = some b ∨ ∃ q, q ∈ gs ∧ q.1.ownBlock = some b) → ¬ BlkOf ((vo, ord) :: (rp ++ flat gs)) b := fun b hb ⟨r, hr, hn, e⟩ => by
    have hF : FC vc gs b := hb.imp id .inl
    rcases List.mem_cons.1 hr with rfl | hr
    · have := hlt hn b e; have := hcl b hF; omega
    · rcases List.mem_append.1 hr with hr | hr
      · exact h.pc b (.inr ⟨r, hr, hn, e⟩) hF
      · rcases hb with hb | ⟨q, hq, hb⟩
        · exact (h.c.off b hb).1 ⟨r, hr, hn, e⟩
        · exact h.c.offi q hq b hb ⟨r, hr, hn, e⟩
  have h2 := Rows.ofOwn h.p.own h.p.rows.fr h.lo
  have h3 := h.rowss
  exact ⟨vo, vp, vc, rp, gs, rfl, hO, fun b hb => (hO.blk hb).2, h.p.own.spA hp, ⟨h.c.own.spA fun b hb => hc b (.inl hb), fun q hq => (h.c.inn q hq).spA fun b hb => hc b (.inr ⟨q, hq, hb⟩)⟩, rfl, rfl, hfo.ints, h2.mono hs0 (Nat.le_refl _), ⟨h3.sl.mono hs0 (Nat.le_refl _), h3.vals.len, h3.vals.len', fun i => (h3.vals.at_ i).mono hs0 (Nat.le_refl _)⟩⟩
theorem PresO.sub {t t' : Nat} {p : Pr} (h : PresO s t w v p) (hs : s' ≤ s) (ht : t ≤ t') : PresO s' t' w v p := by
  obtain ⟨vo, vp, vc, rp, gs, rfl, hO, hl, h1, h2, h3, h4, h5, h6, h7⟩ := h.ex
  exact ⟨vo, vp, vc, rp, gs, rfl, hO.mono hs, fun b hb => Nat.lt_of_lt_of_le (hl b hb) ht, h1, h2, h3, h4, h5.mono hs ht, h6.mono hs ht, ⟨h7.sl.mono hs ht, h7.vals.len, h7.vals.len', fun i => (h7.vals.at_ i).mono hs ht⟩⟩
theorem getD_cut {α : Type} (l : List α) (z : α) {a k : Nat} (i : Nat) (hi : a + i < k) : ((l.take k).drop a).getD i z = l.getD (a + i) z := by
  rw [List.getD_eq_getElem?_getD, List.getElem?_drop, List.getElem?_take, if_pos hi, ← List.getD_eq_getElem?_getD]
theorem Rows.cut {lo hi : Nat} {xss : List (List Int)} (h : Rows lo hi w v us xss) {a k : Nat} (hlk : a ≤ k) (hk : k ≤ us.length) : Rows lo hi w (Pc.cut v a k) ((us.take k).drop a) ((xss.take k).drop a) := by
  refine ⟨h.sl.cut hlk hk, by simp [h.vals.len], fun i => ?_⟩
  by_cases hi : a + i < k
  · rw [getD_cut _ _ _ hi, getD_cut _ _ _ hi]
    exact h.vals.at_ _
  · have e1 : ((us.take k).drop a).getD i nilv = nilv := by rw [List.getD_eq_getElem?_getD, List.getElem?_eq_none (by simp; omega)]; rfl
    have e2 : ((xss.take k).drop a).getD i [] = [] := by rw [List.getD_eq_getElem?_getD, List.getElem?_eq_none (by simp; omega)]; rfl
    rw [e1, e2]
    exact ⟨⟨none, 0, by simp, by simp, by omega, fun k u hu => by simp at hu⟩⟩
end
end Go.Pc

/-
  A presentation whose three lists came one after the other; homomorphisms put together; the sizes of a group's lists.
  Conditions: none; nothing of the program stands here.
-/
namespace Go.Pc
open Go Go.RowKit
section
variable {e e' ep ec ei s m0 m1 m2 : Nat} {w w' : World} {v vo vp vc : Value} {us : List Value} {xs ord : List Int} {rs rp : List (Value × List Int)} {gs : List (Value × List (Value × List Int))}
theorem Tri.ofC (h : GrC ec ei s w vc gs) (hs : s ≤ w.heap.size) : Tri 0 0 ec ei s w nilv [] nilv [] vc gs :=
  ⟨OwnN.nil _ _ _, ⟨OwnN.nil _ _ _, RowsO.nil _ _, fun b h => (by cases h)⟩, h, fun b h => (by cases h), fun b h => (by cases h), fun b h => (by
    rcases h with h | ⟨r, hr, _⟩
    · cases h
    · cases hr), hs⟩
/-- The three lists, one after the other. -/
theorem PresO.of3 (hfo : Fr m0 w vo ord) (h01 : m0 ≤ m1) (hlt : ord ≠ [] → ∀ b, vo.ownBlock = some b → b < m1) (hP : GrL ep m1 w vp rp) (hPl : ∀ b, FL vp rp b → b < m2) (h12 : m1 ≤ m2) (h : GrC ec ei m2 w vc gs) (h2 : m2 ≤ w.heap.size) :
    PresO m0 w.heap.size w (.agg #[vo, vp, vc]) ⟨ord, rp.map (·.2), gs.map fun q => q.2.map (·.2)⟩ := by
  have hPo := hP.rows.mono h01
  have hC := h.rows.mono (Nat.le_trans h01 h12)
  have hpl : ∀ b, FL vp rp b → m1 ≤ b := fun b hb => (hP.lt hb).1
  have hcl : ∀ b, FC vc gs b → m2 ≤ b := fun b hb => (h.lt hb).1
  have hO : RowsO m0 w ((vo, ord) :: (rp ++ flat gs)) := by
    refine ⟨fun r hr => ?_, List.pairwise_cons.2 ⟨fun r hr h1 h2 e => ?_, List.pairwise_append.2 ⟨hP.rows.sep, h.rows.sep, fun a ha b hb h1 h2 e => ?_⟩⟩⟩
    · rcases List.mem_cons.1 hr with rfl | hr
      · exact hfo
      · rcases List.mem_append.1 hr with hr | hr
        · exact hPo.fr r hr
        · exact hC.fr r hr
    · obtain ⟨g, e1, _⟩ := hfo.block h1
      have h3 := hlt h1 g e1
      rcases List.mem_append.1 hr with hr | hr
      · have := hpl g (.inr ⟨r, hr, h2, e ▸ e1⟩); omega
      · have := hcl g (.inr (.inr ⟨r, hr, h2, e ▸ e1⟩)); omega
    · obtain ⟨g, e1, _⟩ := (hP.rows.fr a ha).block h1
      have := hPl g (.inr ⟨a, ha, h1, e1⟩)
      have := hcl g (.inr (.inr ⟨b, hb, h2, e ▸ e1⟩))
      omega
  have hp : ∀ b, vp.ownBlock = some b → ¬ BlkOf ((vo, ord) :: (rp ++ flat gs)) b := fun b hb ⟨r, hr, hn, e⟩ => by
    rcases List.mem_cons.1 hr with rfl | hr
    · have := hlt hn b e; have := hpl b (.inl hb); omega
    · rcases List.mem_append.1 hr with hr | hr
      · exact hP.off b hb ⟨r, hr, hn, e⟩
      · have := hPl b (.inl hb); have := hcl b (.inr (.inr ⟨r, hr, hn, e⟩)); omega
  have hc : ∀ b, (vc.ownBlock = some b ∨ ∃ q, q ∈ gs ∧ q.1.ownBlock = some b) → ¬ BlkOf ((vo, ord) :: (rp ++ flat gs)) b := fun b hb ⟨r, hr, hn, e⟩ => by
    have hF : FC vc gs b := hb.imp id .inl
    rcases List.mem_cons.1 hr with rfl | hr
    · have := hlt hn b e; have := hcl b hF; omega
    · rcases List.mem_append.1 hr with hr | hr
      · have := hPl b (.inr ⟨r, hr, hn, e⟩); have := hcl b hF; omega
      · rcases hb with hb | ⟨q, hq, hb⟩
        · exact (h.off b hb).1 ⟨r, hr, hn, e⟩
        · exact h.offi q hq b hb ⟨r, hr, hn, e⟩
  have hlo : m1 ≤ w.heap.size := Nat.le_trans h12 h2
  have k2 := Rows.ofOwn hP.own hP.rows.fr hlo
  have k3 := (Tri.ofC h h2).rowss
  have h02 := Nat.le_trans h01 h12
  exact ⟨vo, vp, vc, rp, gs, rfl, hO, fun b hb => (hO.blk hb).2, hP.own.spA hp, ⟨h.own.spA fun b hb => hc b (.inl hb), fun q hq => (h.inn q hq).spA fun b hb => hc b (.inr ⟨q, hq, hb⟩)⟩, rfl, rfl, hfo.ints, k2.mono h01 (Nat.le_refl _), ⟨k3.sl.mono h02 (Nat.le_refl _), k3.vals.len, k3.vals.len', fun i => (k3.vals.at_ i).mono h02 (Nat.le_refl _)⟩⟩
/-- A homomorphism out of its parts. -/
theorem HomO.of {s t m0 m1 m2 m3 : Nat} {a0 a1 a2 a3 a4 a5 a6 : Value} {p q : Pr} (h1 : PresO m0 m1 w (.agg #[a0, a1, a2]) p) (h2 : PresO m1 m2 w (.agg #[a3, a4, a5]) q) (h3 : MatO m2 m3 w a6 rs) (l0 : s ≤ m0) (l1 : m0 ≤ m1) (l2 : m1 ≤ m2) (l3 : m2 ≤ m3) (l4 : m3 ≤ t) : HomO s t w (.agg #[a0, a1, a2, a3, a4, a5, a6]) p q rs :=
  ⟨a0, a1, a2, a3, a4, a5, a6, m0, m1, m2, m3, rfl, l0, l1, l2, l3, l4, h1, h2, h3⟩
end
end Go.Pc
namespace Go.Proofs.YtnphljflkpekmaaGreat
open Go Go.Pc
theorem getD_ofMem {α : Type} {l : List α} {x z : α} (h : x ∈ l) : ∃ i, i < l.length ∧ l.getD i z = x := by
  obtain ⟨i, hi, rfl⟩ := List.getElem_of_mem h
  exact ⟨i, hi, by simp [hi]⟩
/-- The lists of a valid presentation are short. -/
theorem valid_pow {p : Pr} (hv : Valid p) (i : Nat) : (p.pow.getD i []).length ≤ 6 := by
  have h6 := hv.n6
  by_cases h : i < p.n
  · have h2 : (p.pow.getD i []).length = p.n := (hv.w_in i h).len
    omega
  · rw [List.getD_eq_getElem?_getD, List.getElem?_eq_none (by rw [hv.lenw]; omega)]
    exact Nat.zero_le _
theorem valid_cnji {p : Pr} (hv : Valid p) (i : Nat) : (p.cnj.getD i []).length ≤ 6 := by
  have h6 := hv.n6
  by_cases h : i < p.n
  · have h2 := hv.lenci i h
    omega
  · rw [List.getD_eq_getElem?_getD, List.getElem?_eq_none (by rw [hv.lenc]; omega)]
    exact Nat.zero_le _
theorem valid_cnjij {p : Pr} (hv : Valid p) (i j : Nat) : ((p.cnj.getD i []).getD j []).length ≤ 6 := by
  have h6 := hv.n6
  by_cases h : i < p.n
  · have h2 := hv.lenci i h
    by_cases hj : j < p.n - 1 - i
    · have h3 : (p.c i (i + 1 + j)).length = p.n := (hv.c_in i (i + 1 + j) (by omega) (by omega)).len
      have e : p.c i (i + 1 + j) = (p.cnj.getD i []).getD j [] := by
        unfold Pr.c
        congr 1
        omega
      rw [e] at h3
      omega
    · have e : (p.cnj.getD i []).getD j [] = [] := by rw [List.getD_eq_getElem?_getD, List.getElem?_eq_none (by omega)]; rfl
      rw [e]
      exact Nat.zero_le _
  · have e : p.cnj.getD i [] = [] := by rw [List.getD_eq_getElem?_getD, List.getElem?_eq_none (by rw [hv.lenc]; omega)]; rfl
    rw [e]
    simp
theorem valid_totP {p : Pr} (hv : Valid p) : totP p ≤ 1000 := by
  have h6 := hv.n6
  have h1 : p.ord.length = p.n := rfl
  have e2 : tot p.pow ≤ p.pow.length * 6 := tot_le _ fun x hx => by
    obtain ⟨i, _, rfl⟩ := getD_ofMem (z := []) hx
    exact valid_pow hv i
  have e3 : tot p.cnj.flatten ≤ p.cnj.length * (6 * 6) := tot_flatten _ fun x hx => by
    obtain ⟨i, _, rfl⟩ := getD_ofMem (z := []) hx
    refine ⟨valid_cnji hv i, fun y hy => ?_⟩
    obtain ⟨j, _, rfl⟩ := getD_ofMem (z := []) hy
    exact valid_cnjij hv i j
  have h2 := hv.lenw
  have h3 := hv.lenc
  unfold totP
  omega
end Go.Proofs.YtnphljflkpekmaaGreat

/-
  The sizes of the presentations of subgroups and quotients.
  Conditions: none.
-/
namespace Go.Proofs.YtnphljflkpekmaaGreat
open Go Go.Pc
theorem tabP_sz {m : Nat} {o : Nat → Int} {f : Nat → List Int} {g : Nat → Nat → List Int} (hm : m ≤ 6) (hf : ∀ i, (f i).length ≤ 6) (hg : ∀ i j, (g i j).length ≤ 6) : SizeP (tabP m o f g) 2000000 ∧ totP (tabP m o f g) ≤ 1000 := by
  have h2 : (tabP m o f g).pow.length = m := by simp [tabP]
  have h3 : (tabP m o f g).cnj.length = m := by simp [tabP]
  refine ⟨⟨?_, ?_, fun i => ?_, ?_, fun i => ?_, fun i j => ?_⟩, ?_⟩
  · have : (tabP m o f g).ord.length = m := tabP_n
    omega
  · omega
  · by_cases h : i < m
    · have e : (tabP m o f g).pow.getD i [] = f i := by simp [tabP, h]
      rw [e]; have := hf i; omega
    · simp [tabP, h]
  · omega
  · by_cases h : i < m
    · have e : (tabP m o f g).cnj.getD i [] = (List.range (m - (i + 1))).map fun k => g i (i + 1 + k) := by simp [tabP, h]
      rw [e, List.length_map, List.length_range]; omega
    · simp [tabP, h]
  · by_cases h : i < m
    · have e : (tabP m o f g).cnj.getD i [] = (List.range (m - (i + 1))).map fun k => g i (i + 1 + k) := by simp [tabP, h]
      rw [e]
      by_cases h' : j < m - (i + 1)
      · have e2 : ((List.range (m - (i + 1))).map fun k => g i (i + 1 + k)).getD j [] = g i (i + 1 + j) := by simp [h']
        rw [e2]; have := hg i (i + 1 + j); omega
      · simp [h']
    · simp [tabP, h]
  · have e1 : (tabP m o f g).ord.length = m := tabP_n
    have e2 : tot (tabP m o f g).pow ≤ (tabP m o f g).pow.length * 6 := tot_le _ fun x hx => by
      simp only [tabP, List.mem_map] at hx
      obtain ⟨i, _, rfl⟩ := hx
      exact hf i
    have e3 : tot (tabP m o f g).cnj.flatten ≤ (tabP m o f g).cnj.length * (6 * 6) := tot_flatten _ fun x hx => by
      simp only [tabP, List.mem_map] at hx
      obtain ⟨i, _, rfl⟩ := hx
      refine ⟨by rw [List.length_map, List.length_range]; omega, fun y hy => ?_⟩
      simp only [List.mem_map] at hy
      obtain ⟨k, _, rfl⟩ := hy
      exact hg _ _
    unfold totP
    omega
theorem noP_sz : SizeP noP 2000000 ∧ totP noP ≤ 1000 := ⟨⟨by simp [noP], by simp [noP], fun i => by simp [noP], by simp [noP], fun i => by simp [noP], fun i j => by simp [noP]⟩, by simp [noP, totP, tot]⟩
theorem quoPr_sz {p : Pr} [hc : ConAll p] (ys : List (El p)) : SizeP (quoPr ys) 2000000 ∧ totP (quoPr ys) ≤ 1000 := by
  have h6 := hc.valid.n6
  have hl := frN_le ys
  exact tabP_sz (by omega) (fun i => by rw [quoPow, prjE_len]; omega) (fun i j => by rw [quoCnj, prjE_len]; omega)
end Go.Proofs.YtnphljflkpekmaaGreat

/-
  What InclusionHom, NaturalHom and ComposeHoms answer.
  Conditions: none.
-/
namespace Go.Proofs.YtnphljflkpekmaaGreat
open Go Go.Pc
def noH : Pr × Pr × List (List Int) := (noP, noP, [])
def SzH (k : Pr × Pr × List (List Int)) : Prop := (SizeP k.1 2000000 ∧ SizeP k.2.1 2000000 ∧ k.2.2.length ≤ 2000000 ∧ ∀ i, (k.2.2.getD i []).length ≤ 2000000) ∧ totP k.1 + totP k.2.1 + tot k.2.2 ≤ 4000000000000
theorem valid_szP {p : Pr} (hv : Valid p) : SizeP p 2000000 ∧ totP p ≤ 1000 := by
  have h6 := hv.n6
  have h1 : p.ord.length = p.n := rfl
  have h2 := hv.lenw
  have h3 := hv.lenc
  exact ⟨⟨by omega, by omega, fun i => by have := valid_pow hv i; omega, by omega, fun i => by have := valid_cnji hv i; omega, fun i j => by have := valid_cnjij hv i j; omega⟩, valid_totP hv⟩
theorem tabP_sz6 {m : Nat} {o : Nat → Int} {f : Nat → List Int} {g : Nat → Nat → List Int} (hm : m ≤ 6) (hf : ∀ i, (f i).length ≤ 6) (hg : ∀ i j, (g i j).length ≤ 6) : SizeP (tabP m o f g) 6 := by
  have h2 : (tabP m o f g).pow.length = m := by simp [tabP]
  have h3 : (tabP m o f g).cnj.length = m := by simp [tabP]
  refine ⟨?_, ?_, fun i => ?_, ?_, fun i => ?_, fun i j => ?_⟩
  · have : (tabP m o f g).ord.length = m := tabP_n
    omega
  · omega
  · by_cases h : i < m
    · have e : (tabP m o f g).pow.getD i [] = f i := by simp [tabP, h]
      rw [e]; have := hf i; omega
    · simp [tabP, h]
  · omega
  · by_cases h : i < m
    · have e : (tabP m o f g).cnj.getD i [] = (List.range (m - (i + 1))).map fun k => g i (i + 1 + k) := by simp [tabP, h]
      rw [e, List.length_map, List.length_range]; omega
    · simp [tabP, h]
  · by_cases h : i < m
    · have e : (tabP m o f g).cnj.getD i [] = (List.range (m - (i + 1))).map fun k => g i (i + 1 + k) := by simp [tabP, h]
      rw [e]
      by_cases h' : j < m - (i + 1)
      · have e2 : ((List.range (m - (i + 1))).map fun k => g i (i + 1 + k)).getD j [] = g i (i + 1 + j) := by simp [h']
        rw [e2]; have := hg i (i + 1 + j); omega
      · simp [h']
    · simp [tabP, h]
theorem quoPr_sz6 {p : Pr} [hc : ConAll p] (ys : List (El p)) : SizeP (quoPr ys) 6 := by
  have h6 := hc.valid.n6
  have hl := frN_le ys
  exact tabP_sz6 (by omega) (fun i => by rw [quoPow, prjE_len]; omega) (fun i j => by rw [quoCnj, prjE_len]; omega)
theorem valid_sz6 {p : Pr} (hv : Valid p) : SizeP p 6 := by
  have h6 := hv.n6
  have h1 : p.ord.length = p.n := rfl
  have h2 := hv.lenw
  have h3 := hv.lenc
  exact ⟨by omega, by omega, fun i => by have := valid_pow hv i; omega, by omega, fun i => by have := valid_cnji hv i; omega, fun i j => by have := valid_cnjij hv i j; omega⟩
theorem noH_sz : SzH noH := by
  obtain ⟨h1, h2⟩ := noP_sz
  exact ⟨⟨h1, h1, by simp [noH], by simp [noH]⟩, by simp only [noH, tot]; omega⟩
theorem szH_of {p q : Pr} {xss : List (List Int)} (hp : SizeP p 2000000 ∧ totP p ≤ 1000) (hq : SizeP q 2000000 ∧ totP q ≤ 1000) (hl : xss.length ≤ 6) (hx : ∀ x, x ∈ xss → x.length ≤ 6) : SzH (p, q, xss) := by
  have ht := tot_le xss hx
  refine ⟨⟨hp.1, hq.1, by simp only; omega, fun i => ?_⟩, by have := hp.2; have := hq.2; simp only; omega⟩
  by_cases h : i < xss.length
  · have e : xss.getD i [] = xss[i] := by simp [h]
    have := hx _ (List.getElem_mem h)
    rw [e]; omega
  · have e : xss.getD i [] = [] := by rw [List.getD_eq_getElem?_getD, List.getElem?_eq_none (by omega)]; rfl
    rw [e]; exact Nat.zero_le _
/-- The inclusion of a subgroup. -/
def IhV (p : Pr) (xss : List (List Int)) (k : Pr × Pr × List (List Int)) (e : Int) : Prop := (∃ (_ : ConAll p) (ys : List (El p)), xss = vecs ys ∧ k = (subPr ys, p, vecs ys)) ∧ e = 0
theorem IhV.uniq {p : Pr} {xss : List (List Int)} (a b : Pr × Pr × List (List Int)) (c d : Int) (h : IhV p xss a c) (k : IhV p xss b d) : a = b ∧ c = d := by
  obtain ⟨⟨hc, ys, h2, h3⟩, h5⟩ := h
  obtain ⟨⟨hc', ys', k2, k3⟩, k5⟩ := k
  obtain rfl := vecs_inj (h2.symm.trans k2)
  exact ⟨by rw [h3, k3], by rw [h5, k5]⟩
/-- The natural homomorphism. -/
def NhV (p : Pr) (xss : List (List Int)) (k : Pr × Pr × List (List Int)) (e : Int) : Prop := (¬ NormP p xss ∧ k = noH ∧ e = 5) ∨ (NormP p xss ∧ (∃ (_ : ConAll p) (ys : List (El p)), xss = vecs ys ∧ k = (p, quoPr ys, (List.range p.n).map fun i => prjE ys (gOf p 0 i))) ∧ e = 0)
theorem NhV.uniq {p : Pr} {xss : List (List Int)} (a b : Pr × Pr × List (List Int)) (c d : Int) (h : NhV p xss a c) (k : NhV p xss b d) : a = b ∧ c = d := by
  rcases h with ⟨h1, rfl, rfl⟩ | ⟨h1, ⟨hc, ys, h2, rfl⟩, rfl⟩ <;> rcases k with ⟨k1, rfl, rfl⟩ | ⟨k1, ⟨kc, zs, k2, rfl⟩, rfl⟩
  · exact ⟨rfl, rfl⟩
  · exact absurd k1 h1
  · exact absurd h1 k1
  · obtain rfl := vecs_inj (h2.symm.trans k2)
    exact ⟨rfl, rfl⟩
theorem NaturalHom_sz0 {p : Pr} {xss : List (List Int)} {r : Pr × Pr × List (List Int)} {e : Int} (_ : p.ord.length ≤ 2000000) (h : Ans (IsSubP p xss) (NhV p xss) noH r e) : SzH r := by
  rcases h with ⟨⟨hG, _⟩, ⟨_, rfl, _⟩ | ⟨_, ⟨hc, ys, hys, rfl⟩, _⟩⟩ | ⟨_, rfl, _⟩
  · exact noH_sz
  · have h6 := hG.valid.n6
    refine szH_of (valid_szP hG.valid) (quoPr_sz ys) (by simp; omega) fun x hx => ?_
    obtain ⟨i, _, rfl⟩ := List.mem_map.1 hx
    have := frN_le ys
    rw [prjE_len]; omega
  · exact noH_sz
/-- The composition of two homomorphisms. -/
def HcV (p q : Pr) (xss : List (List Int)) (p' q' : Pr) (yss : List (List Int)) (k : Pr × Pr × List (List Int)) (e : Int) : Prop := (q ≠ p' ∧ k = noH ∧ e = 5) ∨ (q = p' ∧ (∃ (_ : ConAll q') (ys : List (El q')), yss = vecs ys ∧ k = (p, q', xss.map fun x => (imgE ys x).v)) ∧ e = 0)
theorem HcV.uniq {p q p' q' : Pr} {xss yss : List (List Int)} (a b : Pr × Pr × List (List Int)) (c d : Int) (h : HcV p q xss p' q' yss a c) (k : HcV p q xss p' q' yss b d) : a = b ∧ c = d := by
  rcases h with ⟨h1, rfl, rfl⟩ | ⟨h1, ⟨hc, ys, h2, rfl⟩, rfl⟩ <;> rcases k with ⟨k1, rfl, rfl⟩ | ⟨k1, ⟨kc, zs, k2, rfl⟩, rfl⟩
  · exact ⟨rfl, rfl⟩
  · exact absurd k1 h1
  · exact absurd h1 k1
  · obtain rfl := vecs_inj (h2.symm.trans k2)
    exact ⟨rfl, rfl⟩
end Go.Proofs.YtnphljflkpekmaaGreat

/-
  What LiftElement, ProjectSubgroup and LiftSubgroup answer.
  Conditions: none.
-/
namespace Go.Proofs.YtnphljflkpekmaaGreat
open Go Go.Pc
/-- The representative of the coset with some exponents. -/
def LeV (p : Pr) (xss : List (List Int)) (y r : List Int) (e : Int) : Prop := (¬ NormP p xss ∧ r = [] ∧ e = 5) ∨ (NormP p xss ∧ ∃ (_ : ConAll p) (ys : List (El p)), xss = vecs ys ∧ ((¬ InR (quoPr ys) y ∧ r = [] ∧ e = 2) ∨ (InR (quoPr ys) y ∧ r = liftL p ys y ∧ e = 0)))
theorem LeV.uniq {p : Pr} {xss : List (List Int)} {y : List Int} (a b : List Int) (c d : Int) (h : LeV p xss y a c) (k : LeV p xss y b d) : a = b ∧ c = d := by
  rcases h with ⟨h1, rfl, rfl⟩ | ⟨h1, hc, ys, h2, h3⟩ <;> rcases k with ⟨k1, rfl, rfl⟩ | ⟨k1, kc, zs, k2, k3⟩
  · exact ⟨rfl, rfl⟩
  · exact absurd k1 h1
  · exact absurd h1 k1
  · obtain rfl := vecs_inj (h2.symm.trans k2)
    rcases h3 with ⟨h4, rfl, rfl⟩ | ⟨h4, rfl, rfl⟩ <;> rcases k3 with ⟨k4, rfl, rfl⟩ | ⟨k4, rfl, rfl⟩
    · exact ⟨rfl, rfl⟩
    · exact absurd k4 h4
    · exact absurd h4 k4
    · exact ⟨rfl, rfl⟩
section
variable {p : Pr} [hc : ConAll p]
/-- The coset of an element, as an element of the quotient. -/
noncomputable def prjQ (ys : List (El p)) (x : El p) : El (quoPr ys) := ⟨prjE ys x, prjE_in x, fun k hk => absurd hk (Nat.not_lt_zero k)⟩
/-- The representative of an element of the quotient. -/
def liftQ {ys : List (El p)} (z : El (quoPr ys)) : El p := liftE z.inr
end
/-- The image of a subgroup in the quotient. -/
def PgV (p : Pr) (xss uss r : List (List Int)) (e : Int) : Prop := (¬ NormP p xss ∧ r = [] ∧ e = 5) ∨ (NormP p xss ∧ (∃ (_ : ConAll p) (ys zs : List (El p)) (_ : ConAll (quoPr ys)), xss = vecs ys ∧ uss = vecs zs ∧ r = canon (Gen (fun a : El (quoPr ys) => a ∈ zs.map (prjQ ys)))) ∧ e = 0)
theorem PgV.uniq {p : Pr} {xss uss : List (List Int)} (a b : List (List Int)) (c d : Int) (h : PgV p xss uss a c) (k : PgV p xss uss b d) : a = b ∧ c = d := by
  rcases h with ⟨h1, rfl, rfl⟩ | ⟨h1, ⟨hc, ys, zs, hq, h2, h3, rfl⟩, rfl⟩ <;> rcases k with ⟨k1, rfl, rfl⟩ | ⟨k1, ⟨kc, ys', zs', kq, k2, k3, rfl⟩, rfl⟩
  · exact ⟨rfl, rfl⟩
  · exact absurd k1 h1
  · exact absurd h1 k1
  · obtain rfl := vecs_inj (h2.symm.trans k2)
    obtain rfl := vecs_inj (h3.symm.trans k3)
    exact ⟨rfl, rfl⟩
/-- All elements whose cosets lie in a subgroup of the quotient. -/
def LsV (p : Pr) (xss wss r : List (List Int)) (e : Int) : Prop := (¬ NormP p xss ∧ r = [] ∧ e = 5) ∨ (NormP p xss ∧ ∃ (_ : ConAll p) (ys : List (El p)), xss = vecs ys ∧ ((¬ IsSubP (quoPr ys) wss ∧ r = [] ∧ e = 2) ∨ (IsSubP (quoPr ys) wss ∧ ∃ zs : List (El (quoPr ys)), wss = vecs zs ∧ r = canon (Gen (fun a : El p => a ∈ ys ++ zs.map liftQ)) ∧ e = 0)))
theorem LsV.uniq {p : Pr} {xss wss : List (List Int)} (a b : List (List Int)) (c d : Int) (h : LsV p xss wss a c) (k : LsV p xss wss b d) : a = b ∧ c = d := by
  rcases h with ⟨h1, rfl, rfl⟩ | ⟨h1, hc, ys, h2, h3⟩ <;> rcases k with ⟨k1, rfl, rfl⟩ | ⟨k1, kc, zs, k2, k3⟩
  · exact ⟨rfl, rfl⟩
  · exact absurd k1 h1
  · exact absurd h1 k1
  · obtain rfl := vecs_inj (h2.symm.trans k2)
    rcases h3 with ⟨h4, rfl, rfl⟩ | ⟨h4, us, h5, rfl, rfl⟩ <;> rcases k3 with ⟨k4, rfl, rfl⟩ | ⟨k4, vs, k5, rfl, rfl⟩
    · exact ⟨rfl, rfl⟩
    · exact absurd k4 h4
    · exact absurd h4 k4
    · obtain rfl := vecs_inj (h5.symm.trans k5)
      exact ⟨rfl, rfl⟩
end Go.Proofs.YtnphljflkpekmaaGreat

/-
  Walks: the reference's ProjectElement.
  Conditions: stated at each theorem.
-/
namespace Go.Proofs.YtnphljflkpekmaaGreat
open Go Go.Pc
set_option maxHeartbeats 1000000 in
theorem l15Code_ok {p : Pr} {w : World} {vp vu : Value} {us : List Value} {xss : List (List Int)} {lo hi lo1 hi1 : Nat} [hp : Pres lo hi w vp p] [hu : Pc.Rows lo1 hi1 w vu us xss] (hl : p.ord.length ≤ 2000000) :
    Calls Tryz.prog 54 #[vp, vu] w (Ret fun v w' => ∃ e : Int, v = .int .i64 e ∧ ((¬ IsSubP p xss ∧ e = 1) ∨ (IsSubP p xss ∧ ¬ NormP p xss ∧ e = 5) ∨ (IsSubP p xss ∧ NormP p xss ∧ e = 0)) ∧ Ext w w') := by
  obtain ⟨vo, vpw, vc, ps, cs, css, rfl, h1, h2, h3⟩ := hp.ex
  refine enter (args := [.agg #[vo, vpw, vc], vu]) (l := [.tmp 4]) Tryz.func54 rfl rfl Tryz.ntmps54 (by simp) ?_
  refine go ?_
  refine st_box3 (by ((try simp only [ev_tmp, ev_const, ev_func, get_put, get_args, get_putL, get_putL_nil, Nat.reduceEqDiff, reduceIte, List.getD_cons_zero, List.getD_cons_succ, List.getD_nil]); first | done | with_reducible rfl)) (by first | exact True.intro | exact ⟨_, rfl, by ((try simp only [ev_tmp, ev_const, ev_func, get_put, get_args, get_putL, get_putL_nil, Nat.reduceEqDiff, reduceIte, List.getD_cons_zero, List.getD_cons_succ, List.getD_nil, Bool.not_true, Bool.not_false]); first | done | with_reducible rfl)⟩) fun w1 b he1 hb1 hs1 hc0 hc1 hc2 => ?_
  refine go ?_
  refine rc (spec_IsSubgroup_ok (p := p) (xss := xss) hl) (next := fun v5 w5 h5 => ?_)
  obtain ⟨b5, rfl, hb5, he5⟩ := h5
  have hE5 := he1.trans he5
  refine go ?_
  refine c_b (fun e5 => ?_) (fun e5 => ?_)
  · refine go ?_
    refine ret1 ⟨1, rfl, .inl ⟨fun h => ?_, rfl⟩, hE5⟩
    rw [hb5.2 h] at e5; cases e5
  have hS := hb5.1 (by simpa using e5)
  have hS' := hS
  obtain ⟨hG, hq⟩ := hS'
  haveI : ConAll p := ⟨hG.con⟩
  obtain ⟨ys, hys, hse⟩ := isSeq_iff.1 hq
  refine go ?_
  refine rc (l13Normal_ok (p := p) hse hys) (next := fun v6 w6 h6 => ?_)
  obtain ⟨b6, rfl, hb6, he6⟩ := h6
  have hE6 := hE5.trans he6
  refine go ?_
  refine c_b (fun e6 => ?_) (fun e6 => ?_)
  · refine go ?_
    refine ret1 ⟨5, rfl, .inr (.inl ⟨hS, fun h => ?_, rfl⟩), hE6⟩
    rw [hb6.2 h] at e6; cases e6
  · refine go ?_
    exact ret1 ⟨0, rfl, .inr (.inr ⟨hS, hb6.1 (by simpa using e6), rfl⟩), hE6⟩
set_option maxHeartbeats 2000000 in
theorem l15Project_ok {p : Pr} [hc : ConAll p] {ys : List (El p)} (hs : SeqOk ys) {x : El p} {w : World} {vp vu vx : Value} {us : List Value} {xss : List (List Int)} {xs : List Int} {lo hi lo1 hi1 lo2 hi2 : Nat} [hp : Pres lo hi w vp p] [hu : Pc.Rows lo1 hi1 w vu us xss] [hx : Ints lo2 hi2 w vx xs] (hus : xss = vecs ys) (hxe : xs = x.v) :
    Calls Tryz.prog 55 #[vp, vu, vx] w (Ret fun v w' => Ext w w' ∧ ∃ y : El p, RepOf ys x y ∧ Fr w.heap.size w' v (prjL p ys y)) := by
  have hv := hc.valid
  have hn6 := hv.n6
  have hlt : ∀ d, d ∈ freeL p ys p.n → d < p.n := fun d hd => freeL_lt hd
  have hfl : (freeL p ys p.n).length ≤ p.n := by
    have h1 : (freeL p ys p.n).length ≤ (List.range p.n).length := List.length_filter_le _ _
    rwa [List.length_range] at h1
  have hil : (ints (freeL p ys p.n)).length = (freeL p ys p.n).length := by simp
  obtain ⟨vo, vpw, vc, ps, cs, css, rfl, h1, h2, h3⟩ := hp.ex
  refine enter (args := [.agg #[vo, vpw, vc], vu, vx]) (l := [.tmp 6]) Tryz.func55 rfl rfl Tryz.ntmps55 (by simp) ?_
  refine go ?_
  refine st_box3 (by ((try simp only [ev_tmp, ev_const, ev_func, get_put, get_args, get_putL, get_putL_nil, Nat.reduceEqDiff, reduceIte, List.getD_cons_zero, List.getD_cons_succ, List.getD_nil]); first | done | with_reducible rfl)) (by first | exact True.intro | exact ⟨_, rfl, by ((try simp only [ev_tmp, ev_const, ev_func, get_put, get_args, get_putL, get_putL_nil, Nat.reduceEqDiff, reduceIte, List.getD_cons_zero, List.getD_cons_succ, List.getD_nil, Bool.not_true, Bool.not_false]); first | done | with_reducible rfl)⟩) fun w1 b he1 hb1 hs1 hc0 hc1 hc2 => ?_
  have hz1 := he1.size
  refine go ?_
  refine rc (l12Sift_ok (p := p) (x := x) hs hus hxe) (next := fun v2 w2 h4 => ?_)
  obtain ⟨he2, r, hf2, hrep⟩ := h4
  have hi2 := hf2.ints
  have hrl := r.inr.len
  refine go ?_
  refine rc (l14Free_ok (p := p) hs hus) (next := fun v3 w3 h5 => ?_)
  obtain ⟨he3, hf3⟩ := h5
  have hi3 := hf3.ints
  have hE3 := (he1.trans he2).trans he3
  refine go ?_
  refine st_slice0 (by first | exact True.intro | exact ⟨_, rfl, by ((try simp only [ev_tmp, ev_const, ev_func, get_put, get_args, get_putL, get_putL_nil, Nat.reduceEqDiff, reduceIte, List.getD_cons_zero, List.getD_cons_succ, List.getD_nil, Bool.not_true, Bool.not_false]); first | done | with_reducible rfl)⟩) fun w4 v4 he4 hs4 ho4 => ?_
  refine go ?_
  refine r_for (freeL p ys p.n).length (fun k ρ w' => ∃ vl, Has ρ [(7, v2), (8, v3), (9, vl), (10, .int .i64 k)] ∧ Ext w3 w' ∧ GrowI 2 w3.heap.size w' vl (((freeL p ys p.n).take k).map fun d => co r d)) ?_ ?_
  · refine ⟨v4, ?_, he4, GrowI.start ho4 (Nat.le_refl _)⟩
    exact hasP
  clear ho4
  rintro k ρ w5 hk ⟨vl, hH, he5, hG5⟩
  refine rwp_has hH fun ρ0 => ?_
  have hz5 := he5.size
  refine go ?_
  refine c_if (fun h6 => ?_) (fun h6 => ?_)
  · have hkn : k < (freeL p ys p.n).length := by omega
    obtain ⟨d, hd⟩ : ∃ d, (freeL p ys p.n)[k] = d := ⟨_, rfl⟩
    have hdn : d < p.n := by rw [← hd]; exact hlt _ (List.getElem_mem hkn)
    have hfk : (ints (freeL p ys p.n)).getD k 0 = (d : Int) := by simp [hkn, hd]
    refine go ?_
    rw [hfk]
    refine go ?_
    refine st_growi hG5 hz5 (by rw [List.length_map, List.length_take]; omega) (next := fun v6 v7 w7 hG7 hx7 hz7 hgs7 => ?_)
    refine go ?_
    refine forQ_normal (by omega) ⟨v7, ?_, hx7 w3 he5 (Nat.le_refl _), ?_⟩
    · exact hasP
    · rw [List.take_succ_eq_append_getElem hkn, List.map_append, hd]
      exact hG7
  · obtain rfl : k = (freeL p ys p.n).length := by omega
    rw [List.take_length] at hG5
    refine go ?_
    exact ret1 ⟨hE3.trans he5, r, hrep, hG5.fr.mono hE3.size⟩
end Go.Proofs.YtnphljflkpekmaaGreat

/-
  Walks: the reference's presentation of a subgroup (l15Sub).
  Conditions: stated at each theorem.
-/
namespace Go.Proofs.YtnphljflkpekmaaGreat
open Go Go.Pc
end Go.Proofs.YtnphljflkpekmaaGreat

/-
  Walks: the reference's presentation of a quotient (l15Quo), SubgroupPresentation, QuotientPresentation.
  Conditions: stated at each theorem.
-/
namespace Go.Proofs.YtnphljflkpekmaaGreat
open Go Go.Pc
set_option maxHeartbeats 8000000 in
theorem l15Quo_ok {p : Pr} [hc : ConAll p] {ys : List (El p)} (hse : SeqEl ys) {w : World} {vp vu : Value} {us : List Value} {xss : List (List Int)} {lo hi lo1 hi1 : Nat} [hp : Pres lo hi w vp p] [hu : Pc.Rows lo1 hi1 w vu us xss] (hus : xss = vecs ys) :
    Calls Tryz.prog 58 #[vp, vu] w (Ret fun v w' => Ext w w' ∧ PresO w.heap.size w'.heap.size w' v (quoPr ys)) := by
  have hs := hse.ok
  have hv := hc.valid
  have hn6 := hv.n6
  have hol : p.ord.length = p.n := rfl
  replace hu := hu.wide
  have hfn := frN_le ys
  have hil : (ints (freeL p ys p.n)).length = frN p ys := by simp [frN]
  obtain ⟨vo, vpw, vc, ps, cs, css, rfl, h1, h2, h3⟩ := hp.ex
  replace h1 := h1.wide
  replace h2 := h2.wide
  replace h3 := h3.wide
  refine enter (args := [.agg #[vo, vpw, vc], vu]) (l := [.cell 4 29]) Tryz.func58 rfl rfl Tryz.ntmps58 (by simp) ?_
  refine go ?_
  refine st_box3 (by ((try simp only [ev_tmp, ev_const, ev_func, get_put, get_args, get_putL, get_putL_nil, Nat.reduceEqDiff, reduceIte, List.getD_cons_zero, List.getD_cons_succ, List.getD_nil]); first | done | with_reducible rfl)) (by first | exact True.intro | exact ⟨_, rfl, by ((try simp only [ev_tmp, ev_const, ev_func, get_put, get_args, get_putL, get_putL_nil, Nat.reduceEqDiff, reduceIte, List.getD_cons_zero, List.getD_cons_succ, List.getD_nil, Bool.not_true, Bool.not_false]); first | done | with_reducible rfl)⟩) fun w1 b he1 hb1 hs1 hc0 hc1 hc2 => ?_
  refine go ?_
  refine st_alloc (by first | exact True.intro | exact ⟨_, rfl, by ((try simp only [ev_tmp, ev_const, ev_func, get_put, get_args, get_putL, get_putL_nil, Nat.reduceEqDiff, reduceIte, List.getD_cons_zero, List.getD_cons_succ, List.getD_nil, Bool.not_true, Bool.not_false]); first | done | with_reducible rfl)⟩) fun w2 br he2 hbr hs2 hbk2 => ?_
  have hz1 := he1.size
  have hz2 := he2.size
  refine go ?_
  refine rc (l14Free_ok (p := p) hs hus) (next := fun v3 w3 h4 => ?_)
  obtain ⟨he3, hf3⟩ := h4
  have hz3 := he3.size
  refine go ?_
  refine ra (v := .agg #[nilv, nilv, nilv]) (h := rd_build (by rfl) (fun _ => by kernel_rfl)) (next := ?_)
  refine st_alloc (by first | exact True.intro | exact ⟨_, rfl, by ((try simp only [ev_tmp, ev_const, ev_func, get_put, get_args, get_putL, get_putL_nil, Nat.reduceEqDiff, reduceIte, List.getD_cons_zero, List.getD_cons_succ, List.getD_nil, Bool.not_true, Bool.not_false]); first | done | with_reducible rfl)⟩) fun w4 bo he4 hbo hs4 hbk4 => ?_
  refine st_store_agg (vs := [nilv, nilv, nilv]) (cs := _) (hb := hbk4) (by ((try simp only [ev_tmp, ev_const, ev_func, get_put, get_args, get_putL, get_putL_nil, Nat.reduceEqDiff, reduceIte, List.getD_cons_zero, List.getD_cons_succ, List.getD_nil]); first | done | with_reducible rfl)) (by ((try simp only [ev_tmp, ev_const, ev_func, get_put, get_args, get_putL, get_putL_nil, Nat.reduceEqDiff, reduceIte, List.getD_cons_zero, List.getD_cons_succ, List.getD_nil]); first | done | with_reducible rfl)) rfl ?_ ?_ (by first | exact True.intro | exact ⟨_, rfl, by ((try simp only [ev_tmp, ev_const, ev_func, get_put, get_args, get_putL, get_putL_nil, Nat.reduceEqDiff, reduceIte, List.getD_cons_zero, List.getD_cons_succ, List.getD_nil, Bool.not_true, Bool.not_false]); first | done | with_reducible rfl)⟩) fun w5 hc5 hs5 hbk5 => ?_
  · rfl
  · rfl
  have hz4 := he4.size
  have hE35 : Ext w3 w5 := hc5.ext he4 (by omega)
  have hE3 := (he1.trans he2).trans he3
  have hz5 := hE35.size
  have hfr : Ints 0 w3.heap.size w3 v3 (ints (freeL p ys p.n)) := hf3.ints.wide
  refine go ?_
  refine r_for (frN p ys) (fun i ρ w' => ∃ vo', Has ρ [(1, vu), (2, .pointer (some ⟨b, 0, none⟩)), (4, .pointer (some ⟨br, 0, none⟩)), (5, .int .i64 p.ord.length), (6, v3), (7, .pointer (some ⟨bo, 0, none⟩)), (8, .int .i64 i)] ∧ Ext w3 w' ∧ Blk w' bo [vo', nilv, nilv] ∧ Tri 2 22 23 22 w5.heap.size w' vo' ((List.range i).map fun i => p.o (frA p ys i)) nilv [] nilv []) ?_ ?_
  · refine ⟨nilv, ?_, hE35, hbk5, Tri.nil _ _ _ _ _ _ (Nat.le_refl _)⟩
    exact hasP
  clear hbk4 hbk5
  · rintro i ρ w6 hi ⟨vo6, hH, he6, hb6, hT6⟩
    refine rwp_has hH fun ρ0 => ?_
    have hz6 := he6.size
    have hfr6 : Ints 0 w3.heap.size w6 v3 (ints (freeL p ys p.n)) := hfr.same (he6.same _ _)
    refine go ?_
    refine c_if (fun h4 => ?_) (fun h4 => ?_)
    · have hin : i < frN p ys := by omega
      have hda := frA_lt hin
      have hdo : p.ord.getD (frA p ys i) 0 = p.o (frA p ys i) := rfl
      obtain ⟨b', hb', hvb'⟩ := own_some' vo6 w5.heap.size w6.heap.size hT6.lo (fun g h => (hT6.o.lt g h).1)
      have ap1 : Apart 0 w.heap.size b' := ⟨.inr (by omega)⟩
      have ap2 : Apart b (b + 1) b' := ⟨.inr (by omega)⟩
      have ap3 : Apart bo (bo + 1) b' := ⟨.inr (by omega)⟩
      have ap4 : Apart 0 w3.heap.size b' := ⟨.inr (by omega)⟩
      have k0 : Cell w6 bo 0 vo6 := hb6.cell rfl
      refine go ?_
      refine z_order b' (List.range 14) (h := fun w7 he7 hs7 => ?_)
      refine zgo ?_
      rw [frA_ints hin]
      refine zgo ?_
      rw [hdo]
      refine z_growi (GrowI.mk (@OwnN.ext _ _ _ _ _ _ he7 hT6.o)) (by have := hT6.lo; omega) (by rw [List.length_map, List.length_range]; omega) hvb' (next := fun v10 v11 w11 hG11 hx11 hz11 hst11 => ?_)
      have hb11 : Blk w11 bo [vo6, nilv, nilv] := Blk.gstep (@Blk.ext _ _ _ _ he7 hb6) hst11 (hT6.ob (by omega))
      refine zgo ?_
      refine z_stfld (bo := bo) (m := 0) (cs := [vo6, nilv, nilv]) hb11 hG11.own.toSl.one (by simp) (next := fun w12 hc12 hs12 hb12 => ?_)
      have hT12 := hT6.fieldO he7 hG11 hst11 hc12 (by omega)
      have hE12 : Ext w3 w12 := hc12.ext (hx11 w3 (he6.trans he7) (by omega)) (by omega)
      refine go ?_
      refine forQ_normal (by omega) ⟨v11, ?_, hE12, hb12, ?_⟩
      · exact hasP
      · rw [List.range_succ, List.map_append]; exact hT12
    obtain rfl : i = frN p ys := by omega
    clear hH
    refine go ?_
    refine r_for (frN p ys) (fun i ρ w' => ∃ vp vc rp gs, Has ρ [(1, vu), (2, .pointer (some ⟨b, 0, none⟩)), (4, .pointer (some ⟨br, 0, none⟩)), (5, .int .i64 p.ord.length), (6, v3), (7, .pointer (some ⟨bo, 0, none⟩)), (9, .int .i64 i)] ∧ Ext w3 w' ∧ Blk w' bo [vo6, vp, vc] ∧ Tri 2 22 23 22 w5.heap.size w' vo6 ((List.range (frN p ys)).map fun i => p.o (frA p ys i)) vp rp vc gs ∧ rp.map (·.2) = (List.range i).map (quoPow ys) ∧ (gs.map fun q => q.2.map (·.2)) = (List.range i).map fun i => (List.range (frN p ys - (i + 1))).map fun k => quoCnj ys i (i + 1 + k)) ?_ ?_
    · refine ⟨nilv, nilv, [], [], ?_, he6, hb6, hT6, rfl, rfl⟩
      exact hasP
    clear hb6 hT6 hfr6 he6 hz6
    rintro i ρ w6 hi ⟨vp6, vc6, rp, gs, hH, he6, hb6, hT6, hrp, hgs⟩
    refine rwp_has hH fun ρ0 => ?_
    have hz6 := he6.size
    have hlo6 := hT6.lo
    have hrl : rp.length = i := by have := congrArg List.length hrp; simpa using this
    have hgl : gs.length = i := by have := congrArg List.length hgs; simpa using this
    have hfr6 : Ints 0 w3.heap.size w6 v3 (ints (freeL p ys p.n)) := hfr.same (he6.same _ _)
    refine go ?_
    refine c_if (fun h4 => ?_) (fun h4 => ?_)
    · have hin : i < frN p ys := by omega
      have hda := frA_lt hin
      have hdo : p.ord.getD (frA p ys i) 0 = p.o (frA p ys i) := rfl
      have hob := hv.opos hda
      have hgd := gOf_val hda
      refine go ?_
      rw [frA_ints hin]
      refine rc (l07Unit_ok (n := p.n) (i := frA p ys i) rfl rfl (by omega) hda) (next := fun v8 w8 h8 => ?_)
      obtain ⟨he8, hf8⟩ := h8
      have hz8 := he8.size
      have hT8 := hT6.ext he8
      have hb8 : Blk w8 bo [vo6, vp6, vc6] := @Blk.ext _ _ _ _ he8 hb6
      have hfr8 : Ints 0 w3.heap.size w8 v3 (ints (freeL p ys p.n)) := hfr6.same (he8.same _ _)
      have hE8 := he6.trans he8
      have hg8 : Ints w6.heap.size w8.heap.size w8 v8 (gOf p 0 (frA p ys i) : El p).v := by
        have h := hf8.ints
        rw [gOf_val hda]; exact h
      obtain ⟨b', hb', hvb'⟩ : ∃ b', w5.heap.size ≤ b' ∧ (b' < w6.heap.size ∨ w8.heap.size ≤ b') ∧ ∀ g, vp6.ownBlock = some g → g = b' := by
        cases e : vp6.ownBlock with
        | none => exact ⟨w8.heap.size, by omega, .inr (Nat.le_refl _), fun g h => by cases h⟩
        | some g => have := hT6.p.own.lt g e; exact ⟨g, by omega, .inl (by omega), fun g' h => by injection h with h; exact h.symm⟩
      obtain ⟨hbb, hvb'⟩ := hvb'
      have ap1 : Apart 0 w.heap.size b' := ⟨.inr (by omega)⟩
      have ap2 : Apart b (b + 1) b' := ⟨.inr (by omega)⟩
      have ap3 : Apart bo (bo + 1) b' := ⟨.inr (by omega)⟩
      have ap4 : Apart 0 w3.heap.size b' := ⟨.inr (by omega)⟩
      have ap5 : Apart w6.heap.size w8.heap.size b' := ⟨by omega⟩
      have k1 : Cell w8 bo 1 vp6 := hb8.cell rfl
      clear hfr6 hb6 hT6 hf8
      refine go ?_
      refine z_order b' (List.range 20) (h := fun w9 he9 hs9 => ?_)
      refine zgo ?_
      rw [frA_ints hin]
      refine zgo ?_
      rw [hdo]
      refine zc (l10Pow_ok (p := p) (x := gOf p 0 (frA p ys i)) rfl ?_) (next := fun v10 w10 h10 => ?_)
      · omega
      obtain ⟨he10, hf10⟩ := h10
      have hi10 := hf10.ints
      refine zc (l15Project_ok (p := p) (x := Grp.pwz (gOf p 0 (frA p ys i)) (p.o (frA p ys i))) hs hus rfl) (next := fun v11 w11 h11 => ?_)
      obtain ⟨he11, y11, hrep11, hf11⟩ := h11
      rw [hrep11.prj hse] at hf11
      have hx811 := (he9.trans he10).trans he11
      have hz11 := hx811.size
      have hf11' := hf11.mono (lo' := w8.heap.size) (by have := he9.size; have := he10.size; omega)
      refine z_grow (hT8.p.grow hT8.lo) hx811 hf11' hT8.lo (by omega) hvb' (next := fun v12 v13 w13 hG13 hx13 hz13 hst13 => ?_)
      have hb13 : Blk w13 bo [vo6, vp6, vc6] := Blk.gstep (@Blk.ext _ _ _ _ hx811 hb8) hst13 (hT8.pb (by omega))
      refine zgo ?_
      refine z_stfld (bo := bo) (m := 1) (cs := [vo6, vp6, vc6]) hb13 hG13.lst.own.toSl.one (by simp) (next := fun w14 hc14 hs14 hb14 => ?_)
      have hT14 := hT8.fieldP hx811 hf11' hG13 hst13 hc14 (by omega)
      have hE14 : Ext w3 w14 := hc14.ext (hx13 w3 (hE8.trans hx811) (by omega)) (by omega)
      have hg14 : Ints w6.heap.size w8.heap.size w14 v8 (gOf p 0 (frA p ys i) : El p).v := by
        have k1 := hst13.wrt
        refine ((hg8.same (hx811.same _ _)).same (k1.same fun g hg => ?_)).same (hc14.same (.inl (by omega)))
        have := hvb' g hg
        omega
      clear hT8 hb8 hb13 k1 hG13 hx13 hst13 hf10 hf11 hf11' hi10 hg8 hfr8
      have hz14 := hE14.size
      have hfr14 : Ints 0 w3.heap.size w14 v3 (ints (freeL p ys p.n)) := hfr.same (hE14.same _ _)
      refine go ?_
      refine st_slice0 (by first | exact True.intro | exact ⟨_, rfl, by ((try simp only [ev_tmp, ev_const, ev_func, get_put, get_args, get_putL, get_putL_nil, Nat.reduceEqDiff, reduceIte, List.getD_cons_zero, List.getD_cons_succ, List.getD_nil, Bool.not_true, Bool.not_false]); first | done | with_reducible rfl)⟩) fun w15 v15 he15 hs15 ho15 => ?_
      refine go ?_
      refine r_for (frN p ys - (i + 1)) (fun k ρ w' => ∃ vl rs, Has ρ [(1, vu), (2, .pointer (some ⟨b, 0, none⟩)), (4, .pointer (some ⟨br, 0, none⟩)), (5, .int .i64 p.ord.length), (6, v3), (7, .pointer (some ⟨bo, 0, none⟩)), (9, .int .i64 i), (10, v8), (11, vl), (12, .int .i64 ((i + 1 + k : Nat) : Int))] ∧ Ext w14 w' ∧ GrowL 22 w14.heap.size w' vl rs ∧ rs.map (·.2) = (List.range k).map fun k => quoCnj ys i (i + 1 + k)) ?_ ?_
      · refine ⟨v15, [], ?_, he15, GrowL.start ho15 (Nat.le_refl _), rfl⟩
        exact hasP
      clear ho15
      rintro k ρ w16 hk ⟨vl, rs, hH, he16, hG16, hrs16⟩
      refine rwp_has hH fun ρ0 => ?_
      have hz16 := he16.size
      have hE16 := hE14.trans he16
      have hrsl : rs.length = k := by have := congrArg List.length hrs16; simpa using this
      have hfr16 : Ints 0 w3.heap.size w16 v3 (ints (freeL p ys p.n)) := hfr14.same (he16.same _ _)
      have hg16 : Ints w6.heap.size w8.heap.size w16 v8 (gOf p 0 (frA p ys i) : El p).v := hg14.same (he16.same _ _)
      refine go ?_
      refine c_if (fun h5 => ?_) (fun h5 => ?_)
      · have hkn : k < frN p ys - (i + 1) := by omega
        have hin2 : i + 1 + k < frN p ys := by omega
        have hda2 := frA_lt hin2
        have hw8 : w8.heap.size ≤ w14.heap.size := by have := hx811.size; omega
        obtain ⟨b2, hb2, hvb2⟩ := own_some' vl w14.heap.size w16.heap.size hz16 (fun g h => (hG16.lst.lt h).1)
        have ap1 : Apart 0 w.heap.size b2 := ⟨.inr (by omega)⟩
        have ap2 : Apart b (b + 1) b2 := ⟨.inr (by omega)⟩
        have ap4 : Apart 0 w3.heap.size b2 := ⟨.inr (by omega)⟩
        have ap5 : Apart w6.heap.size w8.heap.size b2 := ⟨.inr (by omega)⟩
        refine go ?_
        refine z_order b2 [0, 1, 2, 3, 4, 5, 6, 7, 8, 10, 9, 11, 12, 13, 14, 15] (h := fun w17 he17 _ => ?_)
        refine zgo ?_
        rw [frA_ints hin2]
        refine zgo ?_
        refine zc (l07Unit_ok (n := p.n) (i := frA p ys (i + 1 + k)) rfl rfl (by omega) hda2) (next := fun v18 w18 h18 => ?_)
        obtain ⟨he18, hf18⟩ := h18
        have hg18 : Ints w17.heap.size w18.heap.size w18 v18 (gOf p 0 (frA p ys (i + 1 + k)) : El p).v := by
          have h := hf18.ints
          rw [gOf_val hda2]; exact h
        clear hf18
        refine zc (l10Conj_ok (p := p) (x := gOf p 0 (frA p ys (i + 1 + k))) (y := gOf p 0 (frA p ys i)) rfl rfl) (next := fun v19 w19 h19 => ?_)
        obtain ⟨he19, hf19⟩ := h19
        have hi19 := hf19.ints
        refine zc (l15Project_ok (p := p) (x := Grp.cj (gOf p 0 (frA p ys (i + 1 + k))) (gOf p 0 (frA p ys i))) hs hus rfl) (next := fun v20 w20 h20 => ?_)
        obtain ⟨he20, y20, hrep20, hf20⟩ := h20
        rw [hrep20.prj hse] at hf20
        have hx := ((he17.trans he18).trans he19).trans he20
        refine z_grow hG16 hx (hf20.mono (by have := he17.size; have := he18.size; have := he19.size; omega)) hz16 (by omega) hvb2 (next := fun v21 v22 w22 hG22 hx22 hz22 hst22 => ?_)
        refine zgo ?_
        refine z_end ?_
        refine go ?_
        refine forQ_normal (by omega) ⟨v22, _, ?_, hx22 w14 (he16.trans hx) (Nat.le_refl _), hG22, ?_⟩
        · exact hasP
        · rw [List.range_succ, List.map_append, List.map_append, hrs16]; rfl
      · obtain rfl : k = frN p ys - (i + 1) := by omega
        have hT16 := hT14.ext he16
        have hb16 : Blk w16 bo [vo6, v13, vc6] := @Blk.ext _ _ _ _ he16 hb14
        have k2 : Cell w16 bo 2 vc6 := hb16.cell rfl
        have hL := GrL.of hG16
        refine go ?_
        refine st_growu (sb := w5.heap.size) hT16.c.own hG16.lst.own.toSl.cells hG16.lst.own.toSl.one hT16.lo (by rw [List.length_map]; omega) (next := fun v17 v18 w18 hO18 hx18 hz18 hst18 => ?_)
        have hb18 : Blk w18 bo [vo6, v13, vc6] := Blk.gstep hb16 hst18 (hT16.cb (by omega))
        clear k2
        refine go ?_
        refine st_store_fld (h := hb18) (by ((try simp only [ev_tmp, ev_const, ev_func, get_put, get_args, get_putL, get_putL_nil, Nat.reduceEqDiff, reduceIte, List.getD_cons_zero, List.getD_cons_succ, List.getD_nil]); first | done | with_reducible rfl)) (by ((try simp only [ev_tmp, ev_const, ev_func, get_put, get_args, get_putL, get_putL_nil, Nat.reduceEqDiff, reduceIte, List.getD_cons_zero, List.getD_cons_succ, List.getD_nil]); first | done | with_reducible rfl)) ?_ ?_ (by first | exact True.intro | exact ⟨_, rfl, by ((try simp only [ev_tmp, ev_const, ev_func, get_put, get_args, get_putL, get_putL_nil, Nat.reduceEqDiff, reduceIte, List.getD_cons_zero, List.getD_cons_succ, List.getD_nil, Bool.not_true, Bool.not_false]); first | done | with_reducible rfl)⟩) fun w19 hc19 hs19 hb19 => ?_
        · exact hO18.toSl.one
        · simp
        have hT19 := hT14.fieldC he16 hL hO18 hst18 hc19 (by omega)
        have hE19 : Ext w3 w19 := hc19.ext (hx18 w3 hE16 (by omega)) (by omega)
        refine go ?_
        refine forQ_normal (by omega) ⟨v13, v18, _, _, ?_, hE19, hb19, hT19, ?_, ?_⟩
        · exact hasP
        · rw [List.range_succ, List.map_append, List.map_append, hrp]; rfl
        · rw [List.range_succ, List.map_append, List.map_append, hgs]
          simp only [List.map_cons, List.map_nil, hrs16]
    · obtain rfl : i = frN p ys := by omega
      have hbr6 : Blk w6 br _ := @Blk.ext _ _ _ _ (he3.trans he6) hbk2
      have hP := hT6.pres
      rw [hrp, hgs] at hP
      have o3 := hP.pres.one3
      refine go ?_
      refine ra (v := .agg #[vo6, vp6, vc6]) (h := rd_load_blk (hb := hb6) (by ((try simp only [ev_tmp, ev_const, ev_func, get_put, get_args, get_putL, get_putL_nil, Nat.reduceEqDiff, reduceIte, List.getD_cons_zero, List.getD_cons_succ, List.getD_nil]); first | done | with_reducible rfl)) rfl) (next := ?_)
      refine st_store_agg (vs := [vo6, vp6, vc6]) (cs := _) (hb := hbr6) (by ((try simp only [ev_tmp, ev_const, ev_func, get_put, get_args, get_putL, get_putL_nil, Nat.reduceEqDiff, reduceIte, List.getD_cons_zero, List.getD_cons_succ, List.getD_nil]); first | done | with_reducible rfl)) (by ((try simp only [ev_tmp, ev_const, ev_func, get_put, get_args, get_putL, get_putL_nil, Nat.reduceEqDiff, reduceIte, List.getD_cons_zero, List.getD_cons_succ, List.getD_nil]); first | done | with_reducible rfl)) rfl ?_ ?_ (by first | exact True.intro | exact ⟨_, rfl, by ((try simp only [ev_tmp, ev_const, ev_func, get_put, get_args, get_putL, get_putL_nil, Nat.reduceEqDiff, reduceIte, List.getD_cons_zero, List.getD_cons_succ, List.getD_nil, Bool.not_true, Bool.not_false]); first | done | with_reducible rfl)⟩) fun w7 hc7 hs7 hb7 => ?_
      · rfl
      · simp [o3.1, o3.2.1, o3.2.2]
      refine go ?_
      have hE7 : Ext w w7 := hc7.ext (hE3.trans he6) (by omega)
      refine retc (b := br) (hb := hb7) ⟨hE7, ?_⟩ rfl
      have hP7 := hP.wr (.one (B := fun g => g = br) rfl hc7) (fun g hg => .inl (by omega))
      rw [hs7]
      exact hP7.sub (by omega) (Nat.le_refl _)
end Go.Proofs.YtnphljflkpekmaaGreat

/-
  Drawn regions in which a variable is made, at whatever moment; stores of structs in drawn regions.
  Conditions: none; nothing of the program stands here.
-/
namespace Go.Pc
open Go Go.RowKit
section
variable {P : Program} {N : Nat} {ops : Array Oper} {π : List Nat} {S : World → Prop} {K : Env → World → Prop} {ρ : Env} {w w0 : World}
variable {i : Nat} {d : Nat} {op : Op} {ty : TypeId} {pos : String} {after : Array Edge} {g : Option (Nat × Bool)}
/-- A drawn region and what holds behind it. -/
theorem d_post {Q : Post} {id : Nat} (R : Env → World → Prop) (h : rwp P N (.region id ops true) (fun e ρ w => e = .normal ∧ R ρ w) ρ w) (hk : ∀ ρ w, R ρ w → Q .normal ρ w) : rwp P N (.region id ops true) Q ρ w :=
  rwp_mono h fun e ρ w he => by
    obtain ⟨rfl, hr⟩ := he
    exact hk ρ w hr
theorem ds_call {f : FuncId} {args : Array Value} {R : Value → World → Prop} (hc : Calls P f args w (Ret R)) (hi : opAt ops π i = some ⟨some d, op, ty, pos, after, g⟩ := by exact rfl) (hd : d < N := by decide)
    (ho : Cl P op ty ρ f args := by ((first | refine cl_func ?_ | refine cl_fval ((by ((try simp only [ev_tmp, ev_const, ev_func, get_put, get_args, get_putL, get_putL_nil, Nat.reduceEqDiff, reduceIte, List.getD_cons_zero, List.getD_cons_succ, List.getD_nil]); first | done | with_reducible rfl))) ?_); ((try simp only [List.map_toArray, List.map_cons, List.map_nil, ev_tmp, ev_const, ev_func, get_put, get_args, get_putL, get_putL_nil, Nat.reduceEqDiff, reduceIte, List.getD_cons_zero, List.getD_cons_succ, List.getD_nil]); first | done | with_reducible rfl | rfl))) (hg : Wants ops ρ g := by first | exact True.intro | exact ⟨_, rfl, by ((try simp only [ev_tmp, ev_const, ev_func, get_put, get_args, get_putL, get_putL_nil, Nat.reduceEqDiff, reduceIte, List.getD_cons_zero, List.getD_cons_succ, List.getD_nil, Bool.not_true, Bool.not_false]); first | done | with_reducible rfl)⟩) (hR : ∀ v w', R v w' → Ext w w' := by first | exact fun _ _ h => And.left h | (rintro _ _ ⟨_, h⟩; exact h) | (rintro _ _ ⟨_, rfl, _, h⟩; exact h) | (rintro _ _ ⟨_, rfl, _, _, h⟩; exact h) | (rintro _ _ ⟨_, rfl, _, _, _, h⟩; exact h)) (next : ∀ v w', R v w' → dops P N ops π (Ext w0) K (i + 1) (put ρ d v) w') : dstp P N ops π (Ext w0) K i ρ w := by
  refine dstp_step hi hg fun hS a ha => ?_
  unfold Oper.wp
  rw [ha.eval, ho.run w]
  refine Calls.mono hc fun e w' he => ?_
  cases e with
  | returned v => exact ⟨hS.trans (hR v w' he), _, ha.put hd v, fun _ => next v w' he⟩
  | panicked c => exact he.elim
  | outgrown => exact he.elim
theorem ex_alloc {t : TypeId} {zs : List Value} [hz : ZeroT P t zs] : Ex P (.alloc t) ty ρ w (.pointer (some ⟨w.heap.size, 0, none⟩)) (w.alloc (.cells zs.toArray t)) := by
  obtain ⟨i, hi, hz, hs⟩ := hz.ex
  exact ⟨fun _ _ _ _ => by simp [execOp, Instr.alloc, zeroValue, typeInfo, hi, hz, newVar, newRow, Value.cells]⟩
theorem ds_alloc {t : TypeId} {zs : List Value} [hz : ZeroT P t zs] (next : ∀ w' b, Ext w w' → b = w.heap.size → w'.heap.size = b + 1 → Blk w' b zs → dops P N ops π (Ext w0) K (i + 1) (put ρ d (.pointer (some ⟨b, 0, none⟩))) w')
    (hi : opAt ops π i = some ⟨some d, .alloc t, ty, pos, after, g⟩ := by exact rfl) (hd : d < N := by decide) (hg : Wants ops ρ g := by first | exact True.intro | exact ⟨_, rfl, by ((try simp only [ev_tmp, ev_const, ev_func, get_put, get_args, get_putL, get_putL_nil, Nat.reduceEqDiff, reduceIte, List.getD_cons_zero, List.getD_cons_succ, List.getD_nil, Bool.not_true, Bool.not_false]); first | done | with_reducible rfl)⟩) : dstp P N ops π (Ext w0) K i ρ w :=
  dstp_ex hi hd hg ex_alloc (fun h => h.trans (Ext.alloc _ _)) (next _ _ (Ext.alloc _ _) rfl (by simp) (blk_alloc _ _ _))
theorem d_alloc {t : TypeId} {zs : List Value} [hz : ZeroT P t zs] (next : ∀ w' b, Ext w w' → b = w.heap.size → w'.heap.size = b + 1 → Blk w' b zs → dops P N ops π (Ext w0) K (i + 1) (put ρ d (.pointer (some ⟨b, 0, none⟩))) w')
    (hi : opAt ops π i = some ⟨some d, .alloc t, ty, pos, after, g⟩ := by exact rfl) (hn : nextOk ops π i = true := by decide +kernel) (hd : d < N := by decide) (hg : Wants ops ρ g := by first | exact True.intro | exact ⟨_, rfl, by ((try simp only [ev_tmp, ev_const, ev_func, get_put, get_args, get_putL, get_putL_nil, Nat.reduceEqDiff, reduceIte, List.getD_cons_zero, List.getD_cons_succ, List.getD_nil, Bool.not_true, Bool.not_false]); first | done | with_reducible rfl)⟩) : dops P N ops π (Ext w0) K i ρ w :=
  dt_ex hi hn hd hg ex_alloc (fun h => h.trans (Ext.alloc _ _)) (next _ _ (Ext.alloc _ _) rfl (by simp) (blk_alloc _ _ _))
theorem wr_agg {t b n : Nat} {x y : Operand} {cs vs : List Value} [hp : StructT P t n] (hb : Blk w b cs) (hx : ev ρ x = .pointer (some ⟨b, 0, none⟩)) (hy : ev ρ y = .agg vs.toArray) (hn : n = vs.length) (hc : cs.length = vs.length) (h1 : vs.all (·.oneCell') = true) :
    ∃ w', Wr P (.store t x y) ty ρ w w' ∧ Chg b w w' ∧ w'.heap.size = w.heap.size ∧ Blk w' b vs := by
  obtain ⟨fs, i, hu, hi, hs⟩ := hp.ex
  obtain ⟨tb, hb'⟩ := hb.ex
  have hr := run_storeVar_row (P := P) w b tb t cs.toArray vs.toArray hb' (by simp [hi, hs, hn]) (by simpa using hc) (by simpa using h1)
  exact ⟨w.setRow b vs.toArray, ⟨fun _ _ _ _ => by simp [execOp, hx, hy, Instr.storeAt, Instr.sureAddr, hr]⟩, ⟨⟨rfl, rfl, rfl, by simp, fun k hk hne => setRow_other w b k _ (fun e => hne (by simp [e]))⟩⟩, by simp, ⟨tb, setRow_heap w b _ _ tb _ hb'⟩⟩
/-- A struct is stored into a variable that is new in this region. -/
theorem d_store_agg {t b n : Nat} {x y : Operand} {cs vs : List Value} [hp : StructT P t n] (hb : Blk w b cs) (h0 : w0.heap.size ≤ b) (hn0 : n = vs.length) (hc : cs.length = vs.length) (h1 : vs.all (·.oneCell') = true)
    (next : ∀ w', Chg b w w' → w'.heap.size = w.heap.size → Blk w' b vs → dops P N ops π (Ext w0) K (i + 1) ρ w')
    (hi : opAt ops π i = some ⟨none, .store t x y, ty, pos, after, g⟩ := by exact rfl) (hx : ev ρ x = .pointer (some ⟨b, 0, none⟩) := by ((try simp only [ev_tmp, ev_const, ev_func, get_put, get_args, get_putL, get_putL_nil, Nat.reduceEqDiff, reduceIte, List.getD_cons_zero, List.getD_cons_succ, List.getD_nil]); first | done | with_reducible rfl)) (hy : ev ρ y = .agg vs.toArray := by ((try simp only [ev_tmp, ev_const, ev_func, get_put, get_args, get_putL, get_putL_nil, Nat.reduceEqDiff, reduceIte, List.getD_cons_zero, List.getD_cons_succ, List.getD_nil]); first | done | with_reducible rfl)) (hn : nextOk ops π i = true := by decide +kernel) (hg : Wants ops ρ g := by first | exact True.intro | exact ⟨_, rfl, by ((try simp only [ev_tmp, ev_const, ev_func, get_put, get_args, get_putL, get_putL_nil, Nat.reduceEqDiff, reduceIte, List.getD_cons_zero, List.getD_cons_succ, List.getD_nil, Bool.not_true, Bool.not_false]); first | done | with_reducible rfl)⟩) : dops P N ops π (Ext w0) K i ρ w := by
  obtain ⟨w', hw, hC, hs, hB⟩ := wr_agg (P := P) (t := t) (ty := ty) hb hx hy hn0 hc h1
  exact z_wr hi hn hg hw (fun h => hC.ext h h0) (next w' hC hs hB)
/-- A struct is stored into the variable that the region writes. -/
theorem z_store_agg {t b n : Nat} {x y : Operand} {cs vs : List Value} [hp : StructT P t n] (hb : Blk w b cs) (hn0 : n = vs.length) (hc : cs.length = vs.length) (h1 : vs.all (·.oneCell') = true)
    (next : ∀ w', Chg b w w' → w'.heap.size = w.heap.size → Blk w' b vs → dops P N ops π (Chg b w0) K (i + 1) ρ w')
    (hi : opAt ops π i = some ⟨none, .store t x y, ty, pos, after, g⟩ := by exact rfl) (hx : ev ρ x = .pointer (some ⟨b, 0, none⟩) := by ((try simp only [ev_tmp, ev_const, ev_func, get_put, get_args, get_putL, get_putL_nil, Nat.reduceEqDiff, reduceIte, List.getD_cons_zero, List.getD_cons_succ, List.getD_nil]); first | done | with_reducible rfl)) (hy : ev ρ y = .agg vs.toArray := by ((try simp only [ev_tmp, ev_const, ev_func, get_put, get_args, get_putL, get_putL_nil, Nat.reduceEqDiff, reduceIte, List.getD_cons_zero, List.getD_cons_succ, List.getD_nil]); first | done | with_reducible rfl)) (hn : nextOk ops π i = true := by decide +kernel) (hg : Wants ops ρ g := by first | exact True.intro | exact ⟨_, rfl, by ((try simp only [ev_tmp, ev_const, ev_func, get_put, get_args, get_putL, get_putL_nil, Nat.reduceEqDiff, reduceIte, List.getD_cons_zero, List.getD_cons_succ, List.getD_nil, Bool.not_true, Bool.not_false]); first | done | with_reducible rfl)⟩) : dops P N ops π (Chg b w0) K i ρ w := by
  obtain ⟨w', hw, hC, hs, hB⟩ := wr_agg (P := P) (t := t) (ty := ty) hb hx hy hn0 hc h1
  exact z_wr hi hn hg hw (fun h => h.trans hC) (next w' hC hs hB)
end
section
variable {P : Program} {N : Nat} {ops : Array Oper} {π : List Nat} {K : Env → World → Prop} {ρ : Env} {w00 w1 : World}
variable {i : Nat} {ty ty2 : TypeId} {pos pos2 : String} {after after2 : Array Edge} {g g2 : Option (Nat × Bool)} {d d2 : Nat}
/-- 'append(s, x)', x of one cell, s the call's own, in a drawn region. -/
theorem z_growu {s x : Operand} {b t e bytes sb : Nat} {z v u : Value} {us : List Value} [ht : SlT P t e] [he : ElT P e 1 bytes z] (hO : OwnN e sb w1 v us) (hu1 : u.cells = #[u]) (hu2 : u.oneCell' = true) (hs0 : sb ≤ w1.heap.size)
    (hn : us.length ≤ 1000000) (hvb : ∀ g, v.ownBlock = some g → g = b) (hi1 : opAt ops π i = some ⟨some d, .buildSlice t 1 #[(0, x)], ty, pos, after, g⟩ := by exact rfl) (hi2 : opAt ops π (i + 1) = some ⟨some d2, .call { callee := .builtin .append, args := #[s, .tmp d], argTypes := #[t, t] }, ty2, pos2, after2, g2⟩ := by exact rfl)
    (next : ∀ v1 v' w', OwnN e sb w' v' (us ++ [u]) → (∀ wb, Ext wb w1 → wb.heap.size ≤ sb → Ext wb w') → w1.heap.size ≤ w'.heap.size → GStep w1 w' v v' → dops P N ops π (Chg b w00) K (i + 1 + 1) (put (put ρ d v1) d2 v') w')
    (hx : ev ρ x = u := by ((try simp only [ev_tmp, ev_const, ev_func, get_put, get_args, get_putL, get_putL_nil, Nat.reduceEqDiff, reduceIte, List.getD_cons_zero, List.getD_cons_succ, List.getD_nil]); first | done | with_reducible rfl)) (hs : ∀ v1, ev (put ρ d v1) s = v := by intro v1; ((try simp only [ev_tmp, ev_const, ev_func, get_put, get_args, get_putL, get_putL_nil, Nat.reduceEqDiff, reduceIte, List.getD_cons_zero, List.getD_cons_succ, List.getD_nil]); first | done | with_reducible rfl)) (hd : ∀ v1, ev (put ρ d v1) (.tmp d) = v1 := by intro v1; ((try simp only [ev_tmp, ev_const, ev_func, get_put, get_args, get_putL, get_putL_nil, Nat.reduceEqDiff, reduceIte, List.getD_cons_zero, List.getD_cons_succ, List.getD_nil]); first | done | with_reducible rfl)) (hz : z.cells = #[z] := by rfl) (hby : bytes ≤ 100 := by decide) (hg1 : Wants ops ρ g := by first | exact True.intro | exact ⟨_, rfl, by ((try simp only [ev_tmp, ev_const, ev_func, get_put, get_args, get_putL, get_putL_nil, Nat.reduceEqDiff, reduceIte, List.getD_cons_zero, List.getD_cons_succ, List.getD_nil, Bool.not_true, Bool.not_false]); first | done | with_reducible rfl)⟩) (hg2 : ∀ v1, Wants ops (put ρ d v1) g2 := by intro v1; first | exact True.intro | exact ⟨_, rfl, by ((try simp only [ev_tmp, ev_const, ev_func, get_put, get_args, get_putL, get_putL_nil, Nat.reduceEqDiff, reduceIte, List.getD_cons_zero, List.getD_cons_succ, List.getD_nil, Bool.not_true, Bool.not_false]); first | done | with_reducible rfl)⟩)
    (hn1 : nextOk ops π i = true := by decide +kernel) (hn2 : nextOk ops π (i + 1) = true := by decide +kernel) (hd1 : d < N := by decide) (hd2 : d2 < N := by decide) :
    dops P N ops π (Chg b w00) K i ρ w1 := by
  refine z_slice1 (u := u) hi1 hx hu1 hz (fun w2 v2 he2 hs2 ho2 => ?_) hn1 hd1 hg1
  have hO2 : OwnN e sb w2 v us := @OwnN.ext _ _ _ _ _ _ he2 hO
  have hz2 := he2.size
  have hb : (us.length + 1) * bytes ≤ 1000001 * 100 := Nat.mul_le_mul (by omega) hby
  refine z_append (hv := hO2) (hy := ho2) hi2 (hs v2) (hd v2) (by rw [hz]; rfl) ?_ ?_ ?_ ?_ hvb (fun v3 w3 ho3 hg3 ha3 => ?_) hn2 hd2 (hg2 v2)
  · intro a ha
    rw [List.mem_singleton.1 ha]; exact hu2
  · simp only [List.length_singleton]; omega
  · simp only [List.length_singleton, maxLen]; omega
  · omega
  · exact next v2 v3 w3 ho3 (fun wb hb1 hb2 => (hb1.trans he2).app hg3 (fun k hk => by have := (hO2.lt k hk).1; omega)) (Nat.le_trans hz2 hg3.size) ⟨w2, he2, hg3, ha3⟩
end
section
variable {B : Nat → Prop} {ep ec ei m0 m1 m2 bq : Nat} {w w' : World} {vo vp vc : Value} {ord : List Int} {rp : List (Value × List Int)} {gs : List (Value × List (Value × List Int))}
/-- The first two lists of a presentation that is being copied into a variable. -/
structure Hd (ep m0 m1 m2 bq : Nat) (w : World) (vo : Value) (ord : List Int) (vp : Value) (rp : List (Value × List Int)) : Prop where
  o : Fr m0 w vo ord
  ol : ord ≠ [] → ∀ b, vo.ownBlock = some b → b < m1 ∧ b ≠ bq
  p : GrL ep m1 w vp rp
  pl : ∀ b, FL vp rp b → b < m2 ∧ b ≠ bq
  l1 : m0 ≤ m1
  l2 : m1 ≤ m2
  l3 : m2 ≤ w.heap.size
theorem Hd.wr (h : Hd ep m0 m1 m2 bq w vo ord vp rp) (k : Wrt B w w') (hB : ∀ b, B b → b = bq ∨ m2 ≤ b) : Hd ep m0 m1 m2 bq w' vo ord vp rp :=
  ⟨h.o.wr k fun hn b hb hb' => by
    have h1 := h.ol hn b hb
    have h2 := h.l2
    rcases hB b hb' with e | e
    · exact h1.2 e
    · omega, h.ol, h.p.wr k fun b hb hb' => by
    have h1 := h.pl b hb
    rcases hB b hb' with e | e
    · exact h1.2 e
    · omega, h.pl, h.l1, h.l2, Nat.le_trans h.l3 k.size⟩
theorem Hd.ext (h : Hd ep m0 m1 m2 bq w vo ord vp rp) (x : Ext w w') : Hd ep m0 m1 m2 bq w' vo ord vp rp := h.wr (.ofExt (B := fun _ => False) x) fun b hb => hb.elim
theorem Hd.presO (h : Hd ep m0 m1 m2 bq w vo ord vp rp) (hc : GrC ec ei m2 w vc gs) : PresO m0 w.heap.size w (.agg #[vo, vp, vc]) ⟨ord, rp.map (·.2), gs.map fun q => q.2.map (·.2)⟩ :=
  PresO.of3 h.o h.l1 (fun hn b hb => (h.ol hn b hb).1) h.p (fun b hb => (h.pl b hb).1) h.l2 hc h.l3
/-- One more list of rows. -/
theorem GrC.field {w1 w2 w3 : World} {s bo : Nat} {u : Value} {rs : List (Value × List Int)} {vc' : Value} (h : GrC ec ei s w vc gs) (hs : s ≤ w.heap.size) (x : Ext w w1) (hL : GrL ei w.heap.size w1 u rs) (hO : OwnN ec s w2 vc' (gs.map (·.1) ++ [u])) (hst : GStep w1 w2 vc vc') (c : Chg bo w2 w3) (hb : bo < s) : GrC ec ei s w3 vc' (gs ++ [(u, rs)]) := by
  obtain ⟨w5, x5, hg, ha⟩ := hst.ex
  exact (h.push x hL hs x5 hO hg ha).wr (.one (B := fun g => g = bo) rfl c) fun b hb' e => by
    have h1 := (h.push x hL hs x5 hO hg ha).lt hb'
    omega
theorem Hd.of {sA : Nat} {wB wC wD w6 : World} (hf : Fr sA wB vo ord) (h0 : m0 ≤ sA) (hA : sA ≤ wC.heap.size) (hBC : wB.heap.size ≤ wC.heap.size) (hG : GrowL ep wC.heap.size wD vp rp) (xB : Ext wB w6) (xD : Ext wD w6) (hCD : wC.heap.size ≤ wD.heap.size) (hq : bq < sA ∨ (wB.heap.size ≤ bq ∧ bq < wC.heap.size) ∨ wD.heap.size ≤ bq) : Hd ep m0 wC.heap.size w6.heap.size bq w6 vo ord vp rp := by
  have z1 := xB.size
  have z2 := xD.size
  have hL := GrL.of hG
  refine ⟨(hf.ext' xB).mono h0, fun hn b hb => ?_, hL.wr (.ofExt (B := fun _ => False) xD) fun b _ hb => hb.elim, fun b hb => ?_, by omega, by omega, Nat.le_refl _⟩
  · obtain ⟨g, e1, l1, l2⟩ := hf.block hn
    rw [hb] at e1; injection e1 with e1
    omega
  · have := hL.lt hb
    omega
end
end Go.Pc

/-
  Walks: the reference's SubgroupPresentation, QuotientPresentation.
  Conditions: stated at each theorem.
-/
namespace Go.Proofs.YtnphljflkpekmaaGreat
open Go Go.Pc
theorem presO_nil {s : Nat} {w : World} (h : s ≤ w.heap.size) : PresO s w.heap.size w (.agg #[nilv, nilv, nilv]) noP := (Tri.nil 0 0 0 0 s w h).pres
end Go.Proofs.YtnphljflkpekmaaGreat

/-
  Walks: the reference's copy of a presentation (l07Own).
  Conditions: stated at each theorem.
-/
namespace Go.Proofs.YtnphljflkpekmaaGreat
open Go Go.Pc
set_option maxHeartbeats 8000000 in
theorem l07Own_ok {p : Pr} {w : World} {vp : Value} {lo hi : Nat} [hp : Pres lo hi w vp p] (hsz : SizeP p 6) :
    Calls Tryz.prog 101 #[vp] w (Ret fun v w' => Ext w w' ∧ PresO w.heap.size w'.heap.size w' v p) := by
  have hol := hsz.ord
  have hpl := hsz.pow
  have hcl := hsz.cnj
  replace hp := hp.wide
  obtain ⟨vo, vpw, vc, ps, cs, css, rfl, h1, h2, h3⟩ := hp.ex
  refine enter (args := [.agg #[vo, vpw, vc]]) (l := [.cell 2 29]) Tryz.func101 rfl rfl Tryz.ntmps101 (by simp) ?_
  refine go ?_
  refine st_box3 (by ((try simp only [ev_tmp, ev_const, ev_func, get_put, get_args, get_putL, get_putL_nil, Nat.reduceEqDiff, reduceIte, List.getD_cons_zero, List.getD_cons_succ, List.getD_nil]); first | done | with_reducible rfl)) (by first | exact True.intro | exact ⟨_, rfl, by ((try simp only [ev_tmp, ev_const, ev_func, get_put, get_args, get_putL, get_putL_nil, Nat.reduceEqDiff, reduceIte, List.getD_cons_zero, List.getD_cons_succ, List.getD_nil, Bool.not_true, Bool.not_false]); first | done | with_reducible rfl)⟩) fun w1 b he1 hb1 hs1 hc0 hc1 hc2 => ?_
  have hz1 := he1.size
  refine go ?_
  refine st_alloc (by first | exact True.intro | exact ⟨_, rfl, by ((try simp only [ev_tmp, ev_const, ev_func, get_put, get_args, get_putL, get_putL_nil, Nat.reduceEqDiff, reduceIte, List.getD_cons_zero, List.getD_cons_succ, List.getD_nil, Bool.not_true, Bool.not_false]); first | done | with_reducible rfl)⟩) fun w2 br he2 hbr hs2 hbk2 => ?_
  have hz2 := he2.size
  refine go ?_
  refine d_post (fun ρ' w' => ∃ vo' vp' rp bq m1, Has ρ' [(1, .pointer (some ⟨b, 0, none⟩)), (2, .pointer (some ⟨br, 0, none⟩)), (3, .pointer (some ⟨bq, 0, none⟩))] ∧ Ext w2 w' ∧ Blk w' bq [vo', vp', nilv] ∧ Hd 22 w2.heap.size m1 w'.heap.size bq w' vo' p.ord vp' rp ∧ rp.map (·.2) = p.pow ∧ w2.heap.size ≤ bq ∧ bq < w'.heap.size) ?_ ?_
  · refine d_order [0, 1, 3, 4, 2, 5, 6, 7, 8] (h := fun w3 he3 hs3 => ?_)
    refine dgo ?_
    refine dt_fork (π' := [0, 1, 3, 4, 7, 2, 5, 6, 8]) (by decide) rfl rfl (by decide +kernel) ?_ ?_
    · refine ds_call (l01Own_ok (xs := p.ord) (by omega)) (next := fun v4 w4 h4 => ?_)
      obtain ⟨he4, hf4⟩ := h4
      have hz4 := he4.size
      refine dt_fork (π' := [0, 1, 3, 4, 2, 7, 5, 6, 8]) (by decide) rfl rfl (by decide +kernel) ?_ ?_
      · refine ds_call (l01Own2G_ok (xss := p.pow) (fun i => by have := hsz.powi i; omega) (by omega)) (next := fun v5 w5 h5 => ?_)
        obtain ⟨he5, rs5, hG5, hrs5⟩ := h5
        have hz5 := he5.size
        refine da (v := .agg #[v4, v5, nilv]) (h := ⟨fun _ _ => rd_build (by simp only [ev_tmp, ev_const, ev_func, get_put, get_args, get_putL, get_putL_nil, Nat.reduceEqDiff, reduceIte, List.getD_cons_zero, List.getD_cons_succ, List.getD_nil, List.map_toArray, List.map_cons, List.map_nil]; rfl) (fun _ => ?_)⟩) (next := ?_)
        · obtain ⟨A, c, rfl, _⟩ := hf4.ints.sl.ex
          obtain ⟨A', c', rfl, _⟩ := hG5.lst.own.toSl.ex
          kernel_rfl
        refine d_alloc (next := fun w6 bq he6 hbq hs6 hbk6 => ?_)
        refine d_store_agg (vs := [v4, v5, nilv]) (cs := _) hbk6 (by omega) rfl rfl (by simp [hf4.ints.sl.one, hG5.lst.own.toSl.one]; rfl) (next := fun w7 hc7 hs7 hb7 => ?_)
        refine d_end (h := ?_)
        refine ⟨rfl, v4, v5, rs5, bq, w4.heap.size, ?_, hc7.ext (((he3.trans he4).trans he5).trans he6) (by omega), hb7, ?_, hrs5, by omega, by omega⟩
        · exact hasP
        · rw [hs7]
          exact (Hd.of hf4 (by omega) (by omega) (Nat.le_refl _) hG5 (he5.trans he6) he6 (by omega) (by omega)).wr (.one (B := fun g => g = bq) rfl hc7) (fun g hg => .inl hg)
      · refine ds_alloc (next := fun w6 bq he6 hbq hs6 hbk6 => ?_)
        refine dce (l01Own2G_ok (xss := p.pow) (fun i => by have := hsz.powi i; omega) (by omega)) (next := fun v5 w5 h5 => ?_)
        obtain ⟨he5, rs5, hG5, hrs5⟩ := h5
        have hz5 := he5.size
        refine da (v := .agg #[v4, v5, nilv]) (h := ⟨fun _ _ => rd_build (by simp only [ev_tmp, ev_const, ev_func, get_put, get_args, get_putL, get_putL_nil, Nat.reduceEqDiff, reduceIte, List.getD_cons_zero, List.getD_cons_succ, List.getD_nil, List.map_toArray, List.map_cons, List.map_nil]; rfl) (fun _ => ?_)⟩) (next := ?_)
        · obtain ⟨A, c, rfl, _⟩ := hf4.ints.sl.ex
          obtain ⟨A', c', rfl, _⟩ := hG5.lst.own.toSl.ex
          kernel_rfl
        have hbk5 : Blk w5 bq _ := @Blk.ext _ _ _ _ he5 hbk6
        refine d_store_agg (vs := [v4, v5, nilv]) (cs := _) hbk5 (by omega) rfl rfl (by simp [hf4.ints.sl.one, hG5.lst.own.toSl.one]; rfl) (next := fun w7 hc7 hs7 hb7 => ?_)
        refine d_end (h := ?_)
        refine ⟨rfl, v4, v5, rs5, bq, w6.heap.size, ?_, hc7.ext (((he3.trans he4).trans he6).trans he5) (by omega), hb7, ?_, hrs5, by omega, by omega⟩
        · exact hasP
        · rw [hs7]
          exact (Hd.of hf4 (by omega) (by omega) (by omega) hG5 (he6.trans he5) (Ext.refl _) (by omega) (by omega)).wr (.one (B := fun g => g = bq) rfl hc7) (fun g hg => .inl hg)
    · refine ds_alloc (next := fun w6 bq he6 hbq hs6 hbk6 => ?_)
      refine dce (l01Own_ok (xs := p.ord) (by omega)) (next := fun v4 w4 h4 => ?_)
      obtain ⟨he4, hf4⟩ := h4
      have hz4 := he4.size
      refine dce (l01Own2G_ok (xss := p.pow) (fun i => by have := hsz.powi i; omega) (by omega)) (next := fun v5 w5 h5 => ?_)
      obtain ⟨he5, rs5, hG5, hrs5⟩ := h5
      have hz5 := he5.size
      refine da (v := .agg #[v4, v5, nilv]) (h := ⟨fun _ _ => rd_build (by simp only [ev_tmp, ev_const, ev_func, get_put, get_args, get_putL, get_putL_nil, Nat.reduceEqDiff, reduceIte, List.getD_cons_zero, List.getD_cons_succ, List.getD_nil, List.map_toArray, List.map_cons, List.map_nil]; rfl) (fun _ => ?_)⟩) (next := ?_)
      · obtain ⟨A, c, rfl, _⟩ := hf4.ints.sl.ex
        obtain ⟨A', c', rfl, _⟩ := hG5.lst.own.toSl.ex
        kernel_rfl
      have hbk5 : Blk w5 bq _ := @Blk.ext _ _ _ _ (he4.trans he5) hbk6
      refine d_store_agg (vs := [v4, v5, nilv]) (cs := _) hbk5 (by omega) rfl rfl (by simp [hf4.ints.sl.one, hG5.lst.own.toSl.one]; rfl) (next := fun w7 hc7 hs7 hb7 => ?_)
      refine d_end (h := ?_)
      refine ⟨rfl, v4, v5, rs5, bq, w4.heap.size, ?_, hc7.ext (((he3.trans he6).trans he4).trans he5) (by omega), hb7, ?_, hrs5, by omega, by omega⟩
      · exact hasP
      · rw [hs7]
        exact (Hd.of hf4 (by omega) (by omega) (Nat.le_refl _) hG5 he5 (Ext.refl _) (by omega) (by omega)).wr (.one (B := fun g => g = bq) rfl hc7) (fun g hg => .inl hg)
  rintro ρ' w3 ⟨vo', vp', rp, bq, m1, hH, he3, hb3, hD3, hrp, hbq1, hbq2⟩
  refine thn_normal (rwp_has hH fun ρ0 => ?_)
  have hz3 := he3.size
  have hE2 := he1.trans he2
  refine go ?_
  refine r_for p.cnj.length (fun i ρ w' => ∃ vc' gs, Has ρ [(1, .pointer (some ⟨b, 0, none⟩)), (2, .pointer (some ⟨br, 0, none⟩)), (3, .pointer (some ⟨bq, 0, none⟩)), (4, .int .i64 i)] ∧ Ext w2 w' ∧ Blk w' bq [vo', vp', vc'] ∧ Hd 22 w2.heap.size m1 w3.heap.size bq w' vo' p.ord vp' rp ∧ GrC 23 22 w3.heap.size w' vc' gs ∧ w3.heap.size ≤ w'.heap.size ∧ (gs.map fun q => q.2.map (·.2)) = p.cnj.take i) ?_ ?_
  · refine ⟨nilv, [], ?_, he3, hb3, hD3, GrC.nil _ _ _ _, Nat.le_refl _, rfl⟩
    exact hasP
  clear hb3 hD3
  rintro i ρ w4 hi ⟨vc4, gs, hH, he4, hb4, hD4, hC4, hz4, hgs⟩
  refine rwp_has hH fun ρ0 => ?_
  have hgl : gs.length = i := by have := congrArg List.length hgs; simp at this; omega
  refine go ?_
  refine c_if (fun h4 => ?_) (fun h4 => ?_)
  · have hin : i < p.cnj.length := by omega
    obtain ⟨b', hb', hvb'⟩ := own_some' vc4 w3.heap.size w4.heap.size hz4 (fun g h => (hC4.own.lt g h).1)
    have ap1 : Apart 0 w.heap.size b' := ⟨.inr (by omega)⟩
    have ap2 : Apart b (b + 1) b' := ⟨.inr (by omega)⟩
    have ap3 : Apart bq (bq + 1) b' := ⟨.inr (by omega)⟩
    have k2 : Cell w4 bq 2 vc4 := hb4.cell rfl
    refine go ?_
    refine z_order b' (List.range 12) (h := fun w5 he5 _ => ?_)
    refine zgo ?_
    refine zc (l01Own2G_ok (xss := p.cnj.getD i []) (fun j => by have := hsz.cnjij i j; omega) (by have := hsz.cnji i; omega)) (next := fun v6 w6 h6 => ?_)
    obtain ⟨he6, rs6, hG6, hrs6⟩ := h6
    have hx := he5.trans he6
    have hzx := hx.size
    have hL6 : GrL 22 w4.heap.size w6 v6 rs6 := by
      have h := GrL.of hG6
      exact ⟨h.own.mono (by have := he5.size; omega), h.rows.mono (by have := he5.size; omega), h.off⟩
    have hO6 : OwnN 23 w3.heap.size w6 vc4 _ := @OwnN.ext _ _ _ _ _ _ hx hC4.own
    have hb6 : Blk w6 bq [vo', vp', vc4] := @Blk.ext _ _ _ _ hx hb4
    have hlt : ∀ g, vc4.ownBlock = some g → w3.heap.size ≤ g := fun g hg => (hC4.own.lt g hg).1
    clear k2
    refine z_growu (sb := w3.heap.size) hO6 hG6.lst.own.toSl.cells hG6.lst.own.toSl.one (by omega) (by rw [List.length_map]; omega) hvb' (next := fun v7 v8 w8 hO8 hx8 hz8 hst8 => ?_)
    have hb8 : Blk w8 bq [vo', vp', vc4] := Blk.gstep hb6 hst8 (fun g hg => by have := hlt g hg; omega)
    refine zgo ?_
    refine z_stfld (bo := bq) (m := 2) (cs := [vo', vp', vc4]) hb8 hO8.toSl.one (by simp) (next := fun w9 hc9 hs9 hb9 => ?_)
    have hC9 := hC4.field hz4 hx hL6 hO8 hst8 hc9 (by omega)
    have hD9 := (((hD4.ext hx).wr hst8.wrt (fun g hg => .inr (hlt g hg))).wr (.one (B := fun g => g = bq) rfl hc9) (fun g hg => .inl hg))
    have hE9 : Ext w2 w9 := hc9.ext (hx8 w2 (he4.trans hx) (by omega)) (by omega)
    refine go ?_
    refine forQ_normal (by omega) ⟨v8, _, ?_, hE9, hb9, hD9, hC9, by omega, ?_⟩
    · exact hasP
    · rw [List.take_succ_eq_append_getElem hin, List.map_append, hgs]
      simp only [List.map_cons, List.map_nil, hrs6]
      simp [hin]
  · obtain rfl : i = p.cnj.length := by omega
    rw [List.take_length] at hgs
    have hbr4 : Blk w4 br _ := @Blk.ext _ _ _ _ he4 hbk2
    have hP := (show Hd 22 w2.heap.size m1 w3.heap.size bq w4 vo' p.ord vp' rp from hD4).presO hC4
    rw [hrp, hgs] at hP
    have o3 := hP.pres.one3
    refine go ?_
    refine ra (v := .agg #[vo', vp', vc4]) (h := rd_load_blk (hb := hb4) (by ((try simp only [ev_tmp, ev_const, ev_func, get_put, get_args, get_putL, get_putL_nil, Nat.reduceEqDiff, reduceIte, List.getD_cons_zero, List.getD_cons_succ, List.getD_nil]); first | done | with_reducible rfl)) rfl) (next := ?_)
    refine st_store_agg (vs := [vo', vp', vc4]) (cs := _) (hb := hbr4) (by ((try simp only [ev_tmp, ev_const, ev_func, get_put, get_args, get_putL, get_putL_nil, Nat.reduceEqDiff, reduceIte, List.getD_cons_zero, List.getD_cons_succ, List.getD_nil]); first | done | with_reducible rfl)) (by ((try simp only [ev_tmp, ev_const, ev_func, get_put, get_args, get_putL, get_putL_nil, Nat.reduceEqDiff, reduceIte, List.getD_cons_zero, List.getD_cons_succ, List.getD_nil]); first | done | with_reducible rfl)) rfl ?_ ?_ (by first | exact True.intro | exact ⟨_, rfl, by ((try simp only [ev_tmp, ev_const, ev_func, get_put, get_args, get_putL, get_putL_nil, Nat.reduceEqDiff, reduceIte, List.getD_cons_zero, List.getD_cons_succ, List.getD_nil, Bool.not_true, Bool.not_false]); first | done | with_reducible rfl)⟩) fun w7 hc7 hs7 hb7 => ?_
    · rfl
    · simp [o3.1, o3.2.1, o3.2.2]
    refine go ?_
    have hE7 : Ext w w7 := hc7.ext (hE2.trans he4) (by omega)
    refine retc (b := br) (hb := hb7) ⟨hE7, ?_⟩ rfl
    have hP7 := hP.wr (.one (B := fun g => g = br) rfl hc7) (fun g hg => .inl (by omega))
    rw [hs7]
    exact hP7.sub (by omega) (Nat.le_refl _)
set_option maxHeartbeats 4000000 in
theorem l16Make_ok {p q : Pr} {w : World} {vp vq vx : Value} {us : List Value} {xss : List (List Int)} {lo hi lo1 hi1 lo2 hi2 : Nat} [hp : Pres lo hi w vp p] [hq : Pres lo1 hi1 w vq q] [hx : Pc.Rows lo2 hi2 w vx us xss] (hsp : SizeP p 6) (hsq : SizeP q 6) (hxl : xss.length ≤ 1000000) (hxr : ∀ i, (xss.getD i []).length ≤ 2000000) :
    Calls Tryz.prog 57 #[vp, vq, vx] w (Ret fun v w' => Ext w w' ∧ HomV w.heap.size w'.heap.size w' v p q xss) := by
  replace hp := hp.wide
  replace hq := hq.wide
  replace hx := hx.wide
  obtain ⟨vo, vpw, vc, ps, cs, css, rfl, h1, h2, h3⟩ := hp.ex
  obtain ⟨uo, upw, uc, qs, ds, dss, rfl, k1, k2, k3⟩ := hq.ex
  refine enter (args := [.agg #[vo, vpw, vc], .agg #[uo, upw, uc], vx]) (l := [.cell 6 31]) Tryz.func57 rfl rfl Tryz.ntmps57 (by simp) ?_
  refine go ?_
  refine st_box3 (by ((try simp only [ev_tmp, ev_const, ev_func, get_put, get_args, get_putL, get_putL_nil, Nat.reduceEqDiff, reduceIte, List.getD_cons_zero, List.getD_cons_succ, List.getD_nil]); first | done | with_reducible rfl)) (by first | exact True.intro | exact ⟨_, rfl, by ((try simp only [ev_tmp, ev_const, ev_func, get_put, get_args, get_putL, get_putL_nil, Nat.reduceEqDiff, reduceIte, List.getD_cons_zero, List.getD_cons_succ, List.getD_nil, Bool.not_true, Bool.not_false]); first | done | with_reducible rfl)⟩) fun w0 b0 he0 hb0 hs0 ha0 ha1 ha2 => ?_
  refine go ?_
  refine st_box3 (by ((try simp only [ev_tmp, ev_const, ev_func, get_put, get_args, get_putL, get_putL_nil, Nat.reduceEqDiff, reduceIte, List.getD_cons_zero, List.getD_cons_succ, List.getD_nil]); first | done | with_reducible rfl)) (by first | exact True.intro | exact ⟨_, rfl, by ((try simp only [ev_tmp, ev_const, ev_func, get_put, get_args, get_putL, get_putL_nil, Nat.reduceEqDiff, reduceIte, List.getD_cons_zero, List.getD_cons_succ, List.getD_nil, Bool.not_true, Bool.not_false]); first | done | with_reducible rfl)⟩) fun w1 b he1 hb1 hs1 hc0 hc1 hc2 => ?_
  refine go ?_
  refine st_alloc (by first | exact True.intro | exact ⟨_, rfl, by ((try simp only [ev_tmp, ev_const, ev_func, get_put, get_args, get_putL, get_putL_nil, Nat.reduceEqDiff, reduceIte, List.getD_cons_zero, List.getD_cons_succ, List.getD_nil, Bool.not_true, Bool.not_false]); first | done | with_reducible rfl)⟩) fun w2 br he2 hbr hs2 hbk2 => ?_
  have hz0 := he0.size
  have hz1 := he1.size
  have hz2 := he2.size
  have hE2 := (he0.trans he1).trans he2
  have ap1 : Apart b0 (b0 + 1) br := ⟨.inr (by omega)⟩
  have ap2 : Apart b (b + 1) br := ⟨.inr (by omega)⟩
  refine go ?_
  refine z_order br [0, 2, 4, 1, 3, 5, 6, 7] (h := fun w3 he3 hs3 => ?_)
  refine zgo ?_
  refine zc (l07Own_ok (p := p) hsp) (next := fun v4 w4 h4 => ?_)
  obtain ⟨he4, hP4⟩ := h4
  refine zc (l07Own_ok (p := q) hsq) (next := fun v5 w5 h5 => ?_)
  obtain ⟨he5, hP5⟩ := h5
  refine zc (l01Own2G_ok (xss := xss) hxr hxl) (next := fun v6 w6 h6 => ?_)
  obtain ⟨he6, rs6, hG6, hrs6⟩ := h6
  have hz4 := he4.size
  have hz5 := he5.size
  have hz6 := he6.size
  obtain ⟨y0, y1, y2, rp4, gs4, rfl, _⟩ := hP4.ex
  obtain ⟨y3, y4, y5, rp5, gs5, rfl, _⟩ := hP5.ex
  have o1 := hP4.pres.one3
  have o2 := hP5.pres.one3
  have o3 := hG6.lst.own.toSl.one
  refine za (v := .agg #[y0, y1, y2, y3, y4, y5, v6]) (h := ⟨fun _ _ => rd_build (by simp only [ev_tmp, ev_const, ev_func, get_put, get_args, get_putL, get_putL_nil, Nat.reduceEqDiff, reduceIte, List.getD_cons_zero, List.getD_cons_succ, List.getD_nil, List.map_toArray, List.map_cons, List.map_nil]; rfl) (fun _ => ?_)⟩) (next := ?_)
  · obtain ⟨m0, m1⟩ := hP4.pres.ints3
    obtain ⟨ps', cs', css', m1, m2⟩ := m1
    obtain ⟨n0, n1⟩ := hP5.pres.ints3
    obtain ⟨qs', ds', dss', n1, n2⟩ := n1
    obtain ⟨A0, c0, rfl, _⟩ := m0.sl.ex
    obtain ⟨A1, c1, rfl, _⟩ := m1.sl.ex
    obtain ⟨A2, c2, rfl, _⟩ := m2.sl.ex
    obtain ⟨A3, c3, rfl, _⟩ := n0.sl.ex
    obtain ⟨A4, c4, rfl, _⟩ := n1.sl.ex
    obtain ⟨A5, c5, rfl, _⟩ := n2.sl.ex
    obtain ⟨A6, c6, rfl, _⟩ := hG6.lst.own.toSl.ex
    kernel_rfl
  have hE36 := (he4.trans he5).trans he6
  have hbk6 : Blk w6 br _ := @Blk.ext _ _ _ _ (he3.trans hE36) hbk2
  refine z_store_agg (vs := [y0, y1, y2, y3, y4, y5, v6]) (cs := _) hbk6 rfl rfl (by simp [o1.1, o1.2.1, o1.2.2, o2.1, o2.2.1, o2.2.2, o3]) (next := fun w7 hc7 hs7 hb7 => ?_)
  refine z_end ?_
  have hE7 : Ext w w7 := hc7.ext ((hE2.trans he3).trans hE36) (by omega)
  have hP4' := ((hP4.wr (.ofExt (B := fun b => b < w3.heap.size ∨ w4.heap.size ≤ b) (he5.trans he6)) (fun g hg => hg)).wr (.one (B := fun g => g = br) rfl hc7) (fun g hg => .inl (by omega))).pres
  have hP5' := ((hP5.wr (.ofExt (B := fun b => b < w4.heap.size ∨ w5.heap.size ≤ b) he6) (fun g hg => hg)).wr (.one (B := fun g => g = br) rfl hc7) (fun g hg => .inl (by omega))).pres
  have hR6 := hG6.mat.rows.same (hc7.same (.inl (by omega)))
  rw [hrs6] at hR6
  refine go ?_
  refine retc (b := br) (hb := hb7) ⟨hE7, ⟨y0, y1, y2, y3, y4, y5, v6, _, rfl, hP4'.mono (by omega) (by omega), hP5'.mono (by omega) (by omega), hR6.mono (by omega) (by omega)⟩⟩ rfl
end Go.Proofs.YtnphljflkpekmaaGreat

/-
  Walks: the reference's InclusionHom, NaturalHom.
  Conditions: stated at each theorem.
-/
namespace Go.Proofs.YtnphljflkpekmaaGreat
open Go Go.Pc
theorem homV_nil {s : Nat} {w : World} (h : s ≤ w.heap.size) : HomV s w.heap.size w (.agg #[nilv, nilv, nilv, nilv, nilv, nilv, nilv]) noP noP [] :=
  ⟨⟨nilv, nilv, nilv, nilv, nilv, nilv, nilv, [], rfl, (presO_nil h).pres, (presO_nil h).pres, Rows.nilR _ _ _⟩⟩
theorem homV_nilA {s : Nat} {w : World} (h : s ≤ w.heap.size) : HomV s w.heap.size w (.agg [nilv, nilv, nilv, nilv, nilv, nilv, nilv].toArray) noH.1 noH.2.1 noH.2.2 := homV_nil h
set_option maxHeartbeats 4000000 in
theorem spec_NaturalHom_ok {p : Pr} {w : World} {vp vu : Value} {us : List Value} {xss : List (List Int)} {lo hi lo1 hi1 : Nat} [hp : Pres lo hi w vp p] [hu : Pc.Rows lo1 hi1 w vu us xss] (hl : p.ord.length ≤ 2000000) :
    Calls Tryz.prog 15 #[vp, vu] w (Ret fun v w' => ∃ (u : Value) (k : Pr × Pr × List (List Int)) (e : Int), v = .tuple #[u, .int .i64 e] ∧ Ans (IsSubP p xss) (NhV p xss) noH k e ∧ Ext w w' ∧ HomV w.heap.size w'.heap.size w' u k.1 k.2.1 k.2.2) := by
  have hol : p.ord.length = p.n := rfl
  replace hp := hp.wide
  replace hu := hu.wide
  obtain ⟨vo, vpw, vc, ps, cs, css, rfl, h1, h2, h3⟩ := hp.ex
  refine enter (args := [.agg #[vo, vpw, vc], vu]) (l := [.cell 4 31, .tmp 5]) Tryz.func15 rfl rfl Tryz.ntmps15 (by simp) ?_
  refine go ?_
  refine st_box3 (by ((try simp only [ev_tmp, ev_const, ev_func, get_put, get_args, get_putL, get_putL_nil, Nat.reduceEqDiff, reduceIte, List.getD_cons_zero, List.getD_cons_succ, List.getD_nil]); first | done | with_reducible rfl)) (by first | exact True.intro | exact ⟨_, rfl, by ((try simp only [ev_tmp, ev_const, ev_func, get_put, get_args, get_putL, get_putL_nil, Nat.reduceEqDiff, reduceIte, List.getD_cons_zero, List.getD_cons_succ, List.getD_nil, Bool.not_true, Bool.not_false]); first | done | with_reducible rfl)⟩) fun w1 b he1 hb1 hs1 hc0 hc1 hc2 => ?_
  refine go ?_
  refine st_alloc (by first | exact True.intro | exact ⟨_, rfl, by ((try simp only [ev_tmp, ev_const, ev_func, get_put, get_args, get_putL, get_putL_nil, Nat.reduceEqDiff, reduceIte, List.getD_cons_zero, List.getD_cons_succ, List.getD_nil, Bool.not_true, Bool.not_false]); first | done | with_reducible rfl)⟩) fun w2 br he2 hbr hs2 hbk2 => ?_
  have hz1 := he1.size
  refine go ?_
  refine rc (l15Code_ok (p := p) (xss := xss) hl) (next := fun v5 w5 h5 => ?_)
  obtain ⟨e5, rfl, hcode, he5⟩ := h5
  have hE5 := (he1.trans he2).trans he5
  have hz5 := hE5.size
  have hz52 := he5.size
  refine go ?_
  refine c_if (fun h7 => ?_) (fun h7 => ?_)
  · have hb5' : Blk w5 br _ := @Blk.ext _ _ _ _ he5 hbk2
    refine go ?_
    refine ra (v := .agg #[nilv, nilv, nilv, nilv, nilv, nilv, nilv]) (h := rd_build (by rfl) (fun _ => by kernel_rfl)) (next := ?_)
    refine go ?_
    refine st_store_agg (vs := [nilv, nilv, nilv, nilv, nilv, nilv, nilv]) (cs := _) (hb := hb5') (by ((try simp only [ev_tmp, ev_const, ev_func, get_put, get_args, get_putL, get_putL_nil, Nat.reduceEqDiff, reduceIte, List.getD_cons_zero, List.getD_cons_succ, List.getD_nil]); first | done | with_reducible rfl)) (by ((try simp only [ev_tmp, ev_const, ev_func, get_put, get_args, get_putL, get_putL_nil, Nat.reduceEqDiff, reduceIte, List.getD_cons_zero, List.getD_cons_succ, List.getD_nil]); first | done | with_reducible rfl)) rfl ?_ ?_ (by first | exact True.intro | exact ⟨_, rfl, by ((try simp only [ev_tmp, ev_const, ev_func, get_put, get_args, get_putL, get_putL_nil, Nat.reduceEqDiff, reduceIte, List.getD_cons_zero, List.getD_cons_succ, List.getD_nil, Bool.not_true, Bool.not_false]); first | done | with_reducible rfl)⟩) fun w6 hc6 hs6 hb6 => ?_
    · rfl
    · rfl
    have hE6 : Ext w w6 := hc6.ext hE5 (by omega)
    refine go ?_
    rcases hcode with ⟨h8, rfl⟩ | ⟨h8, h9, rfl⟩ | ⟨h8, h9, rfl⟩
    · exact retc2 (b := br) (hb := hb6) ⟨_, noH, 1, rfl, .inr ⟨h8, rfl, rfl⟩, hE6, homV_nilA hE6.size⟩ rfl
    · exact retc2 (b := br) (hb := hb6) ⟨_, noH, 5, rfl, .inl ⟨h8, .inl ⟨h9, rfl, rfl⟩⟩, hE6, homV_nilA hE6.size⟩ rfl
    · exact absurd rfl h7
  obtain ⟨hS, hN⟩ : IsSubP p xss ∧ NormP p xss := by
    rcases hcode with ⟨_, rfl⟩ | ⟨_, _, rfl⟩ | ⟨h8, h9, _⟩
    · exact absurd (by decide) h7
    · exact absurd (by decide) h7
    · exact ⟨h8, h9⟩
  have hS' := hS
  obtain ⟨hG, hq⟩ := hS'
  haveI : ConAll p := ⟨hG.con⟩
  have hn6 := hG.valid.n6
  obtain ⟨ys, hys, hse⟩ := isSeq_iff.1 hq
  have hfn := frN_le ys
  refine go ?_
  refine st_slice0 (by first | exact True.intro | exact ⟨_, rfl, by ((try simp only [ev_tmp, ev_const, ev_func, get_put, get_args, get_putL, get_putL_nil, Nat.reduceEqDiff, reduceIte, List.getD_cons_zero, List.getD_cons_succ, List.getD_nil, Bool.not_true, Bool.not_false]); first | done | with_reducible rfl)⟩) fun w6 v6 he6 hs6 ho6 => ?_
  refine go ?_
  refine r_for p.n (fun i ρ w' => ∃ vl rs, Has ρ [(1, vu), (2, .pointer (some ⟨b, 0, none⟩)), (4, .pointer (some ⟨br, 0, none⟩)), (7, vl), (8, .int .i64 i)] ∧ Ext w5 w' ∧ GrowL 22 w5.heap.size w' vl rs ∧ rs.map (·.2) = (List.range i).map fun i => prjE ys (gOf p 0 i)) ?_ ?_
  · refine ⟨v6, [], ?_, he6, GrowL.start ho6 (Nat.le_refl _), rfl⟩
    exact hasP
  clear ho6
  rintro i ρ w3 hi ⟨vl, rs, hH, he3, hG3, hrs3⟩
  refine rwp_has hH fun ρ0 => ?_
  have hz3 := he3.size
  have hE3 := hE5.trans he3
  have hrl : rs.length = i := by have := congrArg List.length hrs3; simp at this; omega
  refine go ?_
  refine c_if (fun h4 => ?_) (fun h4 => ?_)
  · have hin : i < p.n := by omega
    obtain ⟨b', hb', hvb'⟩ := own_some' vl w5.heap.size w3.heap.size hz3 (fun g h => (hG3.lst.lt h).1)
    have ap1 : Apart 0 w.heap.size b' := ⟨.inr (by omega)⟩
    have ap2 : Apart b (b + 1) b' := ⟨.inr (by omega)⟩
    refine go ?_
    refine z_order b' (List.range 12) (h := fun w4 he4 _ => ?_)
    refine zgo ?_
    refine zc (l07Unit_ok (n := p.n) (i := i) rfl rfl (by omega) hin) (next := fun v7 w7 h8 => ?_)
    obtain ⟨he7, hf7⟩ := h8
    have hg7 : Ints w4.heap.size w7.heap.size w7 v7 (gOf p 0 i : El p).v := by
      have h := hf7.ints
      rw [gOf_val hin]; exact h
    clear hf7
    refine zc (l15Project_ok (p := p) (x := gOf p 0 i) hse.ok hys rfl) (next := fun v8 w8 h6 => ?_)
    obtain ⟨he8, y8, hrep8, hf8⟩ := h6
    rw [hrep8.prj hse] at hf8
    have hx := (he4.trans he7).trans he8
    refine z_grow hG3 hx (hf8.mono (by have := he4.size; have := he7.size; omega)) hz3 (by omega) hvb' (next := fun v9 v10 w10 hG10 hx10 hz10 hgs10 => ?_)
    refine zgo ?_
    refine z_end ?_
    refine go ?_
    refine forQ_normal (by omega) ⟨v10, _, ?_, hx10 w5 (he3.trans hx) (Nat.le_refl _), hG10, ?_⟩
    · exact hasP
    · rw [List.range_succ, List.map_append, List.map_append, hrs3]; rfl
  · obtain rfl : i = p.n := by omega
    have hR := hG3.rows
    rw [hrs3] at hR
    have ap1 : Apart 0 w.heap.size br := ⟨.inr (by omega)⟩
    have ap2 : Apart b (b + 1) br := ⟨.inr (by omega)⟩
    have hbk3 : Blk w3 br _ := @Blk.ext _ _ _ _ (he5.trans he3) hbk2
    refine go ?_
    refine z_order br [0, 1, 2, 4, 3, 5, 6, 7] (h := fun w6 he6 hs6 => ?_)
    refine zgo ?_
    refine zc (l15Quo_ok (p := p) hse hys) (next := fun v7 w7 h7 => ?_)
    obtain ⟨he7, hP7⟩ := h7
    have hP7p := hP7.pres
    refine zc (l16Make_ok (p := p) (q := quoPr ys) (xss := (List.range p.n).map fun i => prjE ys (gOf p 0 i)) (valid_sz6 hG.valid) (quoPr_sz6 ys) (by rw [List.length_map, List.length_range]; omega) (fun i => ?_)) (next := fun v8 w8 h8 => ?_)
    · by_cases hi : i < p.n
      · simp only [List.getD_eq_getElem?_getD, List.getElem?_map, List.getElem?_range hi, Option.map_some, Option.getD_some, prjE_len]; omega
      · rw [List.getD_eq_getElem?_getD, List.getElem?_eq_none (by rw [List.length_map, List.length_range]; omega)]; exact Nat.zero_le _
    obtain ⟨he8, hH8⟩ := h8
    obtain ⟨y0, y1, y2, y3, y4, y5, y6, us8, rfl, kS, kT, kI⟩ := hH8.ex
    have o1 := kS.one3
    have o2 := kT.one3
    have o3 := kI.sl.one
    have hE58 := (he6.trans he7).trans he8
    have hz6 := he6.size
    have hz7 := he7.size
    have hz8 := he8.size
    have hbk8 : Blk w8 br _ := @Blk.ext _ _ _ _ hE58 hbk3
    refine z_store_agg (vs := [y0, y1, y2, y3, y4, y5, y6]) (cs := _) hbk8 rfl rfl (by simp [o1.1, o1.2.1, o1.2.2, o2.1, o2.2.1, o2.2.2, o3]) (next := fun w9 hc9 hs9 hb9 => ?_)
    refine zgo ?_
    refine z_end ?_
    have hE9 : Ext w w9 := hc9.ext (hE3.trans hE58) (by omega)
    have hS9 := kS.same (hc9.same (.inl (by omega)))
    have hT9 := kT.same (hc9.same (.inl (by omega)))
    have hI9 := kI.same (hc9.same (.inl (by omega)))
    refine go ?_
    exact retc2 (b := br) (hb := hb9) ⟨_, (p, quoPr ys, (List.range p.n).map fun i => prjE ys (gOf p 0 i)), 0, rfl, .inl ⟨hS, .inr ⟨hN, ⟨inferInstance, ys, hys, rfl⟩, rfl⟩⟩, hE9, ⟨y0, y1, y2, y3, y4, y5, y6, us8, rfl, hS9.mono (by omega) (by omega), hT9.mono (by omega) (by omega), hI9.mono (by omega) (by omega)⟩⟩ rfl
end Go.Proofs.YtnphljflkpekmaaGreat

/-
  Walks: the program's ProjectElement.
  Conditions: stated at each theorem.
-/
namespace Go.Proofs.YtnphljflkpekmaaGreat
open Go Go.Pc
set_option maxHeartbeats 2000000 in
theorem project_ok {p : Pr} [hc : ConAll p] {ys : List (El p)} (hs : SeqOk ys) (hyl : ys.length ≤ 1000) {x : El p} {w : World} {vp vu vx : Value} {us : List Value} {xss : List (List Int)} {xs : List Int} {lo hi lo1 hi1 lo2 hi2 : Nat} [hp : PresP lo hi w vp p] [hu : Pc.Rows lo1 hi1 w vu us xss] [hx : Ints lo2 hi2 w vx xs] (hus : xss = vecs ys) (hxe : xs = x.v) :
    Calls Tryz.prog 64 #[vp, vu, vx] w (Ret fun v w' => Ext w w' ∧ ∃ y : El p, RepOf ys x y ∧ Fr w.heap.size w' v (prjL p ys y)) := by
  have hv := hc.valid
  have hn6 := hv.n6
  have hlt : ∀ d, d ∈ freeL p ys p.n → d < p.n := fun d hd => freeL_lt hd
  have hfl : (freeL p ys p.n).length ≤ p.n := by
    have h1 : (freeL p ys p.n).length ≤ (List.range p.n).length := List.length_filter_le _ _
    rwa [List.length_range] at h1
  have hil : (ints (freeL p ys p.n)).length = (freeL p ys p.n).length := by simp
  refine enter (args := [vp, vu, vx]) (l := [.tmp 6]) Tryz.func64 rfl rfl Tryz.ntmps64 (by simp) ?_
  refine go ?_
  refine rc (representative_ok (p := p) (x := x) hs hus hxe (by omega)) (next := fun v2 w2 h4 => ?_)
  obtain ⟨he2, r, hf2, hrep⟩ := h4
  have hi2 := hf2.ints
  have hrl := r.inr.len
  have hz2 := he2.size
  refine go ?_
  refine st_slice0 (by first | exact True.intro | exact ⟨_, rfl, by ((try simp only [ev_tmp, ev_const, ev_func, get_put, get_args, get_putL, get_putL_nil, Nat.reduceEqDiff, reduceIte, List.getD_cons_zero, List.getD_cons_succ, List.getD_nil, Bool.not_true, Bool.not_false]); first | done | with_reducible rfl)⟩) fun w4 v4 he4 hs4 ho4 => ?_
  have hG4 : GrowI 2 w2.heap.size w4 v4 [] := GrowI.start ho4 (Nat.le_refl _)
  refine go ?_
  refine rc (otherIndices_ok (p := p) hs hyl hus) (next := fun v3 w3 h5 => ?_)
  obtain ⟨he3, hf3⟩ := h5
  have hi3 := hf3.ints
  have hE4 := he2.trans he4
  refine go ?_
  refine r_for (freeL p ys p.n).length (fun k ρ w' => ∃ vl, Has ρ [(7, v2), (8, vl), (18, v3), (19, .int .i64 (freeL p ys p.n).length), (20, .int .i64 k)] ∧ Ext w2 w' ∧ IntsAp (fun g => vl.ownBlock = some g) w' v3 (ints (freeL p ys p.n)) ∧ GrowI 2 w2.heap.size w' vl (((freeL p ys p.n).take k).map fun d => co r d)) ?_ ?_
  · refine ⟨v4, ?_, he4.trans he3, IntsAp.ofFr hf3 (fun g hg => (hG4.own.lt g hg).2), @GrowI.ext _ _ _ _ _ _ he3 hG4⟩
    exact hasP
  clear ho4 hG4
  rintro k ρ w5 hk ⟨vl, hH, he5, hI5, hG5⟩
  have hIa := hI5
  refine rwp_has hH fun ρ0 => ?_
  have hz5 := he5.size
  obtain ⟨lo5, hi5', hi5, _, _⟩ := hI5
  refine go ?_
  refine c_if (fun h6 => ?_) (fun h6 => ?_)
  · have hkn : k < (freeL p ys p.n).length := by omega
    obtain ⟨d, hd⟩ : ∃ d, (freeL p ys p.n)[k] = d := ⟨_, rfl⟩
    have hdn : d < p.n := by rw [← hd]; exact hlt _ (List.getElem_mem hkn)
    have hfk : (ints (freeL p ys p.n)).getD k 0 = (d : Int) := by simp [hkn, hd]
    refine go ?_
    rw [hfk]
    refine go ?_
    refine st_growi hG5 hz5 (by rw [List.length_map, List.length_take]; omega) (next := fun v6 v7 w7 hG7 hx7 hz7 hgs7 => ?_)
    refine go ?_
    refine forQ_normal (by omega) ⟨v7, ?_, hx7 w2 he5 (Nat.le_refl _), hIa.gstep hgs7, ?_⟩
    · exact hasP
    · rw [List.take_succ_eq_append_getElem hkn, List.map_append, hd]
      exact hG7
  · obtain rfl : k = (freeL p ys p.n).length := by omega
    rw [List.take_length] at hG5
    refine go ?_
    exact ret1 ⟨he2.trans he5, r, hrep, hG5.fr.mono he2.size⟩
end Go.Proofs.YtnphljflkpekmaaGreat

/-
  Walks: the program's presentations of subgroups and quotients (subgroupPresentation, quotientPresentation).
  Conditions: stated at each theorem.
-/
namespace Go.Proofs.YtnphljflkpekmaaGreat
open Go Go.Pc
end Go.Proofs.YtnphljflkpekmaaGreat

/-
  Walks: the program's presentation of a quotient (quotientPresentation), normalCode.
  Conditions: stated at each theorem.
-/
namespace Go.Proofs.YtnphljflkpekmaaGreat
open Go Go.Pc
set_option maxHeartbeats 1000000 in
theorem normalCode_ok {p : Pr} {w : World} {vp vu : Value} {us : List Value} {xss : List (List Int)} {lo hi lo1 hi1 : Nat} [hp : PresP lo hi w vp p] [hu : Pc.Rows lo1 hi1 w vu us xss] (hl : p.ord.length ≤ 2000000) :
    Calls Tryz.prog 60 #[vp, vu] w (Ret fun v w' => ∃ e : Int, v = .int .i64 e ∧ ((¬ IsSubP p xss ∧ e = 1) ∨ (IsSubP p xss ∧ ¬ NormP p xss ∧ e = 5) ∨ (IsSubP p xss ∧ NormP p xss ∧ e = 0)) ∧ Ext w w') := by
  refine enter (args := [vp, vu]) (l := [.tmp 4]) Tryz.func60 rfl rfl Tryz.ntmps60 (by simp) ?_
  refine go ?_
  refine st_slice1 (u := vu) (by ((try simp only [ev_tmp, ev_const, ev_func, get_put, get_args, get_putL, get_putL_nil, Nat.reduceEqDiff, reduceIte, List.getD_cons_zero, List.getD_cons_succ, List.getD_nil]); first | done | with_reducible rfl)) hu.sl.cells rfl (by first | exact True.intro | exact ⟨_, rfl, by ((try simp only [ev_tmp, ev_const, ev_func, get_put, get_args, get_putL, get_putL_nil, Nat.reduceEqDiff, reduceIte, List.getD_cons_zero, List.getD_cons_succ, List.getD_nil, Bool.not_true, Bool.not_false]); first | done | with_reducible rfl)⟩) fun w2 v2 he2 hs2 ho2 => ?_
  have hR := rowss_one (xss := xss) ho2 (hu.same (he2.same _ _)).wide
  refine go ?_
  refine rc (areSubgroups_ok (p := p) (xsss := [xss]) hl (by simp)) (next := fun v5 w5 h5 => ?_)
  obtain ⟨b5, rfl, hb5, he5⟩ := h5
  rw [areSub1] at hb5
  have hE5 := he2.trans he5
  refine go ?_
  refine c_b (fun e5 => ?_) (fun e5 => ?_)
  · refine go ?_
    refine ret1 ⟨1, rfl, .inl ⟨fun h => ?_, rfl⟩, hE5⟩
    rw [hb5.2 h] at e5; cases e5
  have hS := hb5.1 (by simpa using e5)
  have hS' := hS
  obtain ⟨hG, hq⟩ := hS'
  haveI : ConAll p := ⟨hG.con⟩
  obtain ⟨ys, hys, hse⟩ := isSeq_iff.1 hq
  refine go ?_
  refine rc (isNormal_ok (p := p) hse hys) (next := fun v6 w6 h6 => ?_)
  obtain ⟨b6, rfl, hb6, he6⟩ := h6
  have hE6 := hE5.trans he6
  refine go ?_
  refine c_b (fun e6 => ?_) (fun e6 => ?_)
  · refine go ?_
    refine ret1 ⟨5, rfl, .inr (.inl ⟨hS, fun h => ?_, rfl⟩), hE6⟩
    rw [hb6.2 h] at e6; cases e6
  · refine go ?_
    exact ret1 ⟨0, rfl, .inr (.inr ⟨hS, hb6.1 (by simpa using e6), rfl⟩), hE6⟩
set_option maxHeartbeats 8000000 in
theorem quotientPresentation_ok {p : Pr} [hc : ConAll p] {ys : List (El p)} (hse : SeqEl ys) {w : World} {vp vu : Value} {us : List Value} {xss : List (List Int)} {lo hi lo1 hi1 : Nat} [hp : PresP lo hi w vp p] [hu : Pc.Rows lo1 hi1 w vu us xss] (hus : xss = vecs ys) :
    Calls Tryz.prog 62 #[vp, vu] w (Ret fun v w' => Ext w w' ∧ PresO w.heap.size w'.heap.size w' v (quoPr ys)) := by
  have hs := hse.ok
  have hyl := hse.len
  have hv := hc.valid
  have hn6 := hv.n6
  have hol : p.ord.length = p.n := rfl
  replace hu := hu.wide
  replace hp := hp.wide
  have hfn := frN_le ys
  have hil : (ints (freeL p ys p.n)).length = frN p ys := by simp [frN]
  obtain ⟨gP, oP, uo, upw, uc, ups, ucs, ucss, rfl, hgP, hgP2, kc0, kc1, kc2, kh1, kh2, kh3⟩ := hp.ex
  refine enter (args := [.pointer (some ⟨gP, oP, none⟩), vu]) (l := [.cell 4 29]) Tryz.func62 rfl rfl Tryz.ntmps62 (by simp) ?_
  refine go ?_
  refine st_alloc (by first | exact True.intro | exact ⟨_, rfl, by ((try simp only [ev_tmp, ev_const, ev_func, get_put, get_args, get_putL, get_putL_nil, Nat.reduceEqDiff, reduceIte, List.getD_cons_zero, List.getD_cons_succ, List.getD_nil, Bool.not_true, Bool.not_false]); first | done | with_reducible rfl)⟩) fun w1 br he1 hbr hs1 hbk1 => ?_
  have hz1 := he1.size
  refine go ?_
  refine ra (v := .agg #[nilv, nilv, nilv]) (h := rd_build (by rfl) (fun _ => by kernel_rfl)) (next := ?_)
  refine st_alloc (by first | exact True.intro | exact ⟨_, rfl, by ((try simp only [ev_tmp, ev_const, ev_func, get_put, get_args, get_putL, get_putL_nil, Nat.reduceEqDiff, reduceIte, List.getD_cons_zero, List.getD_cons_succ, List.getD_nil, Bool.not_true, Bool.not_false]); first | done | with_reducible rfl)⟩) fun w4 bo he4 hbo hs4 hbk4 => ?_
  refine st_store_agg (vs := [nilv, nilv, nilv]) (cs := _) (hb := hbk4) (by ((try simp only [ev_tmp, ev_const, ev_func, get_put, get_args, get_putL, get_putL_nil, Nat.reduceEqDiff, reduceIte, List.getD_cons_zero, List.getD_cons_succ, List.getD_nil]); first | done | with_reducible rfl)) (by ((try simp only [ev_tmp, ev_const, ev_func, get_put, get_args, get_putL, get_putL_nil, Nat.reduceEqDiff, reduceIte, List.getD_cons_zero, List.getD_cons_succ, List.getD_nil]); first | done | with_reducible rfl)) rfl ?_ ?_ (by first | exact True.intro | exact ⟨_, rfl, by ((try simp only [ev_tmp, ev_const, ev_func, get_put, get_args, get_putL, get_putL_nil, Nat.reduceEqDiff, reduceIte, List.getD_cons_zero, List.getD_cons_succ, List.getD_nil, Bool.not_true, Bool.not_false]); first | done | with_reducible rfl)⟩) fun w5 hc5 hs5 hbk5 => ?_
  · rfl
  · rfl
  have hz4 := he4.size
  have hE15 : Ext w1 w5 := hc5.ext he4 (by omega)
  have hE5 := he1.trans hE15
  have hz5 := hE5.size
  refine go ?_
  refine rc (otherIndices_ok (p := p) hs (by omega) hus) (next := fun v3 w3 h4 => ?_)
  obtain ⟨he3, hf3⟩ := h4
  have hz3 := he3.size
  have hE13 := hE15.trans he3
  have hE3 := hE5.trans he3
  have hb3 : Blk w3 bo [nilv, nilv, nilv] := @Blk.ext _ _ _ _ he3 hbk5
  have hT3 : Tri 2 22 23 22 w3.heap.size w3 nilv [] nilv [] nilv [] := Tri.nil _ _ _ _ _ _ (Nat.le_refl _)
  have hd3 : Ints w5.heap.size w3.heap.size w3 v3 (ints (freeL p ys p.n)) := hf3.ints
  refine go ?_
  refine r_for (frN p ys) (fun i ρ w' => ∃ vo vq vc rp gs, Has ρ [(0, .pointer (some ⟨gP, oP, none⟩)), (1, vu), (4, .pointer (some ⟨br, 0, none⟩)), (5, .pointer (some ⟨bo, 0, none⟩)), (6, .int .i64 p.ord.length), (7, v3), (23, v3), (24, .int .i64 (ints (freeL p ys p.n)).length), (25, .int .i64 i)] ∧ Ext w1 w' ∧ Ints w5.heap.size w3.heap.size w' v3 (ints (freeL p ys p.n)) ∧ Blk w' bo [vo, vq, vc] ∧ Tri 2 22 23 22 w3.heap.size w' vo ((List.range i).map fun i => p.o (frA p ys i)) vq rp vc gs ∧ rp.map (·.2) = (List.range i).map (quoPow ys) ∧ (gs.map fun q => q.2.map (·.2)) = (List.range i).map fun i => (List.range (frN p ys - (i + 1))).map fun k => quoCnj ys i (i + 1 + k)) ?_ ?_
  · refine ⟨nilv, nilv, nilv, [], [], ?_, hE13, hd3, hb3, hT3, rfl, rfl⟩
    exact hasP
  clear hbk4 hbk5 hb3 hT3 hd3 hf3
  rintro i ρ w6 hi ⟨vo6, vp6, vc6, rp, gs, hH, he6, hd6, hb6, hT6, hrp, hgs⟩
  refine rwp_has hH fun ρ0 => ?_
  have hz6 := he6.size
  have hlo6 := hT6.lo
  have hrl : rp.length = i := by have := congrArg List.length hrp; simpa using this
  have hgl : gs.length = i := by have := congrArg List.length hgs; simpa using this
  refine go ?_
  refine c_if (fun h4 => ?_) (fun h4 => ?_)
  · have hin : i < frN p ys := by omega
    have hda := frA_lt hin
    have hdo' : p.ord.getD (frA p ys i) 0 = p.o (frA p ys i) := rfl
    have hdo : p.ord.getD ((frA p ys i : Nat) : Int).toNat 0 = p.o (frA p ys i) := by rw [Int.toNat_natCast]; rfl
    have hob := hv.opos hda
    refine go ?_
    rw [frA_ints hin]
    refine go ?_
    refine rc (unitVector_ok (n := p.n) (i := frA p ys i) rfl rfl (by omega) hda) (next := fun v8 w8 h8 => ?_)
    obtain ⟨he8, hf8⟩ := h8
    have hz8 := he8.size
    have hT8 := hT6.ext he8
    have hb8 : Blk w8 bo [vo6, vp6, vc6] := @Blk.ext _ _ _ _ he8 hb6
    have hd8 : Ints w5.heap.size w3.heap.size w8 v3 (ints (freeL p ys p.n)) := hd6.same (he8.same _ _)
    have hE8 := he6.trans he8
    have hg8 : Ints w6.heap.size w8.heap.size w8 v8 (gOf p 0 (frA p ys i) : El p).v := by
      have h := hf8.ints
      rw [gOf_val hda]; exact h
    obtain ⟨b', hb', hbb, hvb'⟩ : ∃ b', w3.heap.size ≤ b' ∧ (b' < w6.heap.size ∨ w8.heap.size ≤ b') ∧ ∀ g, vo6.ownBlock = some g → g = b' := by
      cases e : vo6.ownBlock with
      | none => exact ⟨w8.heap.size, by omega, .inr (Nat.le_refl _), fun g h => by cases h⟩
      | some g => have := hT6.o.lt g e; exact ⟨g, by omega, .inl (by omega), fun g' h => by injection h with h; exact h.symm⟩
    have hop : ∀ g, vo6.ownBlock = some g → g < w6.heap.size := fun g h => (hT6.o.lt g h).2
    have hpp : ∀ g, vp6.ownBlock = some g → w3.heap.size ≤ g ∧ g < w6.heap.size := fun g h => hT6.p.own.lt g h
    have ap1 : Apart 0 w.heap.size b' := ⟨.inr (by omega)⟩
    have ap3 : Apart bo (bo + 1) b' := ⟨.inr (by omega)⟩
    have ap2 : Apart gP (gP + 1) b' := ⟨.inr (by omega)⟩
    have k0 : Cell w8 bo 0 vo6 := hb8.cell rfl
    clear hd6 hb6 hT6 hf8
    -- the order
    refine go ?_
    refine z_order b' (List.range 13) (h := fun w9 he9 hs9 => ?_)
    refine zgo ?_
    first | rw [hdo] | rw [hdo']
    refine z_growi (GrowI.mk (@OwnN.ext _ _ _ _ _ _ he9 hT8.o)) (by have := hT8.lo; omega) (by rw [List.length_map, List.length_range]; omega) hvb' (next := fun v10 v11 w11 hG11 hx11 hz11 hst11 => ?_)
    have hb11 : Blk w11 bo [vo6, vp6, vc6] := Blk.gstep (@Blk.ext _ _ _ _ he9 hb8) hst11 (hT8.ob (by omega))
    refine zgo ?_
    refine z_stfld (bo := bo) (m := 0) (cs := [vo6, vp6, vc6]) hb11 hG11.own.toSl.one (by simp) (next := fun w12 hc12 hs12 hb12 => ?_)
    have hT12 := hT8.fieldO he9 hG11 hst11 hc12 (by omega)
    have hE12 : Ext w1 w12 := hc12.ext (hx11 w1 (hE8.trans he9) (by omega)) (by omega)
    have hd12 : Ints w5.heap.size w3.heap.size w12 v3 (ints (freeL p ys p.n)) := ((hd8.same (he9.same _ _)).same (hst11.wrt.same fun g hg => .inr (hT8.o.lt g hg).1)).same (hc12.same (.inl (by omega)))
    have hg12 : Ints w6.heap.size w8.heap.size w12 v8 (gOf p 0 (frA p ys i) : El p).v := ((hg8.same (he9.same _ _)).same (hst11.wrt.same fun g hg => .inl (hop g hg))).same (hc12.same (.inl (by omega)))
    have hb12' : Blk w12 bo [v11, vp6, vc6] := hb12
    have hzz12 : w8.heap.size ≤ w12.heap.size := by have := he9.size; omega
    clear hT8 hb8 hb11 k0 hG11 hx11 hst11 hd8 hg8 hb12 hvb' hbb ap1 ap2 ap3 hb'
    -- the power
    obtain ⟨b', hb', hbb, hvb'⟩ : ∃ b', w3.heap.size ≤ b' ∧ (b' < w6.heap.size ∨ w8.heap.size ≤ b') ∧ ∀ g, vp6.ownBlock = some g → g = b' := by
      cases e : vp6.ownBlock with
      | none => exact ⟨w8.heap.size, by omega, .inr (Nat.le_refl _), fun g h => by cases h⟩
      | some g => have := hpp g e; exact ⟨g, by omega, .inl (by omega), fun g' h => by injection h with h; exact h.symm⟩
    have ap1 : Apart 0 w.heap.size b' := ⟨.inr (by omega)⟩
    have ap3 : Apart bo (bo + 1) b' := ⟨.inr (by omega)⟩
    have ap2 : Apart gP (gP + 1) b' := ⟨.inr (by omega)⟩
    have ap5 : Apart w6.heap.size w8.heap.size b' := ⟨by omega⟩
    have k1 : Cell w12 bo 1 vp6 := hb12'.cell rfl
    have hz12 := hE12.size
    refine go ?_
    refine z_order b' (List.range 19) (h := fun w13 he13 hs13 => ?_)
    refine zgo ?_
    first | rw [hdo] | rw [hdo']
    refine zc (power_ok (p := p) (x := gOf p 0 (frA p ys i)) (k := p.o (frA p ys i)) (Nat.zero_le _) rfl (by omega)) (next := fun v14 w14 h14 => ?_)
    obtain ⟨he14, hf14⟩ := h14
    have hi14 := hf14.ints
    refine zc (project_ok (p := p) (x := Grp.pw (gOf p 0 (frA p ys i)) (p.o (frA p ys i)).toNat) hs (by omega) hus rfl) (next := fun v15 w15 h15 => ?_)
    obtain ⟨he15, y15, hrep15, hf15⟩ := h15
    rw [hrep15.prj hse, ← Grp.pwz_of (gOf p 0 (frA p ys i)) (show 0 ≤ p.o (frA p ys i) by omega)] at hf15
    have hx15 := (he13.trans he14).trans he15
    have hf15' := hf15.mono (lo' := w12.heap.size) (by have := he13.size; have := he14.size; omega)
    refine z_grow (hT12.p.grow hT12.lo) hx15 hf15' hT12.lo (by omega) hvb' (next := fun v16 v17 w17 hG17 hx17 hz17 hst17 => ?_)
    have hb17 : Blk w17 bo [v11, vp6, vc6] := Blk.gstep (@Blk.ext _ _ _ _ hx15 hb12') hst17 (hT12.pb (by omega))
    refine zgo ?_
    refine z_stfld (bo := bo) (m := 1) (cs := [v11, vp6, vc6]) hb17 hG17.lst.own.toSl.one (by simp) (next := fun w18 hc18 hs18 hb18 => ?_)
    have hT18 := hT12.fieldP hx15 hf15' hG17 hst17 hc18 (by omega)
    have hE18 : Ext w1 w18 := hc18.ext (hx17 w1 (hE12.trans hx15) (by omega)) (by omega)
    have hd18 : Ints w5.heap.size w3.heap.size w18 v3 (ints (freeL p ys p.n)) := ((hd12.same (hx15.same _ _)).same (hst17.wrt.same fun g hg => .inr (hT12.p.own.lt g hg).1)).same (hc18.same (.inl (by omega)))
    have hg18 : Ints w6.heap.size w8.heap.size w18 v8 (gOf p 0 (frA p ys i) : El p).v := ((hg12.same (hx15.same _ _)).same (hst17.wrt.same fun g hg => .inl (hpp g hg).2)).same (hc18.same (.inl (by omega)))
    have hb18' : Blk w18 bo [v11, v17, vc6] := hb18
    have hzz18 : w8.heap.size ≤ w18.heap.size := by have := hx15.size; omega
    clear hT12 hb12' hb17 k1 hG17 hx17 hst17 hd12 hg12 hb18 hf14 hf15 hf15' hi14 hvb' hbb ap1 ap2 ap3 ap5 hb'
    have hz18 := hE18.size
    -- the conjugates
    have hcut := hd18.cut (l := i + 1) (k := (ints (freeL p ys p.n)).length) (by omega) (by omega)
    have hcl : (((ints (freeL p ys p.n)).take (ints (freeL p ys p.n)).length).drop (i + 1)).length = frN p ys - (i + 1) := by simp [hil]
    have hcg : ∀ k, i + 1 + k < frN p ys → (((ints (freeL p ys p.n)).take (ints (freeL p ys p.n)).length).drop (i + 1)).getD k 0 = (frA p ys (i + 1 + k) : Nat) := fun k hk => by
      rw [getD_cut _ _ _ (by omega), frA_ints hk]
    generalize ((ints (freeL p ys p.n)).take (ints (freeL p ys p.n)).length).drop (i + 1) = rest at hcut hcl hcg
    refine go ?_
    refine r_for (frN p ys - (i + 1)) (fun k ρ w' => ∃ vl rs, Has ρ [(0, .pointer (some ⟨gP, oP, none⟩)), (1, vu), (4, .pointer (some ⟨br, 0, none⟩)), (5, .pointer (some ⟨bo, 0, none⟩)), (6, .int .i64 p.ord.length), (7, v3), (10, v8), (11, vl), (23, v3), (24, .int .i64 (ints (freeL p ys p.n)).length), (25, .int .i64 i), (66, Pc.cut v3 (i + 1) (ints (freeL p ys p.n)).length), (67, .int .i64 rest.length), (68, .int .i64 k)] ∧ Ext w18 w' ∧ GrowL 22 w18.heap.size w' vl rs ∧ rs.map (·.2) = (List.range k).map fun k => quoCnj ys i (i + 1 + k)) ?_ ?_
    · refine ⟨nilv, [], ?_, Ext.refl _, GrowL.nil _ _ _ (Nat.le_refl _), rfl⟩
      exact hasP
    rintro k ρ w19 hk ⟨vl, rs, hH, he19, hG19, hrs19⟩
    refine rwp_has hH fun ρ0 => ?_
    have hz19 := he19.size
    have hE19 := hE18.trans he19
    have hrsl : rs.length = k := by have := congrArg List.length hrs19; simpa using this
    have hd19 : Ints w5.heap.size w3.heap.size w19 v3 (ints (freeL p ys p.n)) := hd18.same (he19.same _ _)
    have hg19 : Ints w6.heap.size w8.heap.size w19 v8 (gOf p 0 (frA p ys i) : El p).v := hg18.same (he19.same _ _)
    have hcut19 := hcut.same (he19.same _ _)
    refine go ?_
    refine c_if (fun h5 => ?_) (fun h5 => ?_)
    · have hin2 : i + 1 + k < frN p ys := by omega
      have hda2 := frA_lt hin2
      have hck := hcg k hin2
      refine go ?_
      rw [hck]
      refine go ?_
      refine rc (unitVector_ok (n := p.n) (i := frA p ys (i + 1 + k)) rfl rfl (by omega) hda2) (next := fun v21 w21 h21 => ?_)
      obtain ⟨he21, hf21⟩ := h21
      have hg21 : Ints w19.heap.size w21.heap.size w21 v21 (gOf p 0 (frA p ys (i + 1 + k)) : El p).v := by
        have h := hf21.ints
        rw [gOf_val hda2]; exact h
      clear hf21
      refine go ?_
      refine rc (conjugate_ok (p := p) (x := gOf p 0 (frA p ys (i + 1 + k))) (y := gOf p 0 (frA p ys i)) (Nat.zero_le _) rfl rfl) (next := fun v22 w22 h22 => ?_)
      obtain ⟨he22, hf22⟩ := h22
      have hi22 := hf22.ints
      refine go ?_
      refine rc (project_ok (p := p) (x := Grp.cj (gOf p 0 (frA p ys (i + 1 + k))) (gOf p 0 (frA p ys i))) hs (by omega) hus rfl) (next := fun v23 w23 h23 => ?_)
      obtain ⟨he23, y23, hrep23, hf23⟩ := h23
      rw [hrep23.prj hse] at hf23
      have hx := (he21.trans he22).trans he23
      refine go ?_
      refine st_grow hG19 hx (hf23.mono (by have := he21.size; have := he22.size; omega)) hz19 (by omega) (next := fun v24 v25 w25 hG25 hx25 hz25 hst25 => ?_)
      refine go ?_
      refine forQ_normal (by omega) ⟨v25, _, ?_, hx25 w18 (he19.trans hx) (Nat.le_refl _), hG25, ?_⟩
      · exact hasP
      · rw [List.range_succ, List.map_append, List.map_append, hrs19]; rfl
    · obtain rfl : k = frN p ys - (i + 1) := by omega
      have hT19 := hT18.ext he19
      have hb19 : Blk w19 bo [v11, v17, vc6] := @Blk.ext _ _ _ _ he19 hb18'
      have k2 : Cell w19 bo 2 vc6 := hb19.cell rfl
      have hL := GrL.of hG19
      refine go ?_
      refine st_growu (sb := w3.heap.size) hT19.c.own hG19.lst.own.toSl.cells hG19.lst.own.toSl.one hT19.lo (by rw [List.length_map]; omega) (next := fun v20 v21 w21 hO21 hx21 hz21 hst21 => ?_)
      have hb21 : Blk w21 bo [v11, v17, vc6] := Blk.gstep hb19 hst21 (hT19.cb (by omega))
      clear k2
      refine go ?_
      refine st_store_fld (h := hb21) (by ((try simp only [ev_tmp, ev_const, ev_func, get_put, get_args, get_putL, get_putL_nil, Nat.reduceEqDiff, reduceIte, List.getD_cons_zero, List.getD_cons_succ, List.getD_nil]); first | done | with_reducible rfl)) (by ((try simp only [ev_tmp, ev_const, ev_func, get_put, get_args, get_putL, get_putL_nil, Nat.reduceEqDiff, reduceIte, List.getD_cons_zero, List.getD_cons_succ, List.getD_nil]); first | done | with_reducible rfl)) ?_ ?_ (by first | exact True.intro | exact ⟨_, rfl, by ((try simp only [ev_tmp, ev_const, ev_func, get_put, get_args, get_putL, get_putL_nil, Nat.reduceEqDiff, reduceIte, List.getD_cons_zero, List.getD_cons_succ, List.getD_nil, Bool.not_true, Bool.not_false]); first | done | with_reducible rfl)⟩) fun w22 hc22 hs22 hb22 => ?_
      · exact hO21.toSl.one
      · simp
      have hT22 := hT18.fieldC he19 hL hO21 hst21 hc22 (by omega)
      have hE22 : Ext w1 w22 := hc22.ext (hx21 w1 hE19 (by omega)) (by omega)
      have hd22 : Ints w5.heap.size w3.heap.size w22 v3 (ints (freeL p ys p.n)) := (hd19.same (hst21.wrt.same fun g hg => .inr (hT19.c.own.lt g hg).1)).same (hc22.same (.inl (by omega)))
      have hro : (List.range (i + 1)).map (fun i => p.o (frA p ys i)) = (List.range i).map (fun i => p.o (frA p ys i)) ++ [p.o (frA p ys i)] := by rw [List.range_succ, List.map_append]; rfl
      rw [← hro] at hT22
      refine go ?_
      refine forQ_normal (by omega) ⟨v11, v17, v21, _, _, ?_, hE22, hd22, hb22, hT22, ?_, ?_⟩
      · exact hasP
      · rw [List.range_succ, List.map_append, List.map_append, hrp]; rfl
      · rw [List.range_succ, List.map_append, List.map_append, hgs]
        simp only [List.map_cons, List.map_nil, hrs19]
  · obtain rfl : i = frN p ys := by omega
    have hbr6 : Blk w6 br _ := @Blk.ext _ _ _ _ he6 hbk1
    have hP := hT6.pres
    rw [hrp, hgs] at hP
    have o3 := hP.pres.one3
    refine go ?_
    refine ra (v := .agg #[vo6, vp6, vc6]) (h := rd_load_blk (hb := hb6) (by ((try simp only [ev_tmp, ev_const, ev_func, get_put, get_args, get_putL, get_putL_nil, Nat.reduceEqDiff, reduceIte, List.getD_cons_zero, List.getD_cons_succ, List.getD_nil]); first | done | with_reducible rfl)) rfl) (next := ?_)
    refine st_store_agg (vs := [vo6, vp6, vc6]) (cs := _) (hb := hbr6) (by ((try simp only [ev_tmp, ev_const, ev_func, get_put, get_args, get_putL, get_putL_nil, Nat.reduceEqDiff, reduceIte, List.getD_cons_zero, List.getD_cons_succ, List.getD_nil]); first | done | with_reducible rfl)) (by ((try simp only [ev_tmp, ev_const, ev_func, get_put, get_args, get_putL, get_putL_nil, Nat.reduceEqDiff, reduceIte, List.getD_cons_zero, List.getD_cons_succ, List.getD_nil]); first | done | with_reducible rfl)) rfl ?_ ?_ (by first | exact True.intro | exact ⟨_, rfl, by ((try simp only [ev_tmp, ev_const, ev_func, get_put, get_args, get_putL, get_putL_nil, Nat.reduceEqDiff, reduceIte, List.getD_cons_zero, List.getD_cons_succ, List.getD_nil, Bool.not_true, Bool.not_false]); first | done | with_reducible rfl)⟩) fun w7 hc7 hs7 hb7 => ?_
    · rfl
    · simp [o3.1, o3.2.1, o3.2.2]
    refine go ?_
    have hE7 : Ext w w7 := hc7.ext (he1.trans he6) (by omega)
    refine retc (b := br) (hb := hb7) ⟨hE7, ?_⟩ rfl
    have hP7 := hP.wr (.one (B := fun g => g = br) rfl hc7) (fun g hg => .inl (by omega))
    rw [hs7]
    exact hP7.sub (by omega) (Nat.le_refl _)
end Go.Proofs.YtnphljflkpekmaaGreat

/-
  Walks: the program's SubgroupPresentation, QuotientPresentation.
  Conditions: stated at each theorem.
-/
namespace Go.Proofs.YtnphljflkpekmaaGreat
open Go Go.Pc
end Go.Proofs.YtnphljflkpekmaaGreat

/-
  Walks: the program's copies (copyRows, copyPresentation).
  Conditions: stated at each theorem.
-/
namespace Go.Proofs.YtnphljflkpekmaaGreat
open Go Go.Pc
set_option maxHeartbeats 1000000 in
theorem copyRows_ok {w : World} {va : Value} {us : List Value} {xss : List (List Int)} {lo hi : Nat} [hx : Pc.Rows lo hi w va us xss] (hm : ∀ i, (xss.getD i []).length ≤ 2000000) (hl : xss.length ≤ 1000000) :
    Calls Tryz.prog 71 #[va] w (Ret fun v w' => Ext w w' ∧ ∃ rs, GrowL 22 w.heap.size w' v rs ∧ rs.map (·.2) = xss) := by
  have hul := hx.vals.len
  refine enter (args := [va]) (l := [.tmp 2]) Tryz.func71 rfl rfl Tryz.ntmps71 (by simp) ?_
  refine go ?_
  refine r_for xss.length (fun k ρ w' => ∃ vl rs, Has ρ [(3, vl), (6, va), (7, .int .i64 xss.length), (8, .int .i64 k)] ∧ Ext w w' ∧ GrowL 22 w.heap.size w' vl rs ∧ rs.map (·.2) = xss.take k) ?_ ?_
  · refine ⟨nilv, [], ?_, Ext.refl _, GrowL.nil _ _ _ (Nat.le_refl _), rfl⟩
    exact hasP
  rintro k ρ w3 hk ⟨vl, rs, hH, he3, hG3, hrs3⟩
  refine rwp_has hH fun ρ0 => ?_
  have hz3 := he3.size
  have hrl : rs.length = k := by have := congrArg List.length hrs3; simp at this; omega
  refine go ?_
  refine c_if (fun h4 => ?_) (fun h4 => ?_)
  · have hkn : k < xss.length := by omega
    have hm2 := hm k
    refine go ?_
    refine rc (cloneI_ok (xs := xss.getD k []) hm2) (next := fun v4 w4 h5 => ?_)
    obtain ⟨he4, hf4⟩ := h5
    refine go ?_
    refine st_grow hG3 he4 hf4 hz3 (by omega) (next := fun v5 v6 w6 hG6 hx6 hz6 hgs6 => ?_)
    refine go ?_
    refine forQ_normal (by omega) ⟨v6, _, ?_, hx6 w (he3.trans he4) (Nat.le_refl _), hG6, ?_⟩
    · exact hasP
    · rw [List.take_succ_eq_append_getElem hkn, List.map_append, hrs3]
      simp [hkn]
  · obtain rfl : k = xss.length := by omega
    rw [List.take_length] at hrs3
    refine go ?_
    exact ret1 ⟨he3, rs, hG3, hrs3⟩
set_option maxHeartbeats 8000000 in
theorem copyPresentation_ok {p : Pr} {w : World} {vp : Value} {lo hi : Nat} [hp : PresP lo hi w vp p] (hsz : SizeP p 6) :
    Calls Tryz.prog 61 #[vp] w (Ret fun v w' => Ext w w' ∧ PresO w.heap.size w'.heap.size w' v p) := by
  have hol := hsz.ord
  have hpl := hsz.pow
  have hcl := hsz.cnj
  replace hp := hp.wide
  obtain ⟨gP, oP, uo, upw, uc, ups, ucs, ucss, rfl, hgP, hgP2, kc0, kc1, kc2, kh1, kh2, kh3⟩ := hp.ex
  refine enter (args := [.pointer (some ⟨gP, oP, none⟩)]) (l := [.cell 2 29]) Tryz.func61 rfl rfl Tryz.ntmps61 (by simp) ?_
  refine go ?_
  refine st_alloc (by first | exact True.intro | exact ⟨_, rfl, by ((try simp only [ev_tmp, ev_const, ev_func, get_put, get_args, get_putL, get_putL_nil, Nat.reduceEqDiff, reduceIte, List.getD_cons_zero, List.getD_cons_succ, List.getD_nil, Bool.not_true, Bool.not_false]); first | done | with_reducible rfl)⟩) fun w2 br he2 hbr hs2 hbk2 => ?_
  have hz2 := he2.size
  refine go ?_
  refine d_post (fun ρ' w' => ∃ vo' vp' rp bq m1, Has ρ' [(0, .pointer (some ⟨gP, oP, none⟩)), (2, .pointer (some ⟨br, 0, none⟩)), (3, .pointer (some ⟨bq, 0, none⟩))] ∧ Ext w2 w' ∧ Blk w' bq [vo', vp', nilv] ∧ Hd 22 w2.heap.size m1 w'.heap.size bq w' vo' p.ord vp' rp ∧ rp.map (·.2) = p.pow ∧ w2.heap.size ≤ bq ∧ bq < w'.heap.size) ?_ ?_
  · refine d_order [0, 1, 2, 3, 5, 6, 7, 8, 4, 9, 10, 11, 12] (h := fun w3 he3 hs3 => ?_)
    refine dgo ?_
    refine dt_fork (π' := [0, 1, 2, 3, 5, 6, 7, 8, 11, 4, 9, 10, 12]) (by decide) rfl rfl (by decide +kernel) ?_ ?_
    · refine ds_call (cloneI_ok (xs := p.ord) (by omega)) (next := fun v4 w4 h4 => ?_)
      obtain ⟨he4, hf4⟩ := h4
      have hz4 := he4.size
      refine dt_fork (π' := [0, 1, 2, 3, 5, 6, 7, 8, 4, 11, 9, 10, 12]) (by decide) rfl rfl (by decide +kernel) ?_ ?_
      · refine ds_call (copyRows_ok (xss := p.pow) (fun i => by have := hsz.powi i; omega) (by omega)) (next := fun v5 w5 h5 => ?_)
        obtain ⟨he5, rs5, hG5, hrs5⟩ := h5
        have hz5 := he5.size
        refine da (v := .agg #[v4, v5, nilv]) (h := ⟨fun _ _ => rd_build (by simp only [ev_tmp, ev_const, ev_func, get_put, get_args, get_putL, get_putL_nil, Nat.reduceEqDiff, reduceIte, List.getD_cons_zero, List.getD_cons_succ, List.getD_nil, List.map_toArray, List.map_cons, List.map_nil]; rfl) (fun _ => ?_)⟩) (next := ?_)
        · obtain ⟨A, c, rfl, _⟩ := hf4.ints.sl.ex
          obtain ⟨A', c', rfl, _⟩ := hG5.lst.own.toSl.ex
          kernel_rfl
        refine d_alloc (next := fun w6 bq he6 hbq hs6 hbk6 => ?_)
        refine d_store_agg (vs := [v4, v5, nilv]) (cs := _) hbk6 (by omega) rfl rfl (by simp [hf4.ints.sl.one, hG5.lst.own.toSl.one]; rfl) (next := fun w7 hc7 hs7 hb7 => ?_)
        refine d_end (h := ?_)
        refine ⟨rfl, v4, v5, rs5, bq, w4.heap.size, ?_, hc7.ext (((he3.trans he4).trans he5).trans he6) (by omega), hb7, ?_, hrs5, by omega, by omega⟩
        · exact hasP
        · rw [hs7]
          exact (Hd.of hf4 (by omega) (by omega) (Nat.le_refl _) hG5 (he5.trans he6) he6 (by omega) (by omega)).wr (.one (B := fun g => g = bq) rfl hc7) (fun g hg => .inl hg)
      · refine ds_alloc (next := fun w6 bq he6 hbq hs6 hbk6 => ?_)
        refine dce (copyRows_ok (xss := p.pow) (fun i => by have := hsz.powi i; omega) (by omega)) (next := fun v5 w5 h5 => ?_)
        obtain ⟨he5, rs5, hG5, hrs5⟩ := h5
        have hz5 := he5.size
        refine da (v := .agg #[v4, v5, nilv]) (h := ⟨fun _ _ => rd_build (by simp only [ev_tmp, ev_const, ev_func, get_put, get_args, get_putL, get_putL_nil, Nat.reduceEqDiff, reduceIte, List.getD_cons_zero, List.getD_cons_succ, List.getD_nil, List.map_toArray, List.map_cons, List.map_nil]; rfl) (fun _ => ?_)⟩) (next := ?_)
        · obtain ⟨A, c, rfl, _⟩ := hf4.ints.sl.ex
          obtain ⟨A', c', rfl, _⟩ := hG5.lst.own.toSl.ex
          kernel_rfl
        have hbk5 : Blk w5 bq _ := @Blk.ext _ _ _ _ he5 hbk6
        refine d_store_agg (vs := [v4, v5, nilv]) (cs := _) hbk5 (by omega) rfl rfl (by simp [hf4.ints.sl.one, hG5.lst.own.toSl.one]; rfl) (next := fun w7 hc7 hs7 hb7 => ?_)
        refine d_end (h := ?_)
        refine ⟨rfl, v4, v5, rs5, bq, w6.heap.size, ?_, hc7.ext (((he3.trans he4).trans he6).trans he5) (by omega), hb7, ?_, hrs5, by omega, by omega⟩
        · exact hasP
        · rw [hs7]
          exact (Hd.of hf4 (by omega) (by omega) (by omega) hG5 (he6.trans he5) (Ext.refl _) (by omega) (by omega)).wr (.one (B := fun g => g = bq) rfl hc7) (fun g hg => .inl hg)
    · refine ds_alloc (next := fun w6 bq he6 hbq hs6 hbk6 => ?_)
      refine dce (cloneI_ok (xs := p.ord) (by omega)) (next := fun v4 w4 h4 => ?_)
      obtain ⟨he4, hf4⟩ := h4
      have hz4 := he4.size
      refine dce (copyRows_ok (xss := p.pow) (fun i => by have := hsz.powi i; omega) (by omega)) (next := fun v5 w5 h5 => ?_)
      obtain ⟨he5, rs5, hG5, hrs5⟩ := h5
      have hz5 := he5.size
      refine da (v := .agg #[v4, v5, nilv]) (h := ⟨fun _ _ => rd_build (by simp only [ev_tmp, ev_const, ev_func, get_put, get_args, get_putL, get_putL_nil, Nat.reduceEqDiff, reduceIte, List.getD_cons_zero, List.getD_cons_succ, List.getD_nil, List.map_toArray, List.map_cons, List.map_nil]; rfl) (fun _ => ?_)⟩) (next := ?_)
      · obtain ⟨A, c, rfl, _⟩ := hf4.ints.sl.ex
        obtain ⟨A', c', rfl, _⟩ := hG5.lst.own.toSl.ex
        kernel_rfl
      have hbk5 : Blk w5 bq _ := @Blk.ext _ _ _ _ (he4.trans he5) hbk6
      refine d_store_agg (vs := [v4, v5, nilv]) (cs := _) hbk5 (by omega) rfl rfl (by simp [hf4.ints.sl.one, hG5.lst.own.toSl.one]; rfl) (next := fun w7 hc7 hs7 hb7 => ?_)
      refine d_end (h := ?_)
      refine ⟨rfl, v4, v5, rs5, bq, w4.heap.size, ?_, hc7.ext (((he3.trans he6).trans he4).trans he5) (by omega), hb7, ?_, hrs5, by omega, by omega⟩
      · exact hasP
      · rw [hs7]
        exact (Hd.of hf4 (by omega) (by omega) (Nat.le_refl _) hG5 he5 (Ext.refl _) (by omega) (by omega)).wr (.one (B := fun g => g = bq) rfl hc7) (fun g hg => .inl hg)
  rintro ρ' w3 ⟨vo', vp', rp, bq, m1, hH, he3, hb3, hD3, hrp, hbq1, hbq2⟩
  refine thn_normal (rwp_has hH fun ρ0 => ?_)
  have hz3 := he3.size
  refine go ?_
  refine r_for p.cnj.length (fun i ρ w' => ∃ vc' gs, Has ρ [(0, .pointer (some ⟨gP, oP, none⟩)), (2, .pointer (some ⟨br, 0, none⟩)), (3, .pointer (some ⟨bq, 0, none⟩)), (20, uc), (21, .int .i64 p.cnj.length), (22, .int .i64 i)] ∧ Ext w2 w' ∧ Blk w' bq [vo', vp', vc'] ∧ Hd 22 w2.heap.size m1 w3.heap.size bq w' vo' p.ord vp' rp ∧ GrC 23 22 w3.heap.size w' vc' gs ∧ w3.heap.size ≤ w'.heap.size ∧ (gs.map fun q => q.2.map (·.2)) = p.cnj.take i) ?_ ?_
  · refine ⟨nilv, [], ?_, he3, hb3, hD3, GrC.nil _ _ _ _, Nat.le_refl _, rfl⟩
    exact hasP
  clear hb3 hD3
  rintro i ρ w4 hi ⟨vc4, gs, hH, he4, hb4, hD4, hC4, hz4, hgs⟩
  refine rwp_has hH fun ρ0 => ?_
  have hgl : gs.length = i := by have := congrArg List.length hgs; simp at this; omega
  refine go ?_
  refine c_if (fun h4 => ?_) (fun h4 => ?_)
  · have hin : i < p.cnj.length := by omega
    obtain ⟨b', hb', hvb'⟩ := own_some' vc4 w3.heap.size w4.heap.size hz4 (fun g h => (hC4.own.lt g h).1)
    have ap1 : Apart 0 w.heap.size b' := ⟨.inr (by omega)⟩
    have ap2 : Apart gP (gP + 1) b' := ⟨.inr (by omega)⟩
    have ap3 : Apart bq (bq + 1) b' := ⟨.inr (by omega)⟩
    have k2 : Cell w4 bq 2 vc4 := hb4.cell rfl
    refine go ?_
    refine z_order b' (List.range 8) (h := fun w5 he5 _ => ?_)
    refine zgo ?_
    refine zc (copyRows_ok (xss := p.cnj.getD i []) (fun j => by have := hsz.cnjij i j; omega) (by have := hsz.cnji i; omega)) (next := fun v6 w6 h6 => ?_)
    obtain ⟨he6, rs6, hG6, hrs6⟩ := h6
    have hx := he5.trans he6
    have hzx := hx.size
    have hL6 : GrL 22 w4.heap.size w6 v6 rs6 := by
      have h := GrL.of hG6
      exact ⟨h.own.mono (by have := he5.size; omega), h.rows.mono (by have := he5.size; omega), h.off⟩
    have hO6 : OwnN 23 w3.heap.size w6 vc4 _ := @OwnN.ext _ _ _ _ _ _ hx hC4.own
    have hb6 : Blk w6 bq [vo', vp', vc4] := @Blk.ext _ _ _ _ hx hb4
    have hlt : ∀ g, vc4.ownBlock = some g → w3.heap.size ≤ g := fun g hg => (hC4.own.lt g hg).1
    clear k2
    refine z_growu (sb := w3.heap.size) hO6 hG6.lst.own.toSl.cells hG6.lst.own.toSl.one (by omega) (by rw [List.length_map]; omega) hvb' (next := fun v7 v8 w8 hO8 hx8 hz8 hst8 => ?_)
    have hb8 : Blk w8 bq [vo', vp', vc4] := Blk.gstep hb6 hst8 (fun g hg => by have := hlt g hg; omega)
    refine zgo ?_
    refine z_stfld (bo := bq) (m := 2) (cs := [vo', vp', vc4]) hb8 hO8.toSl.one (by simp) (next := fun w9 hc9 hs9 hb9 => ?_)
    have hC9 := hC4.field hz4 hx hL6 hO8 hst8 hc9 (by omega)
    have hD9 := (((hD4.ext hx).wr hst8.wrt (fun g hg => .inr (hlt g hg))).wr (.one (B := fun g => g = bq) rfl hc9) (fun g hg => .inl hg))
    have hE9 : Ext w2 w9 := hc9.ext (hx8 w2 (he4.trans hx) (by omega)) (by omega)
    refine go ?_
    refine forQ_normal (by omega) ⟨v8, _, ?_, hE9, hb9, hD9, hC9, by omega, ?_⟩
    · exact hasP
    · rw [List.take_succ_eq_append_getElem hin, List.map_append, hgs]
      simp only [List.map_cons, List.map_nil, hrs6]
      simp [hin]
  · obtain rfl : i = p.cnj.length := by omega
    rw [List.take_length] at hgs
    have hbr4 : Blk w4 br _ := @Blk.ext _ _ _ _ he4 hbk2
    have hP := (show Hd 22 w2.heap.size m1 w3.heap.size bq w4 vo' p.ord vp' rp from hD4).presO hC4
    rw [hrp, hgs] at hP
    have o3 := hP.pres.one3
    refine go ?_
    refine ra (v := .agg #[vo', vp', vc4]) (h := rd_load_blk (hb := hb4) (by ((try simp only [ev_tmp, ev_const, ev_func, get_put, get_args, get_putL, get_putL_nil, Nat.reduceEqDiff, reduceIte, List.getD_cons_zero, List.getD_cons_succ, List.getD_nil]); first | done | with_reducible rfl)) rfl) (next := ?_)
    refine st_store_agg (vs := [vo', vp', vc4]) (cs := _) (hb := hbr4) (by ((try simp only [ev_tmp, ev_const, ev_func, get_put, get_args, get_putL, get_putL_nil, Nat.reduceEqDiff, reduceIte, List.getD_cons_zero, List.getD_cons_succ, List.getD_nil]); first | done | with_reducible rfl)) (by ((try simp only [ev_tmp, ev_const, ev_func, get_put, get_args, get_putL, get_putL_nil, Nat.reduceEqDiff, reduceIte, List.getD_cons_zero, List.getD_cons_succ, List.getD_nil]); first | done | with_reducible rfl)) rfl ?_ ?_ (by first | exact True.intro | exact ⟨_, rfl, by ((try simp only [ev_tmp, ev_const, ev_func, get_put, get_args, get_putL, get_putL_nil, Nat.reduceEqDiff, reduceIte, List.getD_cons_zero, List.getD_cons_succ, List.getD_nil, Bool.not_true, Bool.not_false]); first | done | with_reducible rfl)⟩) fun w7 hc7 hs7 hb7 => ?_
    · rfl
    · simp [o3.1, o3.2.1, o3.2.2]
    refine go ?_
    have hE7 : Ext w w7 := hc7.ext (he2.trans he4) (by omega)
    refine retc (b := br) (hb := hb7) ⟨hE7, ?_⟩ rfl
    have hP7 := hP.wr (.one (B := fun g => g = br) rfl hc7) (fun g hg => .inl (by omega))
    rw [hs7]
    exact hP7.sub (by omega) (Nat.le_refl _)
end Go.Proofs.YtnphljflkpekmaaGreat

/-
  Walks: the program's InclusionHom, NaturalHom.
  Conditions: stated at each theorem.
-/
namespace Go.Proofs.YtnphljflkpekmaaGreat
open Go Go.Pc
theorem homO_nil {s : Nat} {w : World} (h : s ≤ w.heap.size) : HomO s w.heap.size w (.agg #[nilv, nilv, nilv, nilv, nilv, nilv, nilv]) noP noP [] :=
  HomO.of (m0 := s) (m1 := w.heap.size) (m2 := w.heap.size) (m3 := w.heap.size) ((Tri.nil 0 0 0 0 s w h).pres) ((Tri.nil 0 0 0 0 w.heap.size w (Nat.le_refl _)).pres) (MatO.nilR _ _ _) (Nat.le_refl _) h (Nat.le_refl _) (Nat.le_refl _) (Nat.le_refl _)
theorem homO_nilA {s : Nat} {w : World} (h : s ≤ w.heap.size) : HomO s w.heap.size w (.agg [nilv, nilv, nilv, nilv, nilv, nilv, nilv].toArray) noH.1 noH.2.1 [] := homO_nil h
set_option maxHeartbeats 4000000 in
theorem impl_NaturalHom_ok {p : Pr} {w : World} {vp vu : Value} {us : List Value} {xss : List (List Int)} {lo hi lo1 hi1 : Nat} [hp : Pres lo hi w vp p] [hu : Pc.Rows lo1 hi1 w vu us xss] (hl : p.ord.length ≤ 2000000) :
    Calls Tryz.prog 18 #[vp, vu] w (Ret fun v w' => ∃ (u : Value) (k : Pr × Pr × List (List Int)) (e : Int), v = .tuple #[u, .int .i64 e] ∧ Ans (IsSubP p xss) (NhV p xss) noH k e ∧ Ext w w' ∧ ∃ rs, k.2.2 = rs.map (·.2) ∧ HomO w.heap.size w'.heap.size w' u k.1 k.2.1 rs) := by
  have hol : p.ord.length = p.n := rfl
  replace hp := hp.wide
  replace hu := hu.wide
  obtain ⟨vo, vpw, vc, ps, cs, css, rfl, h1, h2, h3⟩ := hp.ex
  refine enter (args := [.agg #[vo, vpw, vc], vu]) (l := [.cell 4 31, .tmp 5]) Tryz.func18 rfl rfl Tryz.ntmps18 (by simp) ?_
  refine go ?_
  refine st_box3 (by ((try simp only [ev_tmp, ev_const, ev_func, get_put, get_args, get_putL, get_putL_nil, Nat.reduceEqDiff, reduceIte, List.getD_cons_zero, List.getD_cons_succ, List.getD_nil]); first | done | with_reducible rfl)) (by first | exact True.intro | exact ⟨_, rfl, by ((try simp only [ev_tmp, ev_const, ev_func, get_put, get_args, get_putL, get_putL_nil, Nat.reduceEqDiff, reduceIte, List.getD_cons_zero, List.getD_cons_succ, List.getD_nil, Bool.not_true, Bool.not_false]); first | done | with_reducible rfl)⟩) fun w1 b he1 hb1 hs1 hc0 hc1 hc2 => ?_
  have hpp := hp.boxed he1 hc0 hc1 hc2
  refine go ?_
  refine st_alloc (by first | exact True.intro | exact ⟨_, rfl, by ((try simp only [ev_tmp, ev_const, ev_func, get_put, get_args, get_putL, get_putL_nil, Nat.reduceEqDiff, reduceIte, List.getD_cons_zero, List.getD_cons_succ, List.getD_nil, Bool.not_true, Bool.not_false]); first | done | with_reducible rfl)⟩) fun w2 br he2 hbr hs2 hbk2 => ?_
  have hz1 := he1.size
  refine go ?_
  refine rc (normalCode_ok (p := p) (xss := xss) hl) (next := fun v5 w5 h5 => ?_)
  obtain ⟨e5, rfl, hcode, he5⟩ := h5
  have hE2 := he1.trans he2
  have hE5 := hE2.trans he5
  have hz5 := hE5.size
  have hz52 := he5.size
  refine go ?_
  refine c_if (fun h7 => ?_) (fun h7 => ?_)
  · have hb5' : Blk w5 br _ := @Blk.ext _ _ _ _ he5 hbk2
    refine go ?_
    refine ra (v := .agg #[nilv, nilv, nilv, nilv, nilv, nilv, nilv]) (h := rd_build (by rfl) (fun _ => by kernel_rfl)) (next := ?_)
    refine go ?_
    refine st_store_agg (vs := [nilv, nilv, nilv, nilv, nilv, nilv, nilv]) (cs := _) (hb := hb5') (by ((try simp only [ev_tmp, ev_const, ev_func, get_put, get_args, get_putL, get_putL_nil, Nat.reduceEqDiff, reduceIte, List.getD_cons_zero, List.getD_cons_succ, List.getD_nil]); first | done | with_reducible rfl)) (by ((try simp only [ev_tmp, ev_const, ev_func, get_put, get_args, get_putL, get_putL_nil, Nat.reduceEqDiff, reduceIte, List.getD_cons_zero, List.getD_cons_succ, List.getD_nil]); first | done | with_reducible rfl)) rfl ?_ ?_ (by first | exact True.intro | exact ⟨_, rfl, by ((try simp only [ev_tmp, ev_const, ev_func, get_put, get_args, get_putL, get_putL_nil, Nat.reduceEqDiff, reduceIte, List.getD_cons_zero, List.getD_cons_succ, List.getD_nil, Bool.not_true, Bool.not_false]); first | done | with_reducible rfl)⟩) fun w6 hc6 hs6 hb6 => ?_
    · rfl
    · rfl
    have hE6 : Ext w w6 := hc6.ext hE5 (by omega)
    refine go ?_
    rcases hcode with ⟨h8, rfl⟩ | ⟨h8, h9, rfl⟩ | ⟨h8, h9, rfl⟩
    · exact retc2 (b := br) (hb := hb6) ⟨_, noH, 1, rfl, .inr ⟨h8, rfl, rfl⟩, hE6, [], rfl, homO_nilA hE6.size⟩ rfl
    · exact retc2 (b := br) (hb := hb6) ⟨_, noH, 5, rfl, .inl ⟨h8, .inl ⟨h9, rfl, rfl⟩⟩, hE6, [], rfl, homO_nilA hE6.size⟩ rfl
    · exact absurd rfl h7
  obtain ⟨hS, hN⟩ : IsSubP p xss ∧ NormP p xss := by
    rcases hcode with ⟨_, rfl⟩ | ⟨_, _, rfl⟩ | ⟨h8, h9, _⟩
    · exact absurd (by decide) h7
    · exact absurd (by decide) h7
    · exact ⟨h8, h9⟩
  have hS' := hS
  obtain ⟨hG, hq⟩ := hS'
  haveI : ConAll p := ⟨hG.con⟩
  have hn6 := hG.valid.n6
  obtain ⟨ys, hys, hse⟩ := isSeq_iff.1 hq
  have hyl := hse.len
  have hgl6 := gensL_len p
  refine go ?_
  refine rc (copyPresentation_ok (p := p) (valid_sz6 hG.valid)) (next := fun v6 w6 h6 => ?_)
  obtain ⟨he6, hP6⟩ := h6
  obtain ⟨y0, y1, y2, _, _, rfl, _⟩ := hP6.ex
  have o1 := hP6.pres.one3
  refine go ?_
  refine rc (quotientPresentation_ok (p := p) hse hys) (next := fun v7 w7 h7' => ?_)
  obtain ⟨he7, hP7⟩ := h7'
  obtain ⟨y3, y4, y5, _, _, rfl, _⟩ := hP7.ex
  have o2 := hP7.pres.one3
  have hz6 := he6.size
  have hz7 := he7.size
  refine go ?_
  refine ra (v := .agg #[y0, y1, y2, y3, y4, y5, nilv]) (h := rd_build (by simp only [ev_tmp, ev_const, ev_func, get_put, get_args, get_putL, get_putL_nil, Nat.reduceEqDiff, reduceIte, List.getD_cons_zero, List.getD_cons_succ, List.getD_nil, List.map_toArray, List.map_cons, List.map_nil]; rfl) (fun _ => ?_)) (next := ?_)
  · obtain ⟨m0, ps', cs', css', m1, m2⟩ := hP6.pres.ints3
    obtain ⟨n0, qs', ds', dss', n1, n2⟩ := hP7.pres.ints3
    obtain ⟨A0, c0, rfl, _⟩ := m0.sl.ex
    obtain ⟨A1, c1, rfl, _⟩ := m1.sl.ex
    obtain ⟨A2, c2, rfl, _⟩ := m2.sl.ex
    obtain ⟨A3, c3, rfl, _⟩ := n0.sl.ex
    obtain ⟨A4, c4, rfl, _⟩ := n1.sl.ex
    obtain ⟨A5, c5, rfl, _⟩ := n2.sl.ex
    kernel_rfl
  refine st_alloc (by first | exact True.intro | exact ⟨_, rfl, by ((try simp only [ev_tmp, ev_const, ev_func, get_put, get_args, get_putL, get_putL_nil, Nat.reduceEqDiff, reduceIte, List.getD_cons_zero, List.getD_cons_succ, List.getD_nil, Bool.not_true, Bool.not_false]); first | done | with_reducible rfl)⟩) fun w8 bq he8 hbq hs8 hbk8 => ?_
  refine st_store_agg (vs := [y0, y1, y2, y3, y4, y5, nilv]) (cs := _) (hb := hbk8) (by ((try simp only [ev_tmp, ev_const, ev_func, get_put, get_args, get_putL, get_putL_nil, Nat.reduceEqDiff, reduceIte, List.getD_cons_zero, List.getD_cons_succ, List.getD_nil]); first | done | with_reducible rfl)) (by ((try simp only [ev_tmp, ev_const, ev_func, get_put, get_args, get_putL, get_putL_nil, Nat.reduceEqDiff, reduceIte, List.getD_cons_zero, List.getD_cons_succ, List.getD_nil]); first | done | with_reducible rfl)) rfl ?_ ?_ (by first | exact True.intro | exact ⟨_, rfl, by ((try simp only [ev_tmp, ev_const, ev_func, get_put, get_args, get_putL, get_putL_nil, Nat.reduceEqDiff, reduceIte, List.getD_cons_zero, List.getD_cons_succ, List.getD_nil, Bool.not_true, Bool.not_false]); first | done | with_reducible rfl)⟩) fun w9 hc9 hs9 hb9 => ?_
  · rfl
  · simp [o1.1, o1.2.1, o1.2.2, o2.1, o2.2.1, o2.2.2]; rfl
  have hz8 := he8.size
  have hE29 : Ext w2 w9 := hc9.ext (((he5.trans he6).trans he7).trans he8) (by omega)
  have hz9 := hE29.size
  have hP6' := (hP6.wr (.ofExt (B := fun b => b < w5.heap.size ∨ w6.heap.size ≤ b) (he7.trans he8)) (fun g hg => hg)).wr (.one (B := fun g => g = bq) rfl hc9) (fun g hg => .inr (by omega))
  have hP7' := (hP7.wr (.ofExt (B := fun b => b < w6.heap.size ∨ w7.heap.size ≤ b) he8) (fun g hg => hg)).wr (.one (B := fun g => g = bq) rfl hc9) (fun g hg => .inr (by omega))
  have hpp9 := PresP.same hpp (Ext.same (he2.trans hE29) _ _) (by omega)
  clear hP6 hP7
  refine go ?_
  refine rc (generators_ok (p := p)) (next := fun v10 w10 h10 => ?_)
  obtain ⟨he10, rs10, hrs10, hM10⟩ := h10
  have hz10 := he10.size
  have hR10 : Pc.Rows w9.heap.size w10.heap.size w10 v10 (rs10.map (·.1)) (vecs (gensL p)) := by rw [hrs10]; exact hM10.rows
  have hgll : (vecs (gensL p)).length = p.n := by simp [hgl6]
  refine go ?_
  refine r_for p.n (fun i ρ w' => ∃ vi rs, Has ρ [(1, vu), (2, .pointer (some ⟨b, 0, none⟩)), (4, .pointer (some ⟨br, 0, none⟩)), (7, .pointer (some ⟨bq, 0, none⟩)), (20, v10), (21, .int .i64 p.n), (22, .int .i64 i)] ∧ Ext w2 w' ∧ Blk w' bq [y0, y1, y2, y3, y4, y5, vi] ∧ PresO w5.heap.size w6.heap.size w' (.agg #[y0, y1, y2]) p ∧ PresO w6.heap.size w7.heap.size w' (.agg #[y3, y4, y5]) (quoPr ys) ∧ Pc.Rows w9.heap.size w10.heap.size w' v10 (rs10.map (·.1)) (vecs (gensL p)) ∧ GrL 22 w10.heap.size w' vi rs ∧ w10.heap.size ≤ w'.heap.size ∧ rs.map (·.2) = (List.range i).map fun i => prjE ys (gOf p 0 i)) ?_ ?_
  · refine ⟨nilv, [], ?_, hE29.trans he10, @Blk.ext _ _ _ _ he10 hb9, hP6'.wr (.ofExt (B := fun b => b < w5.heap.size ∨ w6.heap.size ≤ b) he10) (fun g hg => hg), hP7'.wr (.ofExt (B := fun b => b < w6.heap.size ∨ w7.heap.size ≤ b) he10) (fun g hg => hg), hR10, ⟨OwnN.nil _ _ _, RowsO.nil _ _, fun b h => (by cases h)⟩, Nat.le_refl _, rfl⟩
    rw [hgll]
    exact hasP
  clear hR10 hP6' hP7' hb9 hM10 hpp hpp9
  rintro i ρ w3 hi ⟨vi, rs, hH, he3, hb3, hA3, hB3, hR3, hG3, hz3, hrs3⟩
  refine rwp_has hH fun ρ0 => ?_
  have hE3 := hE2.trans he3
  have hpp3 : PresP 0 w1.heap.size w3 (.pointer (some ⟨b, 0, none⟩)) p := (hp.boxed he1 hc0 hc1 hc2).same ((he2.trans he3).same _ _) (by have := he3.size; omega)
  have hrl : rs.length = i := by have := congrArg List.length hrs3; simp at this; omega
  refine go ?_
  refine c_if (fun h4 => ?_) (fun h4 => ?_)
  · have hin : i < p.n := by omega
    have hgi : (vecs (gensL p)).getD i [] = (gOf p 0 i : El p).v := by simp [vecs, gensL, hin]
    obtain ⟨b', hb', hvb'⟩ := own_some' vi w10.heap.size w3.heap.size hz3 (fun g h => (hG3.own.lt g h).1)
    have ap1 : Apart 0 w.heap.size b' := ⟨.inr (by omega)⟩
    have ap2 : Apart b (b + 1) b' := ⟨.inr (by omega)⟩
    have ap3 : Apart bq (bq + 1) b' := ⟨.inr (by omega)⟩
    have k6 : Cell w3 bq 6 vi := hb3.cell rfl
    refine go ?_
    refine z_order b' (List.range 9) (h := fun w4 he4 _ => ?_)
    refine zgo ?_
    refine zc (project_ok (p := p) (x := gOf p 0 i) hse.ok (by omega) hys hgi) (next := fun v5 w5' h6 => ?_)
    obtain ⟨he5', y5', hrep5, hf5⟩ := h6
    rw [hrep5.prj hse] at hf5
    have hx := he4.trans he5'
    have hzx := hx.size
    have hlt : ∀ g, vi.ownBlock = some g → w10.heap.size ≤ g := fun g hg => (hG3.own.lt g hg).1
    clear k6
    refine z_grow (hG3.grow hz3) hx (hf5.mono (by have := he4.size; omega)) hz3 (by omega) hvb' (next := fun v6 v7 w7' hG7 hx7 hz7' hst7 => ?_)
    have hb7 : Blk w7' bq [y0, y1, y2, y3, y4, y5, vi] := Blk.gstep (@Blk.ext _ _ _ _ hx hb3) hst7 (fun g hg => by have := hlt g hg; omega)
    refine zgo ?_
    refine z_stfld (bo := bq) (m := 6) (cs := [y0, y1, y2, y3, y4, y5, vi]) hb7 hG7.lst.own.toSl.one (by simp) (next := fun w8' hc8 hs8' hb8 => ?_)
    have hE8 : Ext w2 w8' := hc8.ext (hx7 w2 (he3.trans hx) (by omega)) (by omega)
    have kA : Wrt (fun g => w10.heap.size ≤ g ∨ g = bq) w3 w8' := ((Wrt.ofExt hx).trans (hst7.wrt.mono fun g hg => .inl (hlt g hg))).trans (.one (B := fun g => w10.heap.size ≤ g ∨ g = bq) (.inr rfl) hc8)
    have hA8 := hA3.wr kA (fun g hg => .inr (by omega))
    have hB8 := hB3.wr kA (fun g hg => .inr (by omega))
    have hR8 := hR3.same (kA.same fun g hg => by omega)
    have hG8 := (GrL.of hG7).wr (.one (B := fun g => g = bq) rfl hc8) (fun g hg hg' => by have := ((GrL.of hG7).lt hg).1; omega)
    refine go ?_
    refine forQ_normal (by omega) ⟨v7, _, ?_, hE8, hb8, hA8, hB8, hR8, hG8, by omega, ?_⟩
    · exact hasP
    · rw [List.range_succ, List.map_append, List.map_append, hrs3]; rfl
  · obtain rfl : i = p.n := by omega
    have hbr3 : Blk w3 br _ := @Blk.ext _ _ _ _ he3 hbk2
    have o3 := hG3.own.toSl.one
    refine go ?_
    refine ra (v := .agg #[y0, y1, y2, y3, y4, y5, vi]) (h := rd_load_blk (hb := hb3) (by ((try simp only [ev_tmp, ev_const, ev_func, get_put, get_args, get_putL, get_putL_nil, Nat.reduceEqDiff, reduceIte, List.getD_cons_zero, List.getD_cons_succ, List.getD_nil]); first | done | with_reducible rfl)) rfl) (next := ?_)
    refine st_store_agg (vs := [y0, y1, y2, y3, y4, y5, vi]) (cs := _) (hb := hbr3) (by ((try simp only [ev_tmp, ev_const, ev_func, get_put, get_args, get_putL, get_putL_nil, Nat.reduceEqDiff, reduceIte, List.getD_cons_zero, List.getD_cons_succ, List.getD_nil]); first | done | with_reducible rfl)) (by ((try simp only [ev_tmp, ev_const, ev_func, get_put, get_args, get_putL, get_putL_nil, Nat.reduceEqDiff, reduceIte, List.getD_cons_zero, List.getD_cons_succ, List.getD_nil]); first | done | with_reducible rfl)) rfl ?_ ?_ (by first | exact True.intro | exact ⟨_, rfl, by ((try simp only [ev_tmp, ev_const, ev_func, get_put, get_args, get_putL, get_putL_nil, Nat.reduceEqDiff, reduceIte, List.getD_cons_zero, List.getD_cons_succ, List.getD_nil, Bool.not_true, Bool.not_false]); first | done | with_reducible rfl)⟩) fun w4 hc4 hs4 hb4 => ?_
    · rfl
    · simp [o1.1, o1.2.1, o1.2.2, o2.1, o2.2.1, o2.2.2, o3]
    have hE4 : Ext w w4 := hc4.ext hE3 (by omega)
    have hA4 := hA3.wr (.one (B := fun g => g = br) rfl hc4) (fun g hg => .inl (by omega))
    have hB4 := hB3.wr (.one (B := fun g => g = br) rfl hc4) (fun g hg => .inl (by omega))
    have hM4 := (hG3.grow hz3).mat.wr (.one (B := fun g => g = br) rfl hc4) (fun g hg => .inl (by omega))
    refine go ?_
    exact retc2 (b := br) (hb := hb4) ⟨_, (p, quoPr ys, (List.range p.n).map fun i => prjE ys (gOf p 0 i)), 0, rfl, .inl ⟨hS, .inr ⟨hN, ⟨inferInstance, ys, hys, rfl⟩, rfl⟩⟩, hE4, rs, hrs3.symm, HomO.of hA4 (hB4.sub (Nat.le_refl _) (show w7.heap.size ≤ w10.heap.size by omega)) hM4 (by omega) (by omega) (by omega) (by omega) (by omega)⟩ rfl
end Go.Proofs.YtnphljflkpekmaaGreat

/-
  Walks: the statement's own helpers on homomorphisms: sizes, copies, comparison, marks (szHom, toHom, eqHom, markHom).
  Conditions: stated at each theorem.
-/
namespace Go.Proofs.YtnphljflkpekmaaGreat
open Go Go.Pc
set_option maxHeartbeats 1000000 in
theorem eqHom_ok {w : World} {va vb : Value} {p q p' q' : Pr} {xss yss : List (List Int)} {lo hi lo1 hi1 : Nat} [hh : HomV lo hi w va p q xss] [hh' : HomV lo1 hi1 w vb p' q' yss] (hsp : SizeP p 2000000) (hsq : SizeP q 2000000) (hl : xss.length ≤ 2000000) (hr : ∀ i, (xss.getD i []).length ≤ 2000000) :
    Calls Tryz.prog 19 #[va, vb] w (Ret fun v w' => ∃ b, v = .bool b ∧ (b = true ↔ p = p' ∧ q = q' ∧ xss = yss) ∧ Ext w w') := by
  obtain ⟨a0, a1, a2, a3, a4, a5, a6, us, rfl, hp, hq, hx⟩ := hh.ex
  obtain ⟨d0, d1, d2, d3, d4, d5, d6, us', rfl, hp', hq', hx'⟩ := hh'.ex
  refine enter (args := [.agg #[a0, a1, a2, a3, a4, a5, a6], .agg #[d0, d1, d2, d3, d4, d5, d6]]) (l := [.tmp 4]) Tryz.func19 rfl rfl Tryz.ntmps19 (by simp) ?_
  refine go ?_
  refine st_box (vs := [a0, a1, a2, a3, a4, a5, a6]) (by ((try simp only [ev_tmp, ev_const, ev_func, get_put, get_args, get_putL, get_putL_nil, Nat.reduceEqDiff, reduceIte, List.getD_cons_zero, List.getD_cons_succ, List.getD_nil]); first | done | with_reducible rfl)) (by first | exact True.intro | exact ⟨_, rfl, by ((try simp only [ev_tmp, ev_const, ev_func, get_put, get_args, get_putL, get_putL_nil, Nat.reduceEqDiff, reduceIte, List.getD_cons_zero, List.getD_cons_succ, List.getD_nil, Bool.not_true, Bool.not_false]); first | done | with_reducible rfl)⟩) fun w1 b he1 hb1 hs1 hbk => ?_
  obtain ⟨c0, c1, c2, c3, c4, c5, c6⟩ := hbk.cells7
  refine go ?_
  refine st_box (vs := [d0, d1, d2, d3, d4, d5, d6]) (by ((try simp only [ev_tmp, ev_const, ev_func, get_put, get_args, get_putL, get_putL_nil, Nat.reduceEqDiff, reduceIte, List.getD_cons_zero, List.getD_cons_succ, List.getD_nil]); first | done | with_reducible rfl)) (by first | exact True.intro | exact ⟨_, rfl, by ((try simp only [ev_tmp, ev_const, ev_func, get_put, get_args, get_putL, get_putL_nil, Nat.reduceEqDiff, reduceIte, List.getD_cons_zero, List.getD_cons_succ, List.getD_nil, Bool.not_true, Bool.not_false]); first | done | with_reducible rfl)⟩) fun w2 b' he2 hb2 hs2 hbk' => ?_
  obtain ⟨e0, e1, e2, e3, e4, e5, e6⟩ := hbk'.cells7
  have hE2 := he1.trans he2
  have no : ∀ {w' : World}, ¬ (p = p' ∧ q = q' ∧ xss = yss) → Ext w w' → ∃ b, Value.bool false = .bool b ∧ (b = true ↔ p = p' ∧ q = q' ∧ xss = yss) ∧ Ext w w' := fun h he => ⟨_, rfl, by simpa using fun a b => fun c => h ⟨a, b, c⟩, he⟩
  refine go ?_
  refine rc (eqPresentation_ok (p := p) (q := p') hsp) (next := fun v3 w3 h4 => ?_)
  obtain ⟨b3, rfl, hb3, he3⟩ := h4
  refine go ?_
  refine c_b (fun h5 => ?_) (fun h5 => ?_)
  · refine go ?_
    refine ret1 (no (fun e => ?_) (hE2.trans he3))
    rw [hb3.2 e.1] at h5; cases h5
  have f1 := hb3.1 (by simpa using h5)
  refine go ?_
  refine rc (eqPresentation_ok (p := q) (q := q') hsq) (next := fun v4 w4 h6 => ?_)
  obtain ⟨b4, rfl, hb4, he4⟩ := h6
  refine go ?_
  refine c_b (fun h7 => ?_) (fun h7 => ?_)
  · refine go ?_
    refine ret1 (no (fun e => ?_) ((hE2.trans he3).trans he4))
    rw [hb4.2 e.2.1] at h7; cases h7
  have f2 := hb4.1 (by simpa using h7)
  refine go ?_
  refine rc (eqInt64SS_ok (xss := xss) (yss := yss) hr (by omega)) (next := fun v5 w5 h8 => ?_)
  obtain ⟨b5, rfl, hb5, he5⟩ := h8
  refine go ?_
  refine c_b (fun h9 => ?_) (fun h9 => ?_)
  · refine go ?_
    refine ret1 (no (fun e => ?_) (((hE2.trans he3).trans he4).trans he5))
    rw [hb5.2 e.2.2] at h9; cases h9
  have f3 := hb5.1 (by simpa using h9)
  refine go ?_
  exact ret1 ⟨_, rfl, ⟨fun _ => ⟨f1, f2, f3⟩, fun _ => rfl⟩, ((hE2.trans he3).trans he4).trans he5⟩
end Go.Proofs.YtnphljflkpekmaaGreat

/-
  The upper central series and the lower exponent series.
  Conditions: the tails at all levels are groups.
-/
namespace Go.Proofs.YtnphljflkpekmaaGreat
open Go Go.Pc
section
variable {p : Pr} [hc : ConAll p]
noncomputable def expL (q : Int) (ys : List (El p)) : List (El p) := lowF ys ++ ys.map fun y => Grp.pwz y q
noncomputable def expF (q : Int) (ys : List (El p)) : List (El p) := canEls (Gen (fun a : El p => a ∈ expL q ys))
end
noncomputable def ExpC (p : Pr) (q : Int) (c : ConAll p) : (List (El p) → List (El p)) × List (El p) := (expF q, gensL p)
/-- What a series for a prime is, with its code. -/
def ExV (p : Pr) (q : Int) (r : List (List (List Int))) (e : Int) : Prop := (¬ (q = 2 ∨ q = 3 ∨ q = 5 ∨ q = 7) ∧ r = [] ∧ e = 2) ∨ ((q = 2 ∨ q = 3 ∨ q = 5 ∨ q = 7) ∧ SrV p (ExpC p q) r e)
theorem ExV.uniq {p : Pr} {q : Int} (a b : List (List (List Int))) (c d : Int) (h : ExV p q a c) (g : ExV p q b d) : a = b ∧ c = d := by
  rcases h with ⟨h1, rfl, rfl⟩ | ⟨h1, h2⟩ <;> rcases g with ⟨g1, rfl, rfl⟩ | ⟨g1, g2⟩
  · exact ⟨rfl, rfl⟩
  · exact absurd g1 h1
  · exact absurd h1 g1
  · exact h2.uniq _ _ _ _ g2
end Go.Proofs.YtnphljflkpekmaaGreat

/-
  Walks: the check of marks on lists of lists of lists (heldInt64SSS); sizes of series.
  Conditions: stated at each theorem.
-/
namespace Go.Proofs.YtnphljflkpekmaaGreat
open Go Go.Pc
def markC (k : Int) : List (List (List Int)) → List (List (List Int))
  | [] => []
  | x :: l => markL k x :: markC (k + tot x) l
def mkC (k : Int) : List (Value × List (Value × List Int)) → List (Value × List (Value × List Int))
  | [] => []
  | q :: l => (q.1, mkR k q.2) :: mkC (k + tot (q.2.map (·.2))) l
theorem mkC_fst : ∀ (gs : List (Value × List (Value × List Int))) (k : Int), (mkC k gs).map (·.1) = gs.map (·.1)
  | [], _ => rfl
  | q :: l, k => by simp [mkC, mkC_fst l]
theorem mkC_mid : ∀ (gs : List (Value × List (Value × List Int))) (k : Int), ((mkC k gs).map fun q => q.2.map (·.1)) = gs.map fun q => q.2.map (·.1)
  | [], _ => rfl
  | q :: l, k => by
    show (mkR k q.2).map (·.1) :: ((mkC (k + tot (q.2.map (·.2))) l).map fun q => q.2.map (·.1)) = _
    rw [mkR_fst, mkC_mid l]; rfl
theorem mkC_snd : ∀ (gs : List (Value × List (Value × List Int))) (k : Int), ((mkC k gs).map fun q => q.2.map (·.2)) = markC k (gs.map fun q => q.2.map (·.2))
  | [], _ => rfl
  | q :: l, k => by
    show (mkR k q.2).map (·.2) :: ((mkC (k + tot (q.2.map (·.2))) l).map fun q => q.2.map (·.2)) = _
    rw [mkR_snd, mkC_snd l]; rfl
theorem flat_cons (q : Value × List (Value × List Int)) (l : List (Value × List (Value × List Int))) : flat (q :: l) = q.2 ++ flat l := by simp [flat]
theorem flat_mkC : ∀ (gs : List (Value × List (Value × List Int))) (k : Int), flat (mkC k gs) = mkR k (flat gs)
  | [], _ => rfl
  | q :: l, k => by
    rw [flat_cons, mkR_append, ← flat_mkC l]
    show flat ((q.1, mkR k q.2) :: mkC (k + tot (q.2.map (·.2))) l) = _
    rw [flat_cons]
theorem markC_len : ∀ (l : List (List (List Int))) (k : Int), (markC k l).length = l.length
  | [], _ => rfl
  | x :: l, k => by simp [markC, markC_len l]
theorem markC_getD : ∀ (l : List (List (List Int))) (k : Int) (i : Nat), i < l.length → (markC k l).getD i [] = markL (k + tot (l.take i).flatten) (l.getD i [])
  | [], _, _, h => by simp at h
  | x :: l, k, 0, _ => by simp [markC, tot]
  | x :: l, k, i + 1, h => by
    have := markC_getD l (k + tot x) i (by simpa using h)
    simp only [markC, List.getD_cons_succ, this, List.take_succ_cons, List.flatten_cons, tot_append]
    rw [Int.add_assoc]; simp
theorem tot_takeF_le (l : List (List (List Int))) (k : Nat) : tot (l.take k).flatten ≤ tot l.flatten := by
  have e : l.flatten = (l.take k).flatten ++ (l.drop k).flatten := by rw [← List.flatten_append, List.take_append_drop]
  rw [e, tot_append]; omega
theorem tot_takeF_succ (l : List (List (List Int))) {k : Nat} (hk : k < l.length) : tot (l.take (k + 1)).flatten = tot (l.take k).flatten + tot (l.getD k []) := by
  rw [List.take_succ_eq_append_getElem hk, List.flatten_append, tot_append]
  simp [hk]
theorem mkC_mem {gs : List (Value × List (Value × List Int))} {k : Int} {q : Value × List (Value × List Int)} (hq : q ∈ mkC k gs) : ∃ q', q' ∈ gs ∧ q.1 = q'.1 ∧ q.2.map (·.1) = q'.2.map (·.1) := by
  induction gs generalizing k with
  | nil => cases hq
  | cons g l ih =>
    rcases List.mem_cons.1 hq with rfl | hq
    · exact ⟨g, List.mem_cons_self, rfl, mkR_fst _ _⟩
    · obtain ⟨q', h1, h2⟩ := ih hq
      exact ⟨q', List.mem_cons_of_mem _ h1, h2⟩
theorem RowsO.ofFlat {s : Nat} {w : World} {gs : List (Value × List (Value × List Int))} (h : RowsO s w (flat gs)) {q : Value × List (Value × List Int)} (hq : q ∈ gs) : RowsO s w q.2 := by
  have hs : List.Sublist q.2 (flat gs) := List.sublist_flatten_of_mem (List.mem_map.2 ⟨q, hq, rfl⟩)
  exact ⟨fun r hr => h.fr r (hs.subset hr), h.sep.sublist hs⟩
set_option maxHeartbeats 1000000 in
theorem heldInt64SSS_ok {w : World} {v : Value} {k : Int} {lo hi : Nat} {us : List Value} {uss : List (List Value)} {xsss ysss : List (List (List Int))} [hx : Rowss lo hi w v us uss xsss] (hxs : xsss = markC k ysss) (hk : 0 ≤ k) (hb : k + tot ysss.flatten ≤ 9000000000000000000) :
    Calls Tryz.prog 87 #[v, .int .i64 k] w (Ret fun v' w' => v' = .int .i64 (k + tot ysss.flatten) ∧ Ext w w') := by
  have hl : xsss.length = ysss.length := by rw [hxs, markC_len]
  have hul := hx.vals.len
  have hm := sl_len hx.sl
  have hg : ∀ i, i < ysss.length → xsss.getD i [] = markL (k + tot (ysss.take i).flatten) (ysss.getD i []) := fun i hi => by rw [hxs, markC_getD _ _ _ hi]
  refine enter (args := [v, .int .i64 k]) (l := [.tmp 4]) Tryz.func87 rfl rfl Tryz.ntmps87 (by simp) ?_
  refine go ?_
  refine r_for ysss.length (fun i ρ w' => Has ρ [(0, v), (1, .int .i64 (k + tot (ysss.take i).flatten)), (5, .int .i64 i)] ∧ Ext w w') ?_ ?_
  · refine ⟨?_, Ext.refl _⟩
    simp only [List.take_zero, List.flatten_nil, tot]
    exact hasP
  rintro i ρ w2 hi ⟨hH, he2⟩
  refine rwp_has hH fun ρ0 => ?_
  have ht := tot_takeF_le ysss i
  refine go ?_
  refine c_if (fun h4 => ?_) (fun h4 => ?_)
  · have hin : i < ysss.length := by omega
    have hts := tot_takeF_succ ysss hin
    have ht2 := tot_takeF_le ysss (i + 1)
    refine go ?_
    refine rc (heldInt64SS_ok (xss := xsss.getD i []) (yss := ysss.getD i []) (hg i hin) ?_ ?_) (next := fun v3 w3 h3 => ?_)
    · omega
    · omega
    obtain ⟨rfl, he3⟩ := h3
    refine go ?_
    refine c_if (fun h5 => ?_) (fun h5 => ?_)
    · omega
    · refine go ?_
      refine forQ_normal (by omega) ⟨?_, he2.trans he3⟩
      exact hasP
  · refine go ?_
    obtain rfl : i = ysss.length := by omega
    refine ret1 ⟨?_, he2⟩
    rw [List.take_length]
end Go.Proofs.YtnphljflkpekmaaGreat

/-
  Walks: marks on a presentation that is a result, and the test that they are held (markPresentation, heldPresentation).
  Conditions: stated at each theorem.
-/
namespace Go.Pc
open Go Go.RowKit
section
variable {lo hi s t : Nat} {w w' : World} {v : Value} {us us' : List Value} {uss : List (List Value)} {xs xs' : List Int} {xss xss' : List (List Int)} {xsss xsss' : List (List (List Int))}
/-- Where a slice's cells lie is told by the slice. -/
theorem Sl.range (h : Sl s t w v us) (k : Sl lo hi w' v us') (hl : us.length = us'.length) : Sl s t w' v us' := by
  obtain ⟨A, c, hv, hc, hm, hcell⟩ := h.ex
  obtain ⟨A', c', hv', hc', hm', hcell'⟩ := k.ex
  refine ⟨⟨A', c', hv', hc', hm', fun i u hu => ?_⟩⟩
  obtain ⟨a, hA', _, _, e3⟩ := hcell' i u hu
  have hi : i < us.length := by rw [hl]; exact (List.getElem?_eq_some_iff.1 hu).1
  obtain ⟨a2, hA, e1, e2, _⟩ := hcell i us[i] (by simp [hi])
  rw [hv] at hv'
  injection hv' with h1 _ _
  rw [hA, hA'] at h1
  injection h1 with h1
  subst h1
  exact ⟨a2, hA', e1, e2, e3⟩
theorem Ints.range (h : Ints s t w v xs) (k : Ints lo hi w' v xs') (hl : xs.length = xs'.length) : Ints s t w' v xs' := ⟨h.sl.range k.sl (by simpa using hl)⟩
theorem Rows.range (h : Rows s t w v us xss) (k : Rows lo hi w' v us xss') (hl : ∀ i, (xss.getD i []).length = (xss'.getD i []).length) : Rows s t w' v us xss' :=
  ⟨h.sl.range k.sl rfl, k.vals.len, fun i => (h.vals.at_ i).range (k.vals.at_ i) (hl i)⟩
theorem Rowss.range (h : Rowss s t w v us uss xsss) (k : Rowss lo hi w' v us uss xsss') (hl : ∀ i j, ((xsss.getD i []).getD j []).length = ((xsss'.getD i []).getD j []).length) : Rowss s t w' v us uss xsss' :=
  ⟨h.sl.range k.sl rfl, k.vals.len, k.vals.len', fun i => (h.vals.at_ i).range (k.vals.at_ i) (hl i)⟩
end
end Go.Pc
namespace Go.Proofs.YtnphljflkpekmaaGreat
open Go Go.Pc
theorem markL_lens (l : List (List Int)) (k : Int) (i : Nat) : (l.getD i []).length = ((markL k l).getD i []).length := by
  by_cases h : i < l.length
  · rw [markL_getD l k i h, marks_len]
  · rw [List.getD_eq_getElem?_getD, List.getElem?_eq_none (by omega), List.getD_eq_getElem?_getD, List.getElem?_eq_none (by rw [markL_len]; omega)]
theorem markC_lens (l : List (List (List Int))) (k : Int) (i j : Nat) : ((l.getD i []).getD j []).length = (((markC k l).getD i []).getD j []).length := by
  by_cases h : i < l.length
  · rw [markC_getD l k i h]; exact markL_lens _ _ _
  · have e1 : l.getD i [] = [] := by rw [List.getD_eq_getElem?_getD, List.getElem?_eq_none (by omega)]; rfl
    have e2 : (markC k l).getD i [] = [] := by rw [List.getD_eq_getElem?_getD, List.getElem?_eq_none (by rw [markC_len]; omega)]; rfl
    rw [e1, e2]
/-- A presentation after its marks. -/
def markP (k : Int) (p : Pr) : Pr := ⟨marks k p.ord.length, markL (k + p.ord.length) p.pow, markC (k + p.ord.length + tot p.pow) p.cnj⟩
set_option maxHeartbeats 1000000 in
theorem markPresentationR_ok {s t : Nat} {w : World} {v : Value} {p : Pr} {k : Int} (hP : PresO s t w v p) (hk : 0 ≤ k) (hb : k + totP p ≤ 9000000000000000000) :
    Calls Tryz.prog 22 #[v, .int .i64 k] w (Ret fun v' w' => v' = .int .i64 (k + totP p) ∧ Wrt (fun b => s ≤ b ∧ b < t) w w' ∧ Pres s t w' v (markP k p)) := by
  obtain ⟨vo, vp, vc, rp, gs, rfl, hO, hlt, hsp, hcub, hpow, hcnj, hr1, hr2, hr3⟩ := hP.ex
  have hA : ∀ b, BlkOf ((vo, p.ord) :: (rp ++ flat gs)) b → s ≤ b ∧ b < t := fun b hb => ⟨(hO.blk hb).1, hlt b hb⟩
  have e1 : totP p = p.ord.length + (tot (rp.map (·.2)) + tot ((flat gs).map (·.2))) := by rw [flat_tot, ← hpow, ← hcnj]; rfl
  refine enter (args := [.agg #[vo, vp, vc], .int .i64 k]) (l := [.tmp 4]) Tryz.func22 rfl rfl Tryz.ntmps22 (by simp) ?_
  refine go ?_
  refine st_box3 (by ((try simp only [ev_tmp, ev_const, ev_func, get_put, get_args, get_putL, get_putL_nil, Nat.reduceEqDiff, reduceIte, List.getD_cons_zero, List.getD_cons_succ, List.getD_nil]); first | done | with_reducible rfl)) (by first | exact True.intro | exact ⟨_, rfl, by ((try simp only [ev_tmp, ev_const, ev_func, get_put, get_args, get_putL, get_putL_nil, Nat.reduceEqDiff, reduceIte, List.getD_cons_zero, List.getD_cons_succ, List.getD_nil, Bool.not_true, Bool.not_false]); first | done | with_reducible rfl)⟩) fun w1 b he1 hb1 hs1 hc0 hc1 hc2 => ?_
  have hO1 := hO.ext he1
  have hB1 : ∀ g, BlkOf ((vo, p.ord) :: (rp ++ flat gs)) g → g ≠ b := fun g hg e => by have := (hO.blk hg).2; omega
  have hcell : ∀ {w2 : World} {j : Nat} {u : Value}, Cell w1 b j u → Wrt (BlkOf ((vo, p.ord) :: (rp ++ flat gs))) w1 w2 → Cell w2 b j u := fun h k => h.same (k.same fun g hg => by have := hB1 g hg; omega) k.size
  have hfr : Fr s w1 vo p.ord := hO1.fr _ List.mem_cons_self
  refine go ?_
  refine rc (markInt64S_ok hfr hk ?_) (next := fun v2 w2 h2 => ?_)
  · omega
  obtain ⟨rfl, hf2, hW2⟩ := h2
  have hW2' : Wrt (BlkOf ((vo, p.ord) :: (rp ++ flat gs))) w1 w2 := hW2.mono fun g ⟨hn, e⟩ => ⟨_, List.mem_cons_self, hn, e⟩
  have hO2 : RowsO s w2 ([] ++ (vo, marks k p.ord.length) :: (rp ++ flat gs)) := RowsO.upd (pre := []) (by simpa using hO1) hW2 hf2 marks_ne.1
  have hc0' := hcell hc0 hW2'
  have hc1' := hcell hc1 hW2'
  have hc2' := hcell hc2 hW2'
  have hO2' : RowsO s w2 (([(vo, marks k p.ord.length)]) ++ rp ++ flat gs) := by simpa using hO2
  have hsp2 := (SpA.grow hsp he1 (fun g hg => .inl hg)).wr hW2' (fun g hg => hg)
  refine go ?_
  refine rc (markInt64SS_ok hO2' hsp2 (fun g hg => ?_) ?_ ?_) (next := fun v3 w3 h3 => ?_)
  · obtain ⟨r, h1, h2⟩ := hg
    exact ⟨r, List.mem_cons_of_mem _ (List.mem_append_left _ h1), h2⟩
  · omega
  · omega
  obtain ⟨rfl, hO3, hW3⟩ := h3
  have hW3' : Wrt (BlkOf ((vo, p.ord) :: (rp ++ flat gs))) w2 w3 := hW3.mono fun g ⟨r, h1, h2⟩ => ⟨r, List.mem_cons_of_mem _ (List.mem_append_left _ h1), h2⟩
  have hc2'' := hcell hc2 (hW2'.trans hW3')
  have hO3' : RowsO s w3 (([(vo, marks k p.ord.length)] ++ mkR (k + p.ord.length) rp) ++ flat gs ++ []) := by simpa using hO3
  have hcub3 : CubO (BlkOf ((vo, p.ord) :: (rp ++ flat gs))) w3 vc gs := CubO.wr ⟨(SpA.grow hcub.sp0 he1 (fun g hg => .inl hg)).wr hW2' (fun g hg => hg), fun q hq => (SpA.grow (hcub.sp q hq) he1 (fun g hg => .inl hg)).wr hW2' (fun g hg => hg)⟩ hW3' (fun g hg => hg)
  clear hc0' hc1' hc2'
  refine go ?_
  refine rc (markInt64SSS_ok hO3' hcub3 (fun g hg => ?_) ?_ ?_) (next := fun v4 w4 h4 => ?_)
  · obtain ⟨r, h1, h2⟩ := hg
    exact ⟨r, List.mem_cons_of_mem _ (List.mem_append_right _ h1), h2⟩
  · omega
  · omega
  obtain ⟨rfl, hO4, hW4⟩ := h4
  refine go ?_
  have hW4' : Wrt (BlkOf ((vo, p.ord) :: (rp ++ flat gs))) w3 w4 := hW4.mono fun g ⟨r, h1, h2⟩ => ⟨r, List.mem_cons_of_mem _ (List.mem_append_right _ h1), h2⟩
  have hfo4 : Ints 0 w4.heap.size w4 vo (marks k p.ord.length) := ((hO4.fr (vo, marks k p.ord.length) (by simp)).ints).wide
  have hsp4 := (hsp2.wr (hW3'.trans hW4') (fun g hg => hg)).sl
  have hcub4 := hcub3.wr hW4' (fun g hg => hg)
  have hOp : RowsO s w4 (mkR (k + p.ord.length) rp) := RowsO.right (rs := [(vo, marks k p.ord.length)]) (RowsO.left (RowsO.left hO4))
  have hOc : RowsO s w4 (mkR (k + p.ord.length + tot (rp.map (·.2))) (flat gs)) := RowsO.right (RowsO.left hO4)
  have hRp := hOp.rows (v := vp) (by rw [mkR_fst]; exact hsp4)
  rw [mkR_fst, mkR_snd, ← hpow] at hRp
  have hRc : Rowss 0 w4.heap.size w4 vc (gs.map (·.1)) (gs.map fun q => q.2.map (·.1)) (markC (k + p.ord.length + tot (rp.map (·.2))) (gs.map fun q => q.2.map (·.2))) := by
    rw [← flat_mkC] at hOc
    rw [← mkC_fst gs (k + p.ord.length + tot (rp.map (·.2))), ← mkC_mid gs (k + p.ord.length + tot (rp.map (·.2))), ← mkC_snd gs (k + p.ord.length + tot (rp.map (·.2)))]
    refine rowss_of_cub (A := fun _ => True) (s := 0) ?_ (Nat.zero_le _) fun q hq => ?_
    · rw [mkC_fst]; exact hcub4.sp0.sl
    · obtain ⟨q', h1, h2, h3⟩ := mkC_mem hq
      refine (RowsO.ofFlat hOc hq).rows (v := q.1) ?_
      rw [h2, h3]
      exact (hcub4.sp _ h1).sl
  rw [← hpow] at hr2
  rw [← hcnj] at hr3
  rw [← hcnj, ← hpow] at hRc
  refine ret1 ⟨?_, ?_, ⟨⟨vo, vp, vc, _, _, _, rfl, hr1.range hfo4 (marks_len _ _).symm, hr2.range hRp (markL_lens _ _), hr3.range hRc (markC_lens _ _)⟩⟩⟩
  · rw [e1]
    exact int_congr (by omega)
  · refine (Wrt.ofExt he1).trans ((hW2'.mono hA).trans ((hW3'.mono hA).trans (hW4.mono fun g hg => hA g ?_)))
    obtain ⟨r, h1, h2⟩ := hg
    exact ⟨r, List.mem_cons_of_mem _ (List.mem_append_right _ h1), h2⟩
set_option maxHeartbeats 1000000 in
theorem heldPresentation_ok {w : World} {v : Value} {k : Int} {lo hi : Nat} {p q : Pr} [hp : Pres lo hi w v q] (hq : q = markP k p) (hk : 0 ≤ k) (hb : k + totP p ≤ 9000000000000000000) :
    Calls Tryz.prog 45 #[v, .int .i64 k] w (Ret fun v' w' => v' = .int .i64 (k + totP p) ∧ Ext w w') := by
  subst hq
  obtain ⟨vo, vpw, vc, ps, cs, css, rfl, h1, h2, h3⟩ := hp.ex
  have e1 : totP p = p.ord.length + (tot p.pow + tot p.cnj.flatten) := rfl
  replace h1 : Ints lo hi w vo (marks k p.ord.length) := h1
  replace h2 : Pc.Rows lo hi w vpw ps (markL (k + p.ord.length) p.pow) := h2
  replace h3 : Rowss lo hi w vc cs css (markC (k + p.ord.length + tot p.pow) p.cnj) := h3
  refine enter (args := [.agg #[vo, vpw, vc], .int .i64 k]) (l := [.tmp 4]) Tryz.func45 rfl rfl Tryz.ntmps45 (by simp) ?_
  refine go ?_
  refine st_box3 (by ((try simp only [ev_tmp, ev_const, ev_func, get_put, get_args, get_putL, get_putL_nil, Nat.reduceEqDiff, reduceIte, List.getD_cons_zero, List.getD_cons_succ, List.getD_nil]); first | done | with_reducible rfl)) (by first | exact True.intro | exact ⟨_, rfl, by ((try simp only [ev_tmp, ev_const, ev_func, get_put, get_args, get_putL, get_putL_nil, Nat.reduceEqDiff, reduceIte, List.getD_cons_zero, List.getD_cons_succ, List.getD_nil, Bool.not_true, Bool.not_false]); first | done | with_reducible rfl)⟩) fun w1 b he1 hb1 hs1 hc0 hc1 hc2 => ?_
  refine go ?_
  refine rc (heldInt64S_ok (k := k) (n := p.ord.length) (xs := marks k p.ord.length) rfl hk (by omega)) (next := fun v2 w2 h4 => ?_)
  obtain ⟨rfl, he2⟩ := h4
  refine go ?_
  refine c_if (fun h => ?_) (fun _ => ?_)
  · omega
  refine go ?_
  refine rc (heldInt64SS_ok (k := k + p.ord.length) (yss := p.pow) (xss := markL (k + p.ord.length) p.pow) rfl (by omega) (by omega)) (next := fun v3 w3 h5 => ?_)
  obtain ⟨rfl, he3⟩ := h5
  refine go ?_
  refine c_if (fun h => ?_) (fun _ => ?_)
  · omega
  refine go ?_
  refine rc (heldInt64SSS_ok (k := k + p.ord.length + tot p.pow) (ysss := p.cnj) (xsss := markC (k + p.ord.length + tot p.pow) p.cnj) rfl (by omega) (by omega)) (next := fun v4 w4 h6 => ?_)
  obtain ⟨rfl, he4⟩ := h6
  refine go ?_
  refine c_if (fun h => ?_) (fun _ => ?_)
  · omega
  refine go ?_
  refine ret1 ⟨?_, ((he1.trans he2).trans he3).trans he4⟩
  rw [e1]
  exact int_congr (by omega)
end Go.Proofs.YtnphljflkpekmaaGreat

/-
  Walks: marks on a homomorphism that is a result, and the test that they are held (markHom, heldHom).
  Conditions: stated at each theorem.
-/
namespace Go.Proofs.YtnphljflkpekmaaGreat
open Go Go.Pc
set_option maxHeartbeats 1000000 in
theorem markHomR_ok {s t : Nat} {w : World} {v : Value} {p q : Pr} {rs : List (Value × List Int)} {k : Int} (hH : HomO s t w v p q rs) (ht : t ≤ w.heap.size) (hk : 0 ≤ k) (hb : k + totP p + totP q + tot (rs.map (·.2)) ≤ 9000000000000000000) :
    Calls Tryz.prog 24 #[v, .int .i64 k] w (Ret fun v' w' => v' = .int .i64 (k + totP p + totP q + tot (rs.map (·.2))) ∧ Wrt (fun b => s ≤ b ∧ b < t) w w' ∧ HomV 0 w'.heap.size w' v (markP k p) (markP (k + totP p) q) (markL (k + totP p + totP q) (rs.map (·.2)))) := by
  obtain ⟨a0, a1, a2, a3, a4, a5, a6, m0, m1, m2, m3, rfl, l0, l1, l2, l3, l4, h1, h2, h3⟩ := hH.ex
  refine enter (args := [.agg #[a0, a1, a2, a3, a4, a5, a6], .int .i64 k]) (l := [.tmp 4]) Tryz.func24 rfl rfl Tryz.ntmps24 (by simp) ?_
  refine go ?_
  refine st_box (vs := [a0, a1, a2, a3, a4, a5, a6]) (by ((try simp only [ev_tmp, ev_const, ev_func, get_put, get_args, get_putL, get_putL_nil, Nat.reduceEqDiff, reduceIte, List.getD_cons_zero, List.getD_cons_succ, List.getD_nil]); first | done | with_reducible rfl)) (by first | exact True.intro | exact ⟨_, rfl, by ((try simp only [ev_tmp, ev_const, ev_func, get_put, get_args, get_putL, get_putL_nil, Nat.reduceEqDiff, reduceIte, List.getD_cons_zero, List.getD_cons_succ, List.getD_nil, Bool.not_true, Bool.not_false]); first | done | with_reducible rfl)⟩) fun w1 b he1 hb1 hs1 hbk => ?_
  have hz1 := he1.size
  have x1 := h1.wr (.ofExt (B := fun b => b < m0 ∨ m1 ≤ b) he1) (fun b hb => hb)
  have x2 := h2.wr (.ofExt (B := fun b => b < m1 ∨ m2 ≤ b) he1) (fun b hb => hb)
  have x3 := h3.wr (.ofExt (B := fun b => b < m2 ∨ m3 ≤ b) he1) (fun b hb => hb)
  obtain ⟨c0, c1, c2, c3, c4, c5, c6⟩ := hbk.cells7
  refine go ?_
  refine rc (markPresentationR_ok (k := k) x1 hk ?_) (next := fun v2 w2 h2' => ?_)
  · omega
  obtain ⟨rfl, hW2, r2⟩ := h2'
  have y2 := x2.wr hW2 (fun b hb => .inl hb.2)
  have y3 := x3.wr hW2 (fun b hb => .inl (by omega))
  have hbk2 := hbk.wr hW2 (by omega)
  have hz2 := hW2.size
  have p2 : Pres m0 m1 w2 (.agg #[a0, a1, a2]) (markP k p) := r2
  clear c0 c1 c2 c3 c4 c5 c6
  obtain ⟨c0, c1, c2, c3, c4, c5, c6⟩ := hbk2.cells7
  refine go ?_
  refine rc (markPresentationR_ok (k := k + totP p) y2 ?_ ?_) (next := fun v3 w3 h3' => ?_)
  · omega
  · omega
  obtain ⟨rfl, hW3, r3⟩ := h3'
  have z3 := y3.wr hW3 (fun b hb => .inl hb.2)
  have hbk3 := hbk2.wr hW3 (by omega)
  have q3 : Pres m1 m2 w3 (.agg #[a3, a4, a5]) (markP (k + totP p) q) := r3
  have p3 : Pres m0 m1 w3 (.agg #[a0, a1, a2]) (markP k p) := p2.same (hW3.same fun b hb => by omega)
  clear c0 c1 c2 c3 c4 c5 c6
  obtain ⟨c0, c1, c2, c3, c4, c5, c6⟩ := hbk3.cells7
  refine go ?_
  refine rc (markInt64SS_ok (k := k + totP p + totP q) (pre := []) (post := []) (by simpa using z3.own) z3.sp (fun b hb => .inl hb) ?_ ?_) (next := fun v4 w4 h4' => ?_)
  · omega
  · omega
  obtain ⟨rfl, hO4, hV4⟩ := h4'
  have hW4 : Wrt (fun b => m2 ≤ b ∧ b < m3) w3 w4 := hV4.mono fun b hb => ⟨(z3.own.blk hb).1, z3.lt b hb⟩
  have hK4 : Pc.Rows 0 w4.heap.size w4 a6 (rs.map (·.1)) (markL (k + totP p + totP q) (rs.map (·.2))) := by
    have hO : RowsO m2 w4 (mkR (k + totP p + totP q) rs) := by simpa using hO4
    have h := hO.rows (v := a6) (by rw [mkR_fst]; exact (z3.sp.wr hV4 (fun b hb => .inl hb)).sl)
    rw [mkR_fst, mkR_snd] at h
    exact h
  refine go ?_
  refine ret1 ⟨rfl, ?_, ⟨a0, a1, a2, a3, a4, a5, a6, _, rfl, (p3.same (hW4.same fun b hb => by omega)).wide, (q3.same (hW4.same fun b hb => by omega)).wide, hK4⟩⟩
  exact (Wrt.ofExt he1).trans ((hW2.mono fun b hb => ⟨by omega, by omega⟩).trans ((hW3.mono fun b hb => ⟨by omega, by omega⟩).trans (hW4.mono fun b hb => ⟨by omega, by omega⟩)))
set_option maxHeartbeats 1000000 in
theorem heldHom_ok {w : World} {v : Value} {k : Int} {lo hi : Nat} {p q : Pr} {xss : List (List Int)} {p' q' : Pr} {yss : List (List Int)} [hp : HomV lo hi w v p' q' yss] (h1 : p' = markP k p) (h2 : q' = markP (k + totP p) q) (h3 : yss = markL (k + totP p + totP q) xss) (hk : 0 ≤ k) (hb : k + totP p + totP q + tot xss ≤ 9000000000000000000) :
    Calls Tryz.prog 25 #[v, .int .i64 k] w (Ret fun v' w' => v' = .int .i64 (k + totP p + totP q + tot xss) ∧ Ext w w') := by
  subst h1 h2 h3
  obtain ⟨a0, a1, a2, a3, a4, a5, a6, us, rfl, hp, hq, hx⟩ := hp.ex
  refine enter (args := [.agg #[a0, a1, a2, a3, a4, a5, a6], .int .i64 k]) (l := [.tmp 4]) Tryz.func25 rfl rfl Tryz.ntmps25 (by simp) ?_
  refine go ?_
  refine st_box (vs := [a0, a1, a2, a3, a4, a5, a6]) (by ((try simp only [ev_tmp, ev_const, ev_func, get_put, get_args, get_putL, get_putL_nil, Nat.reduceEqDiff, reduceIte, List.getD_cons_zero, List.getD_cons_succ, List.getD_nil]); first | done | with_reducible rfl)) (by first | exact True.intro | exact ⟨_, rfl, by ((try simp only [ev_tmp, ev_const, ev_func, get_put, get_args, get_putL, get_putL_nil, Nat.reduceEqDiff, reduceIte, List.getD_cons_zero, List.getD_cons_succ, List.getD_nil, Bool.not_true, Bool.not_false]); first | done | with_reducible rfl)⟩) fun w1 b he1 hb1 hs1 hbk => ?_
  obtain ⟨c0, c1, c2, c3, c4, c5, c6⟩ := hbk.cells7
  refine go ?_
  refine rc (heldPresentation_ok (k := k) (p := p) (q := markP k p) rfl hk (by omega)) (next := fun v2 w2 h4 => ?_)
  obtain ⟨rfl, he2⟩ := h4
  refine go ?_
  refine c_if (fun h => ?_) (fun _ => ?_)
  · omega
  refine go ?_
  refine rc (heldPresentation_ok (k := k + totP p) (p := q) (q := markP (k + totP p) q) rfl (by omega) (by omega)) (next := fun v3 w3 h5 => ?_)
  obtain ⟨rfl, he3⟩ := h5
  refine go ?_
  refine c_if (fun h => ?_) (fun _ => ?_)
  · omega
  refine go ?_
  refine rc (heldInt64SS_ok (k := k + totP p + totP q) (yss := xss) (xss := markL (k + totP p + totP q) xss) rfl (by omega) (by omega)) (next := fun v4 w4 h6 => ?_)
  obtain ⟨rfl, he4⟩ := h6
  refine go ?_
  refine c_if (fun h => ?_) (fun _ => ?_)
  · omega
  refine go ?_
  exact ret1 ⟨rfl, ((he1.trans he2).trans he3).trans he4⟩
end Go.Proofs.YtnphljflkpekmaaGreat
