/-
  Walk: the statement FnProductsCollected: it returns true.
  Conditions: the code is a list of bytes.
-/
import Derived.Test.YtflniifngfiekaaB7
set_option linter.unusedVariables false
set_option linter.unusedSimpArgs false
set_option linter.unusedSectionVars false
set_option linter.constructorNameAsVariable false
set_option linter.unnecessarySimpa false
set_option linter.deprecated false
/-
  Walk: the statement FnProductsCollected: it returns true.
  Conditions: the code is a list of bytes.
-/
namespace Go.Proofs.Ytflniifngfiekaa
open Go Go.Pc
theorem ColO.len {p : Pr} {f : Nat} {w v : List Int} {e : Int} (h : ColO p f w v e) : v.length ≤ p.n := by
  induction h with
  | done h => rw [vecW_len]; exact Nat.le_refl _
  | out h => exact Nat.zero_le _
  | big h hb => exact Nat.zero_le _
  | next h hb k ih => exact ih
set_option maxHeartbeats 16000000 in
theorem lwProductsCollected_ok {w : World} {vc : Value} {cs : List Int} {lo hi : Nat} (hs : Sl lo hi w vc (cs.map (Value.int .u8))) (hc : ∀ c, c ∈ cs → 0 ≤ c ∧ c < 256) :
    Calls Try.prog 3 #[vc] w (Ret fun v w' => v = .bool true ∧ Ext w w') := by
  refine enter (args := [vc]) (l := [.tmp 2]) Try.func3 rfl rfl Try.ntmps3 (by simp) ?_
  refine go ?_
  refine rc (big_ok hs) (next := fun v1 w1 h1 => ?_)
  obtain ⟨rfl, he1⟩ := h1
  refine go ?_
  refine c_if (fun q1 => ?_) (fun q1 => ?_)
  · refine go ?_
    exact ret1 ⟨rfl, he1⟩
  have hcod : Cod lo hi w1 vc cs := ⟨hs.same (he1.same _ _), hc, by rw [List.length_map] at q1; omega⟩
  refine go ?_
  refine rc (DrawCollectProduct_ok hcod) (next := fun v2 w2 h2 => ?_)
  obtain ⟨vp, vx, vy, xs, ys, kk, rfl, ⟨p, he2, hP2, hp2⟩, hfx, hfy, hlx, hly⟩ := h2
  obtain ⟨vo, vpw, vcc, ps, css, csss, rfl, k1, k2, k3⟩ := hP2.ex
  have o3 := hP2.one3
  have hz2 := he2.size
  have hol := hp2.ord
  refine go ?_
  refine st_alloc (by first | exact True.intro | exact ⟨_, rfl, by ((try simp only [ev_tmp, ev_const, ev_func, get_put, get_args, get_putL, get_putL_nil, Nat.reduceEqDiff, reduceIte, List.getD_cons_zero, List.getD_cons_succ, List.getD_nil, Bool.not_true, Bool.not_false]); first | done | with_reducible rfl)⟩) fun w3 bp he3 hbp hs3 hbk3 => ?_
  refine st_store_agg (vs := [vo, vpw, vcc]) (cs := _) (hb := hbk3) (by ((try simp only [ev_tmp, ev_const, ev_func, get_put, get_args, get_putL, get_putL_nil, Nat.reduceEqDiff, reduceIte, List.getD_cons_zero, List.getD_cons_succ, List.getD_nil]); first | done | with_reducible rfl)) (by ((try simp only [ev_tmp, ev_const, ev_func, get_put, get_args, get_putL, get_putL_nil, Nat.reduceEqDiff, reduceIte, List.getD_cons_zero, List.getD_cons_succ, List.getD_nil]); first | done | with_reducible rfl)) rfl rfl (by simp [o3.1, o3.2.1, o3.2.2]) (by first | exact True.intro | exact ⟨_, rfl, by ((try simp only [ev_tmp, ev_const, ev_func, get_put, get_args, get_putL, get_putL_nil, Nat.reduceEqDiff, reduceIte, List.getD_cons_zero, List.getD_cons_succ, List.getD_nil, Bool.not_true, Bool.not_false]); first | done | with_reducible rfl)⟩) fun w4 hc4 hs4 hB4 => ?_
  have hx4 : Ext w2 w4 := hc4.ext he3 (by omega)
  have hE4 : Ext w w4 := (he1.trans he2).trans hx4
  have hP4 : Pres w1.heap.size w2.heap.size w4 (.agg #[vo, vpw, vcc]) p := hP2.same (hx4.same _ _)
  have hX4 : Ints w1.heap.size w2.heap.size w4 vx xs := hfx.ints.same (hx4.same _ _)
  have hY4 : Ints w1.heap.size w2.heap.size w4 vy ys := hfy.ints.same (hx4.same _ _)
  have hz4 := hx4.size
  clear hP2 hbk3 k1 k2 k3
  refine go ?_
  refine ra (v := .agg #[vo, vpw, vcc]) (h := rd_load_blk (hb := hB4) (by ((try simp only [ev_tmp, ev_const, ev_func, get_put, get_args, get_putL, get_putL_nil, Nat.reduceEqDiff, reduceIte, List.getD_cons_zero, List.getD_cons_succ, List.getD_nil]); first | done | with_reducible rfl)) rfl) (next := ?_)
  refine go ?_
  refine rc (impl_CollectProduct_ok (p := p) (xs := xs) (ys := ys) (by omega)) (next := fun v5 w5 h5 => ?_)
  obtain ⟨u, r, e, rfl, hA5, he5, hf5⟩ := h5
  have hP5 : Pres w1.heap.size w2.heap.size w5 (.agg #[vo, vpw, vcc]) p := hP4.same (he5.same _ _)
  have hX5 : Ints w1.heap.size w2.heap.size w5 vx xs := hX4.same (he5.same _ _)
  have hY5 : Ints w1.heap.size w2.heap.size w5 vy ys := hY4.same (he5.same _ _)
  have hB5 : Blk w5 bp [vo, vpw, vcc] := @Blk.ext _ _ _ _ he5 hB4
  have hU5 : Ints w4.heap.size w5.heap.size w5 u r := hf5.ints
  have hE5 := hE4.trans he5
  clear hP4 hX4 hY4 hB4
  refine go ?_
  refine ra (v := .agg #[vo, vpw, vcc]) (h := rd_load_blk (hb := hB5) (by ((try simp only [ev_tmp, ev_const, ev_func, get_put, get_args, get_putL, get_putL_nil, Nat.reduceEqDiff, reduceIte, List.getD_cons_zero, List.getD_cons_succ, List.getD_nil]); first | done | with_reducible rfl)) rfl) (next := ?_)
  refine go ?_
  refine rc (spec_CollectProduct_ok (p := p) (xs := xs) (ys := ys) (by omega)) (next := fun v6 w6 h6 => ?_)
  obtain ⟨u6, r6, e6, rfl, hA6, he6, hf6⟩ := h6
  obtain ⟨rfl, rfl⟩ := hA5.same hA6 (fun _ => ColV.uniq)
  have hP6 : Pres w1.heap.size w2.heap.size w6 (.agg #[vo, vpw, vcc]) p := hP5.same (he6.same _ _)
  have hX6 : Ints w1.heap.size w2.heap.size w6 vx xs := hX5.same (he6.same _ _)
  have hY6 : Ints w1.heap.size w2.heap.size w6 vy ys := hY5.same (he6.same _ _)
  have hB6 : Blk w6 bp [vo, vpw, vcc] := @Blk.ext _ _ _ _ he6 hB5
  have hU6 : Ints w4.heap.size w5.heap.size w6 u r := hU5.same (he6.same _ _)
  have hE6 := hE5.trans he6
  clear hP5 hX5 hY5 hB5 hU5
  have hD6 := hf6.ints
  have hrl : r.length ≤ 2000000 := by
    rcases hA5 with ⟨⟨hv, _⟩, hC⟩ | ⟨_, rfl, _⟩
    · have := ColO.len hC
      have := hv.n6
      omega
    · simp
  refine go ?_
  refine spd (fun h => absurd rfl h) (fun _ => ?_)
  refine go ?_
  refine rc (likeInts_ok (xs := r) hrl) (next := fun v7 w7 h7 => ?_)
  obtain ⟨rfl, he7⟩ := h7
  have hP7 : Pres w1.heap.size w2.heap.size w7 (.agg #[vo, vpw, vcc]) p := hP6.same (he7.same _ _)
  have hX7 : Ints w1.heap.size w2.heap.size w7 vx xs := hX6.same (he7.same _ _)
  have hY7 : Ints w1.heap.size w2.heap.size w7 vy ys := hY6.same (he7.same _ _)
  have hB7 : Blk w7 bp [vo, vpw, vcc] := @Blk.ext _ _ _ _ he7 hB6
  have hU7 : Ints w4.heap.size w5.heap.size w7 u r := hU6.same (he7.same _ _)
  have hE7 := hE6.trans he7
  clear hP6 hX6 hY6 hB6 hU6 hD6
  refine go ?_
  refine c_b (fun h => ?_) (fun _ => ?_)
  · cases h
  refine go ?_
  refine spd (fun q2 => ?_) (fun q2 => ?_)
  · refine go ?_
    exact ret1 ⟨rfl, hE7⟩
  obtain rfl : e = 0 := Decidable.not_not.1 q2
  refine go ?_
  refine ra (v := .agg #[vo, vpw, vcc]) (h := rd_load_blk (hb := hB7) (by ((try simp only [ev_tmp, ev_const, ev_func, get_put, get_args, get_putL, get_putL_nil, Nat.reduceEqDiff, reduceIte, List.getD_cons_zero, List.getD_cons_succ, List.getD_nil]); first | done | with_reducible rfl)) rfl) (next := ?_)
  refine go ?_
  refine rc (spec_IsConsistent_ok (p := p) (by omega)) (next := fun v8 w8 h8 => ?_)
  obtain ⟨b8, rfl, hb8, he8⟩ := h8
  have hP8 : Pres w1.heap.size w2.heap.size w8 (.agg #[vo, vpw, vcc]) p := hP7.same (he8.same _ _)
  have hX8 : Ints w1.heap.size w2.heap.size w8 vx xs := hX7.same (he8.same _ _)
  have hY8 : Ints w1.heap.size w2.heap.size w8 vy ys := hY7.same (he8.same _ _)
  have hB8 : Blk w8 bp [vo, vpw, vcc] := @Blk.ext _ _ _ _ he8 hB7
  have hU8 : Ints w4.heap.size w5.heap.size w8 u r := hU7.same (he8.same _ _)
  have hE8 := hE7.trans he8
  clear hP7 hX7 hY7 hB7 hU7
  refine go ?_
  refine c_b (fun q3 => ?_) (fun q3 => ?_)
  · refine go ?_
    exact ret1 ⟨rfl, hE8⟩
  have hG := hb8.1 (by simpa using q3)
  haveI : ConAll p := ⟨hG.con⟩
  have hA : ValE2 p xs ys ∧ ColV p 2000 xs ys r 0 := by
    rcases hA5 with h | ⟨_, _, h⟩
    · exact h
    · cases h
  obtain ⟨⟨hv, hIx, hIy⟩, hC⟩ := hA
  obtain ⟨x, rfl⟩ := inR_el hIx
  obtain ⟨y, rfl⟩ := inR_el hIy
  have hn6 := hv.n6
  have hr : r = (x * y).v := by
    have h := ColO.val hC ((letP_word (by have := x.inr.len; omega)).app (letP_word (by have := y.inr.len; omega))) rfl
    rw [evP_app, evP_word, evP_word] at h
    exact h
  subst hr
  refine go ?_
  refine ra (v := .agg #[vo, vpw, vcc]) (h := rd_load_blk (hb := hB8) (by ((try simp only [ev_tmp, ev_const, ev_func, get_put, get_args, get_putL, get_putL_nil, Nat.reduceEqDiff, reduceIte, List.getD_cons_zero, List.getD_cons_succ, List.getD_nil]); first | done | with_reducible rfl)) rfl) (next := ?_)
  refine go ?_
  refine rc (mul9_ok (p := p) (x := x) (y := y) hG rfl rfl) (next := fun v9 w9 h9 => ?_)
  obtain ⟨he9, hf9⟩ := h9
  have hU9 : Ints w4.heap.size w5.heap.size w9 u (x * y).v := hU8.same (he9.same _ _)
  have hM9 := hf9.ints
  refine go ?_
  refine rc (likeInts_ok (xs := (x * y).v) hrl) (next := fun v10 w10 h10 => ?_)
  obtain ⟨rfl, he10⟩ := h10
  refine go ?_
  exact ret1 ⟨rfl, (hE8.trans he9).trans he10⟩
end Go.Proofs.Ytflniifngfiekaa
