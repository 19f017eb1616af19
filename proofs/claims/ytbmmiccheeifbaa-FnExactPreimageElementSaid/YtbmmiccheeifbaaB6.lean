/-
  Texts of one proof, put together by program: L07, Open, OpenH, W23, W36, Fun, Ans5, Cat, I19, I20, I23, I38.
  Conditions: those told at each part.
-/
import Derived.Test.YtbmmiccheeifbaaB5
import Derived.Deep.Slices
import Derived.Lib.SmallJoins
import Derived.Lib.AppendZeros
set_option linter.unusedVariables false
set_option linter.unusedSimpArgs false
set_option linter.unusedSectionVars false
set_option linter.constructorNameAsVariable false
set_option linter.unnecessarySimpa false
set_option linter.deprecated false
/-
  Walks: the statement's own helpers on homomorphisms: sizes, copies, comparison, marks (szHom, toHom, eqHom, markHom).
  Conditions: stated at each theorem.
-/
namespace Go.Proofs.Ytbmmiccheeifbaa
open Go Go.Pc
set_option maxHeartbeats 1000000 in
theorem szHom_ok {w : World} {v : Value} {p q : Pr} {xss : List (List Int)} {k : Int} {lo hi : Nat} [hh : HomV lo hi w v p q xss] (hk : 0 ≤ k ∧ k ≤ 2000000) :
    Calls Try.prog 7 #[v, .int .i64 k] w (Ret fun v w' => ∃ j : Int, v = .int .i64 j ∧ (j < 0 ∨ 0 ≤ j ∧ j ≤ k ∧ SizeP p k ∧ SizeP q k ∧ (xss.length : Int) ≤ k ∧ ∀ i, ((xss.getD i []).length : Int) ≤ k) ∧ Ext w w') := by
  obtain ⟨a0, a1, a2, a3, a4, a5, a6, us, rfl, hp, hq, hx⟩ := hh.ex
  refine enter (args := [.agg #[a0, a1, a2, a3, a4, a5, a6], .int .i64 k]) (l := [.tmp 4]) Try.func7 rfl rfl Try.ntmps7 (by simp) ?_
  refine go ?_
  refine st_box (vs := [a0, a1, a2, a3, a4, a5, a6]) (by ((try simp only [ev_tmp, ev_const, ev_func, get_put, get_args, get_putL, get_putL_nil, Nat.reduceEqDiff, reduceIte, List.getD_cons_zero, List.getD_cons_succ, List.getD_nil]); first | done | with_reducible rfl)) (by first | exact True.intro | exact ⟨_, rfl, by ((try simp only [ev_tmp, ev_const, ev_func, get_put, get_args, get_putL, get_putL_nil, Nat.reduceEqDiff, reduceIte, List.getD_cons_zero, List.getD_cons_succ, List.getD_nil, Bool.not_true, Bool.not_false]); first | done | with_reducible rfl)⟩) fun w1 b he1 hb1 hs1 hbk => ?_
  obtain ⟨c0, c1, c2, c3, c4, c5, c6⟩ := hbk.cells7
  refine go ?_
  refine rc (szPresentation_ok (p := p) hk) (next := fun v2 w2 h2 => ?_)
  obtain ⟨j2, rfl, hj2, he2⟩ := h2
  refine go ?_
  refine c_if (fun h5 => ?_) (fun h5 => ?_)
  · refine go ?_
    exact ret1 ⟨-1, rfl, .inl (by omega), he1.trans he2⟩
  have h6 : 0 ≤ j2 ∧ j2 ≤ k ∧ SizeP p k := by
    rcases hj2 with h | h
    · omega
    · exact h
  refine go ?_
  refine rc (szPresentation_ok (p := q) (k := j2) ?_) (next := fun v3 w3 h7 => ?_)
  · omega
  obtain ⟨j3, rfl, hj3, he3⟩ := h7
  refine go ?_
  refine c_if (fun h8 => ?_) (fun h8 => ?_)
  · refine go ?_
    exact ret1 ⟨-1, rfl, .inl (by omega), (he1.trans he2).trans he3⟩
  have h9 : 0 ≤ j3 ∧ j3 ≤ j2 ∧ SizeP q j2 := by
    rcases hj3 with h | h
    · omega
    · exact h
  refine go ?_
  refine rc (szInt64SS_ok (xss := xss) (k := j3) ?_) (next := fun v4 w4 h10 => ?_)
  · omega
  obtain ⟨j4, rfl, hj4, he4⟩ := h10
  refine go ?_
  refine c_if (fun h11 => ?_) (fun h11 => ?_)
  · refine go ?_
    exact ret1 ⟨-1, rfl, .inl (by omega), ((he1.trans he2).trans he3).trans he4⟩
  have h12 : 0 ≤ j4 ∧ j4 ≤ j3 ∧ (xss.length : Int) ≤ j3 ∧ ∀ i, ((xss.getD i []).length : Int) ≤ j3 := by
    rcases hj4 with h | h
    · omega
    · exact h
  refine go ?_
  exact ret1 ⟨j4, rfl, .inr ⟨h12.1, by omega, h6.2.2, h9.2.2.mono (by omega), by omega, fun i => by have := h12.2.2.2 i; omega⟩, ((he1.trans he2).trans he3).trans he4⟩
set_option maxHeartbeats 2000000 in
theorem toHom_ok {w : World} {v : Value} {p q : Pr} {xss : List (List Int)} {lo hi : Nat} [hh : HomV lo hi w v p q xss] (hsp : SizeP p 2000000) (hsq : SizeP q 2000000) (hl : xss.length ≤ 2000000) (hr : ∀ i, (xss.getD i []).length ≤ 2000000) :
    Calls Try.prog 9 #[v] w (Ret fun v w' => Ext w w' ∧ ∃ rs, xss = rs.map (·.2) ∧ HomO w.heap.size w'.heap.size w' v p q rs) := by
  obtain ⟨a0, a1, a2, a3, a4, a5, a6, us, rfl, hp, hq, hx⟩ := hh.ex
  refine enter (args := [.agg #[a0, a1, a2, a3, a4, a5, a6]]) (l := [.cell 2 34]) Try.func9 rfl rfl Try.ntmps9 (by simp) ?_
  refine go ?_
  refine st_box (vs := [a0, a1, a2, a3, a4, a5, a6]) (by ((try simp only [ev_tmp, ev_const, ev_func, get_put, get_args, get_putL, get_putL_nil, Nat.reduceEqDiff, reduceIte, List.getD_cons_zero, List.getD_cons_succ, List.getD_nil]); first | done | with_reducible rfl)) (by first | exact True.intro | exact ⟨_, rfl, by ((try simp only [ev_tmp, ev_const, ev_func, get_put, get_args, get_putL, get_putL_nil, Nat.reduceEqDiff, reduceIte, List.getD_cons_zero, List.getD_cons_succ, List.getD_nil, Bool.not_true, Bool.not_false]); first | done | with_reducible rfl)⟩) fun w1 b he1 hb1 hs1 hbk => ?_
  obtain ⟨c0, c1, c2, c3, c4, c5, c6⟩ := hbk.cells7
  refine go ?_
  refine st_alloc (by first | exact True.intro | exact ⟨_, rfl, by ((try simp only [ev_tmp, ev_const, ev_func, get_put, get_args, get_putL, get_putL_nil, Nat.reduceEqDiff, reduceIte, List.getD_cons_zero, List.getD_cons_succ, List.getD_nil, Bool.not_true, Bool.not_false]); first | done | with_reducible rfl)⟩) fun w2 br he2 hbr hs2 hbk2 => ?_
  refine go ?_
  refine st_alloc (by first | exact True.intro | exact ⟨_, rfl, by ((try simp only [ev_tmp, ev_const, ev_func, get_put, get_args, get_putL, get_putL_nil, Nat.reduceEqDiff, reduceIte, List.getD_cons_zero, List.getD_cons_succ, List.getD_nil, Bool.not_true, Bool.not_false]); first | done | with_reducible rfl)⟩) fun w3 bo he3 hbo hs3 hbk3 => ?_
  have hz1 := he1.size
  have hz2 := he2.size
  have hz3 := he3.size
  have hE3 := (he1.trans he2).trans he3
  refine go ?_
  refine rc (toPresentationO_ok (p := p) hsp) (next := fun v4 w4 h4 => ?_)
  obtain ⟨he4, hP4⟩ := h4
  have hz4 := he4.size
  have hb4 : Blk w4 bo _ := Blk.ext (h := hbk3)
  obtain ⟨u0, u1, u2, _, _, rfl, _⟩ := hP4.ex
  refine go ?_
  refine st_store_sub (h := hb4) (by ((try simp only [ev_tmp, ev_const, ev_func, get_put, get_args, get_putL, get_putL_nil, Nat.reduceEqDiff, reduceIte, List.getD_cons_zero, List.getD_cons_succ, List.getD_nil]); first | done | with_reducible rfl)) (by ((try simp only [ev_tmp, ev_const, ev_func, get_put, get_args, get_putL, get_putL_nil, Nat.reduceEqDiff, reduceIte, List.getD_cons_zero, List.getD_cons_succ, List.getD_nil]); first | done | with_reducible rfl)) ?_ hP4.pres.one3 (by first | exact True.intro | exact ⟨_, rfl, by ((try simp only [ev_tmp, ev_const, ev_func, get_put, get_args, get_putL, get_putL_nil, Nat.reduceEqDiff, reduceIte, List.getD_cons_zero, List.getD_cons_succ, List.getD_nil, Bool.not_true, Bool.not_false]); first | done | with_reducible rfl)⟩) fun w5 hc5 hs5 hb5 => ?_
  · simp
  have hE5 : Ext w w5 := hc5.ext (hE3.trans he4) (by omega)
  have hE15 : Ext w1 w5 := hc5.ext ((he2.trans he3).trans he4) (by omega)
  have hP5 := hP4.wr (.one (B := fun g => g = bo) rfl hc5) (fun g hg => .inl (by omega))
  have hr5 : Blk w5 br _ := (Blk.ext (x := he3.trans he4) (h := hbk2)).chg' hc5 (by omega)
  refine go ?_
  refine rc (toPresentationO_ok (p := q) hsq) (next := fun v6 w6 h6 => ?_)
  obtain ⟨he6, hQ6⟩ := h6
  have hz6 := he6.size
  have hb6 : Blk w6 bo _ := Blk.ext (h := hb5)
  obtain ⟨u3, u4, u5, _, _, rfl, _⟩ := hQ6.ex
  refine go ?_
  refine st_store_sub (h := hb6) (by ((try simp only [ev_tmp, ev_const, ev_func, get_put, get_args, get_putL, get_putL_nil, Nat.reduceEqDiff, reduceIte, List.getD_cons_zero, List.getD_cons_succ, List.getD_nil]); first | done | with_reducible rfl)) (by ((try simp only [ev_tmp, ev_const, ev_func, get_put, get_args, get_putL, get_putL_nil, Nat.reduceEqDiff, reduceIte, List.getD_cons_zero, List.getD_cons_succ, List.getD_nil]); first | done | with_reducible rfl)) ?_ hQ6.pres.one3 (by first | exact True.intro | exact ⟨_, rfl, by ((try simp only [ev_tmp, ev_const, ev_func, get_put, get_args, get_putL, get_putL_nil, Nat.reduceEqDiff, reduceIte, List.getD_cons_zero, List.getD_cons_succ, List.getD_nil, Bool.not_true, Bool.not_false]); first | done | with_reducible rfl)⟩) fun w7 hc7 hs7 hb7 => ?_
  · simp
  have hE7 : Ext w w7 := hc7.ext (hE5.trans he6) (by omega)
  have hE17 : Ext w1 w7 := hc7.ext (hE15.trans he6) (by omega)
  have hP7 := (hP5.wr (.ofExt (B := fun g => g = bo) he6) (fun g hg => .inl (by omega))).wr (.one (B := fun g => g = bo) rfl hc7) (fun g hg => .inl (by omega))
  have hQ7 := hQ6.wr (.one (B := fun g => g = bo) rfl hc7) (fun g hg => .inl (by omega))
  have hr7 : Blk w7 br _ := (Blk.ext (x := he6) (h := hr5)).chg' hc7 (by omega)
  refine go ?_
  refine rc (toInt64SSM_ok (xss := xss) hl hr) (next := fun v8 w8 h8 => ?_)
  obtain ⟨he8, rs, hrs, hM8⟩ := h8
  have hz8 := he8.size
  have hb8 : Blk w8 bo _ := Blk.ext (h := hb7)
  refine go ?_
  refine st_store_fld (h := hb8) (by ((try simp only [ev_tmp, ev_const, ev_func, get_put, get_args, get_putL, get_putL_nil, Nat.reduceEqDiff, reduceIte, List.getD_cons_zero, List.getD_cons_succ, List.getD_nil]); first | done | with_reducible rfl)) (by ((try simp only [ev_tmp, ev_const, ev_func, get_put, get_args, get_putL, get_putL_nil, Nat.reduceEqDiff, reduceIte, List.getD_cons_zero, List.getD_cons_succ, List.getD_nil]); first | done | with_reducible rfl)) ?_ ?_ (by first | exact True.intro | exact ⟨_, rfl, by ((try simp only [ev_tmp, ev_const, ev_func, get_put, get_args, get_putL, get_putL_nil, Nat.reduceEqDiff, reduceIte, List.getD_cons_zero, List.getD_cons_succ, List.getD_nil, Bool.not_true, Bool.not_false]); first | done | with_reducible rfl)⟩) fun w9 hc9 hs9 hb9 => ?_
  · exact hM8.rows.sl.one
  · simp
  have hE9 : Ext w w9 := hc9.ext (hE7.trans he8) (by omega)
  have hP9 := (hP7.wr (.ofExt (B := fun g => g = bo) he8) (fun g hg => .inl (by omega))).wr (.one (B := fun g => g = bo) rfl hc9) (fun g hg => .inl (by omega))
  have hQ9 := (hQ7.wr (.ofExt (B := fun g => g = bo) he8) (fun g hg => .inl (by omega))).wr (.one (B := fun g => g = bo) rfl hc9) (fun g hg => .inl (by omega))
  have hM9 := hM8.wr (.one (B := fun g => g = bo) rfl hc9) (fun g hg => .inl (by omega))
  have hr9 : Blk w9 br _ := (Blk.ext (x := he8) (h := hr7)).chg' hc9 (by omega)
  have hb9' : Blk w9 bo [u0, u1, u2, u3, u4, u5, v8] := hb9
  have o1 := hP9.pres.one3
  have o2 := hQ9.pres.one3
  have o3 := hM9.rows.sl.one
  refine go ?_
  refine ra (v := .agg #[u0, u1, u2, u3, u4, u5, v8]) (h := rd_load_blk (hb := hb9') (by ((try simp only [ev_tmp, ev_const, ev_func, get_put, get_args, get_putL, get_putL_nil, Nat.reduceEqDiff, reduceIte, List.getD_cons_zero, List.getD_cons_succ, List.getD_nil]); first | done | with_reducible rfl)) rfl) (next := ?_)
  refine st_store_agg (vs := [u0, u1, u2, u3, u4, u5, v8]) (cs := _) (hb := hr9) (by ((try simp only [ev_tmp, ev_const, ev_func, get_put, get_args, get_putL, get_putL_nil, Nat.reduceEqDiff, reduceIte, List.getD_cons_zero, List.getD_cons_succ, List.getD_nil]); first | done | with_reducible rfl)) (by ((try simp only [ev_tmp, ev_const, ev_func, get_put, get_args, get_putL, get_putL_nil, Nat.reduceEqDiff, reduceIte, List.getD_cons_zero, List.getD_cons_succ, List.getD_nil]); first | done | with_reducible rfl)) rfl ?_ ?_ (by first | exact True.intro | exact ⟨_, rfl, by ((try simp only [ev_tmp, ev_const, ev_func, get_put, get_args, get_putL, get_putL_nil, Nat.reduceEqDiff, reduceIte, List.getD_cons_zero, List.getD_cons_succ, List.getD_nil, Bool.not_true, Bool.not_false]); first | done | with_reducible rfl)⟩) fun w10 hc10 hs10 hb10 => ?_
  · rfl
  · simp [o1.1, o1.2.1, o1.2.2, o2.1, o2.2.1, o2.2.2, o3]
  refine go ?_
  refine retc (b := br) (hb := hb10) ⟨hc10.ext hE9 (by omega), rs, hrs, ?_⟩ rfl
  refine ⟨u0, u1, u2, u3, u4, u5, v8, w3.heap.size, w4.heap.size, w6.heap.size, w8.heap.size, rfl, by omega, by omega, by omega, by omega, by omega, ?_, ?_, ?_⟩
  · exact hP9.wr (.one (B := fun g => g = br) rfl hc10) (fun g hg => .inl (by omega))
  · have h := hQ9.wr (.one (B := fun g => g = br) rfl hc10) (fun g hg => .inl (by omega))
    rw [hs5] at h
    exact h
  · have h := hM9.wr (.one (B := fun g => g = br) rfl hc10) (fun g hg => .inl (by omega))
    rw [hs7] at h
    exact h
set_option maxHeartbeats 1000000 in
theorem eqHom_ok {w : World} {va vb : Value} {p q p' q' : Pr} {xss yss : List (List Int)} {lo hi lo1 hi1 : Nat} [hh : HomV lo hi w va p q xss] [hh' : HomV lo1 hi1 w vb p' q' yss] (hsp : SizeP p 2000000) (hsq : SizeP q 2000000) (hl : xss.length ≤ 2000000) (hr : ∀ i, (xss.getD i []).length ≤ 2000000) :
    Calls Try.prog 13 #[va, vb] w (Ret fun v w' => ∃ b, v = .bool b ∧ (b = true ↔ p = p' ∧ q = q' ∧ xss = yss) ∧ Ext w w') := by
  obtain ⟨a0, a1, a2, a3, a4, a5, a6, us, rfl, hp, hq, hx⟩ := hh.ex
  obtain ⟨d0, d1, d2, d3, d4, d5, d6, us', rfl, hp', hq', hx'⟩ := hh'.ex
  refine enter (args := [.agg #[a0, a1, a2, a3, a4, a5, a6], .agg #[d0, d1, d2, d3, d4, d5, d6]]) (l := [.tmp 4]) Try.func13 rfl rfl Try.ntmps13 (by simp) ?_
  refine go ?_
  refine st_box (vs := [a0, a1, a2, a3, a4, a5, a6]) (by ((try simp only [ev_tmp, ev_const, ev_func, get_put, get_args, get_putL, get_putL_nil, Nat.reduceEqDiff, reduceIte, List.getD_cons_zero, List.getD_cons_succ, List.getD_nil]); first | done | with_reducible rfl)) (by first | exact True.intro | exact ⟨_, rfl, by ((try simp only [ev_tmp, ev_const, ev_func, get_put, get_args, get_putL, get_putL_nil, Nat.reduceEqDiff, reduceIte, List.getD_cons_zero, List.getD_cons_succ, List.getD_nil, Bool.not_true, Bool.not_false]); first | done | with_reducible rfl)⟩) fun w1 b he1 hb1 hs1 hbk => ?_
  obtain ⟨c0, c1, c2, c3, c4, c5, c6⟩ := hbk.cells7
  refine go ?_
  refine st_box (vs := [d0, d1, d2, d3, d4, d5, d6]) (by ((try simp only [ev_tmp, ev_const, ev_func, get_put, get_args, get_putL, get_putL_nil, Nat.reduceEqDiff, reduceIte, List.getD_cons_zero, List.getD_cons_succ, List.getD_nil]); first | done | with_reducible rfl)) (by first | exact True.intro | exact ⟨_, rfl, by ((try simp only [ev_tmp, ev_const, ev_func, get_put, get_args, get_putL, get_putL_nil, Nat.reduceEqDiff, reduceIte, List.getD_cons_zero, List.getD_cons_succ, List.getD_nil, Bool.not_true, Bool.not_false]); first | done | with_reducible rfl)⟩) fun w2 b' he2 hb2 hs2 hbk' => ?_
  obtain ⟨e0, e1, e2, e3, e4, e5, e6⟩ := hbk'.cells7
  have hE2 := he1.trans he2
  have no : ∀ {w' : World}, ¬ (p = p' ∧ q = q' ∧ xss = yss) → Ext w w' → ∃ b, Value.bool false = .bool b ∧ (b = true ↔ p = p' ∧ q = q' ∧ xss = yss) ∧ Ext w w' := fun h he => ⟨_, rfl, by simpa using fun a b => fun c => h ⟨a, b, c⟩, he⟩
  refine go ?_
  refine rc (eqPresentation_ok (p := p) (q := p') hsp) (next := fun v3 w3 h4 => ?_)
  obtain ⟨b3, rfl, hb3, he3⟩ := h4
  refine go ?_
  refine c_b (fun h5 => ?_) (fun h5 => ?_)
  · refine go ?_
    refine ret1 (no (fun e => ?_) (hE2.trans he3))
    rw [hb3.2 e.1] at h5; cases h5
  have f1 := hb3.1 (by simpa using h5)
  refine go ?_
  refine rc (eqPresentation_ok (p := q) (q := q') hsq) (next := fun v4 w4 h6 => ?_)
  obtain ⟨b4, rfl, hb4, he4⟩ := h6
  refine go ?_
  refine c_b (fun h7 => ?_) (fun h7 => ?_)
  · refine go ?_
    refine ret1 (no (fun e => ?_) ((hE2.trans he3).trans he4))
    rw [hb4.2 e.2.1] at h7; cases h7
  have f2 := hb4.1 (by simpa using h7)
  refine go ?_
  refine rc (eqInt64SS_ok (xss := xss) (yss := yss) hr (by omega)) (next := fun v5 w5 h8 => ?_)
  obtain ⟨b5, rfl, hb5, he5⟩ := h8
  refine go ?_
  refine c_b (fun h9 => ?_) (fun h9 => ?_)
  · refine go ?_
    refine ret1 (no (fun e => ?_) (((hE2.trans he3).trans he4).trans he5))
    rw [hb5.2 e.2.2] at h9; cases h9
  have f3 := hb5.1 (by simpa using h9)
  refine go ?_
  exact ret1 ⟨_, rfl, ⟨fun _ => ⟨f1, f2, f3⟩, fun _ => rfl⟩, ((hE2.trans he3).trans he4).trans he5⟩
set_option maxHeartbeats 1000000 in
theorem markHom_ok {s t : Nat} {w : World} {v : Value} {p q : Pr} {rs : List (Value × List Int)} {k : Int} (hH : HomO s t w v p q rs) (ht : t ≤ w.heap.size) (hk : 0 ≤ k) (hb : k + totP p + totP q + tot (rs.map (·.2)) ≤ 9000000000000000000) :
    Calls Try.prog 14 #[v, .int .i64 k] w (Ret fun v' w' => v' = .int .i64 (k + totP p + totP q + tot (rs.map (·.2))) ∧ Wrt (fun b => s ≤ b ∧ b < t) w w') := by
  obtain ⟨a0, a1, a2, a3, a4, a5, a6, m0, m1, m2, m3, rfl, l0, l1, l2, l3, l4, h1, h2, h3⟩ := hH.ex
  refine enter (args := [.agg #[a0, a1, a2, a3, a4, a5, a6], .int .i64 k]) (l := [.tmp 4]) Try.func14 rfl rfl Try.ntmps14 (by simp) ?_
  refine go ?_
  refine st_box (vs := [a0, a1, a2, a3, a4, a5, a6]) (by ((try simp only [ev_tmp, ev_const, ev_func, get_put, get_args, get_putL, get_putL_nil, Nat.reduceEqDiff, reduceIte, List.getD_cons_zero, List.getD_cons_succ, List.getD_nil]); first | done | with_reducible rfl)) (by first | exact True.intro | exact ⟨_, rfl, by ((try simp only [ev_tmp, ev_const, ev_func, get_put, get_args, get_putL, get_putL_nil, Nat.reduceEqDiff, reduceIte, List.getD_cons_zero, List.getD_cons_succ, List.getD_nil, Bool.not_true, Bool.not_false]); first | done | with_reducible rfl)⟩) fun w1 b he1 hb1 hs1 hbk => ?_
  have hz1 := he1.size
  have x1 := h1.wr (.ofExt (B := fun b => b < m0 ∨ m1 ≤ b) he1) (fun b hb => hb)
  have x2 := h2.wr (.ofExt (B := fun b => b < m1 ∨ m2 ≤ b) he1) (fun b hb => hb)
  have x3 := h3.wr (.ofExt (B := fun b => b < m2 ∨ m3 ≤ b) he1) (fun b hb => hb)
  obtain ⟨c0, c1, c2, c3, c4, c5, c6⟩ := hbk.cells7
  refine go ?_
  refine rc (markPresentation_ok (k := k) x1 hk ?_) (next := fun v2 w2 h2' => ?_)
  · omega
  obtain ⟨rfl, hW2⟩ := h2'
  have y2 := x2.wr hW2 (fun b hb => .inl hb.2)
  have y3 := x3.wr hW2 (fun b hb => .inl (by omega))
  have hbk2 := hbk.wr hW2 (by omega)
  clear c0 c1 c2 c3 c4 c5 c6
  obtain ⟨c0, c1, c2, c3, c4, c5, c6⟩ := hbk2.cells7
  refine go ?_
  refine rc (markPresentation_ok (k := k + totP p) y2 ?_ ?_) (next := fun v3 w3 h3' => ?_)
  · omega
  · omega
  obtain ⟨rfl, hW3⟩ := h3'
  have z3 := y3.wr hW3 (fun b hb => .inl hb.2)
  have hbk3 := hbk2.wr hW3 (by omega)
  clear c0 c1 c2 c3 c4 c5 c6
  obtain ⟨c0, c1, c2, c3, c4, c5, c6⟩ := hbk3.cells7
  refine go ?_
  refine rc (markInt64SS_ok (k := k + totP p + totP q) (pre := []) (post := []) (by simpa using z3.own) z3.sp (fun b hb => .inl hb) ?_ ?_) (next := fun v4 w4 h4' => ?_)
  · omega
  · omega
  obtain ⟨rfl, _, hV4⟩ := h4'
  have hW4 : Wrt (fun b => m2 ≤ b ∧ b < m3) w3 w4 := hV4.mono fun b hb => ⟨(z3.own.blk hb).1, z3.lt b hb⟩
  refine go ?_
  refine ret1 ⟨rfl, ?_⟩
  exact (Wrt.ofExt he1).trans ((hW2.mono fun b hb => ⟨by omega, by omega⟩).trans ((hW3.mono fun b hb => ⟨by omega, by omega⟩).trans (hW4.mono fun b hb => ⟨by omega, by omega⟩)))
end Go.Proofs.Ytbmmiccheeifbaa

/-
  Arguments that read as slices of integers, slices of slices, slices of slices of slices: what the calculus knows of them.
  Conditions: none; nothing of the program stands here.
-/
namespace Go.Pc
open Go Go.RowKit Go.Deep Go.ChangeShapes Go.WideShapes
section
variable {H : Type} {enc : TypeId × Value → H} {P : Program} {w : World} {base : Nat} {held : Bool} {fuel : Nat} {v : Value} {x : DataW H × List MemPlace}
theorem ints_of_trod {t e : TypeId} (ht : P.underlying t = some (.slice e)) (he : P.underlying e = some (.int .i64)) (hc : P.cellsOf e = 1) (h : DataW.trod enc P w base (fun _ => true) held fuel t [v] = some x) : ∃ xs, Ints 0 w.heap.size w v xs := by
  rcases open_ints ht he hc h with ⟨hcs, _⟩ | ⟨a, len, cap, zs, hcs, _, hl, hm, hz, _, hcell, _⟩
  · have : v = nilv := by simpa using hcs
    subst this
    exact ⟨[], (Ints.nil_ w).mono (Nat.le_refl 0) (Nat.zero_le _)⟩
  · have : v = .slice (some a) len cap := by simpa using hcs
    subst this
    simp only [if_true] at hz
    have hlen : (zs.take len).length = len := by rw [List.length_take]; omega
    refine ⟨zs.take len, ⟨⟨some a, cap, by rw [List.length_map, hlen], by rw [List.length_map, hlen]; omega, by simp only [maxLen] at hm; omega, fun k u hu => ?_⟩⟩⟩
    rw [List.getElem?_map, List.getElem?_take] at hu
    split at hu
    · have hk : k < zs.length := by omega
      have hck := hcell k hk
      rw [List.getElem?_eq_getElem hk] at hu
      simp only [Option.map_some, Option.some.injEq] at hu
      have e : zs.getD k 0 = zs[k] := by simp [hk]
      rw [e, hu] at hck
      exact ⟨a, rfl, Nat.zero_le _, by have := block_lt hck; rwa [add_block] at this, hck⟩
    · cases hu
theorem sl_of {a : Addr} {len cap m : Nat} {V : Nat → Value} (hl : len ≤ cap) (hm : cap ≤ maxLen) (hlm : len ≤ m) (hx : ∀ i, i < m → w.cell? (a.add i) = some (V i)) : Sl 0 w.heap.size w (.slice (some a) len cap) ((List.range len).map V) := by
  refine ⟨⟨some a, cap, by simp, by simpa using hl, by simp only [maxLen] at hm; omega, fun k u hu => ?_⟩⟩
  rw [List.getElem?_map] at hu
  by_cases hk : k < len
  · rw [List.getElem?_range hk] at hu
    simp only [Option.map_some, Option.some.injEq] at hu
    have hck := hx k (by omega)
    rw [hu] at hck
    exact ⟨a, rfl, Nat.zero_le _, by have := block_lt hck; rwa [add_block] at this, hck⟩
  · rw [List.getElem?_eq_none (by simp; omega)] at hu; cases hu
theorem getD_map_range {α : Type} {n i : Nat} {f : Nat → α} {d : α} (h : i < n) : ((List.range n).map f).getD i d = f i := by simp [h]
theorem getD_map_range' {α : Type} {n i : Nat} {f : Nat → α} {d : α} (h : ¬ i < n) : ((List.range n).map f).getD i d = d := by
  rw [List.getD_eq_getElem?_getD, List.getElem?_eq_none (by simp; omega)]; rfl
theorem Rows.nil_ (w : World) : Rows 0 w.heap.size w nilv [] [] :=
  ⟨⟨⟨none, 0, rfl, Nat.le_refl _, by omega, fun k u hu => by simp at hu⟩⟩, rfl, fun i => by simpa using (Ints.nil_ w).mono (Nat.le_refl 0) (Nat.zero_le _)⟩
theorem rows_of_trod {t e q : TypeId} (ht : P.underlying t = some (.slice e)) (he : P.underlying e = some (.slice q)) (hq : P.underlying q = some (.int .i64)) (ce : P.cellsOf e = 1) (cq : P.cellsOf q = 1)
    (h : DataW.trod enc P w base (fun _ => true) held fuel t [v] = some x) : ∃ us xss, Rows 0 w.heap.size w v us xss := by
  rcases open_slice1 ht ce h with ⟨hcs, _⟩ | ⟨a, len, cap, m, n, V, D, Pl, hcs, _, hl, hm, hmm, _, hx⟩
  · have : v = nilv := by simpa using hcs
    subst this
    exact ⟨[], [], Rows.nil_ w⟩
  · have : v = .slice (some a) len cap := by simpa using hcs
    subst this
    simp only [if_true] at hmm
    have hlm : len ≤ m := by omega
    obtain ⟨X, hX⟩ := choose_lt (α := List Int) (n := len) (p := fun i xs => Ints 0 w.heap.size w (V i) xs) fun i hi => ints_of_trod he hq cq (hx i (by omega)).2
    refine ⟨(List.range len).map V, (List.range len).map X, sl_of hl hm hlm fun i hi => (hx i hi).1, by simp, fun i => ?_⟩
    by_cases hi : i < len
    · rw [getD_map_range hi, getD_map_range hi]; exact hX i hi
    · rw [getD_map_range' hi, getD_map_range' hi]; exact (Ints.nil_ w).mono (Nat.le_refl 0) (Nat.zero_le _)
theorem rowss_of_trod {t e q r : TypeId} (ht : P.underlying t = some (.slice e)) (he : P.underlying e = some (.slice q)) (hq : P.underlying q = some (.slice r)) (hr : P.underlying r = some (.int .i64)) (ce : P.cellsOf e = 1) (cq : P.cellsOf q = 1) (cr : P.cellsOf r = 1)
    (h : DataW.trod enc P w base (fun _ => true) held fuel t [v] = some x) : ∃ us uss xsss, Rowss 0 w.heap.size w v us uss xsss := by
  rcases open_slice1 ht ce h with ⟨hcs, _⟩ | ⟨a, len, cap, m, n, V, D, Pl, hcs, _, hl, hm, hmm, _, hx⟩
  · have : v = nilv := by simpa using hcs
    subst this
    exact ⟨[], [], [], ⟨⟨none, 0, rfl, Nat.le_refl _, by omega, fun k u hu => by simp at hu⟩⟩, rfl, rfl, fun i => by simpa using Rows.nil_ w⟩
  · have : v = .slice (some a) len cap := by simpa using hcs
    subst this
    simp only [if_true] at hmm
    have hlm : len ≤ m := by omega
    obtain ⟨X, hX⟩ := choose_lt (α := List Value × List (List Int)) (n := len) (p := fun i y => Rows 0 w.heap.size w (V i) y.1 y.2) fun i hi => by
      obtain ⟨us, xss, hR⟩ := rows_of_trod he hq hr cq cr (hx i (by omega)).2
      exact ⟨(us, xss), hR⟩
    refine ⟨(List.range len).map V, (List.range len).map fun i => (X i).1, (List.range len).map fun i => (X i).2, sl_of hl hm hlm fun i hi => (hx i hi).1, by simp, by simp, fun i => ?_⟩
    by_cases hi : i < len
    · rw [getD_map_range hi, getD_map_range hi, getD_map_range hi]; exact hX i hi
    · rw [getD_map_range' hi, getD_map_range' hi, getD_map_range' hi]; exact Rows.nil_ w
end
end Go.Pc

/-
  Arguments that read as homomorphisms: structs of structs, by value.
  Conditions: none; nothing of the program stands here.
-/
namespace Go.Pc
open Go Go.RowKit Go.Deep Go.ChangeShapes Go.WideShapes Go.Joins
theorem array7 {α : Type} {cs : Array α} (h : cs.size = 7) : ∃ c0 c1 c2 c3 c4 c5 c6, cs = #[c0, c1, c2, c3, c4, c5, c6] := by
  obtain ⟨l⟩ := cs
  match l, h with
  | [c0, c1, c2, c3, c4, c5, c6], _ => exact ⟨c0, c1, c2, c3, c4, c5, c6, rfl⟩
section
variable {H : Type} {enc : TypeId × Value → H} {P : Program} {w : World} {base : Nat} {spare : Nat → Bool} {held : Bool}
theorem open_three {t : TypeId} {f0 f1 f2 : Field} {fuel : Nat} {c0 c1 c2 : Value} {x : DataW H × List MemPlace} (hs : P.underlying t = some (.struct #[f0, f1, f2])) (hone : oneCellFields P #[f0, f1, f2] = true)
    (hf : DataW.trod enc P w base spare held fuel t [c0, c1, c2] = some x) :
    ∃ (y0 y1 y2 : DataW H × List MemPlace) (n : Nat), DataW.trod enc P w base spare held n f0.type [c0] = some y0 ∧ DataW.trod enc P w base spare held n f1.type [c1] = some y1 ∧ DataW.trod enc P w base spare held n f2.type [c2] = some y2 := by
  obtain ⟨y0, y1, y2, n, hx, _, h0, h1, h2⟩ := trod_struct3 hs hf
  obtain ⟨o0, k0⟩ := hone_of hone 0 f0 rfl
  obtain ⟨o1, k1⟩ := hone_of hone 1 f1 rfl
  obtain ⟨o2, k2⟩ := hone_of hone 2 f2 rfl
  exact ⟨y0, y1, y2, n, by simpa [o0, k0] using h0, by simpa [o1, k1] using h1, by simpa [o2, k2] using h2⟩
theorem open_hom {r : Reach} {b0 : Nat} {t : TypeId} {f0 f1 f2 : Field} {v : Value} {d : DataW H} {p : List MemPlace} (hs : P.underlying t = some (.struct #[f0, f1, f2])) (hC : P.cellsOf t = 7) (o0 : f0.offset = 0) (k0 : P.cellsOf f0.type = 3) (o1 : f1.offset = 3) (k1 : P.cellsOf f1.type = 3) (o2 : f2.offset = 6) (k2 : P.cellsOf f2.type = 1)
    (hv : Value.okWide P w r b0 t v) (h : DataW.Trod enc P w base spare held t v d p) :
    ∃ (c0 c1 c2 c3 c4 c5 c6 : Value) (y0 y1 y2 : DataW H × List MemPlace) (n : Nat), v = .agg #[c0, c1, c2, c3, c4, c5, c6] ∧
      DataW.trod enc P w base spare held n f0.type [c0, c1, c2] = some y0 ∧ DataW.trod enc P w base spare held n f1.type [c3, c4, c5] = some y1 ∧ DataW.trod enc P w base spare held n f2.type [c6] = some y2 := by
  obtain ⟨cs, rfl, hsz⟩ := okWide_struct hs hv
  obtain ⟨c0, c1, c2, c3, c4, c5, c6, rfl⟩ := array7 (hsz.trans hC)
  obtain ⟨fuel, hf⟩ := h
  obtain ⟨y0, y1, y2, n, hx, _, h0, h1, h2⟩ := trod_struct3 hs hf
  exact ⟨c0, c1, c2, c3, c4, c5, c6, y0, y1, y2, n, rfl, by simpa [Value.cells, o0, k0] using h0, by simpa [Value.cells, o1, k1] using h1, by simpa [Value.cells, o2, k2] using h2⟩
end
end Go.Pc

/-
  Walks: the reference's element with a number, the elements above a subgroup; Center.
  Conditions: stated at each theorem.
-/
namespace Go.Proofs.Ytbmmiccheeifbaa
open Go Go.Pc
set_option maxHeartbeats 2000000 in
theorem l10At_ok {p : Pr} [hc : ConAll p] {t : Nat} (ht : t ≤ 1000000) {w : World} {vp : Value} {lo hi : Nat} [hp : Pres lo hi w vp p] :
    Calls Try.prog 42 #[vp, .int .i64 t] w (Ret fun v w' => Ext w w' ∧ Fr w.heap.size w' v (allE p t).v) := by
  have hv := hc.valid
  have hn6 := hv.n6
  have hol : p.ord.length = p.n := rfl
  rw [allE_val]
  obtain ⟨l, hl⟩ : ∃ l, List.range p.n = l := ⟨_, rfl⟩
  have hll : l.length = p.n := by rw [← hl]; simp
  have hlt : ∀ d, d ∈ l → d < p.n := fun d hd => by rw [← hl] at hd; exact List.mem_range.1 hd
  have hnd : l.Nodup := by rw [← hl]; exact List.nodup_range
  have hlg : ∀ i, i < p.n → l.getD i 0 = i := fun i hi => by rw [← hl]; simp [hi]
  rw [hl]
  replace hp := hp.wide
  obtain ⟨vo, vpw, vc, ps, cs, css, rfl, h1, h2, h3⟩ := hp.ex
  refine enter (args := [.agg #[vo, vpw, vc], .int .i64 t]) (l := [.tmp 4]) Try.func42 rfl rfl Try.ntmps42 (by simp) ?_
  refine go ?_
  refine st_box3 (by ((try simp only [ev_tmp, ev_const, ev_func, get_put, get_args, get_putL, get_putL_nil, Nat.reduceEqDiff, reduceIte, List.getD_cons_zero, List.getD_cons_succ, List.getD_nil]); first | done | with_reducible rfl)) (by first | exact True.intro | exact ⟨_, rfl, by ((try simp only [ev_tmp, ev_const, ev_func, get_put, get_args, get_putL, get_putL_nil, Nat.reduceEqDiff, reduceIte, List.getD_cons_zero, List.getD_cons_succ, List.getD_nil, Bool.not_true, Bool.not_false]); first | done | with_reducible rfl)⟩) fun w1 b he1 hb1 hs1 hc0 hc1 hc2 => ?_
  have hz1 := he1.size
  refine go ?_
  refine rc (l10One_ok (p := p)) (next := fun v2 w2 h4 => ?_)
  obtain ⟨he2, hf2⟩ := h4
  have hz2 := he2.size
  have hlen2 : Len w2 v2 p.n := by
    have h := hf2.ints
    have h5 : Len w2 v2 (1 : El p).v.length := inferInstance
    rwa [(1 : El p).inr.len] at h5
  by_cases hn0 : p.n = 0
  · refine go ?_
    refine r_for 0 (fun k ρ w' => Has ρ [(5, v2), (6, .int .i64 (-1))] ∧ w' = w2) ?_ ?_
    · refine ⟨?_, rfl⟩
      rw [hn0]
      exact hasP
    rintro k ρ w4 hk ⟨hH, rfl⟩
    refine rwp_has hH fun ρ0 => ?_
    refine go ?_
    refine c_if (fun h4 => ?_) (fun h4 => ?_)
    · omega
    refine go ?_
    refine ret1 ⟨he1.trans he2, ?_⟩
    have e : elTo p l l.length t = (1 : El p).v := list_ext0 (by rw [elTo_len, (1 : El p).inr.len]) fun d hd => by rw [elTo_len] at hd; omega
    rw [e]
    exact hf2.mono hz1
  obtain ⟨te, b2, hb2, ho2⟩ := hf2.own (by intro e; have := (1 : El p).inr.len; rw [e] at this; simp at this; omega)
  have hbl := ho2.lt
  have ho3 : OwnI te b2 w2 v2 (zeros p.n) := ho2
  have ap1 : Apart 0 w.heap.size b2 := ⟨.inr (by omega)⟩
  have ap2 : Apart b (b + 1) b2 := ⟨.inr (by omega)⟩
  have hE2 := he1.trans he2
  have hzl := zeros_len p.n
  clear hf2 ho2
  refine go ?_
  refine r_for p.n (fun k ρ w' => ∃ (tk : Int) (xs : List Int), Has ρ [(1, .int .i64 tk), (2, .pointer (some ⟨b, 0, none⟩)), (5, v2), (6, .int .i64 (p.n - 1 - k))] ∧ Chg b2 w2 w' ∧ OwnI te b2 w' v2 xs ∧ xs.length = p.n ∧ 0 ≤ tk ∧ tk ≤ 1000000 ∧ fillTo p l (p.n - k) tk xs = elTo p l l.length t) ?_ ?_
  · refine ⟨t, zeros p.n, ?_, Chg.refl _ _, ho3, hzl, by omega, by omega, ?_⟩
    · exact hasP
    · have := fill_eq hnd hlt (t : Int)
      rwa [hll] at this ⊢
  clear ho3
  rintro k ρ w4 hk ⟨tk, xs, hH, hch4, ho4, hxl, ht0, ht1, hfill⟩
  refine rwp_has hH fun ρ0 => ?_
  refine go ?_
  refine c_if (fun h4 => ?_) (fun h4 => ?_)
  · have hkn : k < p.n := by omega
    obtain ⟨i, hi⟩ : ∃ i, p.n - 1 - k = i := ⟨_, rfl⟩
    have hil : i < p.n := by omega
    have hcast : ((p.n : Int) - 1 - k) = (i : Int) := by omega
    have hod := hv.opos hil
    have hmod : 0 ≤ tk % p.o i ∧ tk % p.o i < p.o i := ⟨Int.emod_nonneg _ (by omega), Int.emod_lt_of_pos _ (by omega)⟩
    have hdiv : 0 ≤ tk / p.o i ∧ tk / p.o i ≤ 1000000 := ⟨Int.ediv_nonneg ht0 (by omega), Int.le_trans (Int.ediv_le_self _ ht0) ht1⟩
    have hstep : fillTo p l (p.n - (k + 1)) (tk / p.o i) (xs.set i (tk % p.o i)) = elTo p l l.length t := by
      rw [← hfill, show p.n - k = i + 1 by omega, show p.n - (k + 1) = i by omega]
      show _ = fillTo p l i (tk / p.o (l.getD i 0)) (xs.set (l.getD i 0) (tk % p.o (l.getD i 0)))
      rw [hlg i hil]
    rw [hcast]
    refine go ?_
    first
      | rw [show p.ord.getD i 0 = p.o i from rfl]
      | rw [show p.ord.getD ((i : Int).toNat) 0 = p.o i from rfl]
    refine go ?_
    refine st_store_int (h := ho4) (by ((try simp only [ev_tmp, ev_const, ev_func, get_put, get_args, get_putL, get_putL_nil, Nat.reduceEqDiff, reduceIte, List.getD_cons_zero, List.getD_cons_succ, List.getD_nil]); first | done | with_reducible rfl)) (by ((try simp only [ev_tmp, ev_const, ev_func, get_put, get_args, get_putL, get_putL_nil, Nat.reduceEqDiff, reduceIte, List.getD_cons_zero, List.getD_cons_succ, List.getD_nil]); first | done | with_reducible rfl)) ?_ (by first | exact True.intro | exact ⟨_, rfl, by ((try simp only [ev_tmp, ev_const, ev_func, get_put, get_args, get_putL, get_putL_nil, Nat.reduceEqDiff, reduceIte, List.getD_cons_zero, List.getD_cons_succ, List.getD_nil, Bool.not_true, Bool.not_false]); first | done | with_reducible rfl)⟩) fun w6 hc6 hs6 ho6 => ?_
    · omega
    have hch6 : Chg b2 w2 w6 := hch4.trans hc6
    clear hch4 hc6 ho4
    refine go ?_
    first
      | rw [show p.ord.getD i 0 = p.o i from rfl]
      | rw [show p.ord.getD ((i : Int).toNat) 0 = p.o i from rfl]
    refine go ?_
    refine forQ_normal (by omega) ⟨tk / p.o i, _, ?_, hch6, ho6, by simp [hxl], hdiv.1, hdiv.2, hstep⟩
    exact hasP
  · refine go ?_
    obtain rfl : k = p.n := by omega
    rw [Nat.sub_self] at hfill
    have hx : xs = elTo p l l.length t := hfill
    refine ret1 ⟨hch4.ext hE2 (by omega), ?_⟩
    rw [← hx]
    exact ho4.toFr (by omega)
end Go.Proofs.Ytbmmiccheeifbaa

/-
  Walks: the reference's PreimageElement.
  Conditions: stated at each theorem.
-/
namespace Go.Proofs.Ytbmmiccheeifbaa
open Go Go.Pc
set_option maxHeartbeats 2000000 in
theorem spec_PreimageElement_ok {p q : Pr} {w : World} {vh vx : Value} {xss : List (List Int)} {xs : List Int} {lo hi lo2 hi2 : Nat} [hh : HomV lo hi w vh p q xss] [hx : Ints lo2 hi2 w vx xs] (hl : p.ord.length ≤ 2000000) (hlq : q.ord.length ≤ 2000000) (hxl : xss.length ≤ 2000000) :
    Calls Try.prog 17 #[vh, vx] w (Ret fun v w' => ∃ (u : Value) (k : List Int) (e : Int), v = .tuple #[u, .int .i64 e] ∧ Ans (HomP p q xss ∧ InR q xs) (PeV p q xss xs) [] k e ∧ Ext w w' ∧ Ints w.heap.size w'.heap.size w' u k) := by
  have hol : p.ord.length = p.n := rfl
  replace hh := hh.wide
  replace hx := hx.wide
  obtain ⟨a0, a1, a2, a3, a4, a5, a6, us, rfl, hp, hq, hi⟩ := hh.ex
  refine enter (args := [.agg #[a0, a1, a2, a3, a4, a5, a6], vx]) (l := [.tmp 4, .tmp 5]) Try.func17 rfl rfl Try.ntmps17 (by simp) ?_
  refine go ?_
  refine st_box (vs := [a0, a1, a2, a3, a4, a5, a6]) (by ((try simp only [ev_tmp, ev_const, ev_func, get_put, get_args, get_putL, get_putL_nil, Nat.reduceEqDiff, reduceIte, List.getD_cons_zero, List.getD_cons_succ, List.getD_nil]); first | done | with_reducible rfl)) (by first | exact True.intro | exact ⟨_, rfl, by ((try simp only [ev_tmp, ev_const, ev_func, get_put, get_args, get_putL, get_putL_nil, Nat.reduceEqDiff, reduceIte, List.getD_cons_zero, List.getD_cons_succ, List.getD_nil, Bool.not_true, Bool.not_false]); first | done | with_reducible rfl)⟩) fun w1 b he1 hb1 hs1 hbk => ?_
  obtain ⟨c0, c1, c2, c3, c4, c5, c6⟩ := hbk.cells7
  refine go ?_
  refine rc (spec_IsHom_ok (p := p) (q := q) (xss := xss) hl hlq hxl) (next := fun v5 w5 h5 => ?_)
  obtain ⟨b5, rfl, hb5, he5⟩ := h5
  have hE5 := he1.trans he5
  refine ra (next := ?_)
  refine ra (next := ?_)
  refine sp (fun e5 => ?_) (fun e5 => ?_)
  · have e5' : b5 = false := by simpa using e5
    refine go ?_
    refine ret2 ⟨nilv, [], 1, rfl, .inr ⟨fun h => ?_, rfl, rfl⟩, hE5, (Fr.nilR _ _).ints⟩
    rw [hb5.2 h.1] at e5'; cases e5'
  have hA := hb5.1 (by simpa using e5)
  have hA' := hA
  obtain ⟨hG, hlen, hGq, hI, _⟩ := hA'
  haveI : ConAll p := ⟨hG.con⟩
  haveI : ConAll q := ⟨hGq.con⟩
  have hv := hG.valid
  have hn6 := hv.n6
  have hq6 := hGq.valid.n6
  obtain ⟨ys, hys⟩ := els_inR hI
  have hyl : ys.length = p.n := by rw [← hlen, hys]; simp
  refine go ?_
  refine rc (l10Element_ok (p := q) (xs := xs) hGq.valid) (next := fun v6 w6 h6 => ?_)
  obtain ⟨b6, rfl, hb6, he6⟩ := h6
  have hE6 := hE5.trans he6
  refine go ?_
  refine c_b (fun e6 => ?_) (fun e6 => ?_)
  · refine go ?_
    refine ret2 ⟨nilv, [], 1, rfl, .inr ⟨fun h => ?_, rfl, rfl⟩, hE6, (Fr.nilR _ _).ints⟩
    rw [hb6.2 h.2] at e6; cases e6
  have hX := hb6.1 (by simpa using e6)
  have hXl := hX.len
  obtain ⟨hoe, ho1, ho2⟩ := ordN_rng p
  refine go ?_
  refine r_for (ordN p) (fun k ρ w' => Has ρ [(1, vx), (2, .pointer (some ⟨b, 0, none⟩)), (6, .int .i64 k)] ∧ Ext w6 w' ∧ ∀ j, j < k → (imgE ys (allE p j).v).v ≠ xs) ?_ ?_
  · refine ⟨?_, Ext.refl _, fun j hj => by omega⟩
    exact hasP
  rintro k ρ wa hk ⟨hH, hea, hIa⟩
  refine rwp_has hH fun ρ0 => ?_
  have hEa := hE6.trans hea
  refine go ?_
  refine rc (l10Order_ok (p := p) hv) (next := fun v7 w7 h7 => ?_)
  obtain ⟨rfl, he7⟩ := h7
  rw [hoe]
  have hE7 := hEa.trans he7
  refine go ?_
  refine c_if (fun h8 => ?_) (fun h8 => ?_)
  · have hkn : k < ordN p := by omega
    refine go ?_
    refine rc (l10At_ok (p := p) (t := k) (by omega)) (next := fun v8 w8 h9 => ?_)
    obtain ⟨he8, hf8⟩ := h9
    have hi8 := hf8.ints
    have hE8 := hE7.trans he8
    have hix := (allE p k).inr
    have hixl := hix.len
    refine go ?_
    refine rc (l16Apply_ok (q := q) (ys := ys) (x := (allE p k).v) (by omega) (by omega) (inr_small hv hix) hys rfl) (next := fun v9 w9 h10 => ?_)
    obtain ⟨he9, hf9⟩ := h10
    have hi9 := hf9.ints
    have hil : (imgE ys (allE p k).v).v.length = q.n := (imgE ys (allE p k).v).inr.len
    refine go ?_
    refine rc (l01Same_ok (xs := (imgE ys (allE p k).v).v) (ys := xs) (by omega)) (next := fun v10 w10 h11 => ?_)
    obtain ⟨b10, rfl, hb10, he10⟩ := h11
    refine go ?_
    refine c_b (fun e10 => ?_) (fun e10 => ?_)
    · refine go ?_
      exact ret2 ⟨v8, _, 0, rfl, .inl ⟨⟨hA, hX⟩, ⟨inferInstance, inferInstance, ys, hys, .inr ⟨k, hkn, hb10.1 e10, hIa, rfl, rfl⟩⟩⟩, (hE8.trans he9).trans he10, ((hf8.ext' (he9.trans he10)).mono hE7.size).ints⟩
    · refine go ?_
      refine forQ_normal (by omega) ⟨?_, hea.trans (((he7.trans he8).trans he9).trans he10), fun j hj => ?_⟩
      · exact hasP
      · by_cases e : j = k
        · subst e; exact fun h => by rw [hb10.2 h] at e10; cases e10
        · exact hIa j (by omega)
  · obtain rfl : k = ordN p := by omega
    refine go ?_
    exact ret2 ⟨nilv, [], 4, rfl, .inl ⟨⟨hA, hX⟩, ⟨inferInstance, inferInstance, ys, hys, .inl ⟨hIa, rfl, rfl⟩⟩⟩, hE7, (Fr.nilR _ _).ints⟩
end Go.Proofs.Ytbmmiccheeifbaa

/-
  More rules: function values that capture variables; variables of one cell.
  Conditions: none; nothing of the program stands here.
-/
namespace Go.Pc
open Go Go.RowKit
section
variable {P : Program} {N : Nat} {ops : Array Oper} {K : Env → World → Prop} {ρ : Env} {w : World} {l : List Oper}
variable {ty : TypeId} {pos : String} {after : Array Edge} {g : Option (Nat × Bool)} {d : Nat}
theorem cl_clo {f : FuncId} {x : Operand} {xs : Array Operand} {ats : Array TypeId} {args caps : Array Value} [hf : FnT P f] (hx : ev ρ x = .func (.func f) #[] caps) (ha : xs.map (ev ρ) ++ caps = args) :
    Cl P (.call { callee := .value x, args := xs, argTypes := ats }) ty ρ f args := by
  constructor; intro w _ _ _ _
  obtain ⟨fn, c, h1, h2, h3⟩ := hf.ex
  simp [execOp, resolve, hx, Deferred.ofValue, invoke, callFunc, h1, h2, h3, ha]
theorem rd_makeFunc {f : FuncId} {xs : Array Operand} {caps : Array Value} (h : xs.map (ev ρ) = caps) : Rd P (.makeFunc (.func f) #[] xs) ty ρ w (.func (.func f) #[] caps) := by
  constructor; intro _ _ _ _
  simp [execOp, Instr.makeFunc, h]
/-- A variable of one cell, of its zero value. -/
theorem st_alloc1 {t : TypeId} {bytes : Nat} {z : Value} [he : ElT P t 1 bytes z] (hz : z.cells = #[z]) (hg : Wants ops ρ g)
    (next : ∀ w' b, Ext w w' → b = w.heap.size → w'.heap.size = b + 1 → Blk w' b [z] → rops P N ops K l (put ρ d (.pointer (some ⟨b, 0, none⟩))) w') : rops P N ops K (⟨some d, .alloc t, ty, pos, after, g⟩ :: l) ρ w := by
  obtain ⟨i, hi, hs, hby, hz'⟩ := he.ex
  refine st_ex (v := .pointer (some ⟨w.heap.size, 0, none⟩)) (w' := w.alloc (.cells #[z] t)) hg ⟨fun _ _ _ _ => ?_⟩ (next _ _ (Ext.alloc _ _) rfl (by simp) (blk_alloc _ [z] _))
  simp [execOp, Instr.alloc, zeroValue, typeInfo, hi, hz', newVar, newRow, hz]
end
end Go.Pc

/-
  Answers: joins, normal closures, commutator subgroups.
  Conditions: none.
-/
namespace Go.Proofs.Ytbmmiccheeifbaa
open Go Go.Pc
def JoinV (p : Pr) (xss yss r : List (List Int)) (e : Int) : Prop := (∃ (_ : ConAll p) (ys zs : List (El p)), xss = vecs ys ∧ yss = vecs zs ∧ r = canon (Gen (fun a : El p => a ∈ ys ++ zs))) ∧ e = 0
theorem JoinV.uniq {p : Pr} {xss yss : List (List Int)} (a b : List (List Int)) (c d : Int) (h : JoinV p xss yss a c) (k : JoinV p xss yss b d) : a = b ∧ c = d := by
  obtain ⟨⟨hc, ys, zs, h2, h3, h4⟩, h5⟩ := h
  obtain ⟨⟨hc', ys', zs', k2, k3, k4⟩, k5⟩ := k
  obtain rfl := vecs_inj (h2.symm.trans k2)
  obtain rfl := vecs_inj (h3.symm.trans k3)
  exact ⟨by rw [h4, k4], by rw [h5, k5]⟩
def CommV (p : Pr) (xss yss r : List (List Int)) (e : Int) : Prop := (∃ (_ : ConAll p) (ys zs : List (El p)), xss = vecs ys ∧ yss = vecs zs ∧ r = canon (CommC ys zs)) ∧ e = 0
theorem CommV.uniq {p : Pr} {xss yss : List (List Int)} (a b : List (List Int)) (c d : Int) (h : CommV p xss yss a c) (k : CommV p xss yss b d) : a = b ∧ c = d := by
  obtain ⟨⟨hc, ys, zs, h2, h3, h4⟩, h5⟩ := h
  obtain ⟨⟨hc', ys', zs', k2, k3, k4⟩, k5⟩ := k
  obtain rfl := vecs_inj (h2.symm.trans k2)
  obtain rfl := vecs_inj (h3.symm.trans k3)
  exact ⟨by rw [h4, k4], by rw [h5, k5]⟩
def NclV (p : Pr) (xss r : List (List Int)) (e : Int) : Prop := (∃ (_ : ConAll p) (ys : List (El p)), xss = vecs ys ∧ r = canon (Clo (fun a : El p => a ∈ ys) (fun a : El p => a ∈ gensL p))) ∧ e = 0
theorem NclV.uniq {p : Pr} {xss : List (List Int)} (a b : List (List Int)) (c d : Int) (h : NclV p xss a c) (k : NclV p xss b d) : a = b ∧ c = d := by
  obtain ⟨⟨hc, ys, h2, h4⟩, h5⟩ := h
  obtain ⟨⟨hc', ys', k2, k4⟩, k5⟩ := k
  obtain rfl := vecs_inj (h2.symm.trans k2)
  exact ⟨by rw [h4, k4], by rw [h5, k5]⟩
theorem SubgroupJoin_sz0 {p : Pr} {xss yss r : List (List Int)} {e : Int} (_ : p.ord.length ≤ 2000000) (h : Ans (IsSubP p xss ∧ IsSubP p yss) (JoinV p xss yss) [] r e) : r.length ≤ 2000000 ∧ ∀ i, (r.getD i []).length ≤ 2000000 := by
  rcases h with ⟨⟨⟨hG, _⟩, _⟩, ⟨hc, ys, zs, _, _, rfl⟩, _⟩ | ⟨_, rfl, _⟩
  · exact canon_sz _ hG.valid.n6
  · simp
theorem CommutatorSubgroup_sz0 {p : Pr} {xss yss r : List (List Int)} {e : Int} (_ : p.ord.length ≤ 2000000) (h : Ans (IsSubP p xss ∧ IsSubP p yss) (CommV p xss yss) [] r e) : r.length ≤ 2000000 ∧ ∀ i, (r.getD i []).length ≤ 2000000 := by
  rcases h with ⟨⟨⟨hG, _⟩, _⟩, ⟨hc, ys, zs, _, _, rfl⟩, _⟩ | ⟨_, rfl, _⟩
  · exact canon_sz _ hG.valid.n6
  · simp
theorem NormalClosure_sz0 {p : Pr} {xss r : List (List Int)} {e : Int} (_ : p.ord.length ≤ 2000000) (h : Ans (IsSubP p xss) (NclV p xss) [] r e) : r.length ≤ 2000000 ∧ ∀ i, (r.getD i []).length ≤ 2000000 := by
  rcases h with ⟨⟨hG, _⟩, ⟨hc, ys, _, rfl⟩, _⟩ | ⟨_, rfl, _⟩
  · exact canon_sz _ hG.valid.n6
  · simp
end Go.Proofs.Ytbmmiccheeifbaa

/-
  More rules: lists put together ('append(u, v...)', slices.Grow), in plain and in drawn regions.
  Conditions: none; nothing of the program stands here.
-/
namespace Go.Pc
open Go Go.RowKit
section
variable {av : Nat → Prop} {e base : Nat} {w w' : World} {v v' : Value} {us vs : List Value} {xss yss : List (List Int)}
theorem RowsAp.append (h : RowsAp av w us xss) (k : RowsAp av w vs yss) : RowsAp av w (us ++ vs) (xss ++ yss) := by
  refine ⟨by simp [h.len, k.len], fun i => ?_⟩
  by_cases hi : i < us.length
  · have e1 : (us ++ vs).getD i nilv = us.getD i nilv := by simp [List.getElem?_append_left hi]
    have e2 : (xss ++ yss).getD i [] = xss.getD i [] := by simp [List.getElem?_append_left (show i < xss.length by rw [← h.len]; exact hi)]
    rw [e1, e2]; exact h.at_ i
  · have e1 : (us ++ vs).getD i nilv = vs.getD (i - us.length) nilv := by simp [List.getElem?_append_right (Nat.le_of_not_lt hi)]
    have e2 : (xss ++ yss).getD i [] = yss.getD (i - us.length) [] := by rw [h.len]; simp [List.getElem?_append_right (show xss.length ≤ i by rw [← h.len]; omega)]
    rw [e1, e2]; exact k.at_ _
/-- After an append of a whole list. -/
theorem Lst.pushs (h : Lst e base av w v us xss) (hu : RowsAp (fun g => av g ∨ v.ownBlock = some g) w vs yss)
    (ho : OwnN e base w' v' (us ++ vs)) (hg : w.grownBy w' v.ownBlock) (hv : v'.ownBlock = v.ownBlock ∨ v'.ownBlock = some w.heap.size) : Lst e base av w' v' (us ++ vs) (xss ++ yss) := by
  refine ⟨ho, ?_, fun g hg' => ?_, fun g hg' => Nat.lt_of_lt_of_le (h.bd g hg') hg.size⟩
  · have h1 : RowsAp (fun g => (av g ∨ v.ownBlock = some g) ∨ v'.ownBlock = some g) w (us ++ vs) (xss ++ yss) := by
      refine (h.rows.append hu).weak fun g hg' => ?_
      rcases hg' with hg' | hg'
      · exact .inl hg'
      · rcases hv with e | e
        · exact .inl (.inr (by rw [← e]; exact hg'))
        · rw [e] at hg'; injection hg' with hg'; exact .inr (by omega)
    refine (h1.grown hg (fun g e => .inl (.inr e))).weak fun g hg' => .inl ?_
    exact hg'.imp .inl id
  · rcases hv with e | e
    · exact h.free g (by rw [← e]; exact hg')
    · rw [e] at hg'; injection hg' with hg'
      intro ha
      have := h.bd g ha
      omega
end
section
variable {P : Program} {N : Nat} {ops : Array Oper} {π : List Nat} {K : Env → World → Prop} {ρ : Env} {w w0 w1 : World} {l : List Oper}
variable {i : Nat} {ty : TypeId} {pos : String} {after : Array Edge} {g : Option (Nat × Bool)} {d : Nat}
theorem rd_cap_nil {x : Operand} {t e : Nat} (h : ev ρ x = nilv) [ht : SlT P t e] : Rd P (.call { callee := .builtin .cap, args := #[x], argTypes := #[t] }) ty ρ w (.int .i64 0) := by
  constructor; intro _ _ _ _
  simp [execOp, resolve, invoke, builtin, h, Builtin.cap_, run_underlying ht.eq, goInt, IntWalk.i64_in]
/-- append(nil, make(.., n)...): then cut to no element. -/
theorem st_appz {t tn e bytes n : Nat} {z : Value} {s x : Operand} [ht : SlT P t e] [he : ElT P e 1 bytes z] (htn : P.underlying tn = some (.int .i64)) (hs : ev ρ s = nilv) (hx : ev ρ x = .int .i64 n) (hn : 0 < n) (hn2 : n ≤ 1000000) (hby : bytes ≤ 100) (hz : z.cells = #[z]) (hg : Wants ops ρ g)
    (next : ∀ w' v, Ext w w' → Len w' v n → Own e w.heap.size w' (cutTo v 0) [] → rops P N ops K l (put ρ d v) w') : rops P N ops K (⟨some d, .call { callee := .builtin .append, args := #[s, x], argTypes := #[t, tn] }, ty, pos, after, g⟩ :: l) ρ w := by
  obtain ⟨i, hi, hsz, hbt, hz'⟩ := he.ex
  have hb : n * i.bytes ≤ 1000000 * 100 := Nat.mul_le_mul hn2 (by omega)
  have hr := Lib.run_append_nil_zeros (P := P) w t tn ty e i z .i64 .i64 ht.eq htn hi hz' n hn (by omega) (by omega) (by omega)
  have hcap := grownCap_ge w n 0 e
  have hcm : grownCap w n 0 e ≤ maxLen := grownCap_le_maxLen w _ 0 e (by simp [maxLen]; omega)
  refine st_ex (v := .slice (some ⟨w.heap.size, 0, none⟩) n (grownCap w n 0 e)) (w' := w.drew.alloc (.cells (Builtin.zeroCells z.cells n ++ Builtin.zeroCells z.cells (grownCap w n 0 e - n)) e)) hg ⟨fun _ _ _ _ => ?_⟩ (next _ _ ((Ext.drew w).trans (Ext.alloc _ _)) ⟨⟨_, _, rfl, hcap, by simp only [maxLen] at hcm; omega, fun _ => ⟨_, rfl⟩⟩⟩ ?_)
  · simp [execOp, resolve, invoke, builtin, hs, hx, hr]
  · refine ⟨_, _, rfl, heap_alloc_new w.drew _, Nat.zero_le _, hcm, ?_, rfl⟩
    simp [size_zeroCells, hz]; omega
/-- An append to a list that is new since the drawn region began. -/
theorem d_append {s x : Operand} {t e bytes lo hi' base : Nat} {z v y : Value} {us news : List Value} [ht : SlT P t e] [he : ElT P e 1 bytes z] [hv : OwnN e base w v us] [hy : Sl lo hi' w y news] (hi : opAt ops π i = some ⟨some d, .call { callee := .builtin .append, args := #[s, x], argTypes := #[t, t] }, ty, pos, after, g⟩ := by exact rfl)
    (hs : ev ρ s = v) (hx : ev ρ x = y) (hz : z.cells.size = 1) (h1 : ∀ u ∈ news, u.oneCell' = true) (hb : (us.length + news.length) * bytes ≤ 140737488355328) (hl : us.length + news.length ≤ maxLen) (hbase : base ≤ w.heap.size) (hvb : ∀ g, v.ownBlock = some g → w0.heap.size ≤ g)
    (next : ∀ v' w', OwnN e base w' v' (us ++ news) → w.grownBy w' v.ownBlock → (v'.ownBlock = v.ownBlock ∨ v'.ownBlock = some w.heap.size) → dops P N ops π (Ext w0) K (i + 1) (put ρ d v') w')
    (hn : nextOk ops π i = true := by decide +kernel) (hd : d < N := by decide) (hg : Wants ops ρ g := by first | exact True.intro | exact ⟨_, rfl, by ((try simp only [ev_tmp, ev_const, ev_func, get_put, get_args, get_putL, get_putL_nil, Nat.reduceEqDiff, reduceIte, List.getD_cons_zero, List.getD_cons_succ, List.getD_nil, Bool.not_true, Bool.not_false]); first | done | with_reducible rfl)⟩) :
    dops P N ops π (Ext w0) K i ρ w := by
  obtain ⟨v', w', hrun, h2, h3, h4⟩ := run_append (P := P) (ty := ty) ht.eq he hz hv hy h1 hb hl hbase
  have hex : Ex P (.call { callee := .builtin .append, args := #[s, x], argTypes := #[t, t] }) ty ρ w v' w' := by
    constructor; intro _ _ _ _
    simp [execOp, resolve, invoke, builtin, hs, hx, hrun]
  exact dt_ex hi hn hd hg hex (fun hS => hS.app h3 hvb) (next v' w' h2 h3 h4)
end
end Go.Pc

/-
  Walks: the program's slices.Concat, closure under conjugation, commutator subgroup; SubgroupJoin, NormalClosure, CommutatorSubgroup.
  Conditions: stated at each theorem.
-/
namespace Go.Proofs.Ytbmmiccheeifbaa
open Go Go.Pc
theorem SeqAt.ext {p : Pr} {bs b0 base : Nat} {av : Nat → Prop} {w w' : World} {vp vb : Value} {t : Tab p} (h : SeqAt bs b0 base av w vp vb t) (x : Ext w w') : SeqAt bs b0 base av w' vp vb t := by
  obtain ⟨c0, c1, hn, ho, us, hL, hnil⟩ := h
  exact ⟨c0.same (x.same _ _) x.size, c1.same (x.same _ _) x.size, hn, ho, us, hL.ext x, hnil⟩
theorem canonicalM_ok {p : Pr} [hcon : ConAll p] {t : Tab p} (hf : Full t) {av : Nat → Prop} {base bs b0 : Nat} {w : World} {vp vb : Value} {lo hi : Nat} [hp : PresP lo hi w vp p] (hq : SeqAt bs b0 base av w vp vb t) :
    Calls Try.prog 116 #[.pointer (some ⟨bs, 0, none⟩)] w (Ret fun v w' => Ext w w' ∧ ∃ rs, canon (Gen (Ents t)) = rs.map (·.2) ∧ MatO w.heap.size w'.heap.size w' v rs) :=
  Pc.Calls.ret_mono (canonicalO_ok hf hq) fun _ _ ⟨h1, rs, h2, h3, h4⟩ => ⟨h1, rs, h3, MatO.ofLst h2 h4 h2.newRows⟩
theorem canonicalG_ok {p : Pr} [hcon : ConAll p] {t : Tab p} (hf : Full t) {av : Nat → Prop} {base bs b0 : Nat} {w : World} {vp vb : Value} {lo hi : Nat} [hp : PresP lo hi w vp p] (hq : SeqAt bs b0 base av w vp vb t) :
    Calls Try.prog 116 #[.pointer (some ⟨bs, 0, none⟩)] w (Ret fun v w' => Ext w w' ∧ ∃ rs, canon (Gen (Ents t)) = rs.map (·.2) ∧ GrowL 22 w.heap.size w' v rs) :=
  Pc.Calls.ret_mono (canonicalO_ok hf hq) fun _ _ ⟨h1, rs, h2, h3, h4⟩ => ⟨h1, rs, h3, ⟨h2, h4⟩⟩
theorem flat_take {α : Type} (L : List (List α)) {k : Nat} (hk : k < L.length) : (L.take (k + 1)).flatten = (L.take k).flatten ++ L.getD k [] := by
  rw [List.take_succ_eq_append_getElem hk, List.flatten_append]; simp [hk]
theorem rows_one {lo hi : Nat} {w : World} {v : Value} {us : List Value} {xss : List (List Int)} (h : Pc.Rows lo hi w v us xss) : ∀ u ∈ us, u.oneCell' = true := by
  intro u hu
  obtain ⟨i, hi, rfl⟩ := List.getElem_of_mem hu
  have := (h.vals.at_ i).sl.one
  rwa [show us.getD i nilv = us[i] by simp [hi]] at this
end Go.Proofs.Ytbmmiccheeifbaa

/-
  Walks: the program's order, index code, transversal; Transversal.
  Conditions: stated at each theorem.
-/
namespace Go.Proofs.Ytbmmiccheeifbaa
open Go Go.Pc
set_option maxHeartbeats 1000000 in
theorem orderOf_ok {p : Pr} (hv : Valid p) {w : World} {vp : Value} {lo hi : Nat} [hp : PresP lo hi w vp p] :
    Calls Try.prog 75 #[vp] w (Ret fun v w' => v = .int .i64 (ordL p (List.range p.n)) ∧ Ext w w') := by
  have hn6 := hv.n6
  have hol : p.ord.length = p.n := rfl
  have hrl : (List.range p.n).length = p.n := by simp
  obtain ⟨g, og, vo, vpw, vc, ps, cs, css, rfl, hg1, hg2, hc0, hc1, hc2, h1, h2, h3⟩ := hp.ex
  refine enter (args := [.pointer (some ⟨g, og, none⟩)]) (l := [.tmp 2]) Try.func75 rfl rfl Try.ntmps75 (by simp) ?_
  refine go ?_
  refine r_for p.n (fun k ρ w' => Has ρ [(3, .int .i64 (ordL p ((List.range p.n).take k))), (9, vo), (10, .int .i64 p.ord.length), (11, .int .i64 k)] ∧ Ext w w') ?_ ?_
  · refine ⟨?_, Ext.refl _⟩
    exact hasP
  rintro k ρ w2 hk ⟨hH, he2⟩
  refine rwp_has hH fun ρ0 => ?_
  refine go ?_
  refine c_if (fun h4 => ?_) (fun h4 => ?_)
  · have hkn : k < p.n := by omega
    have hod := hv.opos hkn
    have hr := ordL_rng hv (l := List.range p.n) (fun d hd => List.mem_range.1 hd) (by omega) (k := k) (by omega)
    have hm : 0 ≤ ordL p ((List.range p.n).take k) * p.o k ∧ ordL p ((List.range p.n).take k) * p.o k ≤ 117649 * 7 := ⟨Int.mul_nonneg (by omega) (by omega), Int.mul_le_mul hr.2 hod.2 (by omega) (by omega)⟩
    have hmb : -9223372036854775808 ≤ ordL p ((List.range p.n).take k) * p.o k ∧ ordL p ((List.range p.n).take k) * p.o k ≤ 9223372036854775807 := ⟨by omega, by omega⟩
    have hst := ordL_take (p := p) (List.range p.n) (show k < (List.range p.n).length by omega)
    rw [show (List.range p.n).getD k 0 = k by simp [hkn]] at hst
    refine go ?_
    rw [show p.ord.getD k 0 = p.o k from rfl]
    refine ra (h := rd_mul (by ((try simp only [ev_tmp, ev_const, ev_func, get_put, get_args, get_putL, get_putL_nil, Nat.reduceEqDiff, reduceIte, List.getD_cons_zero, List.getD_cons_succ, List.getD_nil]); first | done | with_reducible rfl)) (by ((try simp only [ev_tmp, ev_const, ev_func, get_put, get_args, get_putL, get_putL_nil, Nat.reduceEqDiff, reduceIte, List.getD_cons_zero, List.getD_cons_succ, List.getD_nil]); first | done | with_reducible rfl)) hmb) (next := ?_)
    refine go ?_
    refine forQ_normal (by omega) ⟨?_, he2⟩
    rw [hst]
    exact hasP
  · refine go ?_
    have e : (List.range p.n).take k = List.range p.n := by rw [show k = p.n by omega, List.take_of_length_le (by omega)]
    rw [e]
    exact ret1 ⟨rfl, he2⟩
theorem ordL_all_rng' {p : Pr} (hv : Valid p) : 1 ≤ ordL p (List.range p.n) ∧ ordL p (List.range p.n) ≤ 117649 := by
  have hn6 := hv.n6
  have h := ordL_rng hv (l := List.range p.n) (fun d hd => List.mem_range.1 hd) (by simp; omega) (k := p.n) (by simp)
  rwa [List.take_of_length_le (by simp)] at h
theorem grow_one {e b : Nat} {w0 w1 w2 : World} {v u : Value} {xs : List Int} (ho : Own e b w2 v [u]) (hb : b = w1.heap.size) (hu : Fr w0.heap.size w1 u xs) (x0 : Ext w0 w1) (x : Ext w1 w2) : GrowL e w0.heap.size w2 v [(u, xs)] := by
  have hvb := ho.toN_block
  have h0 := x0.size
  have h1 := x.size
  refine ⟨⟨ho.toN.mono (by omega), ⟨rfl, fun i => ?_⟩, fun g hg => ?_, fun g hg => by omega⟩, ?_⟩
  · cases i with
    | zero =>
      have h : IntsAp (fun g => g < w0.heap.size ∨ v.ownBlock = some g) w1 u xs := ⟨w0.heap.size, w1.heap.size, hu.ints, Nat.le_refl _, fun g hg => by
        rcases hg with hg | hg
        · exact .inl hg
        · rw [hvb] at hg; injection hg with hg; exact .inr (by omega)⟩
      exact h.ext x
    | succ i => exact IntsAp.nil _ _
  · rw [hvb] at hg; injection hg with hg; omega
  · exact ((RowsO.nil w0.heap.size w0).cons x0 (Nat.le_refl _) hu).ext x
theorem take_flatMap {α β : Type} (L : List α) (f : α → List β) (z : α) {j : Nat} (hj : j < L.length) : (L.take (j + 1)).flatMap f = (L.take j).flatMap f ++ f (L.getD j z) := by
  rw [List.take_succ_eq_append_getElem hj, List.flatMap_append]; simp [hj]
end Go.Proofs.Ytbmmiccheeifbaa

/-
  Walks: the program's element with a number, all elements, subgroups of all elements with a property; Center.
  Conditions: stated at each theorem.
-/
namespace Go.Proofs.Ytbmmiccheeifbaa
open Go Go.Pc
set_option maxHeartbeats 2000000 in
theorem elementAt_ok {p : Pr} [hc : ConAll p] {t : Nat} (ht : t ≤ 1000000) {w : World} {vp : Value} {lo hi : Nat} [hp : PresP lo hi w vp p] :
    Calls Try.prog 76 #[vp, .int .i64 t] w (Ret fun v w' => Ext w w' ∧ Fr w.heap.size w' v (allE p t).v) := by
  have hv := hc.valid
  have hn6 := hv.n6
  have hol : p.ord.length = p.n := rfl
  rw [allE_val]
  obtain ⟨l, hl⟩ : ∃ l, List.range p.n = l := ⟨_, rfl⟩
  have hll : l.length = p.n := by rw [← hl]; simp
  have hlt : ∀ d, d ∈ l → d < p.n := fun d hd => by rw [← hl] at hd; exact List.mem_range.1 hd
  have hnd : l.Nodup := by rw [← hl]; exact List.nodup_range
  have hlg : ∀ i, i < p.n → l.getD i 0 = i := fun i hi => by rw [← hl]; simp [hi]
  rw [hl]
  replace hp := hp.wide
  obtain ⟨g, og, vo, vpw, vc, ps, cs, css, rfl, hg1, hg2, hc0, hc1, hc2, h1, h2, h3⟩ := hp.ex
  refine enter (args := [.pointer (some ⟨g, og, none⟩), .int .i64 t]) (l := [.tmp 4]) Try.func76 rfl rfl Try.ntmps76 (by simp) ?_
  refine go ?_
  refine st_make_int (by ((try simp only [ev_tmp, ev_const, ev_func, get_put, get_args, get_putL, get_putL_nil, Nat.reduceEqDiff, reduceIte, List.getD_cons_zero, List.getD_cons_succ, List.getD_nil]); first | done | with_reducible rfl)) (by ((try simp only [ev_tmp, ev_const, ev_func, get_put, get_args, get_putL, get_putL_nil, Nat.reduceEqDiff, reduceIte, List.getD_cons_zero, List.getD_cons_succ, List.getD_nil]); first | done | with_reducible rfl)) (by omega) (by omega) (by first | exact True.intro | exact ⟨_, rfl, by ((try simp only [ev_tmp, ev_const, ev_func, get_put, get_args, get_putL, get_putL_nil, Nat.reduceEqDiff, reduceIte, List.getD_cons_zero, List.getD_cons_succ, List.getD_nil, Bool.not_true, Bool.not_false]); first | done | with_reducible rfl)⟩) fun w2 v2 he2 hs2 ho2 => ?_
  have hz2 := he2.size
  have hzz : List.replicate p.ord.length (0 : Int) = zeros p.n := rfl
  rw [hzz] at ho2
  have hzl := zeros_len p.n
  have ap1 : Apart 0 w.heap.size w.heap.size := ⟨.inr (Nat.le_refl _)⟩
  have hgs : g + 1 ≤ w.heap.size := by have := hc0.lt; omega
  have ap2 : Apart g (g + 1) w.heap.size := ⟨.inr hgs⟩
  refine go ?_
  refine r_for p.n (fun k ρ w' => ∃ (tk : Int) (xs : List Int), Has ρ [(0, .pointer (some ⟨g, og, none⟩)), (1, .int .i64 tk), (5, v2), (6, .int .i64 (p.n - 1 - k))] ∧ Chg w.heap.size w2 w' ∧ OwnI 2 w.heap.size w' v2 xs ∧ xs.length = p.n ∧ 0 ≤ tk ∧ tk ≤ 1000000 ∧ fillTo p l (p.n - k) tk xs = elTo p l l.length t) ?_ ?_
  · refine ⟨t, zeros p.n, ?_, Chg.refl _ _, ho2, hzl, by omega, by omega, ?_⟩
    · exact hasP
    · have := fill_eq hnd hlt (t : Int)
      rwa [hll] at this ⊢
  clear ho2
  rintro k ρ w4 hk ⟨tk, xs, hH, hch4, ho4, hxl, ht0, ht1, hfill⟩
  refine rwp_has hH fun ρ0 => ?_
  refine go ?_
  refine c_if (fun h4 => ?_) (fun h4 => ?_)
  · have hkn : k < p.n := by omega
    obtain ⟨i, hi⟩ : ∃ i, p.n - 1 - k = i := ⟨_, rfl⟩
    have hil : i < p.n := by omega
    have hcast : ((p.n : Int) - 1 - k) = (i : Int) := by omega
    have hod := hv.opos hil
    have hmod : 0 ≤ tk % p.o i ∧ tk % p.o i < p.o i := ⟨Int.emod_nonneg _ (by omega), Int.emod_lt_of_pos _ (by omega)⟩
    have hdiv : 0 ≤ tk / p.o i ∧ tk / p.o i ≤ 1000000 := ⟨Int.ediv_nonneg ht0 (by omega), Int.le_trans (Int.ediv_le_self _ ht0) ht1⟩
    have hstep : fillTo p l (p.n - (k + 1)) (tk / p.o i) (xs.set i (tk % p.o i)) = elTo p l l.length t := by
      rw [← hfill, show p.n - k = i + 1 by omega, show p.n - (k + 1) = i by omega]
      show _ = fillTo p l i (tk / p.o (l.getD i 0)) (xs.set (l.getD i 0) (tk % p.o (l.getD i 0)))
      rw [hlg i hil]
    rw [hcast]
    refine go ?_
    first
      | rw [show p.ord.getD i 0 = p.o i from rfl]
      | rw [show p.ord.getD ((i : Int).toNat) 0 = p.o i from rfl]
    refine go ?_
    refine st_store_int (h := ho4) (by ((try simp only [ev_tmp, ev_const, ev_func, get_put, get_args, get_putL, get_putL_nil, Nat.reduceEqDiff, reduceIte, List.getD_cons_zero, List.getD_cons_succ, List.getD_nil]); first | done | with_reducible rfl)) (by ((try simp only [ev_tmp, ev_const, ev_func, get_put, get_args, get_putL, get_putL_nil, Nat.reduceEqDiff, reduceIte, List.getD_cons_zero, List.getD_cons_succ, List.getD_nil]); first | done | with_reducible rfl)) ?_ (by first | exact True.intro | exact ⟨_, rfl, by ((try simp only [ev_tmp, ev_const, ev_func, get_put, get_args, get_putL, get_putL_nil, Nat.reduceEqDiff, reduceIte, List.getD_cons_zero, List.getD_cons_succ, List.getD_nil, Bool.not_true, Bool.not_false]); first | done | with_reducible rfl)⟩) fun w6 hc6 hs6 ho6 => ?_
    · omega
    have hch6 : Chg w.heap.size w2 w6 := hch4.trans hc6
    clear hch4 hc6 ho4
    refine go ?_
    first
      | rw [show p.ord.getD i 0 = p.o i from rfl]
      | rw [show p.ord.getD ((i : Int).toNat) 0 = p.o i from rfl]
    refine go ?_
    refine forQ_normal (by omega) ⟨tk / p.o i, _, ?_, hch6, ho6, by simp [hxl], hdiv.1, hdiv.2, hstep⟩
    exact hasP
  · refine go ?_
    obtain rfl : k = p.n := by omega
    rw [Nat.sub_self] at hfill
    have hx : xs = elTo p l l.length t := hfill
    refine ret1 ⟨hch4.ext he2 (Nat.le_refl _), ?_⟩
    rw [← hx]
    exact ho4.toFr (Nat.le_refl _)
set_option maxHeartbeats 2000000 in
theorem allElements_ok {p : Pr} [hc : ConAll p] {w : World} {vp : Value} {lo hi : Nat} [hp : PresP lo hi w vp p] :
    Calls Try.prog 44 #[vp] w (Ret fun v w' => Ext w w' ∧ ∃ rs, vecs ((List.range (ordN p)).map (allE p)) = rs.map (·.2) ∧ MatO w.heap.size w'.heap.size w' v rs) := by
  have hv := hc.valid
  obtain ⟨hoe, ho1, ho2⟩ := ordN_rng p
  have hpw := hp.wide
  refine enter (args := [vp]) (l := [.tmp 2]) Try.func44 rfl rfl Try.ntmps44 (by simp) ?_
  refine go ?_
  refine rc (orderOf_ok (p := p) hv) (next := fun v2 w2 h4 => ?_)
  obtain ⟨rfl, he2⟩ := h4
  rw [hoe]
  have hz2 := he2.size
  refine go ?_
  refine r_for (ordN p) (fun k ρ w' => ∃ vl rs, Has ρ [(0, vp), (3, vl), (6, .int .i64 (ordN p)), (7, .int .i64 k)] ∧ Ext w2 w' ∧ GrowL 22 w2.heap.size w' vl rs ∧ rs.map (·.2) = vecs ((List.range k).map (allE p))) ?_ ?_
  · refine ⟨nilv, [], ?_, Ext.refl _, GrowL.nil _ _ _ (Nat.le_refl _), by simp⟩
    exact hasP
  rintro k ρ w3 hk ⟨vl, rs, hH, he3, hG, hrs⟩
  refine rwp_has hH fun ρ0 => ?_
  have hz3 := he3.size
  have hrl : rs.length = k := by have := congrArg List.length hrs; simp at this; omega
  have hE3 := he2.trans he3
  refine go ?_
  refine c_if (fun h4 => ?_) (fun h4 => ?_)
  · refine go ?_
    refine rc (elementAt_ok (p := p) (t := k) (by omega)) (next := fun v4 w4 h5 => ?_)
    obtain ⟨he4, hf4⟩ := h5
    refine go ?_
    refine st_grow hG he4 hf4 hz3 (by omega) (next := fun v6 v7 w7 hG7 hx7 hz7 hgs7 => ?_)
    refine go ?_
    refine forQ_normal (by omega) ⟨v7, _, ?_, hx7 w2 (he3.trans he4) (Nat.le_refl _), hG7, ?_⟩
    · exact hasP
    · rw [List.range_succ, List.map_append, List.map_append, hrs]; simp
  · obtain rfl : k = ordN p := by omega
    refine go ?_
    exact ret1 ⟨hE3, rs, hrs.symm, hG.mat.lower hz2⟩
end Go.Proofs.Ytbmmiccheeifbaa

/-
  Walks: the program's PreimageElement.
  Conditions: stated at each theorem.
-/
namespace Go.Proofs.Ytbmmiccheeifbaa
open Go Go.Pc
set_option maxHeartbeats 2000000 in
theorem impl_PreimageElement_ok {p q : Pr} {w : World} {vh vx : Value} {xss : List (List Int)} {xs : List Int} {lo hi lo2 hi2 : Nat} [hh : HomV lo hi w vh p q xss] [hx : Ints lo2 hi2 w vx xs] (hl : p.ord.length ≤ 2000000) (hlq : q.ord.length ≤ 2000000) (hxl : xss.length ≤ 2000000) :
    Calls Try.prog 18 #[vh, vx] w (Ret fun v w' => ∃ (u : Value) (k : List Int) (e : Int), v = .tuple #[u, .int .i64 e] ∧ Ans (HomP p q xss ∧ InR q xs) (PeV p q xss xs) [] k e ∧ Ext w w' ∧ Fr w.heap.size w' u k) := by
  have hol : p.ord.length = p.n := rfl
  replace hh := hh.wide
  replace hx := hx.wide
  obtain ⟨a0, a1, a2, a3, a4, a5, a6, us, rfl, hp, hq, hi⟩ := hh.ex
  refine enter (args := [.agg #[a0, a1, a2, a3, a4, a5, a6], vx]) (l := [.tmp 4, .tmp 5]) Try.func18 rfl rfl Try.ntmps18 (by simp) ?_
  refine go ?_
  refine st_box (vs := [a0, a1, a2, a3, a4, a5, a6]) (by ((try simp only [ev_tmp, ev_const, ev_func, get_put, get_args, get_putL, get_putL_nil, Nat.reduceEqDiff, reduceIte, List.getD_cons_zero, List.getD_cons_succ, List.getD_nil]); first | done | with_reducible rfl)) (by first | exact True.intro | exact ⟨_, rfl, by ((try simp only [ev_tmp, ev_const, ev_func, get_put, get_args, get_putL, get_putL_nil, Nat.reduceEqDiff, reduceIte, List.getD_cons_zero, List.getD_cons_succ, List.getD_nil, Bool.not_true, Bool.not_false]); first | done | with_reducible rfl)⟩) fun w1 b he1 hb1 hs1 hbk => ?_
  have hB := hh.boxed he1 hbk
  have hsp := hB.src
  have htp := hB.tgt
  refine go ?_
  refine rc (isHom_ok (p := p) (q := q) (xss := xss) hl hlq hxl) (next := fun v5 w5 h5 => ?_)
  obtain ⟨b5, rfl, hb5, he5⟩ := h5
  have hE5 := he1.trans he5
  refine ra (next := ?_)
  refine ra (next := ?_)
  refine sp (fun e5 => ?_) (fun e5 => ?_)
  · have e5' : b5 = false := by simpa using e5
    refine go ?_
    refine ret2 ⟨nilv, [], 1, rfl, .inr ⟨fun h => ?_, rfl, rfl⟩, hE5, Fr.nilR _ _⟩
    rw [hb5.2 h.1] at e5'; cases e5'
  have hA := hb5.1 (by simpa using e5)
  have hA' := hA
  obtain ⟨hG, hlen, hGq, hI, _⟩ := hA'
  haveI : ConAll p := ⟨hG.con⟩
  haveI : ConAll q := ⟨hGq.con⟩
  have hv := hG.valid
  have hn6 := hv.n6
  have hq6 := hGq.valid.n6
  obtain ⟨ys, hys⟩ := els_of hI
  have hyl : ys.length = p.n := by rw [← hlen, hys]; simp
  refine go ?_
  refine rc (isExponents_ok (p := q) (xs := xs) (fun i hi => hGq.valid.opos hi) hlq) (next := fun v6 w6 h6 => ?_)
  obtain ⟨b6, rfl, hb6, he6⟩ := h6
  have hE6 := hE5.trans he6
  refine go ?_
  refine c_b (fun e6 => ?_) (fun e6 => ?_)
  · refine go ?_
    refine ret2 ⟨nilv, [], 1, rfl, .inr ⟨fun h => ?_, rfl, rfl⟩, hE6, Fr.nilR _ _⟩
    rw [hb6.2 h.2] at e6; cases e6
  have hX := hb6.1 (by simpa using e6)
  have hXl := hX.len
  obtain ⟨hoe, ho1, ho3⟩ := ordN_rng p
  refine go ?_
  refine rc (allElements_ok (p := p)) (next := fun v9 w9 h10 => ?_)
  obtain ⟨he9, rs9, hrs9, hM9⟩ := h10
  have hR9 := hM9.rows
  rw [← hrs9] at hR9
  have hE9 := hE6.trans he9
  have hz9 := he9.size
  have hvl : (vecs ((List.range (ordN p)).map (allE p))).length = ordN p := by simp
  have hrl : (rs9.map fun x : Value × List Int => x.1).length = ordN p := by rw [← hvl]; exact hR9.vals.len
  have hrl9 : rs9.length = ordN p := by simpa using hrl
  refine go ?_
  refine r_for (ordN p) (fun k ρ w' => Has ρ [(1, vx), (2, .pointer (some ⟨b, 0, none⟩)), (17, v9), (18, .int .i64 (ordN p)), (19, .int .i64 k)] ∧ Ext w9 w' ∧ ∀ j, j < k → (imgE ys (allE p j).v).v ≠ xs) ?_ ?_
  · refine ⟨?_, Ext.refl _, fun j hj => by omega⟩
    exact hasP
  rintro k ρ wa hk ⟨hH, hea, hIa⟩
  refine rwp_has hH fun ρ0 => ?_
  have hEa := hE9.trans hea
  have hRa : Pc.Rows w6.heap.size w9.heap.size wa v9 _ _ := hR9.same (hea.same _ _)
  refine go ?_
  refine c_if (fun h10 => ?_) (fun h10 => ?_)
  · have hkn : k < ordN p := by omega
    have hxk : (vecs ((List.range (ordN p)).map (allE p))).getD k [] = (allE p k).v := by
      rw [vecs_getD _ (by simpa using hkn)]; simp
    have hxi : Ints w6.heap.size w9.heap.size wa (Pc.rowAt v9 (rs9.map fun x : Value × List Int => x.1) k) (allE p k).v := by rw [← hxk]; exact hRa.vals.at_ k
    have hix := (allE p k).inr
    have hixl := hix.len
    refine go ?_
    refine rc (applyHom_ok (p := p) (q := q) (ys := ys) (x := (allE p k).v) (by omega) (by omega) (inr_smallH hv hix) hys rfl) (next := fun v10 w10 h11 => ?_)
    obtain ⟨he10, hf10⟩ := h11
    have hi10 := hf10.ints
    have hil : (imgE ys (allE p k).v).v.length = q.n := (imgE ys (allE p k).v).inr.len
    refine go ?_
    refine rc (equalI_ok (xs := (imgE ys (allE p k).v).v) (ys := xs) (by omega)) (next := fun v11 w11 h12 => ?_)
    obtain ⟨b11, rfl, hb11, he11⟩ := h12
    refine go ?_
    refine c_b (fun e10 => ?_) (fun e10 => ?_)
    · have hrow : ∃ u, Fr w6.heap.size w11 (Pc.rowAt v9 (rs9.map fun x : Value × List Int => x.1) k) u ∧ u = (allE p k).v := by
        have hk9 : k < rs9.length := by omega
        have e1 : Pc.rowAt v9 (rs9.map fun x : Value × List Int => x.1) k = (rs9[k]).1 := by simp [Pc.rowAt, hk9]
        have e2 : (rs9[k]).2 = (allE p k).v := by
          rw [← hxk, hrs9]; simp [hk9]
        refine ⟨(rs9[k]).2, ?_, e2⟩
        rw [e1]
        exact (hM9.own.fr _ (List.getElem_mem hk9)).ext' ((hea.trans he10).trans he11)
      obtain ⟨u10, hu10, rfl⟩ := hrow
      refine go ?_
      exact ret2 ⟨_, _, 0, rfl, .inl ⟨⟨hA, hX⟩, ⟨inferInstance, inferInstance, ys, hys, .inr ⟨k, hkn, hb11.1 e10, hIa, rfl, rfl⟩⟩⟩, (hEa.trans he10).trans he11, hu10.mono hE6.size⟩
    · refine go ?_
      refine forQ_normal (by omega) ⟨?_, (hea.trans he10).trans he11, fun j hj => ?_⟩
      · exact hasP
      · by_cases e : j = k
        · subst e; exact fun h => by rw [hb11.2 h] at e10; cases e10
        · exact hIa j (by omega)
  · obtain rfl : k = ordN p := by omega
    refine go ?_
    exact ret2 ⟨nilv, [], 4, rfl, .inl ⟨⟨hA, hX⟩, ⟨inferInstance, inferInstance, ys, hys, .inl ⟨hIa, rfl, rfl⟩⟩⟩, hEa, Fr.nilR _ _⟩
end Go.Proofs.Ytbmmiccheeifbaa
