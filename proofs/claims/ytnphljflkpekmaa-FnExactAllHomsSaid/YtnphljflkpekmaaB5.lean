/-
  Texts of one proof, put together by program: W47, Fun, Cat, I03, I08d, I08e, I12e, I14, I16, I19, I15, I13, I17, I18, I20, I23, Copy, I30, I31, I32, I33, I34, I36, I45, I49, L07, L08, L09, L10.
  Conditions: those told at each part.
-/
import Derived.Test.YtnphljflkpekmaaB4
import Derived.Lib.AppendZeros
import Derived.Laws.CopyRow
set_option linter.unusedVariables false
set_option linter.unusedSimpArgs false
set_option linter.unusedSectionVars false
set_option linter.constructorNameAsVariable false
set_option linter.unnecessarySimpa false
set_option linter.deprecated false
/-
  Walks: the reference's AllHoms.
  Conditions: stated at each theorem.
-/
namespace Go.Pc
open Go Go.RowKit
section
variable {P : Program} {N : Nat} {ops : Array Oper} {K : Env → World → Prop} {l : List Oper} {ρ : Env} {w : World} {d : Nat} {ty : TypeId} {pos : String} {after : Array Edge} {g : Option (Nat × Bool)}
/-- An empty list of structs of seven cells, written as a literal. -/
theorem st_slice0S {t e bytes : Nat} {z : Value} [ht : SlT P t e] [he : ElT P e 7 bytes z] (hz : z.cells.size = 7) (hg : Wants ops ρ g)
    (next : ∀ w' v, Ext w w' → w'.heap.size = w.heap.size + 1 → OwnS e w.heap.size w' v 0 [] → rops P N ops K l (put ρ d v) w') : rops P N ops K (⟨some d, .buildSlice t 0 #[], ty, pos, after, g⟩ :: l) ρ w := by
  obtain ⟨i, hi, hs, hby, hz'⟩ := he.ex
  refine st_ex (v := .slice (some ⟨w.heap.size, 0, none⟩) 0 0) (w' := w.alloc (.cells #[] e)) hg ⟨fun _ _ _ _ => ?_⟩ (next _ _ (Ext.alloc _ _) (by simp) ⟨World.ownsRow_made w #[] 0 (Nat.le_refl _) (by simp [maxLen]) (by simp)⟩)
  simp [execOp, Instr.buildSlice, run_underlying ht.eq, sizeOf, typeInfo, hi, hs, Instr.fill, newRow]
  exact congrArg (fun a => w.alloc (Obj.cells a e)) (Array.ext (by simp) fun j h1 h2 => by simp at h2)
end
end Go.Pc
namespace Go.Proofs.Ytnphljflkpekmaa
open Go Go.Pc
set_option maxHeartbeats 4000000 in
theorem spec_AllHoms_ok {p q : Pr} {w : World} {vp vq : Value} {lo hi lo1 hi1 : Nat} [hp : Pres lo hi w vp p] [hq : Pres lo1 hi1 w vq q] (hl : p.ord.length ≤ 2000000) (hlq : q.ord.length ≤ 2000000) :
    Calls Try.prog 16 #[vp, vq] w (Ret fun v w' => ∃ (u : Value) (k : List (Pr × Pr × List (List Int))) (e : Int), v = .tuple #[u, .int .i64 e] ∧ Ans (IsGrp p ∧ IsGrp q) (AhV p q) [] k e ∧ Ext w w' ∧ HomsV w.heap.size w'.heap.size w' u k) := by
  have hol : p.ord.length = p.n := rfl
  replace hp := hp.wide
  replace hq := hq.wide
  obtain ⟨vo, vpw, vc, ps, cs, css, rfl, h1, h2, h3⟩ := hp.ex
  obtain ⟨uo, upw, uc, qs, ds, dss, rfl, k1, k2, k3⟩ := hq.ex
  have hnl : ∀ {w'}, Ext w w' → HomsV w.heap.size w'.heap.size w' nilv [] := fun x => (InvS.nil 0 _ _).homs x.size
  refine enter (args := [.agg #[vo, vpw, vc], .agg #[uo, upw, uc]]) (l := [.tmp 4, .tmp 5]) Try.func16 rfl rfl Try.ntmps16 (by simp) ?_
  refine go ?_
  refine st_box3 (by ((try simp only [ev_tmp, ev_const, ev_func, get_put, get_args, get_putL, get_putL_nil, Nat.reduceEqDiff, reduceIte, List.getD_cons_zero, List.getD_cons_succ, List.getD_nil]); first | done | with_reducible rfl)) (by first | exact True.intro | exact ⟨_, rfl, by ((try simp only [ev_tmp, ev_const, ev_func, get_put, get_args, get_putL, get_putL_nil, Nat.reduceEqDiff, reduceIte, List.getD_cons_zero, List.getD_cons_succ, List.getD_nil, Bool.not_true, Bool.not_false]); first | done | with_reducible rfl)⟩) fun w0 b0 he0 hb0 hs0 ha0 ha1 ha2 => ?_
  refine go ?_
  refine st_box3 (by ((try simp only [ev_tmp, ev_const, ev_func, get_put, get_args, get_putL, get_putL_nil, Nat.reduceEqDiff, reduceIte, List.getD_cons_zero, List.getD_cons_succ, List.getD_nil]); first | done | with_reducible rfl)) (by first | exact True.intro | exact ⟨_, rfl, by ((try simp only [ev_tmp, ev_const, ev_func, get_put, get_args, get_putL, get_putL_nil, Nat.reduceEqDiff, reduceIte, List.getD_cons_zero, List.getD_cons_succ, List.getD_nil, Bool.not_true, Bool.not_false]); first | done | with_reducible rfl)⟩) fun w1 b he1 hb1 hs1 hc0 hc1 hc2 => ?_
  have hE1 := he0.trans he1
  refine go ?_
  refine rc (spec_CountHoms_ok (p := p) (q := q) hl hlq) (next := fun v5 w5 h5 => ?_)
  obtain ⟨k5, e5, rfl, ha5, he5⟩ := h5
  have hE5 := hE1.trans he5
  refine go ?_
  refine c_if (fun h6 => ?_) (fun h6 => ?_)
  · refine go ?_
    rcases ha5 with ⟨hGG, hc, ⟨h7, _, rfl⟩ | ⟨_, _, rfl⟩⟩ | ⟨hn, _, rfl⟩
    · exact ret2 ⟨nilv, [], 3, rfl, .inl ⟨hGG, hc, .inl ⟨.inl h7, rfl, rfl⟩⟩, hE5, hnl hE5⟩
    · exact absurd rfl h6
    · exact ret2 ⟨nilv, [], 1, rfl, .inr ⟨hn, rfl, rfl⟩, hE5, hnl hE5⟩
  obtain ⟨hGG, hc, hN, rfl⟩ : (IsGrp p ∧ IsGrp q) ∧ ∃ _ : ConAll q, tupC (ordN q) p.n ≤ 4096 ∧ k5 = (cntH p q (tupC (ordN q) p.n) : Nat) := by
    rcases ha5 with ⟨hGG, hc, ⟨h7, _, rfl⟩ | ⟨h7, h8, rfl⟩⟩ | ⟨hn, _, rfl⟩
    · exact absurd (by decide) h6
    · exact ⟨hGG, hc, h7, h8⟩
    · exact absurd (by decide) h6
  obtain ⟨hG, hGq⟩ := hGG
  have hn6 := hG.valid.n6
  refine go ?_
  refine c_if (fun h7 => ?_) (fun h7 => ?_)
  · refine go ?_
    exact ret2 ⟨nilv, [], 3, rfl, .inl ⟨⟨hG, hGq⟩, hc, .inl ⟨.inr (by omega), rfl, rfl⟩⟩, hE5, hnl hE5⟩
  have hg200 : cntH p q (tupC (ordN q) p.n) ≤ 200 := by omega
  refine go ?_
  refine st_slice0S (z := _) rfl (by first | exact True.intro | exact ⟨_, rfl, by ((try simp only [ev_tmp, ev_const, ev_func, get_put, get_args, get_putL, get_putL_nil, Nat.reduceEqDiff, reduceIte, List.getD_cons_zero, List.getD_cons_succ, List.getD_nil, Bool.not_true, Bool.not_false]); first | done | with_reducible rfl)⟩) fun w6 v6 he6 hs6 ho6 => ?_
  have hE6 := hE5.trans he6
  have hz5 := hE5.size
  refine go ?_
  refine r_for (tupC (ordN q) p.n) (fun k ρ w' => ∃ (vl : Value) (ks : List (Pr × Pr × List (List Int))), Has ρ [(2, .pointer (some ⟨b0, 0, none⟩)), (3, .pointer (some ⟨b, 0, none⟩)), (8, vl), (9, .int .i64 k)] ∧ Ext w5 w' ∧ InvS 61 w5.heap.size w' vl ks ∧ ks = (imgL p q k).map fun x => (p, q, x)) ?_ ?_
  · refine ⟨v6, [], ?_, he6, ⟨[], ho6, fun i hi => absurd hi (by simp)⟩, rfl⟩
    exact hasP
  rintro k ρ w7 hk ⟨vl, ks, hH, he7, hI, hks⟩
  refine rwp_has hH fun ρ0 => ?_
  have hE7 := hE5.trans he7
  have hz7 := he7.size
  have hck : cntH p q k ≤ 4096 := Nat.le_trans (cntH_le p k) (by omega)
  have hkl : ks.length = cntH p q k := by rw [hks, List.length_map, imgL_len]
  refine go ?_
  refine rc (l16Tuples_ok (p := p) (q := q) hG.valid) (next := fun v8 w8 h8 => ?_)
  obtain ⟨rfl, he8⟩ := h8
  have hE8 := hE7.trans he8
  refine go ?_
  refine c_if (fun h9 => ?_) (fun h9 => ?_)
  · refine go ?_
    refine rc (l16Tuple_ok (q := q) (n := p.n) (t := k) (by omega) (by omega)) (next := fun v9 w9 h10 => ?_)
    obtain ⟨he9, us9, hR9⟩ := h10
    have hE9 := hE8.trans he9
    refine go ?_
    refine rc (l16Relators_ok (p := p) (q := q) hG.valid (ys := tupE q p.n k) (tupE_len _ _) rfl) (next := fun v10 w10 h11 => ?_)
    obtain ⟨b10, rfl, hb10, he10⟩ := h11
    have hE10 := hE9.trans he10
    have hx10 := (he8.trans he9).trans he10
    refine go ?_
    refine c_b (fun h11 => ?_) (fun h11 => ?_)
    · have hst := imgL_yes (hb10.1 h11)
      refine go ?_
      refine rc (l16Make_ok (p := p) (q := q) (xss := vecs (tupE q p.n k)) (valid_sz6 hG.valid) (valid_sz6 hGq.valid) ?_ (fun i => by have := vecs_len (tupE q p.n k) i; have := hGq.valid.n6; omega)) (next := fun v11 w11 h12 => ?_)
      · have := tupE_len (q := q) p.n k
        rw [show (vecs (tupE q p.n k)).length = (tupE q p.n k).length by simp [vecs]]
        omega
      obtain ⟨he11, hV11⟩ := h12
      have hV11' := hV11
      obtain ⟨u0, u1, u2, u3, u4, u5, u6, us11, rfl, hVp, hVq, hVx⟩ := hV11.ex
      obtain ⟨us, hO, hA⟩ := (hI.ext hx10).ex
      have hz10 := (he7.trans hx10).size
      have hz11 := he11.size
      have o1 := hVp.one3
      have o2 := hVq.one3
      refine go ?_
      refine st_growS (hO.ext he11) ?_ (by omega) (by omega) (fun v12 v13 w13 ho13 hx13 hz13 hst13 => ?_)
      · intro u hu
        simp only [List.mem_cons, List.not_mem_nil, or_false] at hu
        rcases hu with rfl | rfl | rfl | rfl | rfl | rfl | rfl
        · exact o1.1
        · exact o1.2.1
        · exact o1.2.2
        · exact o2.1
        · exact o2.2.1
        · exact o2.2.2
        · exact hVx.sl.one
      have hI' := InvS.push hO hA he11 hz10 hV11' ho13 rfl rfl hst13
      refine go ?_
      refine forQ_normal (by omega) ⟨v13, _, ?_, hx13 w5 ((he7.trans hx10).trans he11) (Nat.le_refl _), hI', ?_⟩
      · exact hasP
      · rw [hst, List.map_append, ← hks]; rfl
    · have hst : imgL p q (k + 1) = imgL p q k := imgL_no fun h => by rw [hb10.2 h] at h11; cases h11
      refine go ?_
      refine forQ_normal (by omega) ⟨vl, ks, ?_, he7.trans hx10, hI.ext hx10, by rw [hst]; exact hks⟩
      exact hasP
  · obtain rfl : k = tupC (ordN q) p.n := by omega
    have hI8 := hI.ext he8
    have hz8 := he8.size
    refine go ?_
    exact ret2 ⟨vl, ks, 0, rfl, .inl ⟨⟨hG, hGq⟩, hc, .inr ⟨hN, hg200, hks, rfl⟩⟩, hE8, (hI8.homs (by omega)).mono hz5 (Nat.le_refl _)⟩
end Go.Proofs.Ytnphljflkpekmaa

/-
  More rules: function values that capture variables; variables of one cell.
  Conditions: none; nothing of the program stands here.
-/
namespace Go.Pc
open Go Go.RowKit
section
variable {P : Program} {N : Nat} {ops : Array Oper} {K : Env → World → Prop} {ρ : Env} {w : World} {l : List Oper}
variable {ty : TypeId} {pos : String} {after : Array Edge} {g : Option (Nat × Bool)} {d : Nat}
end
end Go.Pc

/-
  More rules: lists put together ('append(u, v...)', slices.Grow), in plain and in drawn regions.
  Conditions: none; nothing of the program stands here.
-/
namespace Go.Pc
open Go Go.RowKit
section
variable {av : Nat → Prop} {e base : Nat} {w w' : World} {v v' : Value} {us vs : List Value} {xss yss : List (List Int)}
theorem RowsAp.append (h : RowsAp av w us xss) (k : RowsAp av w vs yss) : RowsAp av w (us ++ vs) (xss ++ yss) := by
  refine ⟨by simp [h.len, k.len], fun i => ?_⟩
  by_cases hi : i < us.length
  · have e1 : (us ++ vs).getD i nilv = us.getD i nilv := by simp [List.getElem?_append_left hi]
    have e2 : (xss ++ yss).getD i [] = xss.getD i [] := by simp [List.getElem?_append_left (show i < xss.length by rw [← h.len]; exact hi)]
    rw [e1, e2]; exact h.at_ i
  · have e1 : (us ++ vs).getD i nilv = vs.getD (i - us.length) nilv := by simp [List.getElem?_append_right (Nat.le_of_not_lt hi)]
    have e2 : (xss ++ yss).getD i [] = yss.getD (i - us.length) [] := by rw [h.len]; simp [List.getElem?_append_right (show xss.length ≤ i by rw [← h.len]; omega)]
    rw [e1, e2]; exact k.at_ _
end
section
variable {P : Program} {N : Nat} {ops : Array Oper} {π : List Nat} {K : Env → World → Prop} {ρ : Env} {w w0 w1 : World} {l : List Oper}
variable {i : Nat} {ty : TypeId} {pos : String} {after : Array Edge} {g : Option (Nat × Bool)} {d : Nat}
end
end Go.Pc

/-
  Walk: the program's check of a presentation (IsPresentation).
  Conditions: stated at each theorem.
-/
namespace Go.Proofs.Ytnphljflkpekmaa
open Go Go.Pc
theorem foldl_mono : ∀ (l : List Int) (a : Int), (∀ o ∈ l, 1 ≤ o) → 1 ≤ a → a ≤ l.foldl (· * ·) a :=
  fun l a h ha => (capMul_foldl l a h ha).2.1
theorem prod_take {l : List Int} {k : Nat} (h : ∀ o ∈ l, 1 ≤ o) : 1 ≤ (l.take k).foldl (· * ·) 1 ∧ (l.take k).foldl (· * ·) 1 ≤ l.foldl (· * ·) 1 := by
  have h1 := foldl_mono (l.take k) 1 (fun o ho => h o (List.mem_of_mem_take ho)) (by omega)
  have h2 := foldl_mono (l.drop k) ((l.take k).foldl (· * ·) 1) (fun o ho => h o (List.mem_of_mem_drop ho)) h1
  rw [← List.foldl_append, List.take_append_drop] at h2
  exact ⟨h1, h2⟩
set_option maxHeartbeats 2000000 in
theorem impl_IsPresentation_ok {w : World} {v : Value} {p : Pr} {lo hi : Nat} [hp : Pres lo hi w v p] (hl : p.ord.length ≤ 2000000) :
    Calls Try.prog 81 #[v] w (Ret fun v' w' => ∃ b, v' = .bool b ∧ (b = true ↔ Valid p) ∧ Ext w w') := by
  have hol : p.ord.length = p.n := rfl
  obtain ⟨vo, vpw, vc, ps, cs, css, rfl, h1, h2, h3⟩ := hp.ex
  refine enter (args := [.agg #[vo, vpw, vc]]) (l := [.tmp 2]) Try.func81 rfl rfl Try.ntmps81 (by simp) ?_
  refine go ?_
  refine st_box3 (by ((try simp only [ev_tmp, ev_const, ev_func, get_put, get_args, get_putL, get_putL_nil, Nat.reduceEqDiff, reduceIte, List.getD_cons_zero, List.getD_cons_succ, List.getD_nil]); first | done | with_reducible rfl)) (by first | exact True.intro | exact ⟨_, rfl, by ((try simp only [ev_tmp, ev_const, ev_func, get_put, get_args, get_putL, get_putL_nil, Nat.reduceEqDiff, reduceIte, List.getD_cons_zero, List.getD_cons_succ, List.getD_nil, Bool.not_true, Bool.not_false]); first | done | with_reducible rfl)⟩) fun w1 b he1 hb1 hs1 hc0 hc1 hc2 => ?_
  have no : ∀ {w' : World}, ¬ Valid p → Ext w w' → ∃ b, Value.bool false = .bool b ∧ (b = true ↔ Valid p) ∧ Ext w w' := fun h he => ⟨_, rfl, by simp [h], he⟩
  have hpp := hp.boxed he1 hc0 hc1 hc2
  refine go ?_
  refine spd (fun hn => ?_) (fun hn => ?_)
  · refine go ?_
    exact ret1 (no (fun h => by have := h.n6; omega) he1)
  refine go ?_
  refine spd (fun hn2 => ?_) (fun hn2 => ?_)
  · refine go ?_
    exact ret1 (no (fun h => by have := h.lenw; omega) he1)
  refine go ?_
  refine c_if (fun hn3 => ?_) (fun hn3 => ?_)
  · refine go ?_
    exact ret1 (no (fun h => by have := h.lenc; omega) he1)
  refine go ?_
  refine r_for p.n (fun k ρ w' => Has ρ [(1, .pointer (some ⟨b, 0, none⟩)), (3, .int .i64 p.n), (4, .int .i64 ((p.ord.take k).foldl (· * ·) 1)), (30, vo), (31, .int .i64 p.n), (32, .int .i64 k)] ∧ Ext w1 w' ∧
    (p.ord.take k).foldl (· * ·) 1 ≤ 729 ∧ ∀ i, i < k → p.ord.getD i 0 = 2 ∨ p.ord.getD i 0 = 3 ∨ p.ord.getD i 0 = 5 ∨ p.ord.getD i 0 = 7) ?_ ?_
  · refine ⟨?_, Ext.refl _, by simp, fun i hi => by omega⟩
    exact hasP
  rintro k ρ w2 hk ⟨hH, he2, hpr, hpre⟩
  refine rwp_has hH fun ρ0 => ?_
  refine go ?_
  refine c_if (fun hk1 => ?_) (fun hk1 => ?_)
  · have hkn : k < p.n := by omega
    have hps : (p.ord.take (k + 1)).foldl (· * ·) 1 = (p.ord.take k).foldl (· * ·) 1 * p.ord.getD k 0 := foldl_take_succ _ _ _ _ _ hkn
    refine go ?_
    refine rc IsGroupPrime_ok (next := fun v3 w3 h3 => ?_)
    obtain ⟨b3, rfl, hb3, he3⟩ := h3
    refine go ?_
    refine sp (fun h4 => ?_) (fun h4 => ?_)
    · refine go ?_
      refine ret1 (no (fun h => ?_) ((he1.trans he2).trans he3))
      have := hb3.2 (h.prime k (by omega))
      rw [this] at h4; cases h4
    · have h5 := hb3.1 (by simpa using h4)
      have hone : 1 ≤ (p.ord.take k).foldl (· * ·) 1 := by
        refine foldl_mono _ 1 (fun o ho => ?_) (by omega)
        obtain ⟨i, hi, rfl⟩ := List.getElem_of_mem ho
        rw [List.length_take] at hi
        have := hpre i (by omega)
        simp only [List.getElem_take]
        have e : p.ord.getD i 0 = p.ord[i] := by simp [show i < p.ord.length by omega]
        rw [e] at this; omega
      have hm1 : 0 ≤ (p.ord.take k).foldl (· * ·) 1 * p.ord.getD k 0 := Int.mul_nonneg (by omega) (by omega)
      have hm2 : (p.ord.take k).foldl (· * ·) 1 * p.ord.getD k 0 ≤ 729 * 7 := Int.mul_le_mul hpr (by omega) (by omega) (by omega)
      have hmr : -9223372036854775808 ≤ (p.ord.take k).foldl (· * ·) 1 * p.ord.getD k 0 ∧ (p.ord.take k).foldl (· * ·) 1 * p.ord.getD k 0 ≤ 9223372036854775807 := by omega
      refine go ?_
      refine ra (h := rd_mul (by ((try simp only [ev_tmp, ev_const, ev_func, get_put, get_args, get_putL, get_putL_nil, Nat.reduceEqDiff, reduceIte, List.getD_cons_zero, List.getD_cons_succ, List.getD_nil]); first | done | with_reducible rfl)) (by ((try simp only [ev_tmp, ev_const, ev_func, get_put, get_args, get_putL, get_putL_nil, Nat.reduceEqDiff, reduceIte, List.getD_cons_zero, List.getD_cons_succ, List.getD_nil]); first | done | with_reducible rfl)) hmr) (next := ?_)
      refine go ?_
      refine c_if (fun h6 => ?_) (fun h6 => ?_)
      · refine go ?_
        refine ret1 (no (fun h => ?_) ((he1.trans he2).trans he3))
        have := (prod_take (k := k + 1) (fun o ho => (primes_bd h.prime o ho).1)).2
        have h8 := h.prod
        rw [hps] at this
        omega
      · refine go ?_
        refine ra (h := rd_mul (by ((try simp only [ev_tmp, ev_const, ev_func, get_put, get_args, get_putL, get_putL_nil, Nat.reduceEqDiff, reduceIte, List.getD_cons_zero, List.getD_cons_succ, List.getD_nil]); first | done | with_reducible rfl)) (by ((try simp only [ev_tmp, ev_const, ev_func, get_put, get_args, get_putL, get_putL_nil, Nat.reduceEqDiff, reduceIte, List.getD_cons_zero, List.getD_cons_succ, List.getD_nil]); first | done | with_reducible rfl)) hmr) (next := ?_)
        refine go ?_
        refine forQ_normal (by omega) ⟨?_, he2.trans he3, by rw [hps]; omega, fun i hi => ?_⟩
        · rw [hps]; exact hasP
        · by_cases e : i = k
          · subst e; exact h5
          · exact hpre i (by omega)
  · have hkn : k = p.n := by omega
    subst hkn
    have hprod : p.ord.foldl (· * ·) 1 ≤ 729 := by
      rw [← hol, List.take_length] at hpr; exact hpr
    have hbd : ∀ i, i < p.n → 2 ≤ p.o i ∧ p.o i ≤ 7 := fun i hi => by have := hpre i hi; unfold Pr.o; omega
    refine go ?_
    refine r_for p.n (fun k ρ w' => Has ρ [(1, .pointer (some ⟨b, 0, none⟩)), (3, .int .i64 p.n), (49, .int .i64 p.n), (50, .int .i64 k)] ∧ Ext w1 w' ∧ ∀ q, q < k → RowOk p q) ?_ ?_
    · refine ⟨?_, he2, fun i hi => by omega⟩
      exact hasP
    clear he2
    rintro k ρ w4 hk ⟨hH, he4, hrow⟩
    refine rwp_has hH fun ρ1 => ?_
    refine go ?_
    refine c_if (fun hk2 => ?_) (fun hk2 => ?_)
    · have hkn : k < p.n := by omega
      refine go ?_
      refine rc (tailVector_ok (p := p) (xs := p.pow.getD k []) rfl hkn hbd (by omega)) (next := fun v6 w6 h6 => ?_)
      obtain ⟨b6, rfl, hb6, he6⟩ := h6
      refine go ?_
      refine sp (fun h7 => ?_) (fun h7 => ?_)
      · refine go ?_
        refine ret1 (no (fun h => ?_) ((he1.trans he4).trans he6))
        have := hb6.2 ⟨h.w_in k hkn, h.w_zu k hkn⟩
        rw [this] at h7; cases h7
      · have h8 := exp_iff.2 (hb6.1 (by simpa using h7))
        refine go ?_
        refine c_if (fun h9 => ?_) (fun h9 => ?_)
        · refine go ?_
          refine ret1 (no (fun h => ?_) ((he1.trans he4).trans he6))
          have := ((valid_iff.1 h).2.2.2.2.2 k (by omega)).2.1
          omega
        · refine go ?_
          refine r_for (p.cnj.getD k []).length (fun m ρ w' => Has ρ [(1, .pointer (some ⟨b, 0, none⟩)), (3, .int .i64 p.n), (49, .int .i64 p.n), (50, .int .i64 k), (7, .int .i64 k), (78, Pc.rowAt vc cs k), (79, .int .i64 (p.cnj.getD k []).length), (80, .int .i64 m)] ∧ Ext w1 w' ∧ ∀ j, j < m → ExpP p.ord ((p.cnj.getD k []).getD j []) k) ?_ ?_
          · refine ⟨?_, he4.trans he6, fun i hi => by omega⟩
            exact hasP
          clear he4 he6
          rintro m ρ w7 hm ⟨hH, he7, hin⟩
          refine rwp_has hH fun ρ2 => ?_
          refine go ?_
          refine c_if (fun hm2 => ?_) (fun hm2 => ?_)
          · refine go ?_
            refine rc (tailVector_ok (p := p) (xs := (p.cnj.getD k []).getD m []) rfl hkn hbd (by omega)) (next := fun v9 w9 h9 => ?_)
            obtain ⟨b9, rfl, hb9, he9⟩ := h9
            refine go ?_
            refine c_b (fun h10 => ?_) (fun h10 => ?_)
            · refine go ?_
              refine ret1 (no (fun h => ?_) ((he1.trans he7).trans he9))
              have := hb9.2 (exp_iff.1 (((valid_iff.1 h).2.2.2.2.2 k (by omega)).2.2 m (by omega)))
              rw [this] at h10; cases h10
            · have h11 := exp_iff.2 (hb9.1 (by simpa using h10))
              refine go ?_
              refine forQ_normal (by omega) ⟨?_, he7.trans he9, fun j hj => ?_⟩
              · exact hasP
              · by_cases e : j = m
                · subst e; exact h11
                · exact hin j (by omega)
          · refine go ?_
            refine forQ_normal (by omega) ⟨?_, he7, fun q hq => ?_⟩
            · exact hasP
            · by_cases e : q = k
              · subst e
                exact ⟨h8, by omega, fun j hj => hin j (by omega)⟩
              · exact hrow q (by omega)
    · refine go ?_
      refine ret1 ⟨_, rfl, ?_, he1.trans he4⟩
      simp only [true_iff]
      exact valid_iff.2 ⟨by omega, by omega, by omega, hpre, hprod, fun q hq => hrow q (by omega)⟩
end Go.Proofs.Ytnphljflkpekmaa

/-
  Walks: the program's consistency (levelFault, consistentFrom, IsConsistent).
  Conditions: stated at each theorem.
-/
namespace Go.Proofs.Ytnphljflkpekmaa
open Go Go.Pc
def QC (p : Pr) (i : Nat) [h : Con p (i + 1)] (j k : Nat) : Prop := ∀ (hj : i < j ∧ j < p.n) (hk : i < k ∧ k < p.n), j < k → (Grp.cj (Tc h.valid hk) (Tc h.valid hj)).v = img p i (p.c j k)
def QI (p : Pr) (i : Nat) [h : Con p (i + 1)] (hi : i < p.n) (j : Nat) : Prop := ∀ (hj : i + 1 ≤ j ∧ j < p.n), rep (p.o i).toNat (img p i) (unitv p j 1) = (Grp.cj (gen h.valid (i + 1) j hj) (Tw h.valid hi)).v
theorem chk_iff2 {p : Pr} {i : Nat} [h : Con p (i + 1)] (hi : i < p.n) : Chk p i hi ↔ (∀ j, LP p i j) ∧ (∀ j k, QC p i j k) ∧ img p i (p.w i) = p.w i ∧ ∀ j, QI p i hi j := by
  constructor
  · intro hc
    refine ⟨fun j hj => congrArg T.v (hc.P j hj), fun j k hj hk hjk => congrArg T.v (hc.C j k hj hk hjk), congrArg T.v hc.F, fun j hj => ?_⟩
    have := congrArg T.v (hc.I j hj)
    rw [rep_Timg] at this
    exact this
  · rintro ⟨h1, h2, h3, h4⟩
    refine ⟨fun j hj => T.ext (h1 j hj), fun j k hj hk hjk => T.ext (h2 j k hj hk hjk), T.ext h3, fun j hj => T.ext ?_⟩
    rw [rep_Timg]
    exact h4 j hj
set_option maxHeartbeats 8000000 in
theorem levelFault_ok {p : Pr} {i : Nat} [hc : Con p (i + 1)] (hi : i < p.n) {w : World} {vp : Value} {ki : Int} {lo hi' : Nat} [hp : PresP lo hi' w vp p] (hki : ki = i) :
    Calls Try.prog 118 #[vp, .int .i64 ki] w (Ret fun v w' => ∃ k l f s : Int, v = faultV k l f s ∧ (k = 0 ↔ Chk p i hi) ∧ (k ≠ 0 → l = i) ∧ (k = 0 → l = 0 ∧ f = 0 ∧ s = 0) ∧ Ext w w') := by
  subst hki
  have hv := hc.valid
  have hn6 := hv.n6
  have hol : p.ord.length = p.n := rfl
  have hwl : p.pow.length = p.n := hv.lenw
  have hcl : p.cnj.length = p.n := hv.lenc
  have hci : (p.cnj.getD i []).length = p.n - 1 - i := hv.lenci i hi
  have hoi := hv.opos hi
  have hoe : p.o i = p.ord.getD i 0 := rfl
  obtain ⟨b, og, vo, vpw, vc, ps, cs, css, rfl, hb1, hb2, hc0, hc1, hc2, h1, h2, h3⟩ := hp.ex
  refine enter (args := [.pointer (some ⟨b, og, none⟩), .int .i64 i]) (l := [.cell 4 112]) Try.func118 rfl rfl Try.ntmps118 (by simp) ?_
  refine go ?_
  refine st_alloc (by first | exact True.intro | exact ⟨_, rfl, by ((try simp only [ev_tmp, ev_const, ev_func, get_put, get_args, get_putL, get_putL_nil, Nat.reduceEqDiff, reduceIte, List.getD_cons_zero, List.getD_cons_succ, List.getD_nil, Bool.not_true, Bool.not_false]); first | done | with_reducible rfl)⟩) fun w2 bf he2 hbf hs2 hbk => ?_
  have bad : ∀ {w3 : World} {k f s : Int}, Ext w w3 → k ≠ 0 → ¬ Chk p i hi → ∃ k' l' f' s' : Int, faultV k i f s = faultV k' l' f' s' ∧ (k' = 0 ↔ Chk p i hi) ∧ (k' ≠ 0 → l' = i) ∧ (k' = 0 → l' = 0 ∧ f' = 0 ∧ s' = 0) ∧ Ext w w3 :=
    fun he hk hn => ⟨_, _, _, _, rfl, ⟨fun h => absurd h hk, fun h => absurd h hn⟩, fun _ => rfl, fun h => absurd h hk, he⟩
  have hTcv : ∀ j (hj : i < j ∧ j < p.n), (p.cnj.getD i []).getD (j - i - 1) [] = (Tc hv hj).v := fun j hj => rfl
  refine go ?_
  refine r_for (p.n - (i + 1)) (fun k ρ w' => Has ρ [(0, .pointer (some ⟨b, og, none⟩)), (1, .int .i64 i), (4, .pointer (some ⟨bf, 0, none⟩)), (5, .int .i64 p.n), (6, .int .i64 i), (7, .int .i64 (i + 1 + k : Nat))] ∧ Ext w2 w' ∧ ∀ j, j < i + 1 + k → LP p i j) ?_ ?_
  · refine ⟨?_, Ext.refl _, fun j hj hj' => by omega⟩
    exact hasP
  rintro k ρ w3 hk ⟨hH, he3, hP⟩
  refine rwp_has hH fun ρ0 => ?_
  refine go ?_
  refine c_if (fun hj => ?_) (fun hj => ?_)
  · have hjn : i < i + 1 + k ∧ i + 1 + k < p.n := ⟨by omega, by omega⟩
    have hoj : 2 ≤ p.ord.getD (i + 1 + k) 0 ∧ p.ord.getD (i + 1 + k) 0 ≤ 7 := hv.opos hjn.2
    have hcv : (p.cnj.getD i []).getD (i + 1 + k - i - 1) [] = (Tc hv hjn).v := rfl
    refine go ?_
    refine d_order [0, 1, 2, 3, 4, 5, 6, 7, 8, 9, 10, 11, 12, 13, 14, 15, 16, 17, 18, 19, 20, 22, 23, 24, 25, 26, 27, 28, 29, 30, 21, 31, 32, 33] (h := fun w4 he4 _ => ?_)
    refine dgo ?_
    refine dce (power_ok (x := Tc hv hjn) (by omega) hcv ?_) (next := fun v5 w5 h5 => ?_)
    · omega
    obtain ⟨he5, hf5⟩ := h5
    refine dce (imageBy_ok hi (xs := p.w (i + 1 + k)) ?_ (hv.w_in _ hjn.2)) (next := fun v7 w7 h7 => ?_)
    · rfl
    obtain ⟨he7, hf7⟩ := h7
    have hlen := (Grp.pw (Tc hv hjn) (p.ord.getD (i + 1 + k) 0).toNat).inr.len
    refine dce (equalI_ok (xs := (Grp.pw (Tc hv hjn) (p.ord.getD (i + 1 + k) 0).toNat).v) (ys := img p i (p.w (i + 1 + k))) ?_) (next := fun v8 w8 h8 => ?_)
    · omega
    obtain ⟨b8, rfl, hb8, he8⟩ := h8
    have hE8 : Ext w2 w8 := (((he3.trans he4).trans he5).trans he7).trans he8
    refine dgo ?_
    refine d_end (h := ?_)
    refine go ?_
    refine c_b (fun h9 => ?_) (fun h9 => ?_)
    · refine go ?_
      refine ra (v := faultV 1 i (i + 1 + k : Nat) 0) (h := rd_build (by simp only [ev_tmp, ev_const, ev_func, get_put, get_args, get_putL, get_putL_nil, Nat.reduceEqDiff, reduceIte, List.getD_cons_zero, List.getD_cons_succ, List.getD_nil, List.map_toArray, List.map_cons, List.map_nil]; rfl) (fun _ => by kernel_rfl)) (next := ?_)
      refine st_store_agg (vs := [.int .i64 1, .int .i64 i, .int .i64 (i + 1 + k : Nat), .int .i64 0]) (cs := _) (by ((try simp only [ev_tmp, ev_const, ev_func, get_put, get_args, get_putL, get_putL_nil, Nat.reduceEqDiff, reduceIte, List.getD_cons_zero, List.getD_cons_succ, List.getD_nil]); first | done | with_reducible rfl)) (by ((try simp only [ev_tmp, ev_const, ev_func, get_put, get_args, get_putL, get_putL_nil, Nat.reduceEqDiff, reduceIte, List.getD_cons_zero, List.getD_cons_succ, List.getD_nil]); first | done | with_reducible rfl)) rfl ?_ rfl (by first | exact True.intro | exact ⟨_, rfl, by ((try simp only [ev_tmp, ev_const, ev_func, get_put, get_args, get_putL, get_putL_nil, Nat.reduceEqDiff, reduceIte, List.getD_cons_zero, List.getD_cons_succ, List.getD_nil, Bool.not_true, Bool.not_false]); first | done | with_reducible rfl)⟩) fun w9 hc9 hs9 hb9 => ?_
      · rfl
      refine go ?_
      refine retc (bad (k := 1) (f := (i + 1 + k : Nat)) (s := 0) (hc9.ext (he2.trans hE8) (by omega)) (by decide) fun h => ?_) rfl
      have := hb8.2 (((chk_iff2 hi).1 h).1 _ hjn)
      rw [this] at h9; cases h9
    · have h10 := hb8.1 (by simpa using h9)
      refine go ?_
      refine forQ_normal (by omega) ⟨?_, hE8, fun j hj => ?_⟩
      · exact hasP
      · by_cases e : j = i + 1 + k
        · subst e; exact fun _ => h10
        · exact hP j (by omega)
  refine go ?_
  have hP' : ∀ j, LP p i j := fun j => by
    by_cases e : j < i + 1 + k
    · exact hP j e
    · exact fun h => by omega
  clear hP hH hk hj
  refine r_for (p.n - (i + 1)) (fun k ρ w' => Has ρ [(0, .pointer (some ⟨b, og, none⟩)), (1, .int .i64 i), (4, .pointer (some ⟨bf, 0, none⟩)), (5, .int .i64 p.n), (6, .int .i64 i), (8, .int .i64 (i + 1 + k : Nat))] ∧ Ext w2 w' ∧ ∀ j k', j < i + 1 + k → QC p i j k') ?_ ?_
  · refine ⟨?_, he3, fun j k' hj hj' => by omega⟩
    exact hasP
  clear he3 ρ0 k
  rintro k ρ w4 hk ⟨hH, he4, hC⟩
  refine rwp_has hH fun ρ1 => ?_
  refine go ?_
  refine c_if (fun hj => ?_) (fun hj => ?_)
  · have hjn : i < i + 1 + k ∧ i + 1 + k < p.n := ⟨by omega, by omega⟩
    refine go ?_
    refine r_for (p.n - (i + 1 + k + 1)) (fun l ρ w' => Has ρ [(0, .pointer (some ⟨b, og, none⟩)), (1, .int .i64 i), (4, .pointer (some ⟨bf, 0, none⟩)), (5, .int .i64 p.n), (6, .int .i64 i), (8, .int .i64 (i + 1 + k : Nat)), (9, .int .i64 (i + 1 + k + 1 + l : Nat))] ∧ Ext w2 w' ∧ ∀ k', k' < i + 1 + k + 1 + l → QC p i (i + 1 + k) k') ?_ ?_
    · refine ⟨?_, he4, fun k' hk' h1 h2 h3 => by omega⟩
      exact hasP
    clear he4
    rintro l ρ w5 hl ⟨hH5, he5, hC5⟩
    refine rwp_has hH5 fun ρ2 => ?_
    refine go ?_
    refine c_if (fun hk2 => ?_) (fun hk2 => ?_)
    · have hkn : i < i + 1 + k + 1 + l ∧ i + 1 + k + 1 + l < p.n := ⟨by omega, by omega⟩
      have hjk : i + 1 + k < i + 1 + k + 1 + l := by omega
      have hcj := hv.lenci (i + 1 + k) hjn.2
      have hcv1 : (p.cnj.getD i []).getD (i + 1 + k - i - 1) [] = (Tc hv hjn).v := rfl
      have hcv2 : (p.cnj.getD i []).getD (i + 1 + k + 1 + l - i - 1) [] = (Tc hv hkn).v := rfl
      refine go ?_
      refine d_order [0, 1, 2, 3, 4, 5, 6, 7, 8, 9, 10, 11, 12, 13, 14, 15, 16, 17, 18, 19, 20, 21, 22, 23, 24, 25, 26, 28, 29, 30, 31, 32, 33, 34, 35, 36, 37, 38, 39, 40, 41, 42, 27, 43, 44, 45] (h := fun w6 he6 _ => ?_)
      refine dgo ?_
      refine dce (conjugate_ok (x := Tc hv hkn) (y := Tc hv hjn) (by omega) hcv2 hcv1) (next := fun v7 w7 h7 => ?_)
      obtain ⟨he7, hf7⟩ := h7
      refine dce (imageBy_ok hi (xs := p.c (i + 1 + k) (i + 1 + k + 1 + l)) ?_ (hv.c_in _ _ hjk hkn.2)) (next := fun v8 w8 h8 => ?_)
      · rfl
      obtain ⟨he8, hf8⟩ := h8
      have hlen := (Grp.cj (Tc hv hkn) (Tc hv hjn)).inr.len
      refine dce (equalI_ok (xs := (Grp.cj (Tc hv hkn) (Tc hv hjn)).v) (ys := img p i (p.c (i + 1 + k) (i + 1 + k + 1 + l))) ?_) (next := fun v9 w9 h9 => ?_)
      · omega
      obtain ⟨b9, rfl, hb9, he9⟩ := h9
      have hE9 : Ext w2 w9 := (((he5.trans he6).trans he7).trans he8).trans he9
      refine dgo ?_
      refine d_end (h := ?_)
      refine go ?_
      refine c_b (fun h10 => ?_) (fun h10 => ?_)
      · refine go ?_
        refine ra (v := faultV 2 i (i + 1 + k : Nat) (i + 1 + k + 1 + l : Nat)) (h := rd_build (by simp only [ev_tmp, ev_const, ev_func, get_put, get_args, get_putL, get_putL_nil, Nat.reduceEqDiff, reduceIte, List.getD_cons_zero, List.getD_cons_succ, List.getD_nil, List.map_toArray, List.map_cons, List.map_nil]; rfl) (fun _ => by kernel_rfl)) (next := ?_)
        refine st_store_agg (vs := [.int .i64 2, .int .i64 i, .int .i64 (i + 1 + k : Nat), .int .i64 (i + 1 + k + 1 + l : Nat)]) (cs := _) (by ((try simp only [ev_tmp, ev_const, ev_func, get_put, get_args, get_putL, get_putL_nil, Nat.reduceEqDiff, reduceIte, List.getD_cons_zero, List.getD_cons_succ, List.getD_nil]); first | done | with_reducible rfl)) (by ((try simp only [ev_tmp, ev_const, ev_func, get_put, get_args, get_putL, get_putL_nil, Nat.reduceEqDiff, reduceIte, List.getD_cons_zero, List.getD_cons_succ, List.getD_nil]); first | done | with_reducible rfl)) rfl ?_ rfl (by first | exact True.intro | exact ⟨_, rfl, by ((try simp only [ev_tmp, ev_const, ev_func, get_put, get_args, get_putL, get_putL_nil, Nat.reduceEqDiff, reduceIte, List.getD_cons_zero, List.getD_cons_succ, List.getD_nil, Bool.not_true, Bool.not_false]); first | done | with_reducible rfl)⟩) fun w10 hc10 hs10 hb10 => ?_
        · rfl
        refine go ?_
        refine retc (bad (k := 2) (f := (i + 1 + k : Nat)) (s := (i + 1 + k + 1 + l : Nat)) (hc10.ext (he2.trans hE9) (by omega)) (by decide) fun h => ?_) rfl
        have := hb9.2 (((chk_iff2 hi).1 h).2.1 _ _ hjn hkn hjk)
        rw [this] at h10; cases h10
      · have h11 := hb9.1 (by simpa using h10)
        refine go ?_
        refine forQ_normal (by omega) ⟨?_, hE9, fun k' hk' => ?_⟩
        · exact hasP
        · by_cases e : k' = i + 1 + k + 1 + l
          · subst e; exact fun _ _ _ => h11
          · exact hC5 k' (by omega)
    · refine go ?_
      refine forQ_normal (by omega) ⟨?_, he5, fun j k' hj2 => ?_⟩
      · exact hasP
      · by_cases e : j = i + 1 + k
        · subst e
          by_cases e2 : k' < i + 1 + k + 1 + l
          · exact hC5 k' e2
          · exact fun _ _ _ => by omega
        · exact hC j k' (by omega)
  refine go ?_
  have hC' : ∀ j k', QC p i j k' := fun j k' => by
    by_cases e : j < i + 1 + k
    · exact hC j k' e
    · exact fun h _ _ => by omega
  clear hC hH hk hj
  refine rc (imageBy_ok hi (xs := p.w i) ?_ (hv.w_in _ hi)) (next := fun v5 w5 h5 => ?_)
  · rfl
  obtain ⟨he5, hf5⟩ := h5
  have hlen := (img_in hv i (p.w i)).1.len
  refine go ?_
  refine rc (equalI_ok (xs := img p i (p.w i)) (ys := p.w i) ?_) (next := fun v6 w6 h6 => ?_)
  · omega
  obtain ⟨b6, rfl, hb6, he6⟩ := h6
  have hE6 : Ext w2 w6 := (he4.trans he5).trans he6
  clear he4 he5 he6 hf5
  refine go ?_
  refine c_b (fun h7 => ?_) (fun h7 => ?_)
  · refine go ?_
    refine ra (v := faultV 3 i 0 0) (h := rd_build (by simp only [ev_tmp, ev_const, ev_func, get_put, get_args, get_putL, get_putL_nil, Nat.reduceEqDiff, reduceIte, List.getD_cons_zero, List.getD_cons_succ, List.getD_nil, List.map_toArray, List.map_cons, List.map_nil]; rfl) (fun _ => by kernel_rfl)) (next := ?_)
    refine st_store_agg (vs := [.int .i64 3, .int .i64 i, .int .i64 0, .int .i64 0]) (cs := _) (by ((try simp only [ev_tmp, ev_const, ev_func, get_put, get_args, get_putL, get_putL_nil, Nat.reduceEqDiff, reduceIte, List.getD_cons_zero, List.getD_cons_succ, List.getD_nil]); first | done | with_reducible rfl)) (by ((try simp only [ev_tmp, ev_const, ev_func, get_put, get_args, get_putL, get_putL_nil, Nat.reduceEqDiff, reduceIte, List.getD_cons_zero, List.getD_cons_succ, List.getD_nil]); first | done | with_reducible rfl)) rfl ?_ rfl (by first | exact True.intro | exact ⟨_, rfl, by ((try simp only [ev_tmp, ev_const, ev_func, get_put, get_args, get_putL, get_putL_nil, Nat.reduceEqDiff, reduceIte, List.getD_cons_zero, List.getD_cons_succ, List.getD_nil, Bool.not_true, Bool.not_false]); first | done | with_reducible rfl)⟩) fun w9 hc9 hs9 hb9 => ?_
    · rfl
    refine go ?_
    refine retc (bad (k := 3) (f := 0) (s := 0) (hc9.ext (he2.trans hE6) (by omega)) (by decide) fun h => ?_) rfl
    have := hb6.2 ((chk_iff2 hi).1 h).2.2.1
    rw [this] at h7; cases h7
  have hF := hb6.1 (by simpa using h7)
  clear h7
  refine go ?_
  refine r_for (p.n - (i + 1)) (fun k ρ w' => Has ρ [(0, .pointer (some ⟨b, og, none⟩)), (1, .int .i64 i), (4, .pointer (some ⟨bf, 0, none⟩)), (5, .int .i64 p.n), (6, .int .i64 i), (10, Pc.rowAt vpw ps i), (11, .int .i64 (i + 1 + k : Nat))] ∧ Ext w2 w' ∧ ∀ j, j < i + 1 + k → QI p i hi j) ?_ ?_
  · refine ⟨?_, hE6, fun j hj h1 => by omega⟩
    exact hasP
  clear hE6
  rintro l ρ w8 hk ⟨hH, he8, hI⟩
  refine rwp_has hH fun ρ2 => ?_
  refine go ?_
  refine c_if (fun hj => ?_) (fun hj => ?_)
  · have hjn : i + 1 ≤ i + 1 + l ∧ i + 1 + l < p.n := ⟨by omega, by omega⟩
    refine go ?_
    refine rc (unitVector_ok (n := p.n) (i := i + 1 + l) rfl rfl ?_ hjn.2) (next := fun v9 w9 h9 => ?_)
    · omega
    obtain ⟨he9, hf9⟩ := h9
    have hg0 : (zeros p.n).set (i + 1 + l) 1 = unitv p (i + 1 + l) 1 := rfl
    rw [hg0] at hf9
    have hz8 := he8.size
    refine go ?_
    refine r_for (p.o i).toNat (fun q ρ w' => ∃ vx, Has ρ [(0, .pointer (some ⟨b, og, none⟩)), (1, .int .i64 i), (4, .pointer (some ⟨bf, 0, none⟩)), (5, .int .i64 p.n), (6, .int .i64 i), (10, Pc.rowAt vpw ps i), (11, .int .i64 (i + 1 + l : Nat)), (12, vx), (159, .int .i64 (p.ord.getD i 0)), (160, .int .i64 q)] ∧ Ext w8 w' ∧ Fr w8.heap.size w' vx (rep q (img p i) (unitv p (i + 1 + l) 1))) ?_ ?_
    · refine ⟨v9, ?_, he9, hf9⟩
      exact hasP
    clear he9 hf9
    rintro q ρ w10 hq ⟨vx, hH, he10, hf10⟩
    refine rwp_has hH fun ρ3 => ?_
    have hin : InR p (rep q (img p i) (unitv p (i + 1 + l) 1)) ∧ ZU (i + 1) (rep q (img p i) (unitv p (i + 1 + l) 1)) := by
      refine rep_inv (fun v => InR p v ∧ ZU (i + 1) v) (fun x _ => img_in hv i x) ⟨?_, unitv_zu p hjn.1 1⟩ q
      exact unitv_in hv (by omega) (fun h => by have := hv.opos h; omega)
    have hxi := hf10.ints
    refine go ?_
    refine c_if (fun hq2 => ?_) (fun hq2 => ?_)
    · refine go ?_
      refine rc (imageBy_ok hi (xs := rep q (img p i) (unitv p (i + 1 + l) 1)) ?_ hin.1) (next := fun v11 w11 h11 => ?_)
      · rfl
      obtain ⟨he11, hf11⟩ := h11
      refine go ?_
      refine forQ_normal (by omega) ⟨v11, ?_, he10.trans he11, hf11.mono he10.size⟩
      exact hasP
    · have hqe : q = (p.o i).toNat := by omega
      subst hqe
      refine go ?_
      refine rc (unitVector_ok (n := p.n) (i := i + 1 + l) rfl rfl ?_ hjn.2) (next := fun v11 w11 h11 => ?_)
      · omega
      obtain ⟨he11, hf11⟩ := h11
      refine go ?_
      refine rc (conjugate_ok (x := gen hv (i + 1) (i + 1 + l) hjn) (y := Tw hv hi) (xs := (zeros p.n).set (i + 1 + l) 1) (ys := p.w i) (by omega) rfl rfl) (next := fun v12 w12 h12 => ?_)
      obtain ⟨he12, hf12⟩ := h12
      have hlen2 := hin.1.len
      refine go ?_
      refine rc (equalI_ok (xs := rep (p.o i).toNat (img p i) (unitv p (i + 1 + l) 1)) (ys := (Grp.cj (gen hv (i + 1) (i + 1 + l) hjn) (Tw hv hi)).v) ?_) (next := fun v13 w13 h13 => ?_)
      · omega
      obtain ⟨b13, rfl, hb13, he13⟩ := h13
      have hE13 : Ext w2 w13 := (((he8.trans he10).trans he11).trans he12).trans he13
      refine go ?_
      refine c_b (fun h14 => ?_) (fun h14 => ?_)
      · refine go ?_
        refine ra (v := faultV 4 i (i + 1 + l : Nat) 0) (h := rd_build (by simp only [ev_tmp, ev_const, ev_func, get_put, get_args, get_putL, get_putL_nil, Nat.reduceEqDiff, reduceIte, List.getD_cons_zero, List.getD_cons_succ, List.getD_nil, List.map_toArray, List.map_cons, List.map_nil]; rfl) (fun _ => by kernel_rfl)) (next := ?_)
        refine st_store_agg (vs := [.int .i64 4, .int .i64 i, .int .i64 (i + 1 + l : Nat), .int .i64 0]) (cs := _) (by ((try simp only [ev_tmp, ev_const, ev_func, get_put, get_args, get_putL, get_putL_nil, Nat.reduceEqDiff, reduceIte, List.getD_cons_zero, List.getD_cons_succ, List.getD_nil]); first | done | with_reducible rfl)) (by ((try simp only [ev_tmp, ev_const, ev_func, get_put, get_args, get_putL, get_putL_nil, Nat.reduceEqDiff, reduceIte, List.getD_cons_zero, List.getD_cons_succ, List.getD_nil]); first | done | with_reducible rfl)) rfl ?_ rfl (by first | exact True.intro | exact ⟨_, rfl, by ((try simp only [ev_tmp, ev_const, ev_func, get_put, get_args, get_putL, get_putL_nil, Nat.reduceEqDiff, reduceIte, List.getD_cons_zero, List.getD_cons_succ, List.getD_nil, Bool.not_true, Bool.not_false]); first | done | with_reducible rfl)⟩) fun w15 hc15 hs15 hb15 => ?_
        · rfl
        refine go ?_
        refine retc (bad (k := 4) (f := (i + 1 + l : Nat)) (s := 0) (hc15.ext (he2.trans hE13) (by omega)) (by decide) fun h => ?_) rfl
        have := hb13.2 (((chk_iff2 hi).1 h).2.2.2 (i + 1 + l) hjn)
        rw [this] at h14; cases h14
      · have h15 := hb13.1 (by simpa using h14)
        refine go ?_
        refine forQ_normal (by omega) ⟨?_, hE13, fun j hj2 => ?_⟩
        · exact hasP
        · by_cases e : j = i + 1 + l
          · subst e; exact fun _ => h15
          · exact hI j (by omega)
  · refine go ?_
    refine ra (v := faultV 0 0 0 0) (h := rd_build (by rfl) (fun _ => by kernel_rfl)) (next := ?_)
    refine st_store_agg (vs := [.int .i64 0, .int .i64 0, .int .i64 0, .int .i64 0]) (cs := _) (by ((try simp only [ev_tmp, ev_const, ev_func, get_put, get_args, get_putL, get_putL_nil, Nat.reduceEqDiff, reduceIte, List.getD_cons_zero, List.getD_cons_succ, List.getD_nil]); first | done | with_reducible rfl)) (by ((try simp only [ev_tmp, ev_const, ev_func, get_put, get_args, get_putL, get_putL_nil, Nat.reduceEqDiff, reduceIte, List.getD_cons_zero, List.getD_cons_succ, List.getD_nil]); first | done | with_reducible rfl)) rfl ?_ rfl (by first | exact True.intro | exact ⟨_, rfl, by ((try simp only [ev_tmp, ev_const, ev_func, get_put, get_args, get_putL, get_putL_nil, Nat.reduceEqDiff, reduceIte, List.getD_cons_zero, List.getD_cons_succ, List.getD_nil, Bool.not_true, Bool.not_false]); first | done | with_reducible rfl)⟩) fun w15 hc15 hs15 hb15 => ?_
    · rfl
    refine go ?_
    exact retc ⟨0, 0, 0, 0, rfl, ⟨fun _ => (chk_iff2 hi).2 ⟨hP', hC', hF, fun j h1 => hI j (by omega) h1⟩, fun _ => rfl⟩, fun h => absurd rfl h, fun _ => ⟨rfl, rfl, rfl⟩, hc15.ext (he2.trans he8) (by omega)⟩ rfl
end Go.Proofs.Ytnphljflkpekmaa

/-
  Walks: the program's consistency of a presentation (consistentFrom, IsConsistent).
  Conditions: stated at each theorem.
-/
namespace Go.Proofs.Ytnphljflkpekmaa
open Go Go.Pc
theorem fault_guard : (Try.prog.eqGuardType Try.prog.depth 112) = false := by kernel_rfl
theorem fault_held : (Try.prog.stoodInHeld 112) = false := by kernel_rfl
theorem fault_fields : Try.prog.underlying 112 = some (.struct (Try.prog.fieldsOf 112)) := by simp [Program.fieldsOf, Try.underlying112]
theorem rd_eqFault {ρ : Env} {w : World} {ty : TypeId} {x y : Operand} {k l f s : Int} (h : ev ρ x = faultV k l f s) (h' : ev ρ y = faultV 0 0 0 0) :
    Rd Try.prog (.binOp .eql 112 x y 112) ty ρ w (.bool (decide (k = 0 ∧ l = 0 ∧ f = 0 ∧ s = 0))) := by
  constructor; intro _ _ _ _
  have h2 := fun d a b w => run_equalIn_int (P := Try.prog) w d 2 .i64 .i64 a b Try.underlying2
  simp [execOp, h, h', run_eqGuard_agg _ _ _ _ _ _ _ fault_guard, run_eql_struct, run_equalIn_agg _ _ _ _ _ fault_fields fault_held, Program.fieldsOf, Try.underlying112, Op.eqFields, h2, go_sem]
  by_cases hk : k = 0 <;> by_cases hl : l = 0 <;> by_cases hf : f = 0 <;> by_cases hs : s = 0 <;> simp [hk, hl, hf, hs]
set_option maxHeartbeats 1000000 in
theorem consistentFrom_ok {p : Pr} (hv : Valid p) {w : World} {vp : Value} {lo hi' : Nat} [hp : PresP lo hi' w vp p] :
    Calls Try.prog 82 #[vp] w (Ret fun v w' => ∃ i : Nat, v = .int .i64 i ∧ i ≤ p.n ∧ Levs p i ∧ (i ≠ 0 → ¬ Lev p (i - 1)) ∧ Ext w w') := by
  have hn6 := hv.n6
  have hol : p.ord.length = p.n := rfl
  obtain ⟨b, og, vo, vpw, vc, ps, cs, css, rfl, hb1, hb2, hc0, hc1, hc2, h1, h2, h3⟩ := hp.ex
  refine enter (args := [.pointer (some ⟨b, og, none⟩)]) (l := [.tmp 2]) Try.func82 rfl rfl Try.ntmps82 (by simp) ?_
  refine go ?_
  refine r_for p.n (fun k ρ w' => Has ρ [(0, .pointer (some ⟨b, og, none⟩)), (3, .int .i64 (p.n - k : Nat))] ∧ Ext w w' ∧ Levs p (p.n - k)) ?_ ?_
  · refine ⟨?_, Ext.refl _, fun j h h' => by omega⟩
    exact hasP
  rintro k ρ w3 hk ⟨hH, he3, hL⟩
  refine rwp_has hH fun ρ0 => ?_
  refine go ?_
  refine spd (fun h4 => ?_) (fun h4 => ?_)
  · obtain ⟨i, hie⟩ : ∃ i : Nat, p.n - k = i + 1 := ⟨p.n - k - 1, by omega⟩
    have hi : i < p.n := by omega
    rw [hie] at hL h4 ⊢
    have hc : Con p (i + 1) := Levs.con hv hL
    refine go ?_
    refine rc (levelFault_ok (p := p) (i := i) hi ?_) (next := fun v5 w5 h5 => ?_)
    · omega
    obtain ⟨k5, l5, f5, s5, rfl, hz, hl5, h05, he5⟩ := h5
    refine go ?_
    refine ra (v := faultV 0 0 0 0) (h := rd_build (by rfl) (fun _ => by kernel_rfl)) (next := ?_)
    refine go ?_
    refine ra (h := rd_eqFault (k := k5) (l := l5) (f := f5) (s := s5) (by ((try simp only [ev_tmp, ev_const, ev_func, get_put, get_args, get_putL, get_putL_nil, Nat.reduceEqDiff, reduceIte, List.getD_cons_zero, List.getD_cons_succ, List.getD_nil]); first | done | with_reducible rfl)) (by ((try simp only [ev_tmp, ev_const, ev_func, get_put, get_args, get_putL, get_putL_nil, Nat.reduceEqDiff, reduceIte, List.getD_cons_zero, List.getD_cons_succ, List.getD_nil]); first | done | with_reducible rfl))) (next := ?_)
    refine go ?_
    refine c_if (fun h8 => ?_) (fun h8 => ?_)
    · refine go ?_
      refine forQ_normal (by omega) ⟨?_, he3.trans he5, fun j hj hjn => ?_⟩
      · exact hasP
      · by_cases e : j = i
        · subst e; exact ⟨hc, hi, hz.1 h8.1⟩
        · exact hL j (by omega) hjn
    · refine go ?_
      refine ret1 ⟨i + 1, rfl, by omega, hL, fun _ => ?_, he3.trans he5⟩
      rintro ⟨_, _, h9⟩
      have h0 := hz.2 h9
      exact h8 ⟨h0, h05 h0⟩
  · refine go ?_
    have hkn : p.n - k = 0 := by omega
    rw [hkn] at hL ⊢
    exact ret1 ⟨0, rfl, by omega, hL, fun h => absurd rfl h, he3⟩
set_option maxHeartbeats 1000000 in
theorem impl_IsConsistent_ok {w : World} {vp : Value} {p : Pr} {lo hi' : Nat} [hp : Pres lo hi' w vp p] (hl : p.ord.length ≤ 2000000) :
    Calls Try.prog 50 #[vp] w (Ret fun v w' => ∃ b, v = .bool b ∧ (b = true ↔ IsGrp p) ∧ Ext w w') := by
  obtain ⟨vo, vpw, vc, ps, cs, css, rfl, h1, h2, h3⟩ := hp.ex
  refine enter (args := [.agg #[vo, vpw, vc]]) (l := [.tmp 2]) Try.func50 rfl rfl Try.ntmps50 (by simp) ?_
  refine go ?_
  refine st_box3 (by ((try simp only [ev_tmp, ev_const, ev_func, get_put, get_args, get_putL, get_putL_nil, Nat.reduceEqDiff, reduceIte, List.getD_cons_zero, List.getD_cons_succ, List.getD_nil]); first | done | with_reducible rfl)) (by first | exact True.intro | exact ⟨_, rfl, by ((try simp only [ev_tmp, ev_const, ev_func, get_put, get_args, get_putL, get_putL_nil, Nat.reduceEqDiff, reduceIte, List.getD_cons_zero, List.getD_cons_succ, List.getD_nil, Bool.not_true, Bool.not_false]); first | done | with_reducible rfl)⟩) fun w1 b he1 hb1 hs1 hc0 hc1 hc2 => ?_
  have hpp := hp.boxed he1 hc0 hc1 hc2
  refine go ?_
  refine rc (impl_IsPresentation_ok hl) (next := fun v5 w5 h5 => ?_)
  obtain ⟨b5, rfl, hb5, he5⟩ := h5
  refine go ?_
  refine sp (fun e5 => ?_) (fun e5 => ?_)
  · have hv := hb5.1 e5
    refine go ?_
    refine rc (consistentFrom_ok hv) (next := fun v6 w6 h6 => ?_)
    obtain ⟨i, rfl, hi, hL, hno, he6⟩ := h6
    refine go ?_
    refine ret1 ⟨_, rfl, ?_, (he1.trans he5).trans he6⟩
    rw [decide_eq_true_eq]
    constructor
    · intro h
      have : i = 0 := by omega
      subst this
      exact ⟨hv, hL⟩
    · intro h
      by_cases e : i = 0
      · omega
      · exact absurd (h.levs (i - 1) (by omega) (by omega)) (hno e)
  · refine go ?_
    refine ret1 ⟨_, rfl, ?_, he1.trans he5⟩
    simp only [Bool.false_eq_true, false_iff]
    intro h
    have := hb5.2 h.valid
    rw [e5] at this; cases this
end Go.Proofs.Ytnphljflkpekmaa

/-
  Walks: the program's test of subgroups (areSubgroups, IsSubgroup).
  Conditions: stated at each theorem.
-/
namespace Go.Proofs.Ytnphljflkpekmaa
open Go Go.Pc
theorem PresP.val {lo hi b : Nat} {w : World} {p : Pr} {vo vp vc : Value} {ps cs : List Value} {css : List (List Value)} (h1 : Ints lo hi w vo p.ord) (h2 : Pc.Rows lo hi w vp ps p.pow) (h3 : Rowss lo hi w vc cs css p.cnj) : Pres lo hi w (.agg #[vo, vp, vc]) p := ⟨⟨vo, vp, vc, ps, cs, css, rfl, h1, h2, h3⟩⟩
end Go.Proofs.Ytnphljflkpekmaa

/-
  Walks: the program's IsMember and IsSubset.
  Conditions: what the arguments read as.
-/
namespace Go.Proofs.Ytnphljflkpekmaa
open Go Go.Pc
end Go.Proofs.Ytnphljflkpekmaa

/-
  Walks: the program's generators, conjugates, conjugate subgroup, test of normality, test of elements.
  Conditions: stated at each theorem.
-/
namespace Go.Proofs.Ytnphljflkpekmaa
open Go Go.Pc
end Go.Proofs.Ytnphljflkpekmaa

/-
  Walks: the program's slices.Concat, closure under conjugation, commutator subgroup; SubgroupJoin, NormalClosure, CommutatorSubgroup.
  Conditions: stated at each theorem.
-/
namespace Go.Proofs.Ytnphljflkpekmaa
open Go Go.Pc
theorem SeqAt.ext {p : Pr} {bs b0 base : Nat} {av : Nat → Prop} {w w' : World} {vp vb : Value} {t : Tab p} (h : SeqAt bs b0 base av w vp vb t) (x : Ext w w') : SeqAt bs b0 base av w' vp vb t := by
  obtain ⟨c0, c1, hn, ho, us, hL, hnil⟩ := h
  exact ⟨c0.same (x.same _ _) x.size, c1.same (x.same _ _) x.size, hn, ho, us, hL.ext x, hnil⟩
end Go.Proofs.Ytnphljflkpekmaa

/-
  Walks: the program's CosetRepresentative.
  Conditions: what the arguments read as.
-/
namespace Go.Proofs.Ytnphljflkpekmaa
open Go Go.Pc
end Go.Proofs.Ytnphljflkpekmaa

/-
  Walks: the program's order of a subgroup (sizeOf, SubgroupOrder).
  Conditions: stated at each theorem.
-/
namespace Go.Proofs.Ytnphljflkpekmaa
open Go Go.Pc
end Go.Proofs.Ytnphljflkpekmaa

/-
  Walks: the program's GeneratedSubgroup, ConjugateSubgroup, IsNormalSubgroup, SubgroupIndex, SubgroupDepths.
  Conditions: what the arguments read as.
-/
namespace Go.Proofs.Ytnphljflkpekmaa
open Go Go.Pc
end Go.Proofs.Ytnphljflkpekmaa

/-
  Walks: the program's CosetNumber, MemberElement, MemberExponents.
  Conditions: what the arguments read as.
-/
namespace Go.Proofs.Ytnphljflkpekmaa
open Go Go.Pc
end Go.Proofs.Ytnphljflkpekmaa

/-
  Walks: the program's order, index code, transversal; Transversal.
  Conditions: stated at each theorem.
-/
namespace Go.Proofs.Ytnphljflkpekmaa
open Go Go.Pc
set_option maxHeartbeats 1000000 in
theorem orderOf_ok {p : Pr} (hv : Valid p) {w : World} {vp : Value} {lo hi : Nat} [hp : PresP lo hi w vp p] :
    Calls Try.prog 66 #[vp] w (Ret fun v w' => v = .int .i64 (ordL p (List.range p.n)) ∧ Ext w w') := by
  have hn6 := hv.n6
  have hol : p.ord.length = p.n := rfl
  have hrl : (List.range p.n).length = p.n := by simp
  obtain ⟨g, og, vo, vpw, vc, ps, cs, css, rfl, hg1, hg2, hc0, hc1, hc2, h1, h2, h3⟩ := hp.ex
  refine enter (args := [.pointer (some ⟨g, og, none⟩)]) (l := [.tmp 2]) Try.func66 rfl rfl Try.ntmps66 (by simp) ?_
  refine go ?_
  refine r_for p.n (fun k ρ w' => Has ρ [(3, .int .i64 (ordL p ((List.range p.n).take k))), (9, vo), (10, .int .i64 p.ord.length), (11, .int .i64 k)] ∧ Ext w w') ?_ ?_
  · refine ⟨?_, Ext.refl _⟩
    exact hasP
  rintro k ρ w2 hk ⟨hH, he2⟩
  refine rwp_has hH fun ρ0 => ?_
  refine go ?_
  refine c_if (fun h4 => ?_) (fun h4 => ?_)
  · have hkn : k < p.n := by omega
    have hod := hv.opos hkn
    have hr := ordL_rng hv (l := List.range p.n) (fun d hd => List.mem_range.1 hd) (by omega) (k := k) (by omega)
    have hm : 0 ≤ ordL p ((List.range p.n).take k) * p.o k ∧ ordL p ((List.range p.n).take k) * p.o k ≤ 117649 * 7 := ⟨Int.mul_nonneg (by omega) (by omega), Int.mul_le_mul hr.2 hod.2 (by omega) (by omega)⟩
    have hmb : -9223372036854775808 ≤ ordL p ((List.range p.n).take k) * p.o k ∧ ordL p ((List.range p.n).take k) * p.o k ≤ 9223372036854775807 := ⟨by omega, by omega⟩
    have hst := ordL_take (p := p) (List.range p.n) (show k < (List.range p.n).length by omega)
    rw [show (List.range p.n).getD k 0 = k by simp [hkn]] at hst
    refine go ?_
    rw [show p.ord.getD k 0 = p.o k from rfl]
    refine ra (h := rd_mul (by ((try simp only [ev_tmp, ev_const, ev_func, get_put, get_args, get_putL, get_putL_nil, Nat.reduceEqDiff, reduceIte, List.getD_cons_zero, List.getD_cons_succ, List.getD_nil]); first | done | with_reducible rfl)) (by ((try simp only [ev_tmp, ev_const, ev_func, get_put, get_args, get_putL, get_putL_nil, Nat.reduceEqDiff, reduceIte, List.getD_cons_zero, List.getD_cons_succ, List.getD_nil]); first | done | with_reducible rfl)) hmb) (next := ?_)
    refine go ?_
    refine forQ_normal (by omega) ⟨?_, he2⟩
    rw [hst]
    exact hasP
  · refine go ?_
    have e : (List.range p.n).take k = List.range p.n := by rw [show k = p.n by omega, List.take_of_length_le (by omega)]
    rw [e]
    exact ret1 ⟨rfl, he2⟩
end Go.Proofs.Ytnphljflkpekmaa

/-
  Walks: the program's element with a number, all elements, subgroups of all elements with a property; Center.
  Conditions: stated at each theorem.
-/
namespace Go.Proofs.Ytnphljflkpekmaa
open Go Go.Pc
set_option maxHeartbeats 2000000 in
theorem elementAt_ok {p : Pr} [hc : ConAll p] {t : Nat} (ht : t ≤ 1000000) {w : World} {vp : Value} {lo hi : Nat} [hp : PresP lo hi w vp p] :
    Calls Try.prog 68 #[vp, .int .i64 t] w (Ret fun v w' => Ext w w' ∧ Fr w.heap.size w' v (allE p t).v) := by
  have hv := hc.valid
  have hn6 := hv.n6
  have hol : p.ord.length = p.n := rfl
  rw [allE_val]
  obtain ⟨l, hl⟩ : ∃ l, List.range p.n = l := ⟨_, rfl⟩
  have hll : l.length = p.n := by rw [← hl]; simp
  have hlt : ∀ d, d ∈ l → d < p.n := fun d hd => by rw [← hl] at hd; exact List.mem_range.1 hd
  have hnd : l.Nodup := by rw [← hl]; exact List.nodup_range
  have hlg : ∀ i, i < p.n → l.getD i 0 = i := fun i hi => by rw [← hl]; simp [hi]
  rw [hl]
  replace hp := hp.wide
  obtain ⟨g, og, vo, vpw, vc, ps, cs, css, rfl, hg1, hg2, hc0, hc1, hc2, h1, h2, h3⟩ := hp.ex
  refine enter (args := [.pointer (some ⟨g, og, none⟩), .int .i64 t]) (l := [.tmp 4]) Try.func68 rfl rfl Try.ntmps68 (by simp) ?_
  refine go ?_
  refine st_make_int (by ((try simp only [ev_tmp, ev_const, ev_func, get_put, get_args, get_putL, get_putL_nil, Nat.reduceEqDiff, reduceIte, List.getD_cons_zero, List.getD_cons_succ, List.getD_nil]); first | done | with_reducible rfl)) (by ((try simp only [ev_tmp, ev_const, ev_func, get_put, get_args, get_putL, get_putL_nil, Nat.reduceEqDiff, reduceIte, List.getD_cons_zero, List.getD_cons_succ, List.getD_nil]); first | done | with_reducible rfl)) (by omega) (by omega) (by first | exact True.intro | exact ⟨_, rfl, by ((try simp only [ev_tmp, ev_const, ev_func, get_put, get_args, get_putL, get_putL_nil, Nat.reduceEqDiff, reduceIte, List.getD_cons_zero, List.getD_cons_succ, List.getD_nil, Bool.not_true, Bool.not_false]); first | done | with_reducible rfl)⟩) fun w2 v2 he2 hs2 ho2 => ?_
  have hz2 := he2.size
  have hzz : List.replicate p.ord.length (0 : Int) = zeros p.n := rfl
  rw [hzz] at ho2
  have hzl := zeros_len p.n
  have ap1 : Apart 0 w.heap.size w.heap.size := ⟨.inr (Nat.le_refl _)⟩
  have hgs : g + 1 ≤ w.heap.size := by have := hc0.lt; omega
  have ap2 : Apart g (g + 1) w.heap.size := ⟨.inr hgs⟩
  refine go ?_
  refine r_for p.n (fun k ρ w' => ∃ (tk : Int) (xs : List Int), Has ρ [(0, .pointer (some ⟨g, og, none⟩)), (1, .int .i64 tk), (5, v2), (6, .int .i64 (p.n - 1 - k))] ∧ Chg w.heap.size w2 w' ∧ OwnI 2 w.heap.size w' v2 xs ∧ xs.length = p.n ∧ 0 ≤ tk ∧ tk ≤ 1000000 ∧ fillTo p l (p.n - k) tk xs = elTo p l l.length t) ?_ ?_
  · refine ⟨t, zeros p.n, ?_, Chg.refl _ _, ho2, hzl, by omega, by omega, ?_⟩
    · exact hasP
    · have := fill_eq hnd hlt (t : Int)
      rwa [hll] at this ⊢
  clear ho2
  rintro k ρ w4 hk ⟨tk, xs, hH, hch4, ho4, hxl, ht0, ht1, hfill⟩
  refine rwp_has hH fun ρ0 => ?_
  refine go ?_
  refine c_if (fun h4 => ?_) (fun h4 => ?_)
  · have hkn : k < p.n := by omega
    obtain ⟨i, hi⟩ : ∃ i, p.n - 1 - k = i := ⟨_, rfl⟩
    have hil : i < p.n := by omega
    have hcast : ((p.n : Int) - 1 - k) = (i : Int) := by omega
    have hod := hv.opos hil
    have hmod : 0 ≤ tk % p.o i ∧ tk % p.o i < p.o i := ⟨Int.emod_nonneg _ (by omega), Int.emod_lt_of_pos _ (by omega)⟩
    have hdiv : 0 ≤ tk / p.o i ∧ tk / p.o i ≤ 1000000 := ⟨Int.ediv_nonneg ht0 (by omega), Int.le_trans (Int.ediv_le_self _ ht0) ht1⟩
    have hstep : fillTo p l (p.n - (k + 1)) (tk / p.o i) (xs.set i (tk % p.o i)) = elTo p l l.length t := by
      rw [← hfill, show p.n - k = i + 1 by omega, show p.n - (k + 1) = i by omega]
      show _ = fillTo p l i (tk / p.o (l.getD i 0)) (xs.set (l.getD i 0) (tk % p.o (l.getD i 0)))
      rw [hlg i hil]
    rw [hcast]
    refine go ?_
    first
      | rw [show p.ord.getD i 0 = p.o i from rfl]
      | rw [show p.ord.getD ((i : Int).toNat) 0 = p.o i from rfl]
    refine go ?_
    refine st_store_int (h := ho4) (by ((try simp only [ev_tmp, ev_const, ev_func, get_put, get_args, get_putL, get_putL_nil, Nat.reduceEqDiff, reduceIte, List.getD_cons_zero, List.getD_cons_succ, List.getD_nil]); first | done | with_reducible rfl)) (by ((try simp only [ev_tmp, ev_const, ev_func, get_put, get_args, get_putL, get_putL_nil, Nat.reduceEqDiff, reduceIte, List.getD_cons_zero, List.getD_cons_succ, List.getD_nil]); first | done | with_reducible rfl)) ?_ (by first | exact True.intro | exact ⟨_, rfl, by ((try simp only [ev_tmp, ev_const, ev_func, get_put, get_args, get_putL, get_putL_nil, Nat.reduceEqDiff, reduceIte, List.getD_cons_zero, List.getD_cons_succ, List.getD_nil, Bool.not_true, Bool.not_false]); first | done | with_reducible rfl)⟩) fun w6 hc6 hs6 ho6 => ?_
    · omega
    have hch6 : Chg w.heap.size w2 w6 := hch4.trans hc6
    clear hch4 hc6 ho4
    refine go ?_
    first
      | rw [show p.ord.getD i 0 = p.o i from rfl]
      | rw [show p.ord.getD ((i : Int).toNat) 0 = p.o i from rfl]
    refine go ?_
    refine forQ_normal (by omega) ⟨tk / p.o i, _, ?_, hch6, ho6, by simp [hxl], hdiv.1, hdiv.2, hstep⟩
    exact hasP
  · refine go ?_
    obtain rfl : k = p.n := by omega
    rw [Nat.sub_self] at hfill
    have hx : xs = elTo p l l.length t := hfill
    refine ret1 ⟨hch4.ext he2 (Nat.le_refl _), ?_⟩
    rw [← hx]
    exact ho4.toFr (Nat.le_refl _)
end Go.Proofs.Ytnphljflkpekmaa

/-
  The builtin copy into a list of the call's own; operations on literal words.
  Conditions: none; nothing of the program stands here.
-/
namespace Go.Pc
open Go Go.RowKit
section
variable {P : Program} {N : Nat} {ops : Array Oper} {π : List Nat} {K : Env → World → Prop} {ρ : Env} {w w0 : World} {l : List Oper}
variable {i : Nat} {ty : TypeId} {pos : String} {after : Array Edge} {g : Option (Nat × Bool)} {d : Nat}
theorem rd_bin {o : BinOp} {x y : Operand} {a b v : Value} {tx tyy : TypeId} (hx : ev ρ x = a) (hy : ev ρ y = b) (ho : ∀ w, (eqGuard o tx x y a b).run P w = .ok () w) (hv : ∀ w, (binOp o tx a b).run P w = .ok v w) : Rd P (.binOp o tx x y tyy) ty ρ w v := by
  constructor; intro _ _ _ _
  simp [execOp, hx, hy, hv, ho]
theorem rd_conv {x : Operand} {n m : Int} {k k' : IntKind} {src dst : TypeId} {u : TypeDesc} (hx : ev ρ x = .int k n) (hs : P.underlying src = some u) (hd : P.underlying dst = some (.int k')) (hv : k'.wrap n = m) : Rd P (.convert src dst x) ty ρ w (.int k' m) := by
  constructor; intro _ _ _ _
  simp [execOp, hx, convert, run_underlying hs, run_underlying hd, Conv.intToInt, hv]
theorem splice_take {α : Type} (L us cs : List α) {n o : Nat} (h : L.take n = us) (hn : us.length = n) (hf : o + cs.length ≤ n) : (L.take o ++ cs ++ L.drop (o + cs.length)).take n = us.take o ++ cs ++ us.drop (o + cs.length) := by
  obtain ⟨r, rfl⟩ : ∃ r, L = us ++ r := ⟨L.drop n, by rw [← h, List.take_append_drop]⟩
  have e1 : (us ++ r).take o = us.take o := List.take_append_of_le_length (by omega)
  have e2 : (us ++ r).drop (o + cs.length) = us.drop (o + cs.length) ++ r := List.drop_append_of_le_length (by omega)
  rw [e1, e2, ← List.append_assoc]
  refine List.take_left' ?_
  simp only [List.length_append, List.length_take, List.length_drop]
  omega
theorem run_copyI {t e b bytes n dl dc sl sc : Nat} {x y : Operand} {z v : Value} {a : Addr} {xs cs : List Int} [ht : SlT P t e] [he : ElT P e 1 bytes z] (ho : OwnI e b w v xs) (hx : ev ρ x = .slice (some ⟨b, n, none⟩) dl dc) (hy : ev ρ y = .slice (some a) sl sc)
    (hn : cs.length = Nat.min sl dl) (hsrc : ∀ (j : Nat) (u : Int), cs[j]? = some u → w.cell? (a.add j) = some (.int .i64 u)) (hf : n + cs.length ≤ xs.length) :
    ∃ w', Ex P (.call { callee := .builtin .copy, args := #[x, y], argTypes := #[t, t] }) ty ρ w (.int .i64 cs.length) w' ∧ Chg b w w' ∧ w'.heap.size = w.heap.size ∧ OwnI e b w' v (xs.take n ++ cs ++ xs.drop (n + cs.length)) := by
  obtain ⟨cap, cur, hv, hb, h1, h2, h3, h4⟩ := ho.own.ex
  obtain ⟨i, hi, hs, hby, hz'⟩ := he.ex
  have hml : (cs.map (Value.int .i64)).length = cs.length := by simp
  have hxl : (xs.map (Value.int .i64)).length = xs.length := by simp
  have hrun := run_copy_row (P := P) w t t ty e b n dl dc a sl sc cur e (cs.map (Value.int .i64)) ht.eq (by simp [hi, hs]) hb (by rw [hml]; exact hn) (fun j u hu => by
    rw [List.getElem?_map] at hu
    cases hj : cs[j]? with
    | none => rw [hj] at hu; cases hu
    | some k => rw [hj] at hu; injection hu with hu; rw [← hu]; exact hsrc j k hj) (by rw [hml]; omega) (fun u hu => by
    obtain ⟨k, _, rfl⟩ := List.mem_map.1 hu
    rfl)
  refine ⟨w.setRow b (cur.toList.take n ++ cs.map (Value.int .i64) ++ cur.toList.drop (n + (cs.map (Value.int .i64)).length)).toArray, ⟨fun _ _ _ _ => ?_⟩, ⟨⟨rfl, rfl, rfl, ?_, fun k hk hne => setRow_other w b k _ (fun e => hne (by simp [e]))⟩⟩, ?_, ⟨⟨cap, _, ?_, setRow_heap w b _ _ e _ hb, ?_, h2, ?_, ?_⟩⟩⟩
  · simp [execOp, resolve, invoke, builtin, hx, hy, hrun, goInt]
  · simp
  · simp
  · rw [hv]
    simp only [List.length_map, List.length_append, List.length_take, List.length_drop]
    congr 1
    omega
  · simp only [List.length_map, List.length_append, List.length_take, List.length_drop]
    omega
  · have : cur.toList.length = cap := by simpa using h3
    simp only [List.size_toArray, List.length_append, List.length_take, List.length_drop, hml]
    omega
  · rw [List.toList_toArray]
    have e1 : ((xs.take n ++ cs ++ xs.drop (n + cs.length)).map (Value.int .i64)).length = (xs.map (Value.int .i64)).length := by
      simp only [List.length_map, List.length_append, List.length_take, List.length_drop]; omega
    rw [e1, splice_take cur.toList (xs.map (Value.int .i64)) (cs.map (Value.int .i64)) h4 rfl (by rw [hml, hxl]; exact hf)]
    simp only [List.map_append, List.map_take, List.map_drop, hml]
theorem st_copyi {t e b bytes n dl dc sl sc : Nat} {x y : Operand} {z v : Value} {a : Addr} {xs cs : List Int} [ht : SlT P t e] [he : ElT P e 1 bytes z] (ho : OwnI e b w v xs) (hx : ev ρ x = .slice (some ⟨b, n, none⟩) dl dc) (hy : ev ρ y = .slice (some a) sl sc)
    (hn : cs.length = Nat.min sl dl) (hsrc : ∀ (j : Nat) (u : Int), cs[j]? = some u → w.cell? (a.add j) = some (.int .i64 u)) (hf : n + cs.length ≤ xs.length)
    (next : ∀ w', Chg b w w' → OwnI e b w' v (xs.take n ++ cs ++ xs.drop (n + cs.length)) → rops P N ops K l (put ρ d (.int .i64 cs.length)) w') (hg : Wants ops ρ g := by first | exact True.intro | exact ⟨_, rfl, by ((try simp only [ev_tmp, ev_const, ev_func, get_put, get_args, get_putL, get_putL_nil, Nat.reduceEqDiff, reduceIte, List.getD_cons_zero, List.getD_cons_succ, List.getD_nil, Bool.not_true, Bool.not_false]); first | done | with_reducible rfl)⟩) :
    rops P N ops K (⟨some d, .call { callee := .builtin .copy, args := #[x, y], argTypes := #[t, t] }, ty, pos, after, g⟩ :: l) ρ w := by
  obtain ⟨w', h1, h2, h3, h4⟩ := run_copyI (P := P) (ρ := ρ) (ty := ty) (t := t) ho hx hy hn hsrc hf
  exact st_ex hg h1 (next w' h2 h4)
theorem z_copyi {t e b bytes n dl dc sl sc : Nat} {x y : Operand} {z v : Value} {a : Addr} {xs cs : List Int} [ht : SlT P t e] [he : ElT P e 1 bytes z] (ho : OwnI e b w v xs) (hi : opAt ops π i = some ⟨some d, .call { callee := .builtin .copy, args := #[x, y], argTypes := #[t, t] }, ty, pos, after, g⟩ := by exact rfl) (hx : ev ρ x = .slice (some ⟨b, n, none⟩) dl dc) (hy : ev ρ y = .slice (some a) sl sc)
    (hn : cs.length = Nat.min sl dl) (hsrc : ∀ (j : Nat) (u : Int), cs[j]? = some u → w.cell? (a.add j) = some (.int .i64 u)) (hf : n + cs.length ≤ xs.length)
    (next : ∀ w', Chg b w w' → OwnI e b w' v (xs.take n ++ cs ++ xs.drop (n + cs.length)) → dops P N ops π (Chg b w0) K (i + 1) (put ρ d (.int .i64 cs.length)) w')
    (hn1 : nextOk ops π i = true := by decide +kernel) (hd : d < N := by decide) (hg : Wants ops ρ g := by first | exact True.intro | exact ⟨_, rfl, by ((try simp only [ev_tmp, ev_const, ev_func, get_put, get_args, get_putL, get_putL_nil, Nat.reduceEqDiff, reduceIte, List.getD_cons_zero, List.getD_cons_succ, List.getD_nil, Bool.not_true, Bool.not_false]); first | done | with_reducible rfl)⟩) :
    dops P N ops π (Chg b w0) K i ρ w := by
  obtain ⟨w', h1, h2, h3, h4⟩ := run_copyI (P := P) (ρ := ρ) (ty := ty) (t := t) ho hx hy hn hsrc hf
  exact dt_ex hi hn1 hd hg h1 (fun hS => hS.trans h2) (next w' h2 h4)
end
end Go.Pc

/-
  Walks: the program's words (slices.Reverse, invertWord, normalWord).
  Conditions: stated at each theorem.
-/
namespace Go.Proofs.Ytnphljflkpekmaa
open Go Go.Pc
theorem _root_.Go.Pc.Ex.ofRd {P : Program} {o : Op} {ty : TypeId} {ρ : Env} {w : World} {v : Value} (h : Rd P o ty ρ w v) : Ex P o ty ρ w v w := ⟨h.run⟩
set_option maxHeartbeats 2000000 in
theorem sliceReverse_ok {e b : Nat} {w : World} {v : Value} {xs : List Int} [ho : OwnI e b w v xs] (hl : xs.length ≤ 1000000) :
    Calls Try.prog 127 #[v] w (Ret fun _ w' => Chg b w w' ∧ OwnI e b w' v xs.reverse) := by
  refine enter (args := [v]) (l := []) Try.func127 rfl rfl Try.ntmps127 (by simp) ?_
  refine go ?_
  refine r_for xs.length (fun k ρ w' => ∃ ys, Has ρ [(0, v), (2, .int .i64 k), (3, .int .i64 ((xs.length : Int) - 1 - k))] ∧ Chg b w w' ∧ OwnI e b w' v ys ∧ ys.length = xs.length ∧ 2 * k ≤ xs.length ∧ (∀ t, t < k → ys.getD t 0 = xs.getD (xs.length - 1 - t) 0 ∧ ys.getD (xs.length - 1 - t) 0 = xs.getD t 0) ∧ ∀ t, k ≤ t → t + k < xs.length → ys.getD t 0 = xs.getD t 0) ?_ ?_
  · refine ⟨xs, ?_, Chg.refl _ _, ho, rfl, by omega, fun t ht => by omega, fun t _ _ => rfl⟩
    exact hasP
  clear ho
  rintro k ρ w2 hk ⟨ys, hH, hc2, ho2, hyl, hk2, hI, hJ⟩
  refine rwp_has hH fun ρ0 => ?_
  refine go ?_
  refine c_if (fun h4 => ?_) (fun h4 => ?_)
  · have hkn : 2 * k + 1 < xs.length := by omega
    obtain ⟨j, hj⟩ : ∃ j, xs.length - 1 - k = j := ⟨_, rfl⟩
    have hcast : ((xs.length : Int) - 1 - k) = (j : Int) := by omega
    have hjn : j < ys.length := by omega
    have hkn2 : k < ys.length := by omega
    have hkj : k < j := by omega
    rw [hcast]
    refine go ?_
    have hcast2 : ((xs.length : Int) - 1 - ((k + 1 : Nat) : Int)) = (j : Int) - 1 := by omega
    have hstepI : ∀ t, t < k + 1 → ((ys.set k (ys.getD j 0)).set j (ys.getD k 0)).getD t 0 = xs.getD (xs.length - 1 - t) 0 ∧ ((ys.set k (ys.getD j 0)).set j (ys.getD k 0)).getD (xs.length - 1 - t) 0 = xs.getD t 0 := fun t ht => by
      by_cases e : t = k
      · subst e
        rw [hj, Pc.getD_set_ne _ _ _ _ (by omega), Pc.getD_set_eq _ _ _ hkn2, Pc.getD_set_eq _ _ _ (by simpa using hjn)]
        exact ⟨hJ j (by omega) (by omega), hJ t (by omega) (by omega)⟩
      · rw [Pc.getD_set_ne _ _ _ _ (by omega), Pc.getD_set_ne _ _ _ _ (by omega), Pc.getD_set_ne _ _ _ _ (by omega), Pc.getD_set_ne _ _ _ _ (by omega)]
        exact hI t (by omega)
    have hstepJ : ∀ t, k + 1 ≤ t → t + (k + 1) < xs.length → ((ys.set k (ys.getD j 0)).set j (ys.getD k 0)).getD t 0 = xs.getD t 0 := fun t h1 h2 => by
      rw [Pc.getD_set_ne _ _ _ _ (by omega), Pc.getD_set_ne _ _ _ _ (by omega)]
      exact hJ t (by omega) (by omega)
    refine z_order b [0, 1, 2, 3, 4, 5, 6, 8, 9, 10, 7, 11, 12, 13, 14, 15] (h := fun w3 he3 _ => ?_)
    have hi3 : Ints b (b + 1) w3 v ys := ⟨(OwnI.ext (x := he3) (h := ho2)).own.toSl⟩
    refine zgo ?_
    refine dt_fork (π' := [0, 1, 2, 3, 4, 5, 6, 8, 9, 10, 11, 7, 12, 13, 14, 15]) (by decide) rfl rfl (by decide +kernel) ?_ ?_
    · refine dstp_ex (v := .int .i64 (ys.getD j 0)) (by exact rfl) (by decide) (by first | exact True.intro | exact ⟨_, rfl, by ((try simp only [ev_tmp, ev_const, ev_func, get_put, get_args, get_putL, get_putL_nil, Nat.reduceEqDiff, reduceIte, List.getD_cons_zero, List.getD_cons_succ, List.getD_nil, Bool.not_true, Bool.not_false]); first | done | with_reducible rfl)⟩) (Ex.ofRd (rd_load_ints (by ((try simp only [ev_tmp, ev_const, ev_func, get_put, get_args, get_putL, get_putL_nil, Nat.reduceEqDiff, reduceIte, List.getD_cons_zero, List.getD_cons_succ, List.getD_nil]); first | done | with_reducible rfl)) hjn)) id ?_
      refine dt_ex (v := .int .i64 (ys.getD k 0)) (by exact rfl) (by decide +kernel) (by decide) (by first | exact True.intro | exact ⟨_, rfl, by ((try simp only [ev_tmp, ev_const, ev_func, get_put, get_args, get_putL, get_putL_nil, Nat.reduceEqDiff, reduceIte, List.getD_cons_zero, List.getD_cons_succ, List.getD_nil, Bool.not_true, Bool.not_false]); first | done | with_reducible rfl)⟩) (Ex.ofRd (rd_load_ints (by ((try simp only [ev_tmp, ev_const, ev_func, get_put, get_args, get_putL, get_putL_nil, Nat.reduceEqDiff, reduceIte, List.getD_cons_zero, List.getD_cons_succ, List.getD_nil]); first | done | with_reducible rfl)) hkn2)) id ?_
      refine zgo ?_
      refine z_store_int (h := OwnI.ext (x := he3) (h := ho2)) (m := k) (hx := (by ((try simp only [ev_tmp, ev_const, ev_func, get_put, get_args, get_putL, get_putL_nil, Nat.reduceEqDiff, reduceIte, List.getD_cons_zero, List.getD_cons_succ, List.getD_nil]); first | done | with_reducible rfl))) (hy := (by ((try simp only [ev_tmp, ev_const, ev_func, get_put, get_args, get_putL, get_putL_nil, Nat.reduceEqDiff, reduceIte, List.getD_cons_zero, List.getD_cons_succ, List.getD_nil]); first | done | with_reducible rfl))) (hm := hkn2) (next := fun w5 hc5 hs5 ho5 => ?_)
      refine zgo ?_
      refine z_store_int (h := ho5) (m := j) (hx := (by ((try simp only [ev_tmp, ev_const, ev_func, get_put, get_args, get_putL, get_putL_nil, Nat.reduceEqDiff, reduceIte, List.getD_cons_zero, List.getD_cons_succ, List.getD_nil]); first | done | with_reducible rfl))) (hy := (by ((try simp only [ev_tmp, ev_const, ev_func, get_put, get_args, get_putL, get_putL_nil, Nat.reduceEqDiff, reduceIte, List.getD_cons_zero, List.getD_cons_succ, List.getD_nil]); first | done | with_reducible rfl))) (hm := by simpa using hjn) (next := fun w6 hc6 hs6 ho6 => ?_)
      refine z_end ?_
      refine go ?_
      refine forQ_normal (by omega) ⟨_, ?_, (hc2.grow he3).trans (hc5.trans hc6), ho6, by simp [hyl], by omega, fun t ht => ?_, fun t ht ht2 => ?_⟩
      · rw [← hcast2]
        exact hasP
      · exact hstepI t ht
      · exact hstepJ t ht ht2
    · refine dstp_ex (v := .int .i64 (ys.getD k 0)) (by exact rfl) (by decide) (by first | exact True.intro | exact ⟨_, rfl, by ((try simp only [ev_tmp, ev_const, ev_func, get_put, get_args, get_putL, get_putL_nil, Nat.reduceEqDiff, reduceIte, List.getD_cons_zero, List.getD_cons_succ, List.getD_nil, Bool.not_true, Bool.not_false]); first | done | with_reducible rfl)⟩) (Ex.ofRd (rd_load_ints (by ((try simp only [ev_tmp, ev_const, ev_func, get_put, get_args, get_putL, get_putL_nil, Nat.reduceEqDiff, reduceIte, List.getD_cons_zero, List.getD_cons_succ, List.getD_nil]); first | done | with_reducible rfl)) hkn2)) id ?_
      refine dt_ex (v := .int .i64 (ys.getD j 0)) (by exact rfl) (by decide +kernel) (by decide) (by first | exact True.intro | exact ⟨_, rfl, by ((try simp only [ev_tmp, ev_const, ev_func, get_put, get_args, get_putL, get_putL_nil, Nat.reduceEqDiff, reduceIte, List.getD_cons_zero, List.getD_cons_succ, List.getD_nil, Bool.not_true, Bool.not_false]); first | done | with_reducible rfl)⟩) (Ex.ofRd (rd_load_ints (by ((try simp only [ev_tmp, ev_const, ev_func, get_put, get_args, get_putL, get_putL_nil, Nat.reduceEqDiff, reduceIte, List.getD_cons_zero, List.getD_cons_succ, List.getD_nil]); first | done | with_reducible rfl)) hjn)) id ?_
      refine zgo ?_
      refine z_store_int (h := OwnI.ext (x := he3) (h := ho2)) (m := k) (hx := (by ((try simp only [ev_tmp, ev_const, ev_func, get_put, get_args, get_putL, get_putL_nil, Nat.reduceEqDiff, reduceIte, List.getD_cons_zero, List.getD_cons_succ, List.getD_nil]); first | done | with_reducible rfl))) (hy := (by ((try simp only [ev_tmp, ev_const, ev_func, get_put, get_args, get_putL, get_putL_nil, Nat.reduceEqDiff, reduceIte, List.getD_cons_zero, List.getD_cons_succ, List.getD_nil]); first | done | with_reducible rfl))) (hm := hkn2) (next := fun w5 hc5 hs5 ho5 => ?_)
      refine zgo ?_
      refine z_store_int (h := ho5) (m := j) (hx := (by ((try simp only [ev_tmp, ev_const, ev_func, get_put, get_args, get_putL, get_putL_nil, Nat.reduceEqDiff, reduceIte, List.getD_cons_zero, List.getD_cons_succ, List.getD_nil]); first | done | with_reducible rfl))) (hy := (by ((try simp only [ev_tmp, ev_const, ev_func, get_put, get_args, get_putL, get_putL_nil, Nat.reduceEqDiff, reduceIte, List.getD_cons_zero, List.getD_cons_succ, List.getD_nil]); first | done | with_reducible rfl))) (hm := by simpa using hjn) (next := fun w6 hc6 hs6 ho6 => ?_)
      refine z_end ?_
      refine go ?_
      refine forQ_normal (by omega) ⟨_, ?_, (hc2.grow he3).trans (hc5.trans hc6), ho6, by simp [hyl], by omega, fun t ht => ?_, fun t ht ht2 => ?_⟩
      · rw [← hcast2]
        exact hasP
      · exact hstepI t ht
      · exact hstepJ t ht ht2
  · refine go ?_
    refine retQ_0 ⟨hc2, ?_⟩
    have e : ys = xs.reverse := list_ext0 (by simp [hyl]) fun t ht => by
      have hr : xs.reverse.getD t 0 = xs.getD (xs.length - 1 - t) 0 := by
        have h1 : t < xs.reverse.length := by simp; omega
        have h2 : xs.length - 1 - t < xs.length := by omega
        rw [List.getD_eq_getElem?_getD, List.getElem?_eq_getElem h1, List.getD_eq_getElem?_getD, List.getElem?_eq_getElem h2, List.getElem_reverse]
      rw [hr]
      by_cases e1 : t < k
      · exact (hI t e1).1
      · by_cases e2 : t + k < xs.length
        · rw [hJ t (by omega) e2, show xs.length - 1 - t = t by omega]
        · have h3 := (hI (xs.length - 1 - t) (by omega)).2
          rw [show xs.length - 1 - (xs.length - 1 - t) = t by omega] at h3
          exact h3
    rw [← e]
    exact ho2
theorem sliceReverse_nil {w : World} {v : Value} {lo hi : Nat} [hx : Ints lo hi w v []] :
    Calls Try.prog 127 #[v] w (Ret fun _ w' => w' = w) := by
  have h0 : (([] : List Int).length : Int) = 0 := rfl
  refine enter (args := [v]) (l := []) Try.func127 rfl rfl Try.ntmps127 (by simp) ?_
  refine go ?_
  refine r_for 0 (fun k ρ w' => Has ρ [(0, v), (2, .int .i64 0), (3, .int .i64 ((([] : List Int).length : Int) - 1))] ∧ w' = w) ?_ ?_
  · refine ⟨?_, rfl⟩
    exact hasP
  rintro k ρ w2 hk ⟨hH, rfl⟩
  refine rwp_has hH fun ρ0 => ?_
  refine go ?_
  refine c_if (fun h4 => ?_) (fun h4 => ?_)
  · omega
  · refine go ?_
    exact retQ_0 rfl
theorem app_repl' (w : List Int) (m : Nat) (a : Int) : (w ++ List.replicate m a) ++ [a] = w ++ List.replicate (m + 1) a := by
  rw [List.append_assoc]
  congr 1
  exact (List.replicate_succ' (n := m) (a := a)).symm
set_option maxHeartbeats 2000000 in
theorem normalWord_ok {e : List Int} {w : World} {vx : Value} {lo hi : Nat} [hx : Ints lo hi w vx e] (hl : e.length ≤ 100) (hr : ∀ i, i < e.length → 0 ≤ e.getD i 0 ∧ e.getD i 0 ≤ 100) :
    Calls Try.prog 101 #[vx] w (Ret fun v w' => Ext w w' ∧ GrowI 2 w.heap.size w' v (wordV e)) := by
  have hwl : ∀ k, (wordV (e.take k)).length ≤ 10000 := fun k => by
    have h1 := wordA_len (b := 100) (e.take k) 0 fun x hx => by
      obtain ⟨i, hi, rfl⟩ := List.getElem_of_mem (List.mem_of_mem_take hx)
      have := (hr i hi).2
      simpa [hi] using this
    have h2 : (e.take k).length * 100 ≤ 100 * 100 := Nat.mul_le_mul_right _ (by rw [List.length_take]; omega)
    exact Nat.le_trans h1 h2
  refine enter (args := [vx]) (l := [.tmp 2]) Try.func101 rfl rfl Try.ntmps101 (by simp) ?_
  refine go ?_
  refine r_for e.length (fun k ρ w' => ∃ vl, Has ρ [(3, vl), (6, vx), (7, .int .i64 e.length), (8, .int .i64 k)] ∧ Ext w w' ∧ GrowI 2 w.heap.size w' vl (wordV (e.take k))) ?_ ?_
  · refine ⟨nilv, ?_, Ext.refl _, GrowI.nil _ _ _⟩
    exact hasP
  rintro k ρ w2 hk ⟨vl, hH, he2, hG2⟩
  refine rwp_has hH fun ρ0 => ?_
  refine go ?_
  refine c_if (fun h4 => ?_) (fun h4 => ?_)
  · have hkn : k < e.length := by omega
    have hrk := hr k hkn
    have hst := wordV_take hkn
    have hwk := hwl k
    refine go ?_
    refine r_for (e.getD k 0).toNat (fun j ρ w' => ∃ vl, Has ρ [(3, vl), (4, .int .i64 k), (6, vx), (7, .int .i64 e.length), (8, .int .i64 k), (13, .int .i64 (e.getD k 0)), (14, .int .i64 j)] ∧ Ext w w' ∧ GrowI 2 w.heap.size w' vl (wordV (e.take k) ++ List.replicate j ((k : Int) + 1))) ?_ ?_
    · refine ⟨vl, ?_, he2, by simpa using hG2⟩
      exact hasP
    clear hG2 he2
    rintro j ρ w3 hj ⟨vl, hH3, he3, hG3⟩
    refine rwp_has hH3 fun ρ1 => ?_
    have hz3 := he3.size
    refine go ?_
    refine c_if (fun h5 => ?_) (fun h5 => ?_)
    · refine go ?_
      refine st_growi hG3 hz3 (by simp only [List.length_append, List.length_replicate]; omega) (next := fun v4 v5 w5 hG5 hx5 hz5 hgs5 => ?_)
      refine go ?_
      refine forQ_normal (by omega) ⟨v5, ?_, hx5 w he3 (Nat.le_refl _), ?_⟩
      · exact hasP
      · rw [← app_repl']; exact hG5
    · obtain rfl : j = (e.getD k 0).toNat := by omega
      rw [← hst] at hG3
      refine go ?_
      refine forQ_normal (by omega) ⟨vl, ?_, he3, hG3⟩
      exact hasP
  · obtain rfl : k = e.length := by omega
    rw [List.take_length] at hG2
    refine go ?_
    exact ret1 ⟨he2, hG2⟩
set_option maxHeartbeats 2000000 in
theorem invertWord_ok {e : List Int} {w : World} {vx : Value} {lo hi : Nat} [hx : Ints lo hi w vx e] (hl : e.length ≤ 100000) (hr : ∀ i, i < e.length → -1000000 ≤ e.getD i 0 ∧ e.getD i 0 ≤ 1000000) :
    Calls Try.prog 100 #[vx] w (Ret fun v w' => Ext w w' ∧ GrowI 2 w.heap.size w' v (invW e)) := by
  have hml : (e.map fun x => -x).length = e.length := by simp
  refine enter (args := [vx]) (l := [.tmp 2]) Try.func100 rfl rfl Try.ntmps100 (by simp) ?_
  refine go ?_
  refine r_for e.length (fun k ρ w' => ∃ vl, Has ρ [(3, vl), (6, vx), (7, .int .i64 e.length), (8, .int .i64 k)] ∧ Ext w w' ∧ GrowI 2 w.heap.size w' vl ((e.map fun x => -x).take k)) ?_ ?_
  · refine ⟨nilv, ?_, Ext.refl _, GrowI.nil _ _ _⟩
    exact hasP
  rintro k ρ w2 hk ⟨vl, hH, he2, hG2⟩
  refine rwp_has hH fun ρ0 => ?_
  have hz2 := he2.size
  refine go ?_
  refine c_if (fun h4 => ?_) (fun h4 => ?_)
  · have hkn : k < e.length := by omega
    have hri := hr k hkn
    have hst : (e.map fun x => -x).take (k + 1) = (e.map fun x => -x).take k ++ [-(e.getD k 0)] := by
      rw [List.take_succ_eq_append_getElem (by omega)]
      congr 2
      simp [hkn]
    refine go ?_
    refine st_growi hG2 hz2 (by rw [List.length_take]; omega) (next := fun v4 v5 w5 hG5 hx5 hz5 hgs5 => ?_)
    refine go ?_
    refine forQ_normal (by omega) ⟨v5, ?_, hx5 w he2 (Nat.le_refl _), ?_⟩
    · exact hasP
    · rw [hst]; exact hG5
  · obtain rfl : k = e.length := by omega
    rw [List.take_of_length_le (by omega)] at hG2
    by_cases hn : e = []
    · subst hn
      have hi2 : Ints w.heap.size w2.heap.size w2 vl [] := hG2.fr.ints
      refine go ?_
      refine rc (sliceReverse_nil) (next := fun v3 w3 h3 => ?_)
      obtain rfl := h3
      refine go ?_
      exact ret1 ⟨he2, hG2⟩
    · obtain ⟨b, hb, _, ho⟩ := hG2.own.toOwn (by simpa using hn)
      have hoi : OwnI 2 b w2 vl (e.map fun x => -x) := ⟨ho⟩
      clear hG2
      refine go ?_
      refine rc (sliceReverse_ok (xs := e.map fun x => -x) (by omega)) (next := fun v3 w3 h3 => ?_)
      obtain ⟨hc3, ho3⟩ := h3
      refine go ?_
      exact ret1 ⟨hc3.ext he2 hb, ⟨ho3.own.toN.mono hb⟩⟩
end Go.Proofs.Ytnphljflkpekmaa

/-
  Walks: math/bits.Mul at small words, slices.Repeat of one integer.
  Conditions: stated at each theorem.
-/
namespace Go.Proofs.Ytnphljflkpekmaa
open Go Go.Pc
set_option maxHeartbeats 1000000 in
theorem bitsMul64_2 {w : World} : Calls Try.prog 137 #[.int .u64 1, .int .u64 2] w (Ret fun v w' => v = .tuple #[.int .u64 0, .int .u64 2] ∧ w' = w) := by
  refine enter (args := [.int .u64 1, .int .u64 2]) (l := [.tmp 4, .tmp 5]) Try.func137 rfl rfl Try.ntmps137 (by simp) ?_
  refine go ?_
  refine ra (v := .int .u64 1) (h := rd_bin (by ((try simp only [ev_tmp, ev_const, ev_func, get_put, get_args, get_putL, get_putL_nil, Nat.reduceEqDiff, reduceIte, List.getD_cons_zero, List.getD_cons_succ, List.getD_nil]); first | done | with_reducible rfl)) (by ((try simp only [ev_tmp, ev_const, ev_func, get_put, get_args, get_putL, get_putL_nil, Nat.reduceEqDiff, reduceIte, List.getD_cons_zero, List.getD_cons_succ, List.getD_nil]); first | done | with_reducible rfl)) (fun _ => rfl) (fun _ => rfl)) (next := ?_)
  refine go ?_
  refine ra (v := .int .u64 0) (h := rd_bin (by ((try simp only [ev_tmp, ev_const, ev_func, get_put, get_args, get_putL, get_putL_nil, Nat.reduceEqDiff, reduceIte, List.getD_cons_zero, List.getD_cons_succ, List.getD_nil]); first | done | with_reducible rfl)) (by ((try simp only [ev_tmp, ev_const, ev_func, get_put, get_args, get_putL, get_putL_nil, Nat.reduceEqDiff, reduceIte, List.getD_cons_zero, List.getD_cons_succ, List.getD_nil]); first | done | with_reducible rfl)) (fun _ => rfl) (fun _ => rfl)) (next := ?_)
  refine go ?_
  refine ra (v := .int .u64 2) (h := rd_bin (by ((try simp only [ev_tmp, ev_const, ev_func, get_put, get_args, get_putL, get_putL_nil, Nat.reduceEqDiff, reduceIte, List.getD_cons_zero, List.getD_cons_succ, List.getD_nil]); first | done | with_reducible rfl)) (by ((try simp only [ev_tmp, ev_const, ev_func, get_put, get_args, get_putL, get_putL_nil, Nat.reduceEqDiff, reduceIte, List.getD_cons_zero, List.getD_cons_succ, List.getD_nil]); first | done | with_reducible rfl)) (fun _ => rfl) (fun _ => rfl)) (next := ?_)
  refine go ?_
  refine ra (v := .int .u64 0) (h := rd_bin (by ((try simp only [ev_tmp, ev_const, ev_func, get_put, get_args, get_putL, get_putL_nil, Nat.reduceEqDiff, reduceIte, List.getD_cons_zero, List.getD_cons_succ, List.getD_nil]); first | done | with_reducible rfl)) (by ((try simp only [ev_tmp, ev_const, ev_func, get_put, get_args, get_putL, get_putL_nil, Nat.reduceEqDiff, reduceIte, List.getD_cons_zero, List.getD_cons_succ, List.getD_nil]); first | done | with_reducible rfl)) (fun _ => rfl) (fun _ => rfl)) (next := ?_)
  refine go ?_
  refine ra (v := .int .u64 2) (h := rd_bin (by ((try simp only [ev_tmp, ev_const, ev_func, get_put, get_args, get_putL, get_putL_nil, Nat.reduceEqDiff, reduceIte, List.getD_cons_zero, List.getD_cons_succ, List.getD_nil]); first | done | with_reducible rfl)) (by ((try simp only [ev_tmp, ev_const, ev_func, get_put, get_args, get_putL, get_putL_nil, Nat.reduceEqDiff, reduceIte, List.getD_cons_zero, List.getD_cons_succ, List.getD_nil]); first | done | with_reducible rfl)) (fun _ => rfl) (fun _ => rfl)) (next := ?_)
  refine go ?_
  refine ra (v := .int .u64 0) (h := rd_bin (by ((try simp only [ev_tmp, ev_const, ev_func, get_put, get_args, get_putL, get_putL_nil, Nat.reduceEqDiff, reduceIte, List.getD_cons_zero, List.getD_cons_succ, List.getD_nil]); first | done | with_reducible rfl)) (by ((try simp only [ev_tmp, ev_const, ev_func, get_put, get_args, get_putL, get_putL_nil, Nat.reduceEqDiff, reduceIte, List.getD_cons_zero, List.getD_cons_succ, List.getD_nil]); first | done | with_reducible rfl)) (fun _ => rfl) (fun _ => rfl)) (next := ?_)
  refine go ?_
  refine ra (v := .int .u64 0) (h := rd_bin (by ((try simp only [ev_tmp, ev_const, ev_func, get_put, get_args, get_putL, get_putL_nil, Nat.reduceEqDiff, reduceIte, List.getD_cons_zero, List.getD_cons_succ, List.getD_nil]); first | done | with_reducible rfl)) (by ((try simp only [ev_tmp, ev_const, ev_func, get_put, get_args, get_putL, get_putL_nil, Nat.reduceEqDiff, reduceIte, List.getD_cons_zero, List.getD_cons_succ, List.getD_nil]); first | done | with_reducible rfl)) (fun _ => rfl) (fun _ => rfl)) (next := ?_)
  refine go ?_
  refine ra (v := .int .u64 0) (h := rd_bin (by ((try simp only [ev_tmp, ev_const, ev_func, get_put, get_args, get_putL, get_putL_nil, Nat.reduceEqDiff, reduceIte, List.getD_cons_zero, List.getD_cons_succ, List.getD_nil]); first | done | with_reducible rfl)) (by ((try simp only [ev_tmp, ev_const, ev_func, get_put, get_args, get_putL, get_putL_nil, Nat.reduceEqDiff, reduceIte, List.getD_cons_zero, List.getD_cons_succ, List.getD_nil]); first | done | with_reducible rfl)) (fun _ => rfl) (fun _ => rfl)) (next := ?_)
  refine go ?_
  refine ra (v := .int .u64 0) (h := rd_bin (by ((try simp only [ev_tmp, ev_const, ev_func, get_put, get_args, get_putL, get_putL_nil, Nat.reduceEqDiff, reduceIte, List.getD_cons_zero, List.getD_cons_succ, List.getD_nil]); first | done | with_reducible rfl)) (by ((try simp only [ev_tmp, ev_const, ev_func, get_put, get_args, get_putL, get_putL_nil, Nat.reduceEqDiff, reduceIte, List.getD_cons_zero, List.getD_cons_succ, List.getD_nil]); first | done | with_reducible rfl)) (fun _ => rfl) (fun _ => rfl)) (next := ?_)
  refine go ?_
  refine ra (v := .int .u64 0) (h := rd_bin (by ((try simp only [ev_tmp, ev_const, ev_func, get_put, get_args, get_putL, get_putL_nil, Nat.reduceEqDiff, reduceIte, List.getD_cons_zero, List.getD_cons_succ, List.getD_nil]); first | done | with_reducible rfl)) (by ((try simp only [ev_tmp, ev_const, ev_func, get_put, get_args, get_putL, get_putL_nil, Nat.reduceEqDiff, reduceIte, List.getD_cons_zero, List.getD_cons_succ, List.getD_nil]); first | done | with_reducible rfl)) (fun _ => rfl) (fun _ => rfl)) (next := ?_)
  refine go ?_
  refine ra (v := .int .u64 0) (h := rd_bin (by ((try simp only [ev_tmp, ev_const, ev_func, get_put, get_args, get_putL, get_putL_nil, Nat.reduceEqDiff, reduceIte, List.getD_cons_zero, List.getD_cons_succ, List.getD_nil]); first | done | with_reducible rfl)) (by ((try simp only [ev_tmp, ev_const, ev_func, get_put, get_args, get_putL, get_putL_nil, Nat.reduceEqDiff, reduceIte, List.getD_cons_zero, List.getD_cons_succ, List.getD_nil]); first | done | with_reducible rfl)) (fun _ => rfl) (fun _ => rfl)) (next := ?_)
  refine go ?_
  refine ra (v := .int .u64 0) (h := rd_bin (by ((try simp only [ev_tmp, ev_const, ev_func, get_put, get_args, get_putL, get_putL_nil, Nat.reduceEqDiff, reduceIte, List.getD_cons_zero, List.getD_cons_succ, List.getD_nil]); first | done | with_reducible rfl)) (by ((try simp only [ev_tmp, ev_const, ev_func, get_put, get_args, get_putL, get_putL_nil, Nat.reduceEqDiff, reduceIte, List.getD_cons_zero, List.getD_cons_succ, List.getD_nil]); first | done | with_reducible rfl)) (fun _ => rfl) (fun _ => rfl)) (next := ?_)
  refine go ?_
  refine ra (v := .int .u64 0) (h := rd_bin (by ((try simp only [ev_tmp, ev_const, ev_func, get_put, get_args, get_putL, get_putL_nil, Nat.reduceEqDiff, reduceIte, List.getD_cons_zero, List.getD_cons_succ, List.getD_nil]); first | done | with_reducible rfl)) (by ((try simp only [ev_tmp, ev_const, ev_func, get_put, get_args, get_putL, get_putL_nil, Nat.reduceEqDiff, reduceIte, List.getD_cons_zero, List.getD_cons_succ, List.getD_nil]); first | done | with_reducible rfl)) (fun _ => rfl) (fun _ => rfl)) (next := ?_)
  refine go ?_
  refine ra (v := .int .u64 0) (h := rd_bin (by ((try simp only [ev_tmp, ev_const, ev_func, get_put, get_args, get_putL, get_putL_nil, Nat.reduceEqDiff, reduceIte, List.getD_cons_zero, List.getD_cons_succ, List.getD_nil]); first | done | with_reducible rfl)) (by ((try simp only [ev_tmp, ev_const, ev_func, get_put, get_args, get_putL, get_putL_nil, Nat.reduceEqDiff, reduceIte, List.getD_cons_zero, List.getD_cons_succ, List.getD_nil]); first | done | with_reducible rfl)) (fun _ => rfl) (fun _ => rfl)) (next := ?_)
  refine go ?_
  refine ra (v := .int .u64 0) (h := rd_bin (by ((try simp only [ev_tmp, ev_const, ev_func, get_put, get_args, get_putL, get_putL_nil, Nat.reduceEqDiff, reduceIte, List.getD_cons_zero, List.getD_cons_succ, List.getD_nil]); first | done | with_reducible rfl)) (by ((try simp only [ev_tmp, ev_const, ev_func, get_put, get_args, get_putL, get_putL_nil, Nat.reduceEqDiff, reduceIte, List.getD_cons_zero, List.getD_cons_succ, List.getD_nil]); first | done | with_reducible rfl)) (fun _ => rfl) (fun _ => rfl)) (next := ?_)
  refine go ?_
  refine ra (v := .int .u64 0) (h := rd_bin (by ((try simp only [ev_tmp, ev_const, ev_func, get_put, get_args, get_putL, get_putL_nil, Nat.reduceEqDiff, reduceIte, List.getD_cons_zero, List.getD_cons_succ, List.getD_nil]); first | done | with_reducible rfl)) (by ((try simp only [ev_tmp, ev_const, ev_func, get_put, get_args, get_putL, get_putL_nil, Nat.reduceEqDiff, reduceIte, List.getD_cons_zero, List.getD_cons_succ, List.getD_nil]); first | done | with_reducible rfl)) (fun _ => rfl) (fun _ => rfl)) (next := ?_)
  refine go ?_
  refine ra (v := .int .u64 2) (h := rd_bin (by ((try simp only [ev_tmp, ev_const, ev_func, get_put, get_args, get_putL, get_putL_nil, Nat.reduceEqDiff, reduceIte, List.getD_cons_zero, List.getD_cons_succ, List.getD_nil]); first | done | with_reducible rfl)) (by ((try simp only [ev_tmp, ev_const, ev_func, get_put, get_args, get_putL, get_putL_nil, Nat.reduceEqDiff, reduceIte, List.getD_cons_zero, List.getD_cons_succ, List.getD_nil]); first | done | with_reducible rfl)) (fun _ => rfl) (fun _ => rfl)) (next := ?_)
  refine go ?_
  exact ret2 ⟨rfl, rfl⟩
theorem bitsMul_2 {w : World} : Calls Try.prog 126 #[.int .u64 1, .int .u64 2] w (Ret fun v w' => v = .tuple #[.int .u64 0, .int .u64 2] ∧ w' = w) := by
  refine enter (args := [.int .u64 1, .int .u64 2]) (l := [.tmp 4, .tmp 5]) Try.func126 rfl rfl Try.ntmps126 (by simp) ?_
  refine go ?_
  refine rc bitsMul64_2 (next := fun v1 w1 h1 => ?_)
  obtain ⟨rfl, rfl⟩ := h1
  refine go ?_
  exact ret2 ⟨rfl, rfl⟩
set_option maxHeartbeats 1000000 in
theorem bitsMul64_3 {w : World} : Calls Try.prog 137 #[.int .u64 1, .int .u64 3] w (Ret fun v w' => v = .tuple #[.int .u64 0, .int .u64 3] ∧ w' = w) := by
  refine enter (args := [.int .u64 1, .int .u64 3]) (l := [.tmp 4, .tmp 5]) Try.func137 rfl rfl Try.ntmps137 (by simp) ?_
  refine go ?_
  refine ra (v := .int .u64 1) (h := rd_bin (by ((try simp only [ev_tmp, ev_const, ev_func, get_put, get_args, get_putL, get_putL_nil, Nat.reduceEqDiff, reduceIte, List.getD_cons_zero, List.getD_cons_succ, List.getD_nil]); first | done | with_reducible rfl)) (by ((try simp only [ev_tmp, ev_const, ev_func, get_put, get_args, get_putL, get_putL_nil, Nat.reduceEqDiff, reduceIte, List.getD_cons_zero, List.getD_cons_succ, List.getD_nil]); first | done | with_reducible rfl)) (fun _ => rfl) (fun _ => rfl)) (next := ?_)
  refine go ?_
  refine ra (v := .int .u64 0) (h := rd_bin (by ((try simp only [ev_tmp, ev_const, ev_func, get_put, get_args, get_putL, get_putL_nil, Nat.reduceEqDiff, reduceIte, List.getD_cons_zero, List.getD_cons_succ, List.getD_nil]); first | done | with_reducible rfl)) (by ((try simp only [ev_tmp, ev_const, ev_func, get_put, get_args, get_putL, get_putL_nil, Nat.reduceEqDiff, reduceIte, List.getD_cons_zero, List.getD_cons_succ, List.getD_nil]); first | done | with_reducible rfl)) (fun _ => rfl) (fun _ => rfl)) (next := ?_)
  refine go ?_
  refine ra (v := .int .u64 3) (h := rd_bin (by ((try simp only [ev_tmp, ev_const, ev_func, get_put, get_args, get_putL, get_putL_nil, Nat.reduceEqDiff, reduceIte, List.getD_cons_zero, List.getD_cons_succ, List.getD_nil]); first | done | with_reducible rfl)) (by ((try simp only [ev_tmp, ev_const, ev_func, get_put, get_args, get_putL, get_putL_nil, Nat.reduceEqDiff, reduceIte, List.getD_cons_zero, List.getD_cons_succ, List.getD_nil]); first | done | with_reducible rfl)) (fun _ => rfl) (fun _ => rfl)) (next := ?_)
  refine go ?_
  refine ra (v := .int .u64 0) (h := rd_bin (by ((try simp only [ev_tmp, ev_const, ev_func, get_put, get_args, get_putL, get_putL_nil, Nat.reduceEqDiff, reduceIte, List.getD_cons_zero, List.getD_cons_succ, List.getD_nil]); first | done | with_reducible rfl)) (by ((try simp only [ev_tmp, ev_const, ev_func, get_put, get_args, get_putL, get_putL_nil, Nat.reduceEqDiff, reduceIte, List.getD_cons_zero, List.getD_cons_succ, List.getD_nil]); first | done | with_reducible rfl)) (fun _ => rfl) (fun _ => rfl)) (next := ?_)
  refine go ?_
  refine ra (v := .int .u64 3) (h := rd_bin (by ((try simp only [ev_tmp, ev_const, ev_func, get_put, get_args, get_putL, get_putL_nil, Nat.reduceEqDiff, reduceIte, List.getD_cons_zero, List.getD_cons_succ, List.getD_nil]); first | done | with_reducible rfl)) (by ((try simp only [ev_tmp, ev_const, ev_func, get_put, get_args, get_putL, get_putL_nil, Nat.reduceEqDiff, reduceIte, List.getD_cons_zero, List.getD_cons_succ, List.getD_nil]); first | done | with_reducible rfl)) (fun _ => rfl) (fun _ => rfl)) (next := ?_)
  refine go ?_
  refine ra (v := .int .u64 0) (h := rd_bin (by ((try simp only [ev_tmp, ev_const, ev_func, get_put, get_args, get_putL, get_putL_nil, Nat.reduceEqDiff, reduceIte, List.getD_cons_zero, List.getD_cons_succ, List.getD_nil]); first | done | with_reducible rfl)) (by ((try simp only [ev_tmp, ev_const, ev_func, get_put, get_args, get_putL, get_putL_nil, Nat.reduceEqDiff, reduceIte, List.getD_cons_zero, List.getD_cons_succ, List.getD_nil]); first | done | with_reducible rfl)) (fun _ => rfl) (fun _ => rfl)) (next := ?_)
  refine go ?_
  refine ra (v := .int .u64 0) (h := rd_bin (by ((try simp only [ev_tmp, ev_const, ev_func, get_put, get_args, get_putL, get_putL_nil, Nat.reduceEqDiff, reduceIte, List.getD_cons_zero, List.getD_cons_succ, List.getD_nil]); first | done | with_reducible rfl)) (by ((try simp only [ev_tmp, ev_const, ev_func, get_put, get_args, get_putL, get_putL_nil, Nat.reduceEqDiff, reduceIte, List.getD_cons_zero, List.getD_cons_succ, List.getD_nil]); first | done | with_reducible rfl)) (fun _ => rfl) (fun _ => rfl)) (next := ?_)
  refine go ?_
  refine ra (v := .int .u64 0) (h := rd_bin (by ((try simp only [ev_tmp, ev_const, ev_func, get_put, get_args, get_putL, get_putL_nil, Nat.reduceEqDiff, reduceIte, List.getD_cons_zero, List.getD_cons_succ, List.getD_nil]); first | done | with_reducible rfl)) (by ((try simp only [ev_tmp, ev_const, ev_func, get_put, get_args, get_putL, get_putL_nil, Nat.reduceEqDiff, reduceIte, List.getD_cons_zero, List.getD_cons_succ, List.getD_nil]); first | done | with_reducible rfl)) (fun _ => rfl) (fun _ => rfl)) (next := ?_)
  refine go ?_
  refine ra (v := .int .u64 0) (h := rd_bin (by ((try simp only [ev_tmp, ev_const, ev_func, get_put, get_args, get_putL, get_putL_nil, Nat.reduceEqDiff, reduceIte, List.getD_cons_zero, List.getD_cons_succ, List.getD_nil]); first | done | with_reducible rfl)) (by ((try simp only [ev_tmp, ev_const, ev_func, get_put, get_args, get_putL, get_putL_nil, Nat.reduceEqDiff, reduceIte, List.getD_cons_zero, List.getD_cons_succ, List.getD_nil]); first | done | with_reducible rfl)) (fun _ => rfl) (fun _ => rfl)) (next := ?_)
  refine go ?_
  refine ra (v := .int .u64 0) (h := rd_bin (by ((try simp only [ev_tmp, ev_const, ev_func, get_put, get_args, get_putL, get_putL_nil, Nat.reduceEqDiff, reduceIte, List.getD_cons_zero, List.getD_cons_succ, List.getD_nil]); first | done | with_reducible rfl)) (by ((try simp only [ev_tmp, ev_const, ev_func, get_put, get_args, get_putL, get_putL_nil, Nat.reduceEqDiff, reduceIte, List.getD_cons_zero, List.getD_cons_succ, List.getD_nil]); first | done | with_reducible rfl)) (fun _ => rfl) (fun _ => rfl)) (next := ?_)
  refine go ?_
  refine ra (v := .int .u64 0) (h := rd_bin (by ((try simp only [ev_tmp, ev_const, ev_func, get_put, get_args, get_putL, get_putL_nil, Nat.reduceEqDiff, reduceIte, List.getD_cons_zero, List.getD_cons_succ, List.getD_nil]); first | done | with_reducible rfl)) (by ((try simp only [ev_tmp, ev_const, ev_func, get_put, get_args, get_putL, get_putL_nil, Nat.reduceEqDiff, reduceIte, List.getD_cons_zero, List.getD_cons_succ, List.getD_nil]); first | done | with_reducible rfl)) (fun _ => rfl) (fun _ => rfl)) (next := ?_)
  refine go ?_
  refine ra (v := .int .u64 0) (h := rd_bin (by ((try simp only [ev_tmp, ev_const, ev_func, get_put, get_args, get_putL, get_putL_nil, Nat.reduceEqDiff, reduceIte, List.getD_cons_zero, List.getD_cons_succ, List.getD_nil]); first | done | with_reducible rfl)) (by ((try simp only [ev_tmp, ev_const, ev_func, get_put, get_args, get_putL, get_putL_nil, Nat.reduceEqDiff, reduceIte, List.getD_cons_zero, List.getD_cons_succ, List.getD_nil]); first | done | with_reducible rfl)) (fun _ => rfl) (fun _ => rfl)) (next := ?_)
  refine go ?_
  refine ra (v := .int .u64 0) (h := rd_bin (by ((try simp only [ev_tmp, ev_const, ev_func, get_put, get_args, get_putL, get_putL_nil, Nat.reduceEqDiff, reduceIte, List.getD_cons_zero, List.getD_cons_succ, List.getD_nil]); first | done | with_reducible rfl)) (by ((try simp only [ev_tmp, ev_const, ev_func, get_put, get_args, get_putL, get_putL_nil, Nat.reduceEqDiff, reduceIte, List.getD_cons_zero, List.getD_cons_succ, List.getD_nil]); first | done | with_reducible rfl)) (fun _ => rfl) (fun _ => rfl)) (next := ?_)
  refine go ?_
  refine ra (v := .int .u64 0) (h := rd_bin (by ((try simp only [ev_tmp, ev_const, ev_func, get_put, get_args, get_putL, get_putL_nil, Nat.reduceEqDiff, reduceIte, List.getD_cons_zero, List.getD_cons_succ, List.getD_nil]); first | done | with_reducible rfl)) (by ((try simp only [ev_tmp, ev_const, ev_func, get_put, get_args, get_putL, get_putL_nil, Nat.reduceEqDiff, reduceIte, List.getD_cons_zero, List.getD_cons_succ, List.getD_nil]); first | done | with_reducible rfl)) (fun _ => rfl) (fun _ => rfl)) (next := ?_)
  refine go ?_
  refine ra (v := .int .u64 0) (h := rd_bin (by ((try simp only [ev_tmp, ev_const, ev_func, get_put, get_args, get_putL, get_putL_nil, Nat.reduceEqDiff, reduceIte, List.getD_cons_zero, List.getD_cons_succ, List.getD_nil]); first | done | with_reducible rfl)) (by ((try simp only [ev_tmp, ev_const, ev_func, get_put, get_args, get_putL, get_putL_nil, Nat.reduceEqDiff, reduceIte, List.getD_cons_zero, List.getD_cons_succ, List.getD_nil]); first | done | with_reducible rfl)) (fun _ => rfl) (fun _ => rfl)) (next := ?_)
  refine go ?_
  refine ra (v := .int .u64 0) (h := rd_bin (by ((try simp only [ev_tmp, ev_const, ev_func, get_put, get_args, get_putL, get_putL_nil, Nat.reduceEqDiff, reduceIte, List.getD_cons_zero, List.getD_cons_succ, List.getD_nil]); first | done | with_reducible rfl)) (by ((try simp only [ev_tmp, ev_const, ev_func, get_put, get_args, get_putL, get_putL_nil, Nat.reduceEqDiff, reduceIte, List.getD_cons_zero, List.getD_cons_succ, List.getD_nil]); first | done | with_reducible rfl)) (fun _ => rfl) (fun _ => rfl)) (next := ?_)
  refine go ?_
  refine ra (v := .int .u64 3) (h := rd_bin (by ((try simp only [ev_tmp, ev_const, ev_func, get_put, get_args, get_putL, get_putL_nil, Nat.reduceEqDiff, reduceIte, List.getD_cons_zero, List.getD_cons_succ, List.getD_nil]); first | done | with_reducible rfl)) (by ((try simp only [ev_tmp, ev_const, ev_func, get_put, get_args, get_putL, get_putL_nil, Nat.reduceEqDiff, reduceIte, List.getD_cons_zero, List.getD_cons_succ, List.getD_nil]); first | done | with_reducible rfl)) (fun _ => rfl) (fun _ => rfl)) (next := ?_)
  refine go ?_
  exact ret2 ⟨rfl, rfl⟩
theorem bitsMul_3 {w : World} : Calls Try.prog 126 #[.int .u64 1, .int .u64 3] w (Ret fun v w' => v = .tuple #[.int .u64 0, .int .u64 3] ∧ w' = w) := by
  refine enter (args := [.int .u64 1, .int .u64 3]) (l := [.tmp 4, .tmp 5]) Try.func126 rfl rfl Try.ntmps126 (by simp) ?_
  refine go ?_
  refine rc bitsMul64_3 (next := fun v1 w1 h1 => ?_)
  obtain ⟨rfl, rfl⟩ := h1
  refine go ?_
  exact ret2 ⟨rfl, rfl⟩
set_option maxHeartbeats 1000000 in
theorem bitsMul64_5 {w : World} : Calls Try.prog 137 #[.int .u64 1, .int .u64 5] w (Ret fun v w' => v = .tuple #[.int .u64 0, .int .u64 5] ∧ w' = w) := by
  refine enter (args := [.int .u64 1, .int .u64 5]) (l := [.tmp 4, .tmp 5]) Try.func137 rfl rfl Try.ntmps137 (by simp) ?_
  refine go ?_
  refine ra (v := .int .u64 1) (h := rd_bin (by ((try simp only [ev_tmp, ev_const, ev_func, get_put, get_args, get_putL, get_putL_nil, Nat.reduceEqDiff, reduceIte, List.getD_cons_zero, List.getD_cons_succ, List.getD_nil]); first | done | with_reducible rfl)) (by ((try simp only [ev_tmp, ev_const, ev_func, get_put, get_args, get_putL, get_putL_nil, Nat.reduceEqDiff, reduceIte, List.getD_cons_zero, List.getD_cons_succ, List.getD_nil]); first | done | with_reducible rfl)) (fun _ => rfl) (fun _ => rfl)) (next := ?_)
  refine go ?_
  refine ra (v := .int .u64 0) (h := rd_bin (by ((try simp only [ev_tmp, ev_const, ev_func, get_put, get_args, get_putL, get_putL_nil, Nat.reduceEqDiff, reduceIte, List.getD_cons_zero, List.getD_cons_succ, List.getD_nil]); first | done | with_reducible rfl)) (by ((try simp only [ev_tmp, ev_const, ev_func, get_put, get_args, get_putL, get_putL_nil, Nat.reduceEqDiff, reduceIte, List.getD_cons_zero, List.getD_cons_succ, List.getD_nil]); first | done | with_reducible rfl)) (fun _ => rfl) (fun _ => rfl)) (next := ?_)
  refine go ?_
  refine ra (v := .int .u64 5) (h := rd_bin (by ((try simp only [ev_tmp, ev_const, ev_func, get_put, get_args, get_putL, get_putL_nil, Nat.reduceEqDiff, reduceIte, List.getD_cons_zero, List.getD_cons_succ, List.getD_nil]); first | done | with_reducible rfl)) (by ((try simp only [ev_tmp, ev_const, ev_func, get_put, get_args, get_putL, get_putL_nil, Nat.reduceEqDiff, reduceIte, List.getD_cons_zero, List.getD_cons_succ, List.getD_nil]); first | done | with_reducible rfl)) (fun _ => rfl) (fun _ => rfl)) (next := ?_)
  refine go ?_
  refine ra (v := .int .u64 0) (h := rd_bin (by ((try simp only [ev_tmp, ev_const, ev_func, get_put, get_args, get_putL, get_putL_nil, Nat.reduceEqDiff, reduceIte, List.getD_cons_zero, List.getD_cons_succ, List.getD_nil]); first | done | with_reducible rfl)) (by ((try simp only [ev_tmp, ev_const, ev_func, get_put, get_args, get_putL, get_putL_nil, Nat.reduceEqDiff, reduceIte, List.getD_cons_zero, List.getD_cons_succ, List.getD_nil]); first | done | with_reducible rfl)) (fun _ => rfl) (fun _ => rfl)) (next := ?_)
  refine go ?_
  refine ra (v := .int .u64 5) (h := rd_bin (by ((try simp only [ev_tmp, ev_const, ev_func, get_put, get_args, get_putL, get_putL_nil, Nat.reduceEqDiff, reduceIte, List.getD_cons_zero, List.getD_cons_succ, List.getD_nil]); first | done | with_reducible rfl)) (by ((try simp only [ev_tmp, ev_const, ev_func, get_put, get_args, get_putL, get_putL_nil, Nat.reduceEqDiff, reduceIte, List.getD_cons_zero, List.getD_cons_succ, List.getD_nil]); first | done | with_reducible rfl)) (fun _ => rfl) (fun _ => rfl)) (next := ?_)
  refine go ?_
  refine ra (v := .int .u64 0) (h := rd_bin (by ((try simp only [ev_tmp, ev_const, ev_func, get_put, get_args, get_putL, get_putL_nil, Nat.reduceEqDiff, reduceIte, List.getD_cons_zero, List.getD_cons_succ, List.getD_nil]); first | done | with_reducible rfl)) (by ((try simp only [ev_tmp, ev_const, ev_func, get_put, get_args, get_putL, get_putL_nil, Nat.reduceEqDiff, reduceIte, List.getD_cons_zero, List.getD_cons_succ, List.getD_nil]); first | done | with_reducible rfl)) (fun _ => rfl) (fun _ => rfl)) (next := ?_)
  refine go ?_
  refine ra (v := .int .u64 0) (h := rd_bin (by ((try simp only [ev_tmp, ev_const, ev_func, get_put, get_args, get_putL, get_putL_nil, Nat.reduceEqDiff, reduceIte, List.getD_cons_zero, List.getD_cons_succ, List.getD_nil]); first | done | with_reducible rfl)) (by ((try simp only [ev_tmp, ev_const, ev_func, get_put, get_args, get_putL, get_putL_nil, Nat.reduceEqDiff, reduceIte, List.getD_cons_zero, List.getD_cons_succ, List.getD_nil]); first | done | with_reducible rfl)) (fun _ => rfl) (fun _ => rfl)) (next := ?_)
  refine go ?_
  refine ra (v := .int .u64 0) (h := rd_bin (by ((try simp only [ev_tmp, ev_const, ev_func, get_put, get_args, get_putL, get_putL_nil, Nat.reduceEqDiff, reduceIte, List.getD_cons_zero, List.getD_cons_succ, List.getD_nil]); first | done | with_reducible rfl)) (by ((try simp only [ev_tmp, ev_const, ev_func, get_put, get_args, get_putL, get_putL_nil, Nat.reduceEqDiff, reduceIte, List.getD_cons_zero, List.getD_cons_succ, List.getD_nil]); first | done | with_reducible rfl)) (fun _ => rfl) (fun _ => rfl)) (next := ?_)
  refine go ?_
  refine ra (v := .int .u64 0) (h := rd_bin (by ((try simp only [ev_tmp, ev_const, ev_func, get_put, get_args, get_putL, get_putL_nil, Nat.reduceEqDiff, reduceIte, List.getD_cons_zero, List.getD_cons_succ, List.getD_nil]); first | done | with_reducible rfl)) (by ((try simp only [ev_tmp, ev_const, ev_func, get_put, get_args, get_putL, get_putL_nil, Nat.reduceEqDiff, reduceIte, List.getD_cons_zero, List.getD_cons_succ, List.getD_nil]); first | done | with_reducible rfl)) (fun _ => rfl) (fun _ => rfl)) (next := ?_)
  refine go ?_
  refine ra (v := .int .u64 0) (h := rd_bin (by ((try simp only [ev_tmp, ev_const, ev_func, get_put, get_args, get_putL, get_putL_nil, Nat.reduceEqDiff, reduceIte, List.getD_cons_zero, List.getD_cons_succ, List.getD_nil]); first | done | with_reducible rfl)) (by ((try simp only [ev_tmp, ev_const, ev_func, get_put, get_args, get_putL, get_putL_nil, Nat.reduceEqDiff, reduceIte, List.getD_cons_zero, List.getD_cons_succ, List.getD_nil]); first | done | with_reducible rfl)) (fun _ => rfl) (fun _ => rfl)) (next := ?_)
  refine go ?_
  refine ra (v := .int .u64 0) (h := rd_bin (by ((try simp only [ev_tmp, ev_const, ev_func, get_put, get_args, get_putL, get_putL_nil, Nat.reduceEqDiff, reduceIte, List.getD_cons_zero, List.getD_cons_succ, List.getD_nil]); first | done | with_reducible rfl)) (by ((try simp only [ev_tmp, ev_const, ev_func, get_put, get_args, get_putL, get_putL_nil, Nat.reduceEqDiff, reduceIte, List.getD_cons_zero, List.getD_cons_succ, List.getD_nil]); first | done | with_reducible rfl)) (fun _ => rfl) (fun _ => rfl)) (next := ?_)
  refine go ?_
  refine ra (v := .int .u64 0) (h := rd_bin (by ((try simp only [ev_tmp, ev_const, ev_func, get_put, get_args, get_putL, get_putL_nil, Nat.reduceEqDiff, reduceIte, List.getD_cons_zero, List.getD_cons_succ, List.getD_nil]); first | done | with_reducible rfl)) (by ((try simp only [ev_tmp, ev_const, ev_func, get_put, get_args, get_putL, get_putL_nil, Nat.reduceEqDiff, reduceIte, List.getD_cons_zero, List.getD_cons_succ, List.getD_nil]); first | done | with_reducible rfl)) (fun _ => rfl) (fun _ => rfl)) (next := ?_)
  refine go ?_
  refine ra (v := .int .u64 0) (h := rd_bin (by ((try simp only [ev_tmp, ev_const, ev_func, get_put, get_args, get_putL, get_putL_nil, Nat.reduceEqDiff, reduceIte, List.getD_cons_zero, List.getD_cons_succ, List.getD_nil]); first | done | with_reducible rfl)) (by ((try simp only [ev_tmp, ev_const, ev_func, get_put, get_args, get_putL, get_putL_nil, Nat.reduceEqDiff, reduceIte, List.getD_cons_zero, List.getD_cons_succ, List.getD_nil]); first | done | with_reducible rfl)) (fun _ => rfl) (fun _ => rfl)) (next := ?_)
  refine go ?_
  refine ra (v := .int .u64 0) (h := rd_bin (by ((try simp only [ev_tmp, ev_const, ev_func, get_put, get_args, get_putL, get_putL_nil, Nat.reduceEqDiff, reduceIte, List.getD_cons_zero, List.getD_cons_succ, List.getD_nil]); first | done | with_reducible rfl)) (by ((try simp only [ev_tmp, ev_const, ev_func, get_put, get_args, get_putL, get_putL_nil, Nat.reduceEqDiff, reduceIte, List.getD_cons_zero, List.getD_cons_succ, List.getD_nil]); first | done | with_reducible rfl)) (fun _ => rfl) (fun _ => rfl)) (next := ?_)
  refine go ?_
  refine ra (v := .int .u64 0) (h := rd_bin (by ((try simp only [ev_tmp, ev_const, ev_func, get_put, get_args, get_putL, get_putL_nil, Nat.reduceEqDiff, reduceIte, List.getD_cons_zero, List.getD_cons_succ, List.getD_nil]); first | done | with_reducible rfl)) (by ((try simp only [ev_tmp, ev_const, ev_func, get_put, get_args, get_putL, get_putL_nil, Nat.reduceEqDiff, reduceIte, List.getD_cons_zero, List.getD_cons_succ, List.getD_nil]); first | done | with_reducible rfl)) (fun _ => rfl) (fun _ => rfl)) (next := ?_)
  refine go ?_
  refine ra (v := .int .u64 0) (h := rd_bin (by ((try simp only [ev_tmp, ev_const, ev_func, get_put, get_args, get_putL, get_putL_nil, Nat.reduceEqDiff, reduceIte, List.getD_cons_zero, List.getD_cons_succ, List.getD_nil]); first | done | with_reducible rfl)) (by ((try simp only [ev_tmp, ev_const, ev_func, get_put, get_args, get_putL, get_putL_nil, Nat.reduceEqDiff, reduceIte, List.getD_cons_zero, List.getD_cons_succ, List.getD_nil]); first | done | with_reducible rfl)) (fun _ => rfl) (fun _ => rfl)) (next := ?_)
  refine go ?_
  refine ra (v := .int .u64 5) (h := rd_bin (by ((try simp only [ev_tmp, ev_const, ev_func, get_put, get_args, get_putL, get_putL_nil, Nat.reduceEqDiff, reduceIte, List.getD_cons_zero, List.getD_cons_succ, List.getD_nil]); first | done | with_reducible rfl)) (by ((try simp only [ev_tmp, ev_const, ev_func, get_put, get_args, get_putL, get_putL_nil, Nat.reduceEqDiff, reduceIte, List.getD_cons_zero, List.getD_cons_succ, List.getD_nil]); first | done | with_reducible rfl)) (fun _ => rfl) (fun _ => rfl)) (next := ?_)
  refine go ?_
  exact ret2 ⟨rfl, rfl⟩
theorem bitsMul_5 {w : World} : Calls Try.prog 126 #[.int .u64 1, .int .u64 5] w (Ret fun v w' => v = .tuple #[.int .u64 0, .int .u64 5] ∧ w' = w) := by
  refine enter (args := [.int .u64 1, .int .u64 5]) (l := [.tmp 4, .tmp 5]) Try.func126 rfl rfl Try.ntmps126 (by simp) ?_
  refine go ?_
  refine rc bitsMul64_5 (next := fun v1 w1 h1 => ?_)
  obtain ⟨rfl, rfl⟩ := h1
  refine go ?_
  exact ret2 ⟨rfl, rfl⟩
set_option maxHeartbeats 1000000 in
theorem bitsMul64_7 {w : World} : Calls Try.prog 137 #[.int .u64 1, .int .u64 7] w (Ret fun v w' => v = .tuple #[.int .u64 0, .int .u64 7] ∧ w' = w) := by
  refine enter (args := [.int .u64 1, .int .u64 7]) (l := [.tmp 4, .tmp 5]) Try.func137 rfl rfl Try.ntmps137 (by simp) ?_
  refine go ?_
  refine ra (v := .int .u64 1) (h := rd_bin (by ((try simp only [ev_tmp, ev_const, ev_func, get_put, get_args, get_putL, get_putL_nil, Nat.reduceEqDiff, reduceIte, List.getD_cons_zero, List.getD_cons_succ, List.getD_nil]); first | done | with_reducible rfl)) (by ((try simp only [ev_tmp, ev_const, ev_func, get_put, get_args, get_putL, get_putL_nil, Nat.reduceEqDiff, reduceIte, List.getD_cons_zero, List.getD_cons_succ, List.getD_nil]); first | done | with_reducible rfl)) (fun _ => rfl) (fun _ => rfl)) (next := ?_)
  refine go ?_
  refine ra (v := .int .u64 0) (h := rd_bin (by ((try simp only [ev_tmp, ev_const, ev_func, get_put, get_args, get_putL, get_putL_nil, Nat.reduceEqDiff, reduceIte, List.getD_cons_zero, List.getD_cons_succ, List.getD_nil]); first | done | with_reducible rfl)) (by ((try simp only [ev_tmp, ev_const, ev_func, get_put, get_args, get_putL, get_putL_nil, Nat.reduceEqDiff, reduceIte, List.getD_cons_zero, List.getD_cons_succ, List.getD_nil]); first | done | with_reducible rfl)) (fun _ => rfl) (fun _ => rfl)) (next := ?_)
  refine go ?_
  refine ra (v := .int .u64 7) (h := rd_bin (by ((try simp only [ev_tmp, ev_const, ev_func, get_put, get_args, get_putL, get_putL_nil, Nat.reduceEqDiff, reduceIte, List.getD_cons_zero, List.getD_cons_succ, List.getD_nil]); first | done | with_reducible rfl)) (by ((try simp only [ev_tmp, ev_const, ev_func, get_put, get_args, get_putL, get_putL_nil, Nat.reduceEqDiff, reduceIte, List.getD_cons_zero, List.getD_cons_succ, List.getD_nil]); first | done | with_reducible rfl)) (fun _ => rfl) (fun _ => rfl)) (next := ?_)
  refine go ?_
  refine ra (v := .int .u64 0) (h := rd_bin (by ((try simp only [ev_tmp, ev_const, ev_func, get_put, get_args, get_putL, get_putL_nil, Nat.reduceEqDiff, reduceIte, List.getD_cons_zero, List.getD_cons_succ, List.getD_nil]); first | done | with_reducible rfl)) (by ((try simp only [ev_tmp, ev_const, ev_func, get_put, get_args, get_putL, get_putL_nil, Nat.reduceEqDiff, reduceIte, List.getD_cons_zero, List.getD_cons_succ, List.getD_nil]); first | done | with_reducible rfl)) (fun _ => rfl) (fun _ => rfl)) (next := ?_)
  refine go ?_
  refine ra (v := .int .u64 7) (h := rd_bin (by ((try simp only [ev_tmp, ev_const, ev_func, get_put, get_args, get_putL, get_putL_nil, Nat.reduceEqDiff, reduceIte, List.getD_cons_zero, List.getD_cons_succ, List.getD_nil]); first | done | with_reducible rfl)) (by ((try simp only [ev_tmp, ev_const, ev_func, get_put, get_args, get_putL, get_putL_nil, Nat.reduceEqDiff, reduceIte, List.getD_cons_zero, List.getD_cons_succ, List.getD_nil]); first | done | with_reducible rfl)) (fun _ => rfl) (fun _ => rfl)) (next := ?_)
  refine go ?_
  refine ra (v := .int .u64 0) (h := rd_bin (by ((try simp only [ev_tmp, ev_const, ev_func, get_put, get_args, get_putL, get_putL_nil, Nat.reduceEqDiff, reduceIte, List.getD_cons_zero, List.getD_cons_succ, List.getD_nil]); first | done | with_reducible rfl)) (by ((try simp only [ev_tmp, ev_const, ev_func, get_put, get_args, get_putL, get_putL_nil, Nat.reduceEqDiff, reduceIte, List.getD_cons_zero, List.getD_cons_succ, List.getD_nil]); first | done | with_reducible rfl)) (fun _ => rfl) (fun _ => rfl)) (next := ?_)
  refine go ?_
  refine ra (v := .int .u64 0) (h := rd_bin (by ((try simp only [ev_tmp, ev_const, ev_func, get_put, get_args, get_putL, get_putL_nil, Nat.reduceEqDiff, reduceIte, List.getD_cons_zero, List.getD_cons_succ, List.getD_nil]); first | done | with_reducible rfl)) (by ((try simp only [ev_tmp, ev_const, ev_func, get_put, get_args, get_putL, get_putL_nil, Nat.reduceEqDiff, reduceIte, List.getD_cons_zero, List.getD_cons_succ, List.getD_nil]); first | done | with_reducible rfl)) (fun _ => rfl) (fun _ => rfl)) (next := ?_)
  refine go ?_
  refine ra (v := .int .u64 0) (h := rd_bin (by ((try simp only [ev_tmp, ev_const, ev_func, get_put, get_args, get_putL, get_putL_nil, Nat.reduceEqDiff, reduceIte, List.getD_cons_zero, List.getD_cons_succ, List.getD_nil]); first | done | with_reducible rfl)) (by ((try simp only [ev_tmp, ev_const, ev_func, get_put, get_args, get_putL, get_putL_nil, Nat.reduceEqDiff, reduceIte, List.getD_cons_zero, List.getD_cons_succ, List.getD_nil]); first | done | with_reducible rfl)) (fun _ => rfl) (fun _ => rfl)) (next := ?_)
  refine go ?_
  refine ra (v := .int .u64 0) (h := rd_bin (by ((try simp only [ev_tmp, ev_const, ev_func, get_put, get_args, get_putL, get_putL_nil, Nat.reduceEqDiff, reduceIte, List.getD_cons_zero, List.getD_cons_succ, List.getD_nil]); first | done | with_reducible rfl)) (by ((try simp only [ev_tmp, ev_const, ev_func, get_put, get_args, get_putL, get_putL_nil, Nat.reduceEqDiff, reduceIte, List.getD_cons_zero, List.getD_cons_succ, List.getD_nil]); first | done | with_reducible rfl)) (fun _ => rfl) (fun _ => rfl)) (next := ?_)
  refine go ?_
  refine ra (v := .int .u64 0) (h := rd_bin (by ((try simp only [ev_tmp, ev_const, ev_func, get_put, get_args, get_putL, get_putL_nil, Nat.reduceEqDiff, reduceIte, List.getD_cons_zero, List.getD_cons_succ, List.getD_nil]); first | done | with_reducible rfl)) (by ((try simp only [ev_tmp, ev_const, ev_func, get_put, get_args, get_putL, get_putL_nil, Nat.reduceEqDiff, reduceIte, List.getD_cons_zero, List.getD_cons_succ, List.getD_nil]); first | done | with_reducible rfl)) (fun _ => rfl) (fun _ => rfl)) (next := ?_)
  refine go ?_
  refine ra (v := .int .u64 0) (h := rd_bin (by ((try simp only [ev_tmp, ev_const, ev_func, get_put, get_args, get_putL, get_putL_nil, Nat.reduceEqDiff, reduceIte, List.getD_cons_zero, List.getD_cons_succ, List.getD_nil]); first | done | with_reducible rfl)) (by ((try simp only [ev_tmp, ev_const, ev_func, get_put, get_args, get_putL, get_putL_nil, Nat.reduceEqDiff, reduceIte, List.getD_cons_zero, List.getD_cons_succ, List.getD_nil]); first | done | with_reducible rfl)) (fun _ => rfl) (fun _ => rfl)) (next := ?_)
  refine go ?_
  refine ra (v := .int .u64 0) (h := rd_bin (by ((try simp only [ev_tmp, ev_const, ev_func, get_put, get_args, get_putL, get_putL_nil, Nat.reduceEqDiff, reduceIte, List.getD_cons_zero, List.getD_cons_succ, List.getD_nil]); first | done | with_reducible rfl)) (by ((try simp only [ev_tmp, ev_const, ev_func, get_put, get_args, get_putL, get_putL_nil, Nat.reduceEqDiff, reduceIte, List.getD_cons_zero, List.getD_cons_succ, List.getD_nil]); first | done | with_reducible rfl)) (fun _ => rfl) (fun _ => rfl)) (next := ?_)
  refine go ?_
  refine ra (v := .int .u64 0) (h := rd_bin (by ((try simp only [ev_tmp, ev_const, ev_func, get_put, get_args, get_putL, get_putL_nil, Nat.reduceEqDiff, reduceIte, List.getD_cons_zero, List.getD_cons_succ, List.getD_nil]); first | done | with_reducible rfl)) (by ((try simp only [ev_tmp, ev_const, ev_func, get_put, get_args, get_putL, get_putL_nil, Nat.reduceEqDiff, reduceIte, List.getD_cons_zero, List.getD_cons_succ, List.getD_nil]); first | done | with_reducible rfl)) (fun _ => rfl) (fun _ => rfl)) (next := ?_)
  refine go ?_
  refine ra (v := .int .u64 0) (h := rd_bin (by ((try simp only [ev_tmp, ev_const, ev_func, get_put, get_args, get_putL, get_putL_nil, Nat.reduceEqDiff, reduceIte, List.getD_cons_zero, List.getD_cons_succ, List.getD_nil]); first | done | with_reducible rfl)) (by ((try simp only [ev_tmp, ev_const, ev_func, get_put, get_args, get_putL, get_putL_nil, Nat.reduceEqDiff, reduceIte, List.getD_cons_zero, List.getD_cons_succ, List.getD_nil]); first | done | with_reducible rfl)) (fun _ => rfl) (fun _ => rfl)) (next := ?_)
  refine go ?_
  refine ra (v := .int .u64 0) (h := rd_bin (by ((try simp only [ev_tmp, ev_const, ev_func, get_put, get_args, get_putL, get_putL_nil, Nat.reduceEqDiff, reduceIte, List.getD_cons_zero, List.getD_cons_succ, List.getD_nil]); first | done | with_reducible rfl)) (by ((try simp only [ev_tmp, ev_const, ev_func, get_put, get_args, get_putL, get_putL_nil, Nat.reduceEqDiff, reduceIte, List.getD_cons_zero, List.getD_cons_succ, List.getD_nil]); first | done | with_reducible rfl)) (fun _ => rfl) (fun _ => rfl)) (next := ?_)
  refine go ?_
  refine ra (v := .int .u64 0) (h := rd_bin (by ((try simp only [ev_tmp, ev_const, ev_func, get_put, get_args, get_putL, get_putL_nil, Nat.reduceEqDiff, reduceIte, List.getD_cons_zero, List.getD_cons_succ, List.getD_nil]); first | done | with_reducible rfl)) (by ((try simp only [ev_tmp, ev_const, ev_func, get_put, get_args, get_putL, get_putL_nil, Nat.reduceEqDiff, reduceIte, List.getD_cons_zero, List.getD_cons_succ, List.getD_nil]); first | done | with_reducible rfl)) (fun _ => rfl) (fun _ => rfl)) (next := ?_)
  refine go ?_
  refine ra (v := .int .u64 7) (h := rd_bin (by ((try simp only [ev_tmp, ev_const, ev_func, get_put, get_args, get_putL, get_putL_nil, Nat.reduceEqDiff, reduceIte, List.getD_cons_zero, List.getD_cons_succ, List.getD_nil]); first | done | with_reducible rfl)) (by ((try simp only [ev_tmp, ev_const, ev_func, get_put, get_args, get_putL, get_putL_nil, Nat.reduceEqDiff, reduceIte, List.getD_cons_zero, List.getD_cons_succ, List.getD_nil]); first | done | with_reducible rfl)) (fun _ => rfl) (fun _ => rfl)) (next := ?_)
  refine go ?_
  exact ret2 ⟨rfl, rfl⟩
theorem bitsMul_7 {w : World} : Calls Try.prog 126 #[.int .u64 1, .int .u64 7] w (Ret fun v w' => v = .tuple #[.int .u64 0, .int .u64 7] ∧ w' = w) := by
  refine enter (args := [.int .u64 1, .int .u64 7]) (l := [.tmp 4, .tmp 5]) Try.func126 rfl rfl Try.ntmps126 (by simp) ?_
  refine go ?_
  refine rc bitsMul64_7 (next := fun v1 w1 h1 => ?_)
  obtain ⟨rfl, rfl⟩ := h1
  refine go ?_
  exact ret2 ⟨rfl, rfl⟩
theorem bitsMul_ok {o : Int} (ho : o = 2 ∨ o = 3 ∨ o = 5 ∨ o = 7) {w : World} : Calls Try.prog 126 #[.int .u64 1, .int .u64 o] w (Ret fun v w' => v = .tuple #[.int .u64 0, .int .u64 o] ∧ w' = w) := by
  rcases ho with rfl | rfl | rfl | rfl
  · exact bitsMul_2
  · exact bitsMul_3
  · exact bitsMul_5
  · exact bitsMul_7
end Go.Proofs.Ytnphljflkpekmaa

/-
  Walks: slices.Repeat of one integer.
  Conditions: stated at each theorem.
-/
namespace Go.Proofs.Ytnphljflkpekmaa
open Go Go.Pc
theorem rep_step {a : Int} {n m k : Nat} (hnm : n + m ≤ k) : (List.replicate n a ++ List.replicate (k - n) 0).take n ++ List.replicate m a ++ (List.replicate n a ++ List.replicate (k - n) (0 : Int)).drop (n + (List.replicate m a).length) = List.replicate (n + m) a ++ List.replicate (k - (n + m)) 0 := by
  have e1 : (List.replicate n a ++ List.replicate (k - n) (0 : Int)).take n = List.replicate n a := List.take_left' (by simp)
  have e2 : (List.replicate n a ++ List.replicate (k - n) (0 : Int)).drop (n + (List.replicate m a).length) = List.replicate (k - (n + m)) 0 := by
    rw [List.length_replicate, ← List.drop_drop, List.drop_left' (by simp), List.drop_replicate]
    congr 1
    omega
  rw [e1, e2, List.replicate_append_replicate]
set_option maxHeartbeats 2000000 in
theorem sliceRepeat_ok {o : Int} (ho : o = 2 ∨ o = 3 ∨ o = 5 ∨ o = 7) {a : Int} {w : World} {vx : Value} {lo hi : Nat} [hx : Ints lo hi w vx [a]] :
    Calls Try.prog 99 #[vx, .int .i64 o] w (Ret fun v w' => Ext w w' ∧ GrowI 2 w.heap.size w' v (List.replicate o.toNat a)) := by
  have hob : 2 ≤ o ∧ o ≤ 7 := by omega
  have hl1 : [a].length = 1 := rfl
  refine enter (args := [vx, .int .i64 o]) (l := [.tmp 4]) Try.func99 rfl rfl Try.ntmps99 (by simp) ?_
  refine go ?_
  refine c_if (fun h4 => ?_) (fun h4 => ?_)
  · omega
  refine go ?_
  refine ra (v := .int .u64 1) (h := rd_conv (u := .int .i64) (by ((try simp only [ev_tmp, ev_const, ev_func, get_put, get_args, get_putL, get_putL_nil, Nat.reduceEqDiff, reduceIte, List.getD_cons_zero, List.getD_cons_succ, List.getD_nil]); first | done | with_reducible rfl)) (by kernel_rfl) (by kernel_rfl) rfl) (next := ?_)
  refine go ?_
  refine ra (v := .int .u64 o) (h := rd_conv (u := .int .i64) (by ((try simp only [ev_tmp, ev_const, ev_func, get_put, get_args, get_putL, get_putL_nil, Nat.reduceEqDiff, reduceIte, List.getD_cons_zero, List.getD_cons_succ, List.getD_nil]); first | done | with_reducible rfl)) (by kernel_rfl) (by kernel_rfl) (by rw [IntKind.wrap_u64]; omega)) (next := ?_)
  refine go ?_
  refine rc (bitsMul_ok ho) (next := fun v1 w1 h1 => ?_)
  obtain ⟨rfl, rfl⟩ := h1
  refine go ?_
  refine ra (v := .bool false) (h := rd_bin (by ((try simp only [ev_tmp, ev_const, ev_func, get_put, get_args, get_putL, get_putL_nil, Nat.reduceEqDiff, reduceIte, List.getD_cons_zero, List.getD_cons_succ, List.getD_nil]); first | done | with_reducible rfl)) (by ((try simp only [ev_tmp, ev_const, ev_func, get_put, get_args, get_putL, get_putL_nil, Nat.reduceEqDiff, reduceIte, List.getD_cons_zero, List.getD_cons_succ, List.getD_nil]); first | done | with_reducible rfl)) (fun _ => rfl) (fun _ => rfl)) (next := ?_)
  refine go ?_
  refine ra (v := .bool false) (h := rd_bin (by ((try simp only [ev_tmp, ev_const, ev_func, get_put, get_args, get_putL, get_putL_nil, Nat.reduceEqDiff, reduceIte, List.getD_cons_zero, List.getD_cons_succ, List.getD_nil]); first | done | with_reducible rfl)) (by ((try simp only [ev_tmp, ev_const, ev_func, get_put, get_args, get_putL, get_putL_nil, Nat.reduceEqDiff, reduceIte, List.getD_cons_zero, List.getD_cons_succ, List.getD_nil]); first | done | with_reducible rfl)) (fun _ => rfl) (fun w => by simp [binOp, Op.intCmp]; omega)) (next := ?_)
  refine go ?_
  refine ra (v := .int .i64 o) (h := rd_conv (u := .int .u64) (by ((try simp only [ev_tmp, ev_const, ev_func, get_put, get_args, get_putL, get_putL_nil, Nat.reduceEqDiff, reduceIte, List.getD_cons_zero, List.getD_cons_succ, List.getD_nil]); first | done | with_reducible rfl)) (by kernel_rfl) (by kernel_rfl) (IntWalk.i64_in _ (by omega))) (next := ?_)
  refine go ?_
  refine st_make_int (by ((try simp only [ev_tmp, ev_const, ev_func, get_put, get_args, get_putL, get_putL_nil, Nat.reduceEqDiff, reduceIte, List.getD_cons_zero, List.getD_cons_succ, List.getD_nil]); first | done | with_reducible rfl)) (by ((try simp only [ev_tmp, ev_const, ev_func, get_put, get_args, get_putL, get_putL_nil, Nat.reduceEqDiff, reduceIte, List.getD_cons_zero, List.getD_cons_succ, List.getD_nil]); first | done | with_reducible rfl)) (by omega) (by omega) (by first | exact True.intro | exact ⟨_, rfl, by ((try simp only [ev_tmp, ev_const, ev_func, get_put, get_args, get_putL, get_putL_nil, Nat.reduceEqDiff, reduceIte, List.getD_cons_zero, List.getD_cons_succ, List.getD_nil, Bool.not_true, Bool.not_false]); first | done | with_reducible rfl)⟩) fun w2 v2 he2 hs2 ho2 => ?_
  have hx2 : Ints lo hi w2 vx [a] := hx.same (he2.same _ _)
  obtain ⟨A, c, hvx, _, _, hcell⟩ := hx2.sl.ex
  obtain ⟨a0, hA, _, _, hc0⟩ := hcell 0 (.int .i64 a) rfl
  obtain ⟨cap, cur, hv2, _, hcap, hcapm, _⟩ := ho2.own.ex
  have hrl : (List.replicate o.toNat (0 : Int)).length = o.toNat := by simp
  have hml : ((List.replicate o.toNat (0 : Int)).map (Value.int .i64)).length = o.toNat := by simp
  have hzl : ([a].map (Value.int .i64)).length = 1 := rfl
  rw [hml] at hv2 hcap
  rw [hA] at hvx
  refine go ?_
  refine st_copyi (cs := [a]) (n := 0) ho2 (Eq.trans (by ((try simp only [ev_tmp, ev_const, ev_func, get_put, get_args, get_putL, get_putL_nil, Nat.reduceEqDiff, reduceIte, List.getD_cons_zero, List.getD_cons_succ, List.getD_nil]); first | done | with_reducible rfl)) hv2) (Eq.trans (by ((try simp only [ev_tmp, ev_const, ev_func, get_put, get_args, get_putL, get_putL_nil, Nat.reduceEqDiff, reduceIte, List.getD_cons_zero, List.getD_cons_succ, List.getD_nil]); first | done | with_reducible rfl)) hvx) ?_ ?_ ?_ (next := fun w3 hch3 ho3 => ?_)
  · rw [hzl]
    show 1 = Nat.min 1 o.toNat
    have : 1 ≤ o.toNat := by omega
    exact (Nat.min_eq_left this).symm
  · intro j u hu
    have hj : j = 0 := by
      cases j with
      | zero => rfl
      | succ j => simp at hu
    subst hj
    have : a = u := by simpa using hu
    rw [← this]; exact hc0
  · rw [hrl]; show 0 + 1 ≤ o.toNat; omega
  have e3 := rep_step (a := a) (n := 0) (m := 1) (k := o.toNat) (by omega)
  simp only [List.replicate_zero, List.nil_append, Nat.sub_zero, List.replicate_succ] at e3
  have ho3' : OwnI 2 w1.heap.size w3 v2 (List.replicate 1 a ++ List.replicate (o.toNat - 1) 0) := by
    have h := ho3
    rw [show (List.replicate o.toNat (0 : Int)).take 0 ++ [a] ++ (List.replicate o.toNat 0).drop (0 + [a].length) = List.replicate 1 a ++ List.replicate (o.toNat - 1) 0 by simp [List.drop_replicate]] at h
    exact h
  have hE3 : Ext w1 w3 := hch3.ext he2 (Nat.le_refl _)
  clear ho2 ho3 hch3 e3
  refine go ?_
  refine r_loop (fun m ρ w' => ∃ n : Nat, Has ρ [(7, v2), (8, .int .i64 n)] ∧ Chg w1.heap.size w3 w' ∧ OwnI 2 w1.heap.size w' v2 (List.replicate n a ++ List.replicate (o.toNat - n) 0) ∧ 1 ≤ n ∧ n ≤ o.toNat ∧ m = o.toNat - n) (o.toNat - 1) ?_ ?_
  · refine ⟨1, ?_, Chg.refl _ _, ho3', Nat.le_refl _, by omega, rfl⟩
    exact hasP
  clear ho3'
  rintro m ρ w4 ⟨n, hH, hch4, ho4, hn1, hno, hm⟩
  refine rwp_has hH fun ρ0 => ?_
  have hxl : (List.replicate n a ++ List.replicate (o.toNat - n) (0 : Int)).length = o.toNat := by simp; omega
  refine go ?_
  refine c_if (fun h5 => ?_) (fun h5 => ?_)
  · have hno' : n < o.toNat := by omega
    refine go ?_
    refine z_order w1.heap.size (List.range 10) (h := fun w5 he5 _ => ?_)
    have ho5 : OwnI 2 w1.heap.size w5 v2 (List.replicate n a ++ List.replicate (o.toNat - n) 0) := OwnI.ext (x := he5) (h := ho4)
    obtain ⟨m, hmd⟩ : ∃ m, min n (o.toNat - n) = m := ⟨_, rfl⟩
    have hm0 : 1 ≤ m ∧ n + m ≤ o.toNat ∧ m ≤ n := by omega
    have hcl : (List.replicate m a).length = m := by simp
    have hadd : ∀ q, (Addr.mk w1.heap.size 0 none).add q = ⟨w1.heap.size, q, none⟩ := fun q => by unfold Addr.add; split <;> simp_all
    have hcut : ∀ h, cut v2 n h = .slice (some ⟨w1.heap.size, n, none⟩) (h - n) (cap - n) := fun h => by
      rw [hv2]
      simp only [cut, sliced]
      rw [if_neg (by omega)]
      simp [hadd]
    have hcutTo : cutTo v2 n = .slice (some ⟨w1.heap.size, 0, none⟩) n cap := by rw [hv2]; rfl
    obtain ⟨A5, c5, hv5, _, _, hcell5⟩ := ho5.own.toSl.ex
    have hlen2 : ∀ w', Len w' v2 o.toNat := fun w' => ⟨some ⟨w1.heap.size, 0, none⟩, cap, hv2, hcap, by have := hcapm; simp only [maxLen] at this; omega, fun _ => ⟨_, rfl⟩⟩
    refine zgo ?_
    refine za (v := cut v2 n o.toNat) (h := ⟨fun w' _ => rd_slice_l (hl := hlen2 w') (by ((try simp only [ev_tmp, ev_const, ev_func, get_put, get_args, get_putL, get_putL_nil, Nat.reduceEqDiff, reduceIte, List.getD_cons_zero, List.getD_cons_succ, List.getD_nil]); first | done | with_reducible rfl)) (by ((try simp only [ev_tmp, ev_const, ev_func, get_put, get_args, get_putL, get_putL_nil, Nat.reduceEqDiff, reduceIte, List.getD_cons_zero, List.getD_cons_succ, List.getD_nil]); first | done | with_reducible rfl)) (by omega) (by omega)⟩) (next := ?_)
    refine zgo ?_
    refine za (v := cutTo v2 n) (h := ⟨fun w' _ => rd_slice_h (hl := hlen2 w') (by ((try simp only [ev_tmp, ev_const, ev_func, get_put, get_args, get_putL, get_putL_nil, Nat.reduceEqDiff, reduceIte, List.getD_cons_zero, List.getD_cons_succ, List.getD_nil]); first | done | with_reducible rfl)) (by ((try simp only [ev_tmp, ev_const, ev_func, get_put, get_args, get_putL, get_putL_nil, Nat.reduceEqDiff, reduceIte, List.getD_cons_zero, List.getD_cons_succ, List.getD_nil]); first | done | with_reducible rfl)) (by omega) (by omega)⟩) (next := ?_)
    refine z_copyi (cs := List.replicate m a) (n := n) ho5 (hx := Eq.trans (by ((try simp only [ev_tmp, ev_const, ev_func, get_put, get_args, get_putL, get_putL_nil, Nat.reduceEqDiff, reduceIte, List.getD_cons_zero, List.getD_cons_succ, List.getD_nil]); first | done | with_reducible rfl)) (hcut _)) (hy := Eq.trans (by ((try simp only [ev_tmp, ev_const, ev_func, get_put, get_args, get_putL, get_putL_nil, Nat.reduceEqDiff, reduceIte, List.getD_cons_zero, List.getD_cons_succ, List.getD_nil]); first | done | with_reducible rfl)) hcutTo) (hn := ?_) (hsrc := ?_) (hf := ?_) (next := fun w6 hch6 ho6 => ?_)
    · rw [hcl, ← hmd]
    · intro j u hu
      have hjm : j < m := by
        rw [List.getElem?_replicate] at hu
        by_cases e : j < m
        · exact e
        · rw [if_neg e] at hu; cases hu
      have hua : a = u := by
        rw [List.getElem?_replicate, if_pos hjm] at hu
        injection hu
      obtain ⟨a5, hA5, _, _, hc5⟩ := hcell5 j (.int .i64 a) (by
        rw [List.getElem?_map, List.getElem?_append_left (by simp; omega), List.getElem?_replicate, if_pos (by omega)]
        rfl)
      rw [hv2] at hv5
      injection hv5 with hv5 _ _
      rw [hA5] at hv5
      injection hv5 with hv5
      rw [hv5, ← hua]
      exact hc5
    · rw [hcl, hxl]; exact hm0.2.1
    rw [rep_step hm0.2.1] at ho6
    refine zgo ?_
    refine z_end ?_
    refine go ?_
    refine loopQ_normal ?_ ⟨n + m, ?_, (hch4.grow he5).trans hch6, ho6, by omega, hm0.2.1, rfl⟩
    · omega
    · exact hasP
  · obtain rfl : n = o.toNat := by omega
    rw [Nat.sub_self, List.replicate_zero, List.append_nil] at ho4
    refine go ?_
    exact ret1 ⟨hch4.ext hE3 (Nat.le_refl _), ⟨ho4.own.toN⟩⟩
end Go.Proofs.Ytnphljflkpekmaa

/-
  Walks: the program's relators, values of words, tests of homomorphisms (PresentationRelators, evaluate, respects).
  Conditions: stated at each theorem.
-/
namespace Go.Proofs.Ytnphljflkpekmaa
open Go Go.Pc
theorem ints_bdI {e : List Int} {n : Nat} (hl : LetW n e) (hn : n ≤ 6) : ∀ i, i < e.length → -1000000 ≤ e.getD i 0 ∧ e.getD i 0 ≤ 1000000 := fun i hi => by
  have e1 : e.getD i 0 = e[i] := by simp [hi]
  have := hl _ (List.getElem_mem hi)
  omega
theorem letW_atI {n : Nat} {w : List Int} (h : LetW n w) {k : Nat} (hk : k < w.length) : w.getD k 0 ≠ 0 ∧ -(n : Int) ≤ w.getD k 0 ∧ w.getD k 0 ≤ n := by
  have e1 : w.getD k 0 = w[k] := by simp [hk]
  rw [e1]
  exact h _ (List.getElem_mem hk)
theorem rels_bd {p : Pr} (hv : Valid p) : ∀ m, m ≤ p.n → (relL p m).length ≤ 100 := fun m hm => by
  have h := (rels_props hv).1
  have : (relL p m).length ≤ (rels p).length := by
    unfold rels relL
    simp only [List.length_append]
    have e : List.range p.n = List.range m ++ (List.range (p.n - m)).map (m + ·) := by
      rw [← List.range_add, show m + (p.n - m) = p.n by omega]
    rw [e, List.flatMap_append, List.length_append]
    simp only [List.length_append, List.length_map, List.length_range]
    omega
  omega
set_option maxHeartbeats 4000000 in
theorem PresentationRelators_ok {p : Pr} (hv : Valid p) {w : World} {vp : Value} {lo hi : Nat} [hp : Pres lo hi w vp p] :
    Calls Try.prog 67 #[vp] w (Ret fun v w' => ∃ (u : Value) (e : Int), v = .tuple #[u, .int .i64 e] ∧ Ext w w' ∧ ∃ rs, rs.map (·.2) = rels p ∧ GrowL 22 w.heap.size w' u rs) := by
  have hn6 := hv.n6
  have hol : p.ord.length = p.n := rfl
  have hwl := hv.lenw
  have hcl := hv.lenc
  replace hp := hp.wide
  obtain ⟨vo, vpw, vc, ps, cs, css, rfl, h1, h2, h3⟩ := hp.ex
  refine enter (args := [.agg #[vo, vpw, vc]]) (l := [.tmp 2, .tmp 3]) Try.func67 rfl rfl Try.ntmps67 (by simp) ?_
  refine go ?_
  refine st_box3 (by ((try simp only [ev_tmp, ev_const, ev_func, get_put, get_args, get_putL, get_putL_nil, Nat.reduceEqDiff, reduceIte, List.getD_cons_zero, List.getD_cons_succ, List.getD_nil]); first | done | with_reducible rfl)) (by first | exact True.intro | exact ⟨_, rfl, by ((try simp only [ev_tmp, ev_const, ev_func, get_put, get_args, get_putL, get_putL_nil, Nat.reduceEqDiff, reduceIte, List.getD_cons_zero, List.getD_cons_succ, List.getD_nil, Bool.not_true, Bool.not_false]); first | done | with_reducible rfl)⟩) fun w1 b he1 hb1 hs1 hc0 hc1 hc2 => ?_
  have hz1 := he1.size
  refine go ?_
  refine rc (impl_IsPresentation_ok (p := p) (by omega)) (next := fun v0 w0 h0 => ?_)
  obtain ⟨b0, rfl, hb0, he0⟩ := h0
  have hE0 := he1.trans he0
  refine go ?_
  refine c_b (fun e0 => ?_) (fun e0 => ?_)
  · rw [hb0.2 hv] at e0; cases e0
  refine go ?_
  refine r_for p.n (fun i ρ w' => ∃ vl rs, Has ρ [(1, .pointer (some ⟨b, 0, none⟩)), (4, vl), (16, vo), (17, .int .i64 p.n), (18, .int .i64 i)] ∧ Ext w0 w' ∧ GrowL 22 w0.heap.size w' vl rs ∧ rs.map (·.2) = (List.range i).map (relP p)) ?_ ?_
  · refine ⟨nilv, [], ?_, Ext.refl _, GrowL.nil _ _ _ (Nat.le_refl _), rfl⟩
    exact hasP
  rintro i ρ w3 hi ⟨vl, rs, hH, he3, hG3, hrs3⟩
  refine rwp_has hH fun ρ0 => ?_
  have hz3 := he3.size
  have hE3 := hE0.trans he3
  have hrl3 : rs.length = i := by have := congrArg List.length hrs3; simpa using this
  refine go ?_
  refine c_if (fun h4 => ?_) (fun h4 => ?_)
  · have hin : i < p.n := by omega
    have ho := hv.opos hin
    have hoi : p.ord.getD i 0 = p.o i := rfl
    have hop := hv.prime i hin
    have hiw := invec_word hv (hv.w_in i hin)
    have hpw : p.w i = p.pow.getD i [] := rfl
    rw [hpw] at hiw
    have hlw := letW_word hiw.1
    obtain ⟨b', hb', hvb'⟩ := own_some' vl w0.heap.size w3.heap.size hz3 (fun g h => (hG3.lst.lt h).1)
    have hzE0 := hE0.size
    have hz0 := he0.size
    have ap1 : Apart 0 w.heap.size b' := ⟨.inr (by omega)⟩
    have ap2 : Apart b (b + 1) b' := ⟨.inr (by have := hc0.lt; omega)⟩
    refine go ?_
    rw [hoi]
    refine z_order b' [0, 1, 2, 6, 7, 8, 9, 10, 4, 3, 5, 11, 12, 13, 14, 15, 16] (h := fun w4 he4 hs4 => ?_)
    refine zgo ?_
    refine z_slice1i (t := 22) (e := 2) (z := .int .i64 0) (a := (i : Int) + 1) (next := fun w5 v5 he5 hs5 ho5 => ?_)
    have hx5 : Ints w4.heap.size (w4.heap.size + 1) w5 v5 [(i : Int) + 1] := ⟨ho5.toSl⟩
    refine zc (sliceRepeat_ok (o := p.o i) hop) (next := fun v6 w6 h6 => ?_)
    obtain ⟨he6, hG6⟩ := h6
    refine zc (normalWord_ok (e := p.pow.getD i []) (by omega) (fun j hj => by have := hiw.2.2 j hj; omega)) (next := fun v7 w7 h7 => ?_)
    obtain ⟨he7, hG7⟩ := h7
    have hi7 := hG7.fr.ints
    refine zc (invertWord_ok (e := wordV (p.pow.getD i [])) (by omega) (ints_bdI hlw hn6)) (next := fun v8 w8 h8 => ?_)
    obtain ⟨he8, hG8⟩ := h8
    have hG68 := @GrowI.ext _ _ _ _ _ _ (he7.trans he8) hG6
    have hz5 := he5.size
    have hz58 := ((he6.trans he7).trans he8).size
    refine z_appi hG68 hG8.fr.ints hz58 hz5 (by simp only [List.length_replicate, invW_len]; omega) (next := fun v9 w9 hG9 hx9 hz9 => ?_)
    have hx49 := hx9 w4 (he5.trans ((he6.trans he7).trans he8)) hz5
    refine z_grow (hG3.ext he4) hx49 (hG9.fr.mono hz5) (by have := he4.size; omega) (by omega) hvb' (next := fun v10 v11 w11 hG11 hx11 hz11 hgs11 => ?_)
    refine zgo ?_
    refine z_end ?_
    refine go ?_
    refine forQ_normal (by omega) ⟨v11, _, ?_, hx11 w0 ((he3.trans he4).trans hx49) (Nat.le_refl _), hG11, ?_⟩
    · exact hasP
    · rw [List.map_append, hrs3, List.range_succ, List.map_append]; rfl
  · obtain rfl : i = p.n := by omega
    have hrs0 : rs.map (·.2) = relL p 0 := by rw [hrs3]; simp [relL]
    have hrb := rels_bd hv
    clear hrs3
    refine go ?_
    refine r_for p.n (fun i ρ w' => ∃ vl rs, Has ρ [(1, .pointer (some ⟨b, 0, none⟩)), (4, vl), (41, vo), (42, .int .i64 p.n), (43, .int .i64 i)] ∧ Ext w0 w' ∧ GrowL 22 w0.heap.size w' vl rs ∧ rs.map (·.2) = relL p i) ?_ ?_
    · refine ⟨vl, rs, ?_, he3, hG3, hrs0⟩
      exact hasP
    clear hG3 he3 hrs0 hrl3 hz3 hE3
    rintro i ρ w3 hi ⟨vl, rs, hH3, he3, hG3, hrs3⟩
    refine rwp_has hH3 fun ρ1 => ?_
    have hz3 := he3.size
    have hE3 := hE0.trans he3
    refine go ?_
    refine c_if (fun h5 => ?_) (fun h5 => ?_)
    · have hin : i < p.n := by omega
      have hci := hv.lenci i hin
      refine go ?_
      refine r_for (p.n - 1 - i) (fun k ρ w' => ∃ vl rs, Has ρ [(1, .pointer (some ⟨b, 0, none⟩)), (4, vl), (7, .int .i64 i), (41, vo), (42, .int .i64 p.n), (43, .int .i64 i), (50, Pc.rowAt vc cs i), (51, .int .i64 (p.cnj.getD i []).length), (52, .int .i64 k)] ∧ Ext w0 w' ∧ GrowL 22 w0.heap.size w' vl rs ∧ rs.map (·.2) = relL p i ++ relCs p i k) ?_ ?_
      · refine ⟨vl, rs, ?_, he3, hG3, by simpa [relCs] using hrs3⟩
        exact hasP
      clear hG3 he3 hrs3 hz3 hE3
      rintro k ρ w4 hk ⟨vl, rs, hH4, he4, hG4, hrs4⟩
      refine rwp_has hH4 fun ρ2 => ?_
      have hz4 := he4.size
      have hE4 := hE0.trans he4
      have hrl4 : rs.length ≤ 1000 := by
        have h := congrArg List.length hrs4
        have h2 := hrb i (by omega)
        simp only [List.length_map, List.length_append, relCs, List.length_range] at h
        omega
      have hrow : Pc.Rows 0 w1.heap.size w4 (Pc.rowAt vc cs i) (css.getD i []) (p.cnj.getD i []) := ((h3.same ((hE4).same _ _)).vals.at_ i).mono (Nat.zero_le _) (by have := he1.size; omega)
      refine go ?_
      refine c_if (fun h6 => ?_) (fun h6 => ?_)
      · have hkn : k < p.n - 1 - i := by omega
        have hiw := invec_word hv (hv.c_in i (i + 1 + k) (by omega) (by omega))
        have hw : p.c i (i + 1 + k) = (p.cnj.getD i []).getD k [] := by
          show (p.cnj.getD i []).getD (i + 1 + k - (i + 1)) [] = _
          rw [show i + 1 + k - (i + 1) = k by omega]
        rw [hw] at hiw
        have hlw := letW_word hiw.1
        refine go ?_
        refine st_slice3i (a := -((i : Int) + 1)) (b := (i : Int) + k + 2) (c := (i : Int) + 1) (by ((try simp only [ev_tmp, ev_const, ev_func, get_put, get_args, get_putL, get_putL_nil, Nat.reduceEqDiff, reduceIte, List.getD_cons_zero, List.getD_cons_succ, List.getD_nil]); first | done | with_reducible rfl)) (by ((try simp only [ev_tmp, ev_const, ev_func, get_put, get_args, get_putL, get_putL_nil, Nat.reduceEqDiff, reduceIte, List.getD_cons_zero, List.getD_cons_succ, List.getD_nil]); first | done | with_reducible rfl)) (by ((try simp only [ev_tmp, ev_const, ev_func, get_put, get_args, get_putL, get_putL_nil, Nat.reduceEqDiff, reduceIte, List.getD_cons_zero, List.getD_cons_succ, List.getD_nil]); first | done | with_reducible rfl)) ?_ (by first | exact True.intro | exact ⟨_, rfl, by ((try simp only [ev_tmp, ev_const, ev_func, get_put, get_args, get_putL, get_putL_nil, Nat.reduceEqDiff, reduceIte, List.getD_cons_zero, List.getD_cons_succ, List.getD_nil, Bool.not_true, Bool.not_false]); first | done | with_reducible rfl)⟩) fun w5 v5 he5 hG5 => ?_
        · rfl
        have e3 : [-((i : Int) + 1), (i : Int) + k + 2, (i : Int) + 1] = [-(i : Int) - 1, ((i + 1 + k : Nat) : Int) + 1, (i : Int) + 1] := by
          rw [show -((i : Int) + 1) = -(i : Int) - 1 by omega, show (i : Int) + k + 2 = ((i + 1 + k : Nat) : Int) + 1 by omega]
        rw [e3] at hG5
        refine go ?_
        refine rc (normalWord_ok (e := (p.cnj.getD i []).getD k []) (by omega) (fun j hj => by have := hiw.2.2 j hj; omega)) (next := fun v6 w6 h7 => ?_)
        obtain ⟨he6, hG6⟩ := h7
        have hi6 := hG6.fr.ints
        refine go ?_
        refine rc (invertWord_ok (e := wordV ((p.cnj.getD i []).getD k [])) (by omega) (ints_bdI hlw hn6)) (next := fun v7 w7 h8 => ?_)
        obtain ⟨he7, hG7⟩ := h8
        have hG57 := @GrowI.ext _ _ _ _ _ _ (he6.trans he7) hG5
        have hz7 := (he5.trans (he6.trans he7)).size
        refine go ?_
        refine st_appi hG57 hG7.fr.ints hz7 (by simp only [List.length_cons, List.length_nil, invW_len]; omega) (next := fun v8 w8 hG8 hx8 hz8 => ?_)
        have hx48 := hx8 w4 (he5.trans (he6.trans he7)) (Nat.le_refl _)
        refine go ?_
        refine st_grow hG4 hx48 hG8.fr hz4 (by omega) (next := fun v9 v10 w10 hG10 hx10 hz10 hgs10 => ?_)
        refine go ?_
        refine forQ_normal (by omega) ⟨v10, _, ?_, hx10 w0 (he4.trans hx48) (Nat.le_refl _), hG10, ?_⟩
        · exact hasP
        · rw [List.map_append, hrs4, relCs_succ, List.append_assoc]; rfl
      · obtain rfl : k = p.n - 1 - i := by omega
        rw [← relL_succ] at hrs4
        refine go ?_
        refine forQ_normal (by omega) ⟨vl, rs, ?_, he4, hG4, hrs4⟩
        exact hasP
    · obtain rfl : i = p.n := by omega
      refine go ?_
      exact ret2 ⟨vl, 0, rfl, hE3, rs, hrs3, hG3.lower hE0.size hE3.size⟩
theorem _root_.Go.Pc.rd_max {P : Program} {ρ : Env} {w : World} {x y : Operand} {a b : Int} {ty : TypeId} {ts : Array TypeId} (h : ev ρ x = .int .i64 a) (k : ev ρ y = .int .i64 b) : Rd P (.call { callee := .builtin .max, args := #[x, y], argTypes := ts }) ty ρ w (.int .i64 (if b > a then b else a)) := by
  constructor; intro _ _ _ _
  simp [execOp, resolve, invoke, builtin, h, k, Builtin.max_, Builtin.max2]
theorem absI_ok {n : Int} {m : Nat} (h : n = m ∨ n = -(m : Int)) (hm : m ≤ 1000000) {w : World} : Calls Try.prog 128 #[.int .i64 n] w (Ret fun v w' => v = .int .i64 m ∧ w' = w) := by
  refine enter (args := [.int .i64 n]) (l := [.tmp 2]) Try.func128 rfl rfl Try.ntmps128 (by simp) ?_
  refine go ?_
  refine ra (v := .int .i64 (if -n > n then -n else n)) (h := rd_max (by ((try simp only [ev_tmp, ev_const, ev_func, get_put, get_args, get_putL, get_putL_nil, Nat.reduceEqDiff, reduceIte, List.getD_cons_zero, List.getD_cons_succ, List.getD_nil]); first | done | with_reducible rfl)) (by ((try simp only [ev_tmp, ev_const, ev_func, get_put, get_args, get_putL, get_putL_nil, Nat.reduceEqDiff, reduceIte, List.getD_cons_zero, List.getD_cons_succ, List.getD_nil]); first | done | with_reducible rfl))) (next := ?_)
  refine go ?_
  refine ret1 (v := .int .i64 (if -n > n then -n else n)) ⟨?_, rfl⟩
  congr 1
  split <;> omega
set_option maxHeartbeats 2000000 in
theorem evaluate_ok {q : Pr} [hc : ConAll q] {ys : List (El q)} {ws : List Int} (hw : LetW ys.length ws) (hwl : ws.length ≤ 100000) (hyl : ys.length ≤ 1000) {w : World} {vq vw vi : Value} {us : List Value} {xss : List (List Int)} {lo hi lo1 hi1 lo2 hi2 : Nat} [hp : PresP lo hi w vq q] [hx : Ints lo1 hi1 w vw ws] [hu : Pc.Rows lo2 hi2 w vi us xss] (hus : xss = vecs ys) :
    Calls Try.prog 102 #[vq, vw, vi] w (Ret fun v w' => Ext w w' ∧ Fr w.heap.size w' v (evalW ys ws).v) := by
  subst hus
  have hv := hc.valid
  have hn6 := hv.n6
  have hol : q.ord.length = q.n := rfl
  have hvl : (vecs ys).length = ys.length := by simp
  replace hp := hp.wide
  replace hx := hx.wide
  replace hu := hu.wide
  have hpP := hp
  obtain ⟨g, og, vo, vpw, vc, ps, cs, css, rfl, hg1, hg2, hc0, hc1, hc2, h1, h2, h3⟩ := hp.ex
  refine enter (args := [.pointer (some ⟨g, og, none⟩), vw, vi]) (l := [.tmp 6]) Try.func102 rfl rfl Try.ntmps102 (by simp) ?_
  refine go ?_
  refine st_make_int (by ((try simp only [ev_tmp, ev_const, ev_func, get_put, get_args, get_putL, get_putL_nil, Nat.reduceEqDiff, reduceIte, List.getD_cons_zero, List.getD_cons_succ, List.getD_nil]); first | done | with_reducible rfl)) (by ((try simp only [ev_tmp, ev_const, ev_func, get_put, get_args, get_putL, get_putL_nil, Nat.reduceEqDiff, reduceIte, List.getD_cons_zero, List.getD_cons_succ, List.getD_nil]); first | done | with_reducible rfl)) (by omega) (by omega) (by first | exact True.intro | exact ⟨_, rfl, by ((try simp only [ev_tmp, ev_const, ev_func, get_put, get_args, get_putL, get_putL_nil, Nat.reduceEqDiff, reduceIte, List.getD_cons_zero, List.getD_cons_succ, List.getD_nil, Bool.not_true, Bool.not_false]); first | done | with_reducible rfl)⟩) fun w2 v2 he2 hs2 ho2 => ?_
  have hz2 := he2.size
  have hzz : List.replicate q.ord.length (0 : Int) = (1 : El q).v := rfl
  rw [hzz] at ho2
  have ap1 : Apart 0 w.heap.size w.heap.size := ⟨.inr (Nat.le_refl _)⟩
  have hgs : g + 1 ≤ w.heap.size := by have := hc0.lt; omega
  have ap2 : Apart g (g + 1) w.heap.size := ⟨.inr hgs⟩
  refine go ?_
  refine r_for ws.length (fun k ρ w' => ∃ xs, Has ρ [(0, .pointer (some ⟨g, og, none⟩)), (2, vi), (7, v2), (17, vw), (18, .int .i64 ws.length), (19, .int .i64 k)] ∧ Chg w.heap.size w2 w' ∧ OwnI 2 w.heap.size w' v2 xs ∧ xs = (evalW ys (ws.take k)).v) ?_ ?_
  · refine ⟨_, ?_, Chg.refl _ _, ho2, rfl⟩
    exact hasP
  clear ho2
  rintro k ρ w3 hk ⟨xs, hH, hch3, ho3, hxs⟩
  refine rwp_has hH fun ρ0 => ?_
  have hE3 : Ext w w3 := hch3.ext he2 (Nat.le_refl _)
  refine go ?_
  refine c_if (fun h4 => ?_) (fun h4 => ?_)
  · have hkn : k < ws.length := by omega
    have hlk := letW_atI hw hkn
    have hst := evalW_take (ys := ys) hkn
    refine go ?_
    obtain ⟨j, hj⟩ : ∃ j : Nat, ws.getD k 0 = ((j + 1 : Nat) : Int) ∨ ws.getD k 0 = -((j + 1 : Nat) : Int) := ⟨(ws.getD k 0).natAbs - 1, by omega⟩
    have hjn : j < ys.length := by omega
    have hgj : (vecs ys).getD j [] = (ys.getD j 1).v := by rw [vecs_getD ys hjn, getD_one hjn]
    refine rc (absI_ok hj (by omega)) (next := fun v5 w5 h5 => ?_)
    obtain ⟨rfl, rfl⟩ := h5
    have hj1 : j + 1 - 1 = j := rfl
    have hrow : Ints 0 w.heap.size w5 (Pc.rowAt vi us j) ((vecs ys).getD j []) := (hu.same (hE3.same _ _)).vals.at_ j
    refine go ?_
    rw [hj1]
    refine c_if (fun h6 => ?_) (fun h6 => ?_)
    · have hlv : letV ys (ws.getD k 0) = (ys.getD j 1)⁻¹ := by
        unfold letV
        rw [if_neg (by omega), show (-ws.getD k 0 - 1).toNat = j by omega]
      refine go ?_
      refine rc (invert_ok (p := q) (i := 0) (x := ys.getD j 1) hgj) (next := fun v6 w6 h7 => ?_)
      obtain ⟨he6, hf6⟩ := h7
      have hi6 := hf6.ints
      have ho6 : OwnI 2 w.heap.size w6 v2 xs := OwnI.ext (x := he6) (h := ho3)
      have hz3 := hch3.size
      have ap3 : Apart w5.heap.size w6.heap.size w.heap.size := ⟨.inl (by omega)⟩
      clear ho3
      refine go ?_
      refine rc (timesVector_ok (p := q) 0 (i := 0) (x := evalW ys (ws.take k)) (y := (ys.getD j 1)⁻¹) (Nat.zero_le _) hxs rfl (fun k hk => absurd hk (Nat.not_lt_zero _))) (next := fun v7 w7 h8 => ?_)
      obtain ⟨hch7, ho7⟩ := h8
      refine go ?_
      refine forQ_normal (by omega) ⟨_, ?_, (hch3.grow he6).trans hch7, ho7, by rw [hst, hlv]⟩
      exact hasP
    · have hlv : letV ys (ws.getD k 0) = ys.getD j 1 := by
        unfold letV
        rw [if_pos (by omega), show (ws.getD k 0 - 1).toNat = j by omega]
      refine go ?_
      refine rc (timesVector_ok (p := q) 0 (i := 0) (x := evalW ys (ws.take k)) (y := ys.getD j 1) (Nat.zero_le _) hxs hgj (fun k hk => absurd hk (Nat.not_lt_zero _))) (next := fun v7 w7 h8 => ?_)
      obtain ⟨hch7, ho7⟩ := h8
      refine go ?_
      refine forQ_normal (by omega) ⟨_, ?_, hch3.trans hch7, ho7, by rw [hst, hlv]⟩
      exact hasP
  · obtain rfl : k = ws.length := by omega
    rw [List.take_length] at hxs
    refine go ?_
    refine ret1 ⟨hE3, ?_⟩
    rw [← hxs]
    exact ho3.toFr (Nat.le_refl _)
set_option maxHeartbeats 2000000 in
theorem respects_ok {p q : Pr} (hvp : Valid p) [hc : ConAll q] {ys : List (El q)} (hyl : ys.length = p.n) {w : World} {vr vq vi : Value} {ur us : List Value} {rss xss : List (List Int)} {lo hi lo1 hi1 lo2 hi2 : Nat} [hq : PresP lo1 hi1 w vq q] [hr : Pc.Rows lo hi w vr ur rss] [hu : Pc.Rows lo2 hi2 w vi us xss] (hrs : rss = rels p) (hus : xss = vecs ys) :
    Calls Try.prog 69 #[vr, vq, vi] w (Ret fun v w' => ∃ b, v = .bool b ∧ (b = true ↔ RelOk p ys) ∧ Ext w w') := by
  subst hus hrs
  have hn6 := hvp.n6
  have hq6 := hc.valid.n6
  have hvl : (vecs ys).length = ys.length := by simp
  have hrp := rels_props hvp
  have hul := hr.vals.len
  refine enter (args := [vr, vq, vi]) (l := [.tmp 6]) Try.func69 rfl rfl Try.ntmps69 (by simp) ?_
  refine go ?_
  refine r_for (rels p).length (fun k ρ w' => Has ρ [(1, vq), (2, vi), (9, vr), (10, .int .i64 (rels p).length), (11, .int .i64 k)] ∧ Ext w w' ∧ ∀ j, j < k → evalW ys ((rels p).getD j []) = 1) ?_ ?_
  · refine ⟨?_, Ext.refl _, fun j hj => by omega⟩
    exact hasP
  rintro k ρ w3 hk ⟨hH, he3, hI⟩
  refine rwp_has hH fun ρ0 => ?_
  refine go ?_
  refine c_if (fun h4 => ?_) (fun h4 => ?_)
  · have hkn : k < (rels p).length := by omega
    have e1 : (rels p).getD k [] = (rels p)[k] := by simp [hkn]
    have hwk := hrp.2 _ (List.getElem_mem hkn)
    rw [← e1, ← hyl] at hwk
    have hel := (evalW ys ((rels p).getD k [])).inr.len
    refine go ?_
    refine rc (evaluate_ok (q := q) (ys := ys) (ws := (rels p).getD k []) hwk.2 (by omega) (by omega) rfl) (next := fun v5 w5 h5 => ?_)
    obtain ⟨he5, hf5⟩ := h5
    have hi5 := hf5.ints
    refine go ?_
    refine rc (isZero_ok (xs := (evalW ys ((rels p).getD k [])).v) (by omega)) (next := fun v6 w6 h6 => ?_)
    obtain ⟨b6, rfl, hb6, he6⟩ := h6
    rw [← el_one_iff] at hb6
    have hE6 := he5.trans he6
    refine go ?_
    refine c_b (fun h7 => ?_) (fun h7 => ?_)
    · refine go ?_
      refine ret1 ⟨false, rfl, ⟨fun h => (by cases h), fun h => ?_⟩, he3.trans hE6⟩
      rw [hb6.2 (h k hkn)] at h7; cases h7
    · refine go ?_
      refine forQ_normal (by omega) ⟨?_, he3.trans hE6, fun j hj => ?_⟩
      · exact hasP
      · by_cases e : j = k
        · subst e; exact hb6.1 (by simpa using h7)
        · exact hI j (by omega)
  · refine go ?_
    exact ret1 ⟨true, rfl, ⟨fun _ j hj => hI j (by omega), fun _ => rfl⟩, he3⟩
end Go.Proofs.Ytnphljflkpekmaa

/-
  Walks: the program's IsAutomorphism, IsIsomorphism, ApplyAutomorphism, ComposeAutomorphisms.
  Conditions: stated at each theorem.
-/
namespace Go.Proofs.Ytnphljflkpekmaa
open Go Go.Pc
end Go.Proofs.Ytnphljflkpekmaa

/-
  Walks: the program's CountHoms.
  Conditions: stated at each theorem.
-/
namespace Go.Proofs.Ytnphljflkpekmaa
open Go Go.Pc
end Go.Proofs.Ytnphljflkpekmaa

/-
  Walks: the program's copies (copyRows, copyPresentation).
  Conditions: stated at each theorem.
-/
namespace Go.Proofs.Ytnphljflkpekmaa
open Go Go.Pc
set_option maxHeartbeats 1000000 in
theorem copyRows_ok {w : World} {va : Value} {us : List Value} {xss : List (List Int)} {lo hi : Nat} [hx : Pc.Rows lo hi w va us xss] (hm : ∀ i, (xss.getD i []).length ≤ 2000000) (hl : xss.length ≤ 1000000) :
    Calls Try.prog 71 #[va] w (Ret fun v w' => Ext w w' ∧ ∃ rs, GrowL 22 w.heap.size w' v rs ∧ rs.map (·.2) = xss) := by
  have hul := hx.vals.len
  refine enter (args := [va]) (l := [.tmp 2]) Try.func71 rfl rfl Try.ntmps71 (by simp) ?_
  refine go ?_
  refine r_for xss.length (fun k ρ w' => ∃ vl rs, Has ρ [(3, vl), (6, va), (7, .int .i64 xss.length), (8, .int .i64 k)] ∧ Ext w w' ∧ GrowL 22 w.heap.size w' vl rs ∧ rs.map (·.2) = xss.take k) ?_ ?_
  · refine ⟨nilv, [], ?_, Ext.refl _, GrowL.nil _ _ _ (Nat.le_refl _), rfl⟩
    exact hasP
  rintro k ρ w3 hk ⟨vl, rs, hH, he3, hG3, hrs3⟩
  refine rwp_has hH fun ρ0 => ?_
  have hz3 := he3.size
  have hrl : rs.length = k := by have := congrArg List.length hrs3; simp at this; omega
  refine go ?_
  refine c_if (fun h4 => ?_) (fun h4 => ?_)
  · have hkn : k < xss.length := by omega
    have hm2 := hm k
    refine go ?_
    refine rc (cloneI_ok (xs := xss.getD k []) hm2) (next := fun v4 w4 h5 => ?_)
    obtain ⟨he4, hf4⟩ := h5
    refine go ?_
    refine st_grow hG3 he4 hf4 hz3 (by omega) (next := fun v5 v6 w6 hG6 hx6 hz6 hgs6 => ?_)
    refine go ?_
    refine forQ_normal (by omega) ⟨v6, _, ?_, hx6 w (he3.trans he4) (Nat.le_refl _), hG6, ?_⟩
    · exact hasP
    · rw [List.take_succ_eq_append_getElem hkn, List.map_append, hrs3]
      simp [hkn]
  · obtain rfl : k = xss.length := by omega
    rw [List.take_length] at hrs3
    refine go ?_
    exact ret1 ⟨he3, rs, hG3, hrs3⟩
set_option maxHeartbeats 8000000 in
theorem copyPresentation_ok {p : Pr} {w : World} {vp : Value} {lo hi : Nat} [hp : PresP lo hi w vp p] (hsz : SizeP p 6) :
    Calls Try.prog 42 #[vp] w (Ret fun v w' => Ext w w' ∧ PresO w.heap.size w'.heap.size w' v p) := by
  have hol := hsz.ord
  have hpl := hsz.pow
  have hcl := hsz.cnj
  replace hp := hp.wide
  obtain ⟨gP, oP, uo, upw, uc, ups, ucs, ucss, rfl, hgP, hgP2, kc0, kc1, kc2, kh1, kh2, kh3⟩ := hp.ex
  refine enter (args := [.pointer (some ⟨gP, oP, none⟩)]) (l := [.cell 2 29]) Try.func42 rfl rfl Try.ntmps42 (by simp) ?_
  refine go ?_
  refine st_alloc (by first | exact True.intro | exact ⟨_, rfl, by ((try simp only [ev_tmp, ev_const, ev_func, get_put, get_args, get_putL, get_putL_nil, Nat.reduceEqDiff, reduceIte, List.getD_cons_zero, List.getD_cons_succ, List.getD_nil, Bool.not_true, Bool.not_false]); first | done | with_reducible rfl)⟩) fun w2 br he2 hbr hs2 hbk2 => ?_
  have hz2 := he2.size
  refine go ?_
  refine d_post (fun ρ' w' => ∃ vo' vp' rp bq m1, Has ρ' [(0, .pointer (some ⟨gP, oP, none⟩)), (2, .pointer (some ⟨br, 0, none⟩)), (3, .pointer (some ⟨bq, 0, none⟩))] ∧ Ext w2 w' ∧ Blk w' bq [vo', vp', nilv] ∧ Hd 22 w2.heap.size m1 w'.heap.size bq w' vo' p.ord vp' rp ∧ rp.map (·.2) = p.pow ∧ w2.heap.size ≤ bq ∧ bq < w'.heap.size) ?_ ?_
  · refine d_order [0, 1, 2, 3, 5, 6, 7, 8, 4, 9, 10, 11, 12] (h := fun w3 he3 hs3 => ?_)
    refine dgo ?_
    refine dt_fork (π' := [0, 1, 2, 3, 5, 6, 7, 8, 11, 4, 9, 10, 12]) (by decide) rfl rfl (by decide +kernel) ?_ ?_
    · refine ds_call (cloneI_ok (xs := p.ord) (by omega)) (next := fun v4 w4 h4 => ?_)
      obtain ⟨he4, hf4⟩ := h4
      have hz4 := he4.size
      refine dt_fork (π' := [0, 1, 2, 3, 5, 6, 7, 8, 4, 11, 9, 10, 12]) (by decide) rfl rfl (by decide +kernel) ?_ ?_
      · refine ds_call (copyRows_ok (xss := p.pow) (fun i => by have := hsz.powi i; omega) (by omega)) (next := fun v5 w5 h5 => ?_)
        obtain ⟨he5, rs5, hG5, hrs5⟩ := h5
        have hz5 := he5.size
        refine da (v := .agg #[v4, v5, nilv]) (h := ⟨fun _ _ => rd_build (by simp only [ev_tmp, ev_const, ev_func, get_put, get_args, get_putL, get_putL_nil, Nat.reduceEqDiff, reduceIte, List.getD_cons_zero, List.getD_cons_succ, List.getD_nil, List.map_toArray, List.map_cons, List.map_nil]; rfl) (fun _ => ?_)⟩) (next := ?_)
        · obtain ⟨A, c, rfl, _⟩ := hf4.ints.sl.ex
          obtain ⟨A', c', rfl, _⟩ := hG5.lst.own.toSl.ex
          kernel_rfl
        refine d_alloc (next := fun w6 bq he6 hbq hs6 hbk6 => ?_)
        refine d_store_agg (vs := [v4, v5, nilv]) (cs := _) hbk6 (by omega) rfl rfl (by simp [hf4.ints.sl.one, hG5.lst.own.toSl.one]; rfl) (next := fun w7 hc7 hs7 hb7 => ?_)
        refine d_end (h := ?_)
        refine ⟨rfl, v4, v5, rs5, bq, w4.heap.size, ?_, hc7.ext (((he3.trans he4).trans he5).trans he6) (by omega), hb7, ?_, hrs5, by omega, by omega⟩
        · exact hasP
        · rw [hs7]
          exact (Hd.of hf4 (by omega) (by omega) (Nat.le_refl _) hG5 (he5.trans he6) he6 (by omega) (by omega)).wr (.one (B := fun g => g = bq) rfl hc7) (fun g hg => .inl hg)
      · refine ds_alloc (next := fun w6 bq he6 hbq hs6 hbk6 => ?_)
        refine dce (copyRows_ok (xss := p.pow) (fun i => by have := hsz.powi i; omega) (by omega)) (next := fun v5 w5 h5 => ?_)
        obtain ⟨he5, rs5, hG5, hrs5⟩ := h5
        have hz5 := he5.size
        refine da (v := .agg #[v4, v5, nilv]) (h := ⟨fun _ _ => rd_build (by simp only [ev_tmp, ev_const, ev_func, get_put, get_args, get_putL, get_putL_nil, Nat.reduceEqDiff, reduceIte, List.getD_cons_zero, List.getD_cons_succ, List.getD_nil, List.map_toArray, List.map_cons, List.map_nil]; rfl) (fun _ => ?_)⟩) (next := ?_)
        · obtain ⟨A, c, rfl, _⟩ := hf4.ints.sl.ex
          obtain ⟨A', c', rfl, _⟩ := hG5.lst.own.toSl.ex
          kernel_rfl
        have hbk5 : Blk w5 bq _ := @Blk.ext _ _ _ _ he5 hbk6
        refine d_store_agg (vs := [v4, v5, nilv]) (cs := _) hbk5 (by omega) rfl rfl (by simp [hf4.ints.sl.one, hG5.lst.own.toSl.one]; rfl) (next := fun w7 hc7 hs7 hb7 => ?_)
        refine d_end (h := ?_)
        refine ⟨rfl, v4, v5, rs5, bq, w6.heap.size, ?_, hc7.ext (((he3.trans he4).trans he6).trans he5) (by omega), hb7, ?_, hrs5, by omega, by omega⟩
        · exact hasP
        · rw [hs7]
          exact (Hd.of hf4 (by omega) (by omega) (by omega) hG5 (he6.trans he5) (Ext.refl _) (by omega) (by omega)).wr (.one (B := fun g => g = bq) rfl hc7) (fun g hg => .inl hg)
    · refine ds_alloc (next := fun w6 bq he6 hbq hs6 hbk6 => ?_)
      refine dce (cloneI_ok (xs := p.ord) (by omega)) (next := fun v4 w4 h4 => ?_)
      obtain ⟨he4, hf4⟩ := h4
      have hz4 := he4.size
      refine dce (copyRows_ok (xss := p.pow) (fun i => by have := hsz.powi i; omega) (by omega)) (next := fun v5 w5 h5 => ?_)
      obtain ⟨he5, rs5, hG5, hrs5⟩ := h5
      have hz5 := he5.size
      refine da (v := .agg #[v4, v5, nilv]) (h := ⟨fun _ _ => rd_build (by simp only [ev_tmp, ev_const, ev_func, get_put, get_args, get_putL, get_putL_nil, Nat.reduceEqDiff, reduceIte, List.getD_cons_zero, List.getD_cons_succ, List.getD_nil, List.map_toArray, List.map_cons, List.map_nil]; rfl) (fun _ => ?_)⟩) (next := ?_)
      · obtain ⟨A, c, rfl, _⟩ := hf4.ints.sl.ex
        obtain ⟨A', c', rfl, _⟩ := hG5.lst.own.toSl.ex
        kernel_rfl
      have hbk5 : Blk w5 bq _ := @Blk.ext _ _ _ _ (he4.trans he5) hbk6
      refine d_store_agg (vs := [v4, v5, nilv]) (cs := _) hbk5 (by omega) rfl rfl (by simp [hf4.ints.sl.one, hG5.lst.own.toSl.one]; rfl) (next := fun w7 hc7 hs7 hb7 => ?_)
      refine d_end (h := ?_)
      refine ⟨rfl, v4, v5, rs5, bq, w4.heap.size, ?_, hc7.ext (((he3.trans he6).trans he4).trans he5) (by omega), hb7, ?_, hrs5, by omega, by omega⟩
      · exact hasP
      · rw [hs7]
        exact (Hd.of hf4 (by omega) (by omega) (Nat.le_refl _) hG5 he5 (Ext.refl _) (by omega) (by omega)).wr (.one (B := fun g => g = bq) rfl hc7) (fun g hg => .inl hg)
  rintro ρ' w3 ⟨vo', vp', rp, bq, m1, hH, he3, hb3, hD3, hrp, hbq1, hbq2⟩
  refine thn_normal (rwp_has hH fun ρ0 => ?_)
  have hz3 := he3.size
  refine go ?_
  refine r_for p.cnj.length (fun i ρ w' => ∃ vc' gs, Has ρ [(0, .pointer (some ⟨gP, oP, none⟩)), (2, .pointer (some ⟨br, 0, none⟩)), (3, .pointer (some ⟨bq, 0, none⟩)), (20, uc), (21, .int .i64 p.cnj.length), (22, .int .i64 i)] ∧ Ext w2 w' ∧ Blk w' bq [vo', vp', vc'] ∧ Hd 22 w2.heap.size m1 w3.heap.size bq w' vo' p.ord vp' rp ∧ GrC 23 22 w3.heap.size w' vc' gs ∧ w3.heap.size ≤ w'.heap.size ∧ (gs.map fun q => q.2.map (·.2)) = p.cnj.take i) ?_ ?_
  · refine ⟨nilv, [], ?_, he3, hb3, hD3, GrC.nil _ _ _ _, Nat.le_refl _, rfl⟩
    exact hasP
  clear hb3 hD3
  rintro i ρ w4 hi ⟨vc4, gs, hH, he4, hb4, hD4, hC4, hz4, hgs⟩
  refine rwp_has hH fun ρ0 => ?_
  have hgl : gs.length = i := by have := congrArg List.length hgs; simp at this; omega
  refine go ?_
  refine c_if (fun h4 => ?_) (fun h4 => ?_)
  · have hin : i < p.cnj.length := by omega
    obtain ⟨b', hb', hvb'⟩ := own_some' vc4 w3.heap.size w4.heap.size hz4 (fun g h => (hC4.own.lt g h).1)
    have ap1 : Apart 0 w.heap.size b' := ⟨.inr (by omega)⟩
    have ap2 : Apart gP (gP + 1) b' := ⟨.inr (by omega)⟩
    have ap3 : Apart bq (bq + 1) b' := ⟨.inr (by omega)⟩
    have k2 : Cell w4 bq 2 vc4 := hb4.cell rfl
    refine go ?_
    refine z_order b' (List.range 8) (h := fun w5 he5 _ => ?_)
    refine zgo ?_
    refine zc (copyRows_ok (xss := p.cnj.getD i []) (fun j => by have := hsz.cnjij i j; omega) (by have := hsz.cnji i; omega)) (next := fun v6 w6 h6 => ?_)
    obtain ⟨he6, rs6, hG6, hrs6⟩ := h6
    have hx := he5.trans he6
    have hzx := hx.size
    have hL6 : GrL 22 w4.heap.size w6 v6 rs6 := by
      have h := GrL.of hG6
      exact ⟨h.own.mono (by have := he5.size; omega), h.rows.mono (by have := he5.size; omega), h.off⟩
    have hO6 : OwnN 23 w3.heap.size w6 vc4 _ := @OwnN.ext _ _ _ _ _ _ hx hC4.own
    have hb6 : Blk w6 bq [vo', vp', vc4] := @Blk.ext _ _ _ _ hx hb4
    have hlt : ∀ g, vc4.ownBlock = some g → w3.heap.size ≤ g := fun g hg => (hC4.own.lt g hg).1
    clear k2
    refine z_growu (sb := w3.heap.size) hO6 hG6.lst.own.toSl.cells hG6.lst.own.toSl.one (by omega) (by rw [List.length_map]; omega) hvb' (next := fun v7 v8 w8 hO8 hx8 hz8 hst8 => ?_)
    have hb8 : Blk w8 bq [vo', vp', vc4] := Blk.gstep hb6 hst8 (fun g hg => by have := hlt g hg; omega)
    refine zgo ?_
    refine z_stfld (bo := bq) (m := 2) (cs := [vo', vp', vc4]) hb8 hO8.toSl.one (by simp) (next := fun w9 hc9 hs9 hb9 => ?_)
    have hC9 := hC4.field hz4 hx hL6 hO8 hst8 hc9 (by omega)
    have hD9 := (((hD4.ext hx).wr hst8.wrt (fun g hg => .inr (hlt g hg))).wr (.one (B := fun g => g = bq) rfl hc9) (fun g hg => .inl hg))
    have hE9 : Ext w2 w9 := hc9.ext (hx8 w2 (he4.trans hx) (by omega)) (by omega)
    refine go ?_
    refine forQ_normal (by omega) ⟨v8, _, ?_, hE9, hb9, hD9, hC9, by omega, ?_⟩
    · exact hasP
    · rw [List.take_succ_eq_append_getElem hin, List.map_append, hgs]
      simp only [List.map_cons, List.map_nil, hrs6]
      simp [hin]
  · obtain rfl : i = p.cnj.length := by omega
    rw [List.take_length] at hgs
    have hbr4 : Blk w4 br _ := @Blk.ext _ _ _ _ he4 hbk2
    have hP := (show Hd 22 w2.heap.size m1 w3.heap.size bq w4 vo' p.ord vp' rp from hD4).presO hC4
    rw [hrp, hgs] at hP
    have o3 := hP.pres.one3
    refine go ?_
    refine ra (v := .agg #[vo', vp', vc4]) (h := rd_load_blk (hb := hb4) (by ((try simp only [ev_tmp, ev_const, ev_func, get_put, get_args, get_putL, get_putL_nil, Nat.reduceEqDiff, reduceIte, List.getD_cons_zero, List.getD_cons_succ, List.getD_nil]); first | done | with_reducible rfl)) rfl) (next := ?_)
    refine st_store_agg (vs := [vo', vp', vc4]) (cs := _) (hb := hbr4) (by ((try simp only [ev_tmp, ev_const, ev_func, get_put, get_args, get_putL, get_putL_nil, Nat.reduceEqDiff, reduceIte, List.getD_cons_zero, List.getD_cons_succ, List.getD_nil]); first | done | with_reducible rfl)) (by ((try simp only [ev_tmp, ev_const, ev_func, get_put, get_args, get_putL, get_putL_nil, Nat.reduceEqDiff, reduceIte, List.getD_cons_zero, List.getD_cons_succ, List.getD_nil]); first | done | with_reducible rfl)) rfl ?_ ?_ (by first | exact True.intro | exact ⟨_, rfl, by ((try simp only [ev_tmp, ev_const, ev_func, get_put, get_args, get_putL, get_putL_nil, Nat.reduceEqDiff, reduceIte, List.getD_cons_zero, List.getD_cons_succ, List.getD_nil, Bool.not_true, Bool.not_false]); first | done | with_reducible rfl)⟩) fun w7 hc7 hs7 hb7 => ?_
    · rfl
    · simp [o3.1, o3.2.1, o3.2.2]
    refine go ?_
    have hE7 : Ext w w7 := hc7.ext (he2.trans he4) (by omega)
    refine retc (b := br) (hb := hb7) ⟨hE7, ?_⟩ rfl
    have hP7 := hP.wr (.one (B := fun g => g = br) rfl hc7) (fun g hg => .inl (by omega))
    rw [hs7]
    exact hP7.sub (by omega) (Nat.le_refl _)
end Go.Proofs.Ytnphljflkpekmaa

/-
  Walks: the program's AllHoms.
  Conditions: stated at each theorem.
-/
namespace Go.Proofs.Ytnphljflkpekmaa
open Go Go.Pc
theorem _root_.Go.Pc.GrC.mono {e e' s s' : Nat} {w : World} {v : Value} {gs : List (Value × List (Value × List Int))} (h : GrC e e' s w v gs) (hs : s' ≤ s) : GrC e e' s' w v gs :=
  ⟨h.own.mono hs, fun q hq => (h.inn q hq).mono hs, h.rows.mono hs, h.off, h.offi⟩
set_option maxHeartbeats 8000000 in
theorem homImagesG_ok {p q : Pr} {w : World} {vp vq : Value} {lo hi lo1 hi1 : Nat} [hp : PresP lo hi w vp p] [hq : PresP lo1 hi1 w vq q] (hl : p.ord.length ≤ 2000000) (hlq : q.ord.length ≤ 2000000) :
    Calls Try.prog 41 #[vp, vq] w (Ret fun v w' => ∃ (u : Value) (gs : List (Value × List (Value × List Int))) (e : Int), v = .tuple #[u, .int .i64 e] ∧ Ext w w' ∧ GrC 23 22 w.heap.size w' u gs ∧ Ans (IsGrp p ∧ IsGrp q) (ImV p q) [] (gs.map fun q => q.2.map (·.2)) e) := by
  have hol : p.ord.length = p.n := rfl
  replace hp := hp.wide
  replace hq := hq.wide
  obtain ⟨g, og, vo, vpw, vc, ps, cs, css, rfl, hg1, hg2, hc0, hc1, hc2, h1, h2, h3⟩ := hp.ex
  obtain ⟨g', og', uo, upw, uc, qs, ds, dss, rfl, hg1', hg2', hd0, hd1, hd2, k1, k2, k3⟩ := hq.ex
  have hpv := PresP.val (b := g) h1 h2 h3
  have hqv := PresP.val (b := g') k1 k2 k3
  have hnl : ∀ w', GrC 23 22 w.heap.size w' nilv [] := fun w' => GrC.nil _ _ _ _
  refine enter (args := [.pointer (some ⟨g, og, none⟩), .pointer (some ⟨g', og', none⟩)]) (l := [.tmp 4, .tmp 5]) Try.func41 rfl rfl Try.ntmps41 (by simp) ?_
  refine go ?_
  refine rc (impl_IsConsistent_ok (p := p) hl) (next := fun v5 w5 h5 => ?_)
  obtain ⟨b5, rfl, hb5, he5⟩ := h5
  refine ra (next := ?_)
  refine ra (next := ?_)
  refine sp (fun e5 => ?_) (fun e5 => ?_)
  · have e5' : b5 = false := by simpa using e5
    refine go ?_
    refine ret2 ⟨nilv, [], 1, rfl, he5, hnl _, .inr ⟨fun h => ?_, rfl, rfl⟩⟩
    rw [hb5.2 h.1] at e5'; cases e5'
  have hG := hb5.1 (by simpa using e5)
  refine go ?_
  refine rc (impl_IsConsistent_ok (p := q) hlq) (next := fun v6 w6 h6 => ?_)
  obtain ⟨b6, rfl, hb6, he6⟩ := h6
  have hE6 := he5.trans he6
  refine go ?_
  refine c_b (fun e6 => ?_) (fun e6 => ?_)
  · refine go ?_
    refine ret2 ⟨nilv, [], 1, rfl, hE6, hnl _, .inr ⟨fun h => ?_, rfl, rfl⟩⟩
    rw [hb6.2 h.2] at e6; cases e6
  have hGq := hb6.1 (by simpa using e6)
  haveI : ConAll q := ⟨hGq.con⟩
  have hn6 := hG.valid.n6
  obtain ⟨hoe, ho1, ho2⟩ := ordN_rng q
  refine go ?_
  refine rc (orderOf_ok (p := q) hGq.valid) (next := fun v7 w7 h7 => ?_)
  obtain ⟨rfl, he7⟩ := h7
  rw [hoe]
  have hE7 := hE6.trans he7
  refine go ?_
  refine r_for p.n (fun k ρ w' => Has ρ [(0, .pointer (some ⟨g, og, none⟩)), (1, .pointer (some ⟨g', og', none⟩)), (6, .int .i64 (ordN q : Nat)), (7, .int .i64 (tupC (ordN q) k : Nat)), (31, vo), (32, .int .i64 p.n), (33, .int .i64 k)] ∧ Ext w7 w' ∧ tupC (ordN q) k ≤ 4096) ?_ ?_
  · refine ⟨?_, Ext.refl _, by simp [tupC]⟩
    exact hasP
  rintro k ρ w8 hk ⟨hH, he8, hle⟩
  refine rwp_has hH fun ρ0 => ?_
  have hE8 := hE7.trans he8
  refine go ?_
  refine c_if (fun h9 => ?_) (fun h9 => ?_)
  · have hkn : k < p.n := by omega
    have hst : tupC (ordN q) (k + 1) = tupC (ordN q) k * ordN q := by
      show (if tupC (ordN q) k ≤ 4096 then tupC (ordN q) k * ordN q else tupC (ordN q) k) = _
      rw [if_pos hle]
    have htr1 := tupC_rng ho1 ho2 (k + 1)
    rw [hst] at htr1
    have hcast : ((tupC (ordN q) k : Nat) : Int) * ((ordN q : Nat) : Int) = ((tupC (ordN q) k * ordN q : Nat) : Int) := (Int.natCast_mul _ _).symm
    refine go ?_
    refine ra (v := .int .i64 ((tupC (ordN q) k * ordN q : Nat) : Int)) (h := by rw [← hcast]; exact rd_mul (by ((try simp only [ev_tmp, ev_const, ev_func, get_put, get_args, get_putL, get_putL_nil, Nat.reduceEqDiff, reduceIte, List.getD_cons_zero, List.getD_cons_succ, List.getD_nil]); first | done | with_reducible rfl)) (by ((try simp only [ev_tmp, ev_const, ev_func, get_put, get_args, get_putL, get_putL_nil, Nat.reduceEqDiff, reduceIte, List.getD_cons_zero, List.getD_cons_succ, List.getD_nil]); first | done | with_reducible rfl)) (by rw [hcast]; omega)) (next := ?_)
    refine go ?_
    refine c_if (fun h10 => ?_) (fun h10 => ?_)
    · have hbig : 4096 < tupC (ordN q) (k + 1) := by rw [hst]; omega
      have hfin := tupC_stay hbig (p.n - (k + 1))
      rw [show k + 1 + (p.n - (k + 1)) = p.n by omega] at hfin
      refine go ?_
      exact ret2 ⟨nilv, [], 3, rfl, hE8, hnl _, .inl ⟨⟨hG, hGq⟩, inferInstance, .inl ⟨hfin, rfl, rfl⟩⟩⟩
    · refine go ?_
      refine forQ_normal (by omega) ⟨?_, he8, by rw [hst]; omega⟩
      rw [hst]
      exact hasP
  obtain rfl : k = p.n := by omega
  refine go ?_
  refine rc (PresentationRelators_ok (p := p) hG.valid) (next := fun v9 w9 h10 => ?_)
  obtain ⟨u9, e9, rfl, he9, rs9, hrs9, hG9⟩ := h10
  have hR9 := hG9.rows
  rw [hrs9] at hR9
  have hE9 := hE8.trans he9
  have hz9 := hE9.size
  refine go ?_
  refine r_for (tupC (ordN q) p.n) (fun t ρ w' => ∃ (vl : Value) (gs : List (Value × List (Value × List Int))), Has ρ [(0, .pointer (some ⟨g, og, none⟩)), (1, .pointer (some ⟨g', og', none⟩)), (6, .int .i64 (ordN q : Nat)), (8, u9), (10, vl), (48, .int .i64 (tupC (ordN q) p.n : Nat)), (49, .int .i64 t)] ∧ Ext w9 w' ∧ GrC 23 22 w9.heap.size w' vl gs ∧ (gs.map fun q => q.2.map (·.2)) = imgL p q t) ?_ ?_
  · refine ⟨nilv, [], ?_, Ext.refl _, GrC.nil _ _ _ _, rfl⟩
    exact hasP
  rintro t ρ w10 ht ⟨vl, gs, hH10, he10, hC10, hgs⟩
  have hO10 := hC10.own
  have hul : (gs.map (·.1)).length = cntH p q t := by rw [List.length_map, ← imgL_len, ← hgs, List.length_map]
  refine rwp_has hH10 fun ρ1 => ?_
  have hE10 := hE9.trans he10
  have hz10 := he10.size
  have hct := cntH_le (q := q) p t
  refine go ?_
  refine c_if (fun h11 => ?_) (fun h11 => ?_)
  · have htn : t < tupC (ordN q) p.n := by omega
    refine go ?_
    refine st_make_nil (by ((try simp only [ev_tmp, ev_const, ev_func, get_put, get_args, get_putL, get_putL_nil, Nat.reduceEqDiff, reduceIte, List.getD_cons_zero, List.getD_cons_succ, List.getD_nil]); first | done | with_reducible rfl)) (by ((try simp only [ev_tmp, ev_const, ev_func, get_put, get_args, get_putL, get_putL_nil, Nat.reduceEqDiff, reduceIte, List.getD_cons_zero, List.getD_cons_succ, List.getD_nil]); first | done | with_reducible rfl)) (by omega) (by omega) (by first | exact True.intro | exact ⟨_, rfl, by ((try simp only [ev_tmp, ev_const, ev_func, get_put, get_args, get_putL, get_putL_nil, Nat.reduceEqDiff, reduceIte, List.getD_cons_zero, List.getD_cons_succ, List.getD_nil, Bool.not_true, Bool.not_false]); first | done | with_reducible rfl)⟩) fun w11 v11 he11 hs11 ho11 => ?_
    have hvb := ho11.toN_block
    have hL11 : Lst 22 w10.heap.size (fun _ => False) w11 v11 _ _ := Lst.ofNils ho11 (Nat.le_refl _) (fun h => h) (fun g h => h.elim)
    rw [hol] at hL11
    have hlen11 := (hL11.toRows).toLen
    simp only [List.length_replicate] at hlen11
    have hR11 := RowsO.nils w10.heap.size w11 p.n
    have ein : ((List.replicate p.n ((nilv, []) : Value × List Int)).map (·.1)) = List.replicate p.n nilv ∧ ((List.replicate p.n ((nilv, []) : Value × List Int)).map (·.2)) = List.replicate p.n [] := by simp
    rw [← ein.1, ← ein.2] at hL11
    clear ho11
    have ap1 : Apart 0 w.heap.size w10.heap.size := ⟨.inr (by omega)⟩
    refine go ?_
    refine r_for p.n (fun k ρ w' => ∃ (rs : List (Value × List Int)) (tk : Nat), Has ρ [(0, .pointer (some ⟨g, og, none⟩)), (1, .pointer (some ⟨g', og', none⟩)), (6, .int .i64 (ordN q : Nat)), (8, u9), (10, vl), (11, .int .i64 tk), (12, v11), (13, .int .i64 ((p.n : Int) - 1 - k)), (48, .int .i64 (tupC (ordN q) p.n : Nat)), (49, .int .i64 t)] ∧ Chg w10.heap.size w11 w' ∧ Lst 22 w10.heap.size (fun _ => False) w' v11 (rs.map (·.1)) (rs.map (·.2)) ∧ RowsO w10.heap.size w' rs ∧ (∀ b, BlkOf rs b → b ≠ w10.heap.size) ∧ rs.map (·.2) = tupTo q p.n t k ∧ tk = t / ordN q ^ k) ?_ ?_
    · refine ⟨List.replicate p.n (nilv, []), t, ?_, Chg.refl _ _, hL11, hR11, fun b ⟨r, hr, hn, _⟩ => absurd (by rw [(List.mem_replicate.1 hr).2]) hn, by rw [ein.2, tupTo_zero], by simp⟩
      exact hasP
    clear hL11
    rintro k ρ w12 hk ⟨rs12, tk, hH12, hch12, hL12, hRO12, hoff12, hto12, htk⟩
    refine rwp_has hH12 fun ρ2 => ?_
    have hx12 : Ext w10 w12 := hch12.ext he11 (Nat.le_refl _)
    have hE12 := hE10.trans hx12
    have hz12 := hch12.size
    have htl := tupTo_len (q := q) p.n t k
    have hrl12 : rs12.length = p.n := by rw [← htl, ← hto12, List.length_map]
    have hul12 : (rs12.map (·.1)).length = p.n := by rw [List.length_map]; exact hrl12
    have hul12b : (rs12.map (·.2)).length = p.n := by rw [List.length_map]; exact hrl12
    have htk1 : tk ≤ t := by rw [htk]; exact Nat.div_le_self _ _
    refine go ?_
    refine c_if (fun h13 => ?_) (fun h13 => ?_)
    · have hkn : k < p.n := by omega
      obtain ⟨i, hi⟩ : ∃ i, p.n - 1 - k = i := ⟨_, rfl⟩
      have hcast : ((p.n : Int) - 1 - k) = (i : Int) := by omega
      have hcast2 : ((p.n : Int) - 1 - ((k + 1 : Nat) : Int)) = (i : Int) - 1 := by omega
      have hmod : (tk : Int) % (ordN q : Int) = ((tk % ordN q : Nat) : Int) := (Int.natCast_emod _ _).symm
      have hdiv : (tk : Int) / (ordN q : Int) = ((tk / ordN q : Nat) : Int) := (Int.natCast_ediv _ _).symm
      have hmle : tk % ordN q ≤ tk := Nat.mod_le _ _
      rw [hcast]
      refine go ?_
      rw [hmod]
      refine rc (elementAt_ok (p := q) (t := tk % ordN q) (by omega)) (next := fun v13 w13 h14 => ?_)
      obtain ⟨he13, hf13⟩ := h14
      have hL13 := hL12.ext he13
      have hO13 := hL13.toOwn hvb
      have hlen13 := hO13.toSl.toLen
      refine go ?_
      refine st_store_val (h := hO13) (by ((try simp only [ev_tmp, ev_const, ev_func, get_put, get_args, get_putL, get_putL_nil, Nat.reduceEqDiff, reduceIte, List.getD_cons_zero, List.getD_cons_succ, List.getD_nil]); first | done | with_reducible rfl)) (by ((try simp only [ev_tmp, ev_const, ev_func, get_put, get_args, get_putL, get_putL_nil, Nat.reduceEqDiff, reduceIte, List.getD_cons_zero, List.getD_cons_succ, List.getD_nil]); first | done | with_reducible rfl)) ?_ ?_ (by first | exact True.intro | exact ⟨_, rfl, by ((try simp only [ev_tmp, ev_const, ev_func, get_put, get_args, get_putL, get_putL_nil, Nat.reduceEqDiff, reduceIte, List.getD_cons_zero, List.getD_cons_succ, List.getD_nil, Bool.not_true, Bool.not_false]); first | done | with_reducible rfl)⟩) fun w14 hc14 hs14 ho14 => ?_
      · exact hf13.ints.sl.one
      · omega
      have hwb : w10.heap.size < w12.heap.size := by omega
      have hu13 : IntsAp (fun g => False ∨ v11.ownBlock = some g) w13 v13 (allE q (tk % ordN q)).v := IntsAp.ofFr hf13 (fun g hg => by
        rcases hg with hg | hg
        · exact hg.elim
        · rw [hvb] at hg; injection hg with hg; omega)
      have hL14 := hL13.set hvb hu13 hc14 ho14 (by omega)
      have hRO14 : RowsO w10.heap.size w14 (rs12.set i (v13, (allE q (tk % ordN q)).v)) := (RowsO.set hRO12 (by omega) he13 (by omega) hf13).wr (.one (B := fun g => g = w10.heap.size) rfl hc14) fun b hb e => by
        rcases blkOf_set hb with h | ⟨hn, h⟩
        · exact hoff12 b h e
        · obtain ⟨g1, e1, h1, _⟩ := hf13.block hn
          rw [h] at e1; injection e1 with e1; omega
      have e14 : tupTo q p.n t (k + 1) = (tupTo q p.n t k).set i (allE q (tk % ordN q)).v := by rw [tupTo_step hkn, hi, htk]
      refine go ?_
      rw [hdiv]
      refine forQ_normal (by omega) ⟨rs12.set i (v13, (allE q (tk % ordN q)).v), tk / ordN q, ?_, (hch12.grow he13).trans hc14, by rw [List.map_set, List.map_set]; exact hL14, hRO14, fun b hb => ?_, by rw [e14, ← hto12, List.map_set], by rw [htk, Nat.div_div_eq_div_mul, Nat.pow_succ]⟩
      · rw [hcast2]
        exact hasP
      · rcases blkOf_set hb with h | ⟨hn, h⟩
        · exact hoff12 b h
        · obtain ⟨g1, e1, h1, _⟩ := hf13.block hn
          rw [h] at e1; injection e1 with e1; omega
    · obtain rfl : k = p.n := by omega
      rw [tupTo_all] at hto12
      have hGL12 : GrL 22 w10.heap.size w12 v11 rs12 := ⟨hL12.own, hRO12, fun b hb hB => by
        rw [hvb] at hb; injection hb with hb; exact hoff12 b hB hb.symm⟩
      rw [hto12] at hL12
      have hR12 := hL12.toRows
      have hr12 : Pc.Rows 0 w9.heap.size w12 u9 _ (rels p) := (hR9.mono (Nat.zero_le _) (Nat.le_refl _)).same ((he10.trans hx12).same _ _)
      refine go ?_
      refine rc (respects_ok (p := p) (q := q) hG.valid (ys := tupE q p.n t) (tupE_len _ _) rfl rfl) (next := fun v15 w15 h15 => ?_)
      obtain ⟨b15, rfl, hb15, he15⟩ := h15
      have hx15 := hx12.trans he15
      have hO15 : OwnN 23 w9.heap.size w15 vl (gs.map (·.1)) := @OwnN.ext _ _ _ _ _ _ hx15 hO10
      refine go ?_
      refine c_b (fun h16 => ?_) (fun h16 => ?_)
      · have hst := cntH_yes (hb15.1 h16)
        refine go ?_
        refine st_slice1 (u := v11) (by ((try simp only [ev_tmp, ev_const, ev_func, get_put, get_args, get_putL, get_putL_nil, Nat.reduceEqDiff, reduceIte, List.getD_cons_zero, List.getD_cons_succ, List.getD_nil]); first | done | with_reducible rfl)) ?_ rfl (by first | exact True.intro | exact ⟨_, rfl, by ((try simp only [ev_tmp, ev_const, ev_func, get_put, get_args, get_putL, get_putL_nil, Nat.reduceEqDiff, reduceIte, List.getD_cons_zero, List.getD_cons_succ, List.getD_nil, Bool.not_true, Bool.not_false]); first | done | with_reducible rfl)⟩) fun w16 v16 he16 hs16 hsl16 => ?_
        · exact hR12.sl.cells
        have hO16 : OwnN 23 w9.heap.size w16 vl (gs.map (·.1)) := @OwnN.ext _ _ _ _ _ _ he16 hO15
        have hx16 := hx15.trans he16
        refine go ?_
        refine st_append (hv := hO16) (hy := hsl16) (by ((try simp only [ev_tmp, ev_const, ev_func, get_put, get_args, get_putL, get_putL_nil, Nat.reduceEqDiff, reduceIte, List.getD_cons_zero, List.getD_cons_succ, List.getD_nil]); first | done | with_reducible rfl)) (by ((try simp only [ev_tmp, ev_const, ev_func, get_put, get_args, get_putL, get_putL_nil, Nat.reduceEqDiff, reduceIte, List.getD_cons_zero, List.getD_cons_succ, List.getD_nil]); first | done | with_reducible rfl)) rfl ?_ ?_ ?_ ?_ (by first | exact True.intro | exact ⟨_, rfl, by ((try simp only [ev_tmp, ev_const, ev_func, get_put, get_args, get_putL, get_putL_nil, Nat.reduceEqDiff, reduceIte, List.getD_cons_zero, List.getD_cons_succ, List.getD_nil, Bool.not_true, Bool.not_false]); first | done | with_reducible rfl)⟩) fun v17 w17 ho17 hg17 ha17 => ?_
        · intro a ha
          rw [List.mem_singleton.1 ha]; exact hR12.sl.one
        · simp only [List.length_singleton]; omega
        · simp only [List.length_singleton, maxLen]; omega
        · have := (he10.trans hx16).size; omega
        refine go ?_
        refine forQ_normal (by omega) ⟨v17, gs ++ [(v11, rs12)], ?_, (he10.trans hx16).app hg17 (fun k hk => (hO16.lt k hk).1), hC10.push hx12 hGL12 (by omega) (he15.trans he16) ho17 hg17 ha17, ?_⟩
        · exact hasP
        · rw [List.map_append, hgs, imgL_yes (hb15.1 h16)]
          exact congrArg (imgL p q t ++ ·) (by simp only [List.map_cons, List.map_nil]; rw [hto12])
      · have hst : imgL p q (t + 1) = imgL p q t := imgL_no fun h => by rw [hb15.2 h] at h16; cases h16
        refine go ?_
        refine forQ_normal (by omega) ⟨vl, gs, ?_, he10.trans hx15, hC10.wr (.ofExt (B := fun _ => False) hx15) fun b _ hb => hb.elim, by rw [hst]; exact hgs⟩
        exact hasP
  · obtain rfl : t = tupC (ordN q) p.n := by omega
    refine go ?_
    exact ret2 ⟨vl, gs, 0, rfl, hE10, hC10.mono (by omega), .inl ⟨⟨hG, hGq⟩, inferInstance, .inr ⟨hle, hgs, rfl⟩⟩⟩
set_option maxHeartbeats 4000000 in
theorem impl_AllHoms_ok {p q : Pr} {w : World} {vp vq : Value} {lo hi lo1 hi1 : Nat} [hp : Pres lo hi w vp p] [hq : Pres lo1 hi1 w vq q] (hl : p.ord.length ≤ 2000000) (hlq : q.ord.length ≤ 2000000) :
    Calls Try.prog 17 #[vp, vq] w (Ret fun v w' => ∃ (u : Value) (k : List (Pr × Pr × List (List Int))) (e : Int), v = .tuple #[u, .int .i64 e] ∧ Ans (IsGrp p ∧ IsGrp q) (AhV p q) [] k e ∧ Ext w w' ∧ ∃ es : List HE, k = es.map HE.val ∧ HomsO 61 w.heap.size w'.heap.size w' u es) := by
  replace hp := hp.wide
  replace hq := hq.wide
  obtain ⟨vo, vpw, vc, ps, cs, css, rfl, h1, h2, h3⟩ := hp.ex
  obtain ⟨uo, upw, uc, qs, ds, dss, rfl, k1, k2, k3⟩ := hq.ex
  have hnl : ∀ w', HomsO 61 w.heap.size w'.heap.size w' nilv [] := fun w' => (InvA.start (GrC.nil 0 0 w.heap.size w') (Nat.le_refl _)).done
  refine enter (args := [.agg #[vo, vpw, vc], .agg #[uo, upw, uc]]) (l := [.tmp 4, .tmp 5]) Try.func17 rfl rfl Try.ntmps17 (by simp) ?_
  refine go ?_
  refine st_box3 (by ((try simp only [ev_tmp, ev_const, ev_func, get_put, get_args, get_putL, get_putL_nil, Nat.reduceEqDiff, reduceIte, List.getD_cons_zero, List.getD_cons_succ, List.getD_nil]); first | done | with_reducible rfl)) (by first | exact True.intro | exact ⟨_, rfl, by ((try simp only [ev_tmp, ev_const, ev_func, get_put, get_args, get_putL, get_putL_nil, Nat.reduceEqDiff, reduceIte, List.getD_cons_zero, List.getD_cons_succ, List.getD_nil, Bool.not_true, Bool.not_false]); first | done | with_reducible rfl)⟩) fun w0 b0 he0 hb0 hs0 ha0 ha1 ha2 => ?_
  have hpp := hp.boxed he0 ha0 ha1 ha2
  have hq0 : Pres 0 w0.heap.size w0 (.agg #[uo, upw, uc]) q := (hq.same (he0.same _ _)).wide
  have hk1 : Ints 0 w0.heap.size w0 uo q.ord := (k1.same (he0.same _ _)).wide
  have hk2 : Pc.Rows 0 w0.heap.size w0 upw qs q.pow := (k2.same (he0.same _ _)).wide
  refine go ?_
  refine st_box3 (by ((try simp only [ev_tmp, ev_const, ev_func, get_put, get_args, get_putL, get_putL_nil, Nat.reduceEqDiff, reduceIte, List.getD_cons_zero, List.getD_cons_succ, List.getD_nil]); first | done | with_reducible rfl)) (by first | exact True.intro | exact ⟨_, rfl, by ((try simp only [ev_tmp, ev_const, ev_func, get_put, get_args, get_putL, get_putL_nil, Nat.reduceEqDiff, reduceIte, List.getD_cons_zero, List.getD_cons_succ, List.getD_nil, Bool.not_true, Bool.not_false]); first | done | with_reducible rfl)⟩) fun w1 b he1 hb1 hs1 hc0 hc1 hc2 => ?_
  have hqq := hq0.boxed he1 hc0 hc1 hc2
  have hpp1 := PresP.same hpp (he1.same _ _) he1.size
  have hE1 := he0.trans he1
  refine go ?_
  refine rc (homImagesG_ok (p := p) (q := q) hl hlq) (next := fun v5 w5 h5 => ?_)
  obtain ⟨u5, gs, e5, rfl, he5, hC5, ha5⟩ := h5
  have hE5 := hE1.trans he5
  have hz1 := hE1.size
  have hz5 := he5.size
  refine go ?_
  refine c_if (fun h6 => ?_) (fun h6 => ?_)
  · refine go ?_
    rcases ha5 with ⟨hGG, hc, ⟨h7, _, rfl⟩ | ⟨_, _, rfl⟩⟩ | ⟨hn, _, rfl⟩
    · exact ret2 ⟨nilv, [], 3, rfl, .inl ⟨hGG, hc, .inl ⟨.inl h7, rfl, rfl⟩⟩, hE5, [], rfl, hnl _⟩
    · exact absurd rfl h6
    · exact ret2 ⟨nilv, [], 1, rfl, .inr ⟨hn, rfl, rfl⟩, hE5, [], rfl, hnl _⟩
  obtain ⟨hGG, hc, hN, hgs⟩ : (IsGrp p ∧ IsGrp q) ∧ ∃ _ : ConAll q, tupC (ordN q) p.n ≤ 4096 ∧ (gs.map fun q => q.2.map (·.2)) = imgL p q (tupC (ordN q) p.n) := by
    rcases ha5 with ⟨hGG, hc, ⟨h7, _, rfl⟩ | ⟨h7, h8, rfl⟩⟩ | ⟨hn, _, rfl⟩
    · exact absurd (by decide) h6
    · exact ⟨hGG, hc, h7, h8⟩
    · exact absurd (by decide) h6
  obtain ⟨hG, hGq⟩ := hGG
  have hcnt : gs.length = cntH p q (tupC (ordN q) p.n) := by rw [← imgL_len, ← hgs, List.length_map]
  have hlen5 := hC5.own.toSl.toLen
  simp only [List.length_map] at hlen5
  refine go ?_
  refine c_if (fun h7 => ?_) (fun h7 => ?_)
  · refine go ?_
    exact ret2 ⟨nilv, [], 3, rfl, .inl ⟨⟨hG, hGq⟩, hc, .inl ⟨.inr (by omega), rfl, rfl⟩⟩, hE5, [], rfl, hnl _⟩
  have hg200 : gs.length ≤ 200 := by omega
  refine go ?_
  refine r_for gs.length (fun i ρ w' => ∃ (vl : Value) (es : List HE), Has ρ [(2, .pointer (some ⟨b0, 0, none⟩)), (3, .pointer (some ⟨b, 0, none⟩)), (8, vl), (21, u5), (22, .int .i64 gs.length), (23, .int .i64 i)] ∧ Ext w5 w' ∧ (∀ k, vl.ownBlock = some k → w5.heap.size ≤ k) ∧ InvA 61 w.heap.size w' vl es (gs.drop i) ∧ es.map HE.val = (gs.take i).map fun x => (p, q, x.2.map (·.2))) ?_ ?_
  · refine ⟨nilv, [], ?_, Ext.refl _, fun k hk => (by cases hk), InvA.start hC5 hz1, by simp⟩
    exact hasP
  rintro i ρ w6 hi ⟨vl, es, hH, he6, hvl, hI, hes⟩
  refine rwp_has hH fun ρ0 => ?_
  have hE6 := hE5.trans he6
  have hz6 := he6.size
  have hel : es.length = i := by
    have := congrArg List.length hes
    simp only [List.length_map, List.length_take] at this
    omega
  refine go ?_
  refine c_if (fun h8 => ?_) (fun h8 => ?_)
  · have hin : i < gs.length := by omega
    have hq5 : (gs[i]).1.oneCell' = true := (hC5.inn _ (List.getElem_mem hin)).toSl.one
    have hsl6 : Sl w1.heap.size w5.heap.size w6 u5 (gs.map fun x : Value × List (Value × List Int) => x.1) := hC5.own.toSl.same (he6.same _ _)
    have e1 : Pc.rowAt u5 (gs.map (·.1)) i = gs[i].1 := by simp [Pc.rowAt, hin]
    have e2 : gs.drop i = gs[i] :: gs.drop (i + 1) := (List.getElem_cons_drop (h := hin)).symm
    rw [e2] at hI
    have hlm : (gs.map fun x : Value × List (Value × List Int) => x.1).length = gs.length := List.length_map _
    refine go ?_
    refine ra (v := Pc.rowAt u5 (gs.map fun x : Value × List (Value × List Int) => x.1) i) (h := rd_load_sl (us := gs.map fun x : Value × List (Value × List Int) => x.1) (by ((try simp only [ev_tmp, ev_const, ev_func, get_put, get_args, get_putL, get_putL_nil, Nat.reduceEqDiff, reduceIte, List.getD_cons_zero, List.getD_cons_succ, List.getD_nil]); first | done | with_reducible rfl)) (by omega)) (next := ?_)
    rw [e1]
    refine go ?_
    refine rc (copyPresentation_ok (p := p) (valid_sz6 hG.valid)) (next := fun v7 w7 h9 => ?_)
    obtain ⟨he7, hP7⟩ := h9
    obtain ⟨y0, y1, y2, _, _, rfl, _⟩ := hP7.ex
    have o1 := hP7.pres.one3
    refine go ?_
    refine rc (copyPresentation_ok (p := q) (valid_sz6 hGq.valid)) (next := fun v8 w8 h10 => ?_)
    obtain ⟨he8, hP8⟩ := h10
    obtain ⟨y3, y4, y5, _, _, rfl, _⟩ := hP8.ex
    have o2 := hP8.pres.one3
    have hz7 := he7.size
    have hz8 := he8.size
    have hE68 := he7.trans he8
    have hP78 := hP7.wr (.ofExt (B := fun b => b < w6.heap.size ∨ w7.heap.size ≤ b) he8) (fun g hg => hg)
    refine go ?_
    refine ra (v := .agg #[y0, y1, y2, y3, y4, y5, gs[i].1]) (h := rd_build (by simp only [ev_tmp, ev_const, ev_func, get_put, get_args, get_putL, get_putL_nil, Nat.reduceEqDiff, reduceIte, List.getD_cons_zero, List.getD_cons_succ, List.getD_nil, List.map_toArray, List.map_cons, List.map_nil]; rfl) (fun _ => ?_)) (next := ?_)
    · obtain ⟨m0, ps', cs', css', m1, m2⟩ := hP7.pres.ints3
      obtain ⟨n0, qs', ds', dss', n1, n2⟩ := hP8.pres.ints3
      obtain ⟨A0, c0, rfl, _⟩ := m0.sl.ex
      obtain ⟨A1, c1, rfl, _⟩ := m1.sl.ex
      obtain ⟨A2, c2, rfl, _⟩ := m2.sl.ex
      obtain ⟨A3, c3, rfl, _⟩ := n0.sl.ex
      obtain ⟨A4, c4, rfl, _⟩ := n1.sl.ex
      obtain ⟨A5, c5, rfl, _⟩ := n2.sl.ex
      obtain ⟨A6, c6, hv6, _⟩ := (hC5.inn _ (List.getElem_mem hin)).toSl.ex
      rw [hv6]
      kernel_rfl
    refine st_growS (hI.own.ext hE68) ?_ (by omega) (by omega) (fun v9 v10 w10 ho10 hx10 hz10 hst10 => ?_)
    · intro u hu
      simp only [List.mem_cons, List.not_mem_nil, or_false] at hu
      rcases hu with rfl | rfl | rfl | rfl | rfl | rfl | rfl
      · exact o1.1
      · exact o1.2.1
      · exact o1.2.2
      · exact o2.1
      · exact o2.2.1
      · exact o2.2.2
      · exact hq5
    obtain ⟨h, hv, hI'⟩ := hI.push hE68 (by omega) hP78 hP8 (Nat.le_refl _) (Nat.le_refl _) (Nat.le_refl _) hz7 hz8 ho10 rfl rfl hst10
    refine go ?_
    refine forQ_normal (by omega) ⟨v10, es ++ [h], ?_, hst10.wrt.ext (he6.trans hE68) hvl, fun k hk => ?_, hI', ?_⟩
    · exact hasP
    · rcases hst10.new hk with h | h
      · exact hvl k h
      · omega
    · rw [List.map_append, hes, List.take_succ_eq_append_getElem hin, List.map_append]
      simp only [List.map_cons, List.map_nil, hv]
  · obtain rfl : i = gs.length := by omega
    rw [List.drop_length] at hI
    rw [List.take_length] at hes
    refine go ?_
    refine ret2 ⟨vl, _, 0, rfl, .inl ⟨⟨hG, hGq⟩, hc, .inr ⟨hN, by omega, rfl, rfl⟩⟩, hE6, es, ?_, hI.done⟩
    rw [hes, ← hgs, List.map_map]
    rfl
end Go.Proofs.Ytnphljflkpekmaa

/-
  Walks: the statement's own helpers on homomorphisms: sizes, copies, comparison, marks (szHom, toHom, eqHom, markHom).
  Conditions: stated at each theorem.
-/
namespace Go.Proofs.Ytnphljflkpekmaa
open Go Go.Pc
set_option maxHeartbeats 1000000 in
theorem eqHom_ok {w : World} {va vb : Value} {p q p' q' : Pr} {xss yss : List (List Int)} {lo hi lo1 hi1 : Nat} [hh : HomV lo hi w va p q xss] [hh' : HomV lo1 hi1 w vb p' q' yss] (hsp : SizeP p 2000000) (hsq : SizeP q 2000000) (hl : xss.length ≤ 2000000) (hr : ∀ i, (xss.getD i []).length ≤ 2000000) :
    Calls Try.prog 43 #[va, vb] w (Ret fun v w' => ∃ b, v = .bool b ∧ (b = true ↔ p = p' ∧ q = q' ∧ xss = yss) ∧ Ext w w') := by
  obtain ⟨a0, a1, a2, a3, a4, a5, a6, us, rfl, hp, hq, hx⟩ := hh.ex
  obtain ⟨d0, d1, d2, d3, d4, d5, d6, us', rfl, hp', hq', hx'⟩ := hh'.ex
  refine enter (args := [.agg #[a0, a1, a2, a3, a4, a5, a6], .agg #[d0, d1, d2, d3, d4, d5, d6]]) (l := [.tmp 4]) Try.func43 rfl rfl Try.ntmps43 (by simp) ?_
  refine go ?_
  refine st_box (vs := [a0, a1, a2, a3, a4, a5, a6]) (by ((try simp only [ev_tmp, ev_const, ev_func, get_put, get_args, get_putL, get_putL_nil, Nat.reduceEqDiff, reduceIte, List.getD_cons_zero, List.getD_cons_succ, List.getD_nil]); first | done | with_reducible rfl)) (by first | exact True.intro | exact ⟨_, rfl, by ((try simp only [ev_tmp, ev_const, ev_func, get_put, get_args, get_putL, get_putL_nil, Nat.reduceEqDiff, reduceIte, List.getD_cons_zero, List.getD_cons_succ, List.getD_nil, Bool.not_true, Bool.not_false]); first | done | with_reducible rfl)⟩) fun w1 b he1 hb1 hs1 hbk => ?_
  obtain ⟨c0, c1, c2, c3, c4, c5, c6⟩ := hbk.cells7
  refine go ?_
  refine st_box (vs := [d0, d1, d2, d3, d4, d5, d6]) (by ((try simp only [ev_tmp, ev_const, ev_func, get_put, get_args, get_putL, get_putL_nil, Nat.reduceEqDiff, reduceIte, List.getD_cons_zero, List.getD_cons_succ, List.getD_nil]); first | done | with_reducible rfl)) (by first | exact True.intro | exact ⟨_, rfl, by ((try simp only [ev_tmp, ev_const, ev_func, get_put, get_args, get_putL, get_putL_nil, Nat.reduceEqDiff, reduceIte, List.getD_cons_zero, List.getD_cons_succ, List.getD_nil, Bool.not_true, Bool.not_false]); first | done | with_reducible rfl)⟩) fun w2 b' he2 hb2 hs2 hbk' => ?_
  obtain ⟨e0, e1, e2, e3, e4, e5, e6⟩ := hbk'.cells7
  have hE2 := he1.trans he2
  have no : ∀ {w' : World}, ¬ (p = p' ∧ q = q' ∧ xss = yss) → Ext w w' → ∃ b, Value.bool false = .bool b ∧ (b = true ↔ p = p' ∧ q = q' ∧ xss = yss) ∧ Ext w w' := fun h he => ⟨_, rfl, by simpa using fun a b => fun c => h ⟨a, b, c⟩, he⟩
  refine go ?_
  refine rc (eqPresentation_ok (p := p) (q := p') hsp) (next := fun v3 w3 h4 => ?_)
  obtain ⟨b3, rfl, hb3, he3⟩ := h4
  refine go ?_
  refine c_b (fun h5 => ?_) (fun h5 => ?_)
  · refine go ?_
    refine ret1 (no (fun e => ?_) (hE2.trans he3))
    rw [hb3.2 e.1] at h5; cases h5
  have f1 := hb3.1 (by simpa using h5)
  refine go ?_
  refine rc (eqPresentation_ok (p := q) (q := q') hsq) (next := fun v4 w4 h6 => ?_)
  obtain ⟨b4, rfl, hb4, he4⟩ := h6
  refine go ?_
  refine c_b (fun h7 => ?_) (fun h7 => ?_)
  · refine go ?_
    refine ret1 (no (fun e => ?_) ((hE2.trans he3).trans he4))
    rw [hb4.2 e.2.1] at h7; cases h7
  have f2 := hb4.1 (by simpa using h7)
  refine go ?_
  refine rc (eqInt64SS_ok (xss := xss) (yss := yss) hr (by omega)) (next := fun v5 w5 h8 => ?_)
  obtain ⟨b5, rfl, hb5, he5⟩ := h8
  refine go ?_
  refine c_b (fun h9 => ?_) (fun h9 => ?_)
  · refine go ?_
    refine ret1 (no (fun e => ?_) (((hE2.trans he3).trans he4).trans he5))
    rw [hb5.2 e.2.2] at h9; cases h9
  have f3 := hb5.1 (by simpa using h9)
  refine go ?_
  exact ret1 ⟨_, rfl, ⟨fun _ => ⟨f1, f2, f3⟩, fun _ => rfl⟩, ((hE2.trans he3).trans he4).trans he5⟩
end Go.Proofs.Ytnphljflkpekmaa

/-
  Walks: marks on a presentation that is a result, and the test that they are held (markPresentation, heldPresentation).
  Conditions: stated at each theorem.
-/
namespace Go.Pc
open Go Go.RowKit
section
variable {lo hi s t : Nat} {w w' : World} {v : Value} {us us' : List Value} {uss : List (List Value)} {xs xs' : List Int} {xss xss' : List (List Int)} {xsss xsss' : List (List (List Int))}
/-- Where a slice's cells lie is told by the slice. -/
theorem Sl.range (h : Sl s t w v us) (k : Sl lo hi w' v us') (hl : us.length = us'.length) : Sl s t w' v us' := by
  obtain ⟨A, c, hv, hc, hm, hcell⟩ := h.ex
  obtain ⟨A', c', hv', hc', hm', hcell'⟩ := k.ex
  refine ⟨⟨A', c', hv', hc', hm', fun i u hu => ?_⟩⟩
  obtain ⟨a, hA', _, _, e3⟩ := hcell' i u hu
  have hi : i < us.length := by rw [hl]; exact (List.getElem?_eq_some_iff.1 hu).1
  obtain ⟨a2, hA, e1, e2, _⟩ := hcell i us[i] (by simp [hi])
  rw [hv] at hv'
  injection hv' with h1 _ _
  rw [hA, hA'] at h1
  injection h1 with h1
  subst h1
  exact ⟨a2, hA', e1, e2, e3⟩
theorem Ints.range (h : Ints s t w v xs) (k : Ints lo hi w' v xs') (hl : xs.length = xs'.length) : Ints s t w' v xs' := ⟨h.sl.range k.sl (by simpa using hl)⟩
theorem Rows.range (h : Rows s t w v us xss) (k : Rows lo hi w' v us xss') (hl : ∀ i, (xss.getD i []).length = (xss'.getD i []).length) : Rows s t w' v us xss' :=
  ⟨h.sl.range k.sl rfl, k.vals.len, fun i => (h.vals.at_ i).range (k.vals.at_ i) (hl i)⟩
theorem Rowss.range (h : Rowss s t w v us uss xsss) (k : Rowss lo hi w' v us uss xsss') (hl : ∀ i j, ((xsss.getD i []).getD j []).length = ((xsss'.getD i []).getD j []).length) : Rowss s t w' v us uss xsss' :=
  ⟨h.sl.range k.sl rfl, k.vals.len, k.vals.len', fun i => (h.vals.at_ i).range (k.vals.at_ i) (hl i)⟩
end
end Go.Pc
namespace Go.Proofs.Ytnphljflkpekmaa
open Go Go.Pc
end Go.Proofs.Ytnphljflkpekmaa

/-
  Walks: marks on a homomorphism that is a result, and the test that they are held (markHom, heldHom).
  Conditions: stated at each theorem.
-/
namespace Go.Proofs.Ytnphljflkpekmaa
open Go Go.Pc
end Go.Proofs.Ytnphljflkpekmaa

/-
  Walks: the statement's own helpers on lists of homomorphisms: comparison, marks, the test that they are held (eqHomS, markHomS, heldHomS).
  Conditions: stated at each theorem.
-/
namespace Go.Proofs.Ytnphljflkpekmaa
open Go Go.Pc
theorem HomsV.at_ {lo hi : Nat} {w : World} {v : Value} {ks : List (Pr × Pr × List (List Int))} (h : HomsV lo hi w v ks) : ∃ us, SlS lo hi w v ks.length us ∧ ∀ i (hi' : i < ks.length), HomV lo hi w (.agg #[us.getD (i * 7 + 0) nilv, us.getD (i * 7 + 1) nilv, us.getD (i * 7 + 2) nilv, us.getD (i * 7 + 3) nilv, us.getD (i * 7 + 4) nilv, us.getD (i * 7 + 5) nilv, us.getD (i * 7 + 6) nilv]) ks[i].1 ks[i].2.1 ks[i].2.2 := h.ex
/-- A homomorphism's lists are short enough to be compared. -/
structure HSz (k : Pr × Pr × List (List Int)) : Prop where
  p : SizeP k.1 2000000
  q : SizeP k.2.1 2000000
  l : k.2.2.length ≤ 2000000
  r : ∀ i, (k.2.2.getD i []).length ≤ 2000000
set_option maxHeartbeats 1000000 in
theorem eqHomS_ok {w : World} {va vb : Value} {ks js : List (Pr × Pr × List (List Int))} {lo hi lo1 hi1 : Nat} [hx : HomsV lo hi w va ks] [hy : HomsV lo1 hi1 w vb js] (hs : ∀ k, k ∈ ks → HSz k) (hl : ks.length ≤ 10000000) :
    Calls Try.prog 18 #[va, vb] w (Ret fun v w' => ∃ b, v = .bool b ∧ (b = true ↔ ks = js) ∧ Ext w w') := by
  obtain ⟨us, hus, hux⟩ := hx.at_
  obtain ⟨vs, hvs, hvx⟩ := hy.at_
  have hul := hus.toLen
  have hvl := hvs.toLen
  refine enter (args := [va, vb]) (l := [.tmp 4]) Try.func18 rfl rfl Try.ntmps18 (by simp) ?_
  refine go ?_
  refine c_if (fun h1 => ?_) (fun h1 => ?_)
  · refine go ?_
    refine ret1 ⟨_, rfl, ?_, Ext.refl _⟩
    simp only [Bool.false_eq_true, false_iff]
    rintro rfl
    omega
  · have hxy : ks.length = js.length := by omega
    refine go ?_
    refine r_for ks.length (fun k ρ w' => Has ρ [(0, va), (1, vb), (5, .int .i64 k)] ∧ Ext w w' ∧ ∀ i, i < k → ks[i]? = js[i]?) ?_ ?_
    · refine ⟨?_, Ext.refl _, fun i hi => by omega⟩
      exact hasP
    rintro k ρ w1 hk ⟨hH, he1, hI⟩
    refine rwp_has hH fun ρ0 => ?_
    refine go ?_
    refine c_if (fun h4 => ?_) (fun h4 => ?_)
    · have hk1 : k < ks.length := by omega
      have hk2 : k < js.length := by omega
      obtain ⟨ga, hga⟩ := hus.own (by omega)
      obtain ⟨gb, hgb⟩ := hvs.own (by omega)
      have hus1 := hus.same (he1.same _ _) he1.size
      have hvs1 := hvs.same (he1.same _ _) he1.size
      have hA := (hux k hk1).same (he1.same _ _)
      have hB := (hvx k hk2).same (he1.same _ _)
      have hz := hs _ (List.getElem_mem hk1)
      refine go ?_
      refine d_region fun w2 he2 _ => ?_
      have hus2 := hus1.same (he2.same _ _) he2.size
      have hvs2 := hvs1.same (he2.same _ _) he2.size
      refine dgo ?_
      refine da (v := .pointer (some ⟨ga, k * 7, none⟩)) (h := rs_indexS (v := va) (m := k) (by ((try simp only [ev_tmp, ev_const, ev_func, get_put, get_args, get_putL, get_putL_nil, Nat.reduceEqDiff, reduceIte, List.getD_cons_zero, List.getD_cons_succ, List.getD_nil]); first | done | with_reducible rfl)) (by ((try simp only [ev_tmp, ev_const, ev_func, get_put, get_args, get_putL, get_putL_nil, Nat.reduceEqDiff, reduceIte, List.getD_cons_zero, List.getD_cons_succ, List.getD_nil]); first | done | with_reducible rfl)) hk1 hga) (next := ?_)
      refine dgo ?_
      refine da (h := rs_loadS (v := va) (m := k) (by ((try simp only [ev_tmp, ev_const, ev_func, get_put, get_args, get_putL, get_putL_nil, Nat.reduceEqDiff, reduceIte, List.getD_cons_zero, List.getD_cons_succ, List.getD_nil]); first | done | with_reducible rfl)) hk1 hga) (next := ?_)
      refine dgo ?_
      refine da (v := .pointer (some ⟨gb, k * 7, none⟩)) (h := rs_indexS (v := vb) (m := k) (by ((try simp only [ev_tmp, ev_const, ev_func, get_put, get_args, get_putL, get_putL_nil, Nat.reduceEqDiff, reduceIte, List.getD_cons_zero, List.getD_cons_succ, List.getD_nil]); first | done | with_reducible rfl)) (by ((try simp only [ev_tmp, ev_const, ev_func, get_put, get_args, get_putL, get_putL_nil, Nat.reduceEqDiff, reduceIte, List.getD_cons_zero, List.getD_cons_succ, List.getD_nil]); first | done | with_reducible rfl)) hk2 hgb) (next := ?_)
      refine dgo ?_
      refine da (h := rs_loadS (v := vb) (m := k) (by ((try simp only [ev_tmp, ev_const, ev_func, get_put, get_args, get_putL, get_putL_nil, Nat.reduceEqDiff, reduceIte, List.getD_cons_zero, List.getD_cons_succ, List.getD_nil]); first | done | with_reducible rfl)) hk2 hgb) (next := ?_)
      refine dgo ?_
      refine dce (eqHom_ok (p := ks[k].1) (q := ks[k].2.1) (xss := ks[k].2.2) (p' := js[k].1) (q' := js[k].2.1) (yss := js[k].2.2) (hh := hA.same (he2.same _ _)) (hh' := hB.same (he2.same _ _)) hz.p hz.q hz.l hz.r) (next := fun v3 w3 h3 => ?_)
      obtain ⟨b3, rfl, hb3, he3⟩ := h3
      refine dgo ?_
      refine d_end (h := ?_)
      refine go ?_
      refine c_b (fun h5 => ?_) (fun h5 => ?_)
      · refine go ?_
        refine ret1 ⟨_, rfl, ?_, (he1.trans he2).trans he3⟩
        simp only [Bool.false_eq_true, false_iff]
        rintro rfl
        have := hb3.2 ⟨rfl, rfl, rfl⟩
        rw [this] at h5; cases h5
      · have h6 := hb3.1 (by simpa using h5)
        refine go ?_
        refine forQ_normal (by omega) ⟨?_, (he1.trans he2).trans he3, fun i hi => ?_⟩
        · exact hasP
        · by_cases e : i = k
          · subst e
            rw [List.getElem?_eq_getElem hk1, List.getElem?_eq_getElem hk2]
            exact congrArg some (Prod.ext h6.1 (Prod.ext h6.2.1 h6.2.2))
          · exact hI i (by omega)
    · refine go ?_
      refine ret1 ⟨_, rfl, ?_, he1⟩
      simp only [true_iff]
      apply List.ext_getElem? 
      intro i
      by_cases h : i < ks.length
      · exact hI i (by omega)
      · rw [List.getElem?_eq_none (by omega), List.getElem?_eq_none (by omega)]
theorem tot_allR_le (es : List HE) (j : Nat) : tot ((allR (es.take j)).map (·.2)) ≤ tot ((allR es).map (·.2)) := by
  have e : allR es = allR (es.take j) ++ allR (es.drop j) := by rw [← allR_append, List.take_append_drop]
  rw [e, List.map_append, tot_append]; omega
theorem allR_take_succ (es : List HE) {i : Nat} (hi : i < es.length) : allR (es.take (i + 1)) = allR (es.take i) ++ es[i].rows := by
  rw [List.take_succ_eq_append_getElem hi, allR_append]
  simp [allR]
theorem allR_drop (es : List HE) {i : Nat} (hi : i < es.length) : allR (es.drop i) = es[i].rows ++ allR (es.drop (i + 1)) := by
  have e : es.drop i = es[i] :: es.drop (i + 1) := (List.getElem_cons_drop (h := hi)).symm
  rw [e, allR_cons]
theorem markEs_get : ∀ (es : List HE) (k : Int) (i : Nat) (hi : i < es.length) (hi' : i < (markEs k es).length), (markEs k es)[i] = es[i].mark (k + tot ((allR (es.take i)).map (·.2)))
  | h :: es, k, 0, _, _ => by simp [markEs, allR, tot]
  | h :: es, k, i + 1, hi, hi' => by
    have := markEs_get es (k + h.tt) i (by simpa using hi) (by simpa [markEs] using hi')
    simp only [markEs, List.getElem_cons_succ, List.take_succ_cons, allR_cons, List.map_append, tot_append]
    rw [this]
    congr 1
    unfold HE.tt
    push_cast
    omega
set_option maxHeartbeats 4000000 in
theorem markHomS_ok {e s t : Nat} {w : World} {v : Value} {k : Int} {es : List HE} (hO : HomsO e s t w v es) (hk : 0 ≤ k) (hb : k + tot ((allR es).map (·.2)) ≤ 9000000000000000000) :
    Calls Try.prog 19 #[v, .int .i64 k] w (Ret fun v' w' => v' = .int .i64 (k + tot ((allR es).map (·.2))) ∧ HomsO e s t w' v (markEs k es) ∧ Wrt (BlkOf (allR es)) w w') := by
  have hsz := hO.slS
  have hlen := hsz.toLen
  have hlm : es.length ≤ 9223372036854775807 := by obtain ⟨A, c, _, h1, h2, _⟩ := hlen; omega
  refine enter (args := [v, .int .i64 k]) (l := [.tmp 4]) Try.func19 rfl rfl Try.ntmps19 (by simp) ?_
  refine go ?_
  refine r_for es.length (fun i ρ w' => Has ρ [(0, v), (1, .int .i64 (k + tot ((allR (es.take i)).map (·.2)))), (5, .int .i64 i)] ∧ RowsO s w' (mkR k (allR (es.take i)) ++ allR (es.drop i)) ∧ Wrt (BlkOf (allR es)) w w') ?_ ?_
  · refine ⟨?_, by simpa [mkR, allR] using hO.rows, .refl _⟩
    have e : ((allR (es.take 0)).map (·.2)) = [] := rfl
    rw [e]
    simp only [tot]
    exact hasP
  clear hsz hlen
  have hAt : ∀ {w' : World}, Wrt (BlkOf (allR es)) w w' → SlS 0 w'.heap.size w' v es.length (allC es) := fun hW => (hO.own.wr hW fun b hb => (hO.vt b hb).2).slS fun b hb => ⟨Nat.zero_le _, ((hO.own.wr hW fun b hb => (hO.vt b hb).2).lt b hb).2⟩
  rintro i ρ w2 hi ⟨hH, hO2, hW2⟩
  refine rwp_has hH fun ρ0 => ?_
  have hlen2 := (hAt hW2).toLen
  have ht := tot_allR_le es i
  refine go ?_
  refine c_if (fun h4 => ?_) (fun h4 => ?_)
  · have hin : i < es.length := by omega
    have hm := List.getElem_mem hin
    have g := allC_get es i hin
    obtain ⟨gb, hgb⟩ := (hAt hW2).own (by omega)
    have hOk := hO.ok _ hm
    have hK0 : 0 ≤ k + (tot ((allR (es.take i)).map (·.2)) : Int) := by omega
    have hts : tot ((allR (es.take (i + 1))).map (·.2)) = tot ((allR (es.take i)).map (·.2)) + es[i].tt := by rw [allR_take_succ es hin, List.map_append, tot_append]; rfl
    have ht2 := tot_allR_le es (i + 1)
    have htt := es[i].tt_eq
    have e3 := allR_take_succ es hin
    rw [allR_drop es hin] at hO2
    have hsub : ∀ b, BlkOf es[i].rows b → BlkOf (allR es) b := fun b ⟨r, h1, h2⟩ => ⟨r, allR_mem hm h1, h2⟩
    generalize hKK : k + (tot ((allR (es.take i)).map (·.2)) : Int) = K at *
    generalize hpre : mkR k (allR (es.take i)) = pre at hO2
    generalize hpost : allR (es.drop (i + 1)) = post at hO2
    generalize hh : es[i] = h at *
    have hCell : ∀ {w' : World}, Wrt (BlkOf (allR es)) w w' → Cell w' gb (i * 7) h.vo ∧ Cell w' gb (i * 7 + 1) h.vp ∧ Cell w' gb (i * 7 + 2) h.vc ∧ Cell w' gb (i * 7 + 3) h.uo ∧ Cell w' gb (i * 7 + 3 + 1) h.up ∧ Cell w' gb (i * 7 + 3 + 2) h.uc ∧ Cell w' gb (i * 7 + 6) h.vi := fun hW => by
      have hc : ∀ f, f < 7 → Cell _ gb (i * 7 + f) (h.cells.getD f nilv) := fun f hf => by
        have := (hAt hW).cells hgb (j := i * 7 + f) (by omega)
        rw [g f hf] at this
        exact this
      exact ⟨hc 0 (by omega), hc 1 (by omega), hc 2 (by omega), hc 3 (by omega), hc 4 (by omega), hc 5 (by omega), hc 6 (by omega)⟩
    have mrow : ∀ {r : Value × List Int}, r ∈ h.rows → ∀ b, r.2 ≠ [] ∧ r.1.ownBlock = some b → BlkOf (allR es) b := fun hr b hb => hsub b ⟨_, hr, hb⟩
    have hsl2 := hAt hW2
    have hlen2b := hsl2.toLen
    obtain ⟨c0, c1, c2, c3, c4, c5, c6⟩ := hCell hW2
    have hA2 : RowsO s w2 ((pre) ++ (h.vo, h.od) :: (h.rp ++ (flat h.gs ++ ([(h.uo, h.oe)] ++ (h.rq ++ (flat h.hs ++ (h.ri ++ (post)))))))) := by
      simpa only [HE.rows, List.append_assoc, List.cons_append, List.nil_append] using hO2
    have hf2 : Fr s w2 h.vo h.od := hA2.fr (h.vo, h.od) (by simp)
    refine go ?_
    refine ra (v := .pointer (some ⟨gb, i * 7, none⟩)) (h := rd_indexS (v := v) (m := i) (by ((try simp only [ev_tmp, ev_const, ev_func, get_put, get_args, get_putL, get_putL_nil, Nat.reduceEqDiff, reduceIte, List.getD_cons_zero, List.getD_cons_succ, List.getD_nil]); first | done | with_reducible rfl)) (by ((try simp only [ev_tmp, ev_const, ev_func, get_put, get_args, get_putL, get_putL_nil, Nat.reduceEqDiff, reduceIte, List.getD_cons_zero, List.getD_cons_succ, List.getD_nil]); first | done | with_reducible rfl)) hin hgb) (next := ?_)
    refine go ?_
    refine rc (markInt64S_ok (k := K) hf2 ?_ ?_) (next := fun v3 w3 hr2 => ?_)
    · omega
    · omega
    obtain ⟨rfl, hg2, hV2⟩ := hr2
    have hO3 := hA2.upd hV2 hg2 marks_ne.1
    have hW3 := hW2.trans (hV2.mono fun b ⟨hn, e⟩ => mrow (r := (h.vo, h.od)) (by simp [HE.rows]) b ⟨hn, e⟩)
    clear c0 c1 c2 c3 c4 c5 c6
    have hsl3 := hAt hW3
    have hlen3b := hsl3.toLen
    obtain ⟨c0, c1, c2, c3, c4, c5, c6⟩ := hCell hW3
    have hA3 : RowsO s w3 ((pre ++ [(h.vo, marks (K) h.od.length)]) ++ h.rp ++ (flat h.gs ++ ([(h.uo, h.oe)] ++ (h.rq ++ (flat h.hs ++ (h.ri ++ (post))))))) := by
      simpa only [HE.rows, List.append_assoc, List.cons_append, List.nil_append] using hO3
    have hS3 := (hOk.p).wr hW3 (fun b hb => .inl hb)
    have hs3 : ∀ b, BlkOf (h.rp) b → BlkOf (allR es) b := fun b ⟨r, h1, h2⟩ => hsub b ⟨r, by simp [HE.rows, h1], h2⟩
    clear hlen2b hsl2
    refine go ?_
    refine ra (v := .pointer (some ⟨gb, i * 7, none⟩)) (h := rd_indexS (v := v) (m := i) (by ((try simp only [ev_tmp, ev_const, ev_func, get_put, get_args, get_putL, get_putL_nil, Nat.reduceEqDiff, reduceIte, List.getD_cons_zero, List.getD_cons_succ, List.getD_nil]); first | done | with_reducible rfl)) (by ((try simp only [ev_tmp, ev_const, ev_func, get_put, get_args, get_putL, get_putL_nil, Nat.reduceEqDiff, reduceIte, List.getD_cons_zero, List.getD_cons_succ, List.getD_nil]); first | done | with_reducible rfl)) hin hgb) (next := ?_)
    refine go ?_
    refine rc (markInt64SS_ok (k := K + h.od.length) hA3 hS3 (fun b hb => .inl (hs3 b hb)) ?_ ?_) (next := fun v4 w4 hr3 => ?_)
    · omega
    · omega
    obtain ⟨rfl, hO4, hV3⟩ := hr3
    have hW4 := hW3.trans (hV3.mono hs3)
    clear c0 c1 c2 c3 c4 c5 c6
    have hsl4 := hAt hW4
    have hlen4b := hsl4.toLen
    obtain ⟨c0, c1, c2, c3, c4, c5, c6⟩ := hCell hW4
    have hA4 : RowsO s w4 ((pre ++ [(h.vo, marks (K) h.od.length)] ++ mkR (K + h.od.length) h.rp) ++ flat h.gs ++ ([(h.uo, h.oe)] ++ (h.rq ++ (flat h.hs ++ (h.ri ++ (post)))))) := by
      simpa only [HE.rows, List.append_assoc, List.cons_append, List.nil_append] using hO4
    have hS4 := (hOk.c).wr hW4 (fun b hb => .inl hb)
    have hs4 : ∀ b, BlkOf (flat h.gs) b → BlkOf (allR es) b := fun b ⟨r, h1, h2⟩ => hsub b ⟨r, by simp [HE.rows, h1], h2⟩
    clear hlen3b hsl3
    refine go ?_
    refine ra (v := .pointer (some ⟨gb, i * 7, none⟩)) (h := rd_indexS (v := v) (m := i) (by ((try simp only [ev_tmp, ev_const, ev_func, get_put, get_args, get_putL, get_putL_nil, Nat.reduceEqDiff, reduceIte, List.getD_cons_zero, List.getD_cons_succ, List.getD_nil]); first | done | with_reducible rfl)) (by ((try simp only [ev_tmp, ev_const, ev_func, get_put, get_args, get_putL, get_putL_nil, Nat.reduceEqDiff, reduceIte, List.getD_cons_zero, List.getD_cons_succ, List.getD_nil]); first | done | with_reducible rfl)) hin hgb) (next := ?_)
    refine go ?_
    refine rc (markInt64SSS_ok (k := K + h.od.length + tot (h.rp.map (·.2))) hA4 hS4 (fun b hb => .inl (hs4 b hb)) ?_ ?_) (next := fun v5 w5 hr4 => ?_)
    · omega
    · omega
    obtain ⟨rfl, hO5, hV4⟩ := hr4
    have hW5 := hW4.trans (hV4.mono hs4)
    clear c0 c1 c2 c3 c4 c5 c6
    have hsl5 := hAt hW5
    have hlen5b := hsl5.toLen
    obtain ⟨c0, c1, c2, c3, c4, c5, c6⟩ := hCell hW5
    have hA5 : RowsO s w5 ((pre ++ [(h.vo, marks (K) h.od.length)] ++ mkR (K + h.od.length) h.rp ++ mkR (K + h.od.length + tot (h.rp.map (·.2))) (flat h.gs)) ++ (h.uo, h.oe) :: (h.rq ++ (flat h.hs ++ (h.ri ++ (post))))) := by
      simpa only [HE.rows, List.append_assoc, List.cons_append, List.nil_append] using hO5
    have hf5 : Fr s w5 h.uo h.oe := hA5.fr (h.uo, h.oe) (by simp)
    clear hlen4b hsl4
    refine go ?_
    refine ra (v := .pointer (some ⟨gb, i * 7, none⟩)) (h := rd_indexS (v := v) (m := i) (by ((try simp only [ev_tmp, ev_const, ev_func, get_put, get_args, get_putL, get_putL_nil, Nat.reduceEqDiff, reduceIte, List.getD_cons_zero, List.getD_cons_succ, List.getD_nil]); first | done | with_reducible rfl)) (by ((try simp only [ev_tmp, ev_const, ev_func, get_put, get_args, get_putL, get_putL_nil, Nat.reduceEqDiff, reduceIte, List.getD_cons_zero, List.getD_cons_succ, List.getD_nil]); first | done | with_reducible rfl)) hin hgb) (next := ?_)
    refine go ?_
    refine rc (markInt64S_ok (k := K + h.od.length + tot (h.rp.map (·.2)) + tot ((flat h.gs).map (·.2))) hf5 ?_ ?_) (next := fun v6 w6 hr5 => ?_)
    · omega
    · omega
    obtain ⟨rfl, hg5, hV5⟩ := hr5
    have hO6 := hA5.upd hV5 hg5 marks_ne.1
    have hW6 := hW5.trans (hV5.mono fun b ⟨hn, e⟩ => mrow (r := (h.uo, h.oe)) (by simp [HE.rows]) b ⟨hn, e⟩)
    clear c0 c1 c2 c3 c4 c5 c6
    have hsl6 := hAt hW6
    have hlen6b := hsl6.toLen
    obtain ⟨c0, c1, c2, c3, c4, c5, c6⟩ := hCell hW6
    have hA6 : RowsO s w6 ((pre ++ [(h.vo, marks (K) h.od.length)] ++ mkR (K + h.od.length) h.rp ++ mkR (K + h.od.length + tot (h.rp.map (·.2))) (flat h.gs) ++ [(h.uo, marks (K + h.od.length + tot (h.rp.map (·.2)) + tot ((flat h.gs).map (·.2))) h.oe.length)]) ++ h.rq ++ (flat h.hs ++ (h.ri ++ (post)))) := by
      simpa only [HE.rows, List.append_assoc, List.cons_append, List.nil_append] using hO6
    have hS6 := (hOk.q).wr hW6 (fun b hb => .inl hb)
    have hs6 : ∀ b, BlkOf (h.rq) b → BlkOf (allR es) b := fun b ⟨r, h1, h2⟩ => hsub b ⟨r, by simp [HE.rows, h1], h2⟩
    clear hlen5b hsl5
    refine go ?_
    refine ra (v := .pointer (some ⟨gb, i * 7, none⟩)) (h := rd_indexS (v := v) (m := i) (by ((try simp only [ev_tmp, ev_const, ev_func, get_put, get_args, get_putL, get_putL_nil, Nat.reduceEqDiff, reduceIte, List.getD_cons_zero, List.getD_cons_succ, List.getD_nil]); first | done | with_reducible rfl)) (by ((try simp only [ev_tmp, ev_const, ev_func, get_put, get_args, get_putL, get_putL_nil, Nat.reduceEqDiff, reduceIte, List.getD_cons_zero, List.getD_cons_succ, List.getD_nil]); first | done | with_reducible rfl)) hin hgb) (next := ?_)
    refine go ?_
    refine rc (markInt64SS_ok (k := K + h.od.length + tot (h.rp.map (·.2)) + tot ((flat h.gs).map (·.2)) + h.oe.length) hA6 hS6 (fun b hb => .inl (hs6 b hb)) ?_ ?_) (next := fun v7 w7 hr6 => ?_)
    · omega
    · omega
    obtain ⟨rfl, hO7, hV6⟩ := hr6
    have hW7 := hW6.trans (hV6.mono hs6)
    clear c0 c1 c2 c3 c4 c5 c6
    have hsl7 := hAt hW7
    have hlen7b := hsl7.toLen
    obtain ⟨c0, c1, c2, c3, c4, c5, c6⟩ := hCell hW7
    have hA7 : RowsO s w7 ((pre ++ [(h.vo, marks (K) h.od.length)] ++ mkR (K + h.od.length) h.rp ++ mkR (K + h.od.length + tot (h.rp.map (·.2))) (flat h.gs) ++ [(h.uo, marks (K + h.od.length + tot (h.rp.map (·.2)) + tot ((flat h.gs).map (·.2))) h.oe.length)] ++ mkR (K + h.od.length + tot (h.rp.map (·.2)) + tot ((flat h.gs).map (·.2)) + h.oe.length) h.rq) ++ flat h.hs ++ (h.ri ++ (post))) := by
      simpa only [HE.rows, List.append_assoc, List.cons_append, List.nil_append] using hO7
    have hS7 := (hOk.d).wr hW7 (fun b hb => .inl hb)
    have hs7 : ∀ b, BlkOf (flat h.hs) b → BlkOf (allR es) b := fun b ⟨r, h1, h2⟩ => hsub b ⟨r, by simp [HE.rows, h1], h2⟩
    clear hlen6b hsl6
    refine go ?_
    refine ra (v := .pointer (some ⟨gb, i * 7, none⟩)) (h := rd_indexS (v := v) (m := i) (by ((try simp only [ev_tmp, ev_const, ev_func, get_put, get_args, get_putL, get_putL_nil, Nat.reduceEqDiff, reduceIte, List.getD_cons_zero, List.getD_cons_succ, List.getD_nil]); first | done | with_reducible rfl)) (by ((try simp only [ev_tmp, ev_const, ev_func, get_put, get_args, get_putL, get_putL_nil, Nat.reduceEqDiff, reduceIte, List.getD_cons_zero, List.getD_cons_succ, List.getD_nil]); first | done | with_reducible rfl)) hin hgb) (next := ?_)
    refine go ?_
    refine rc (markInt64SSS_ok (k := K + h.od.length + tot (h.rp.map (·.2)) + tot ((flat h.gs).map (·.2)) + h.oe.length + tot (h.rq.map (·.2))) hA7 hS7 (fun b hb => .inl (hs7 b hb)) ?_ ?_) (next := fun v8 w8 hr7 => ?_)
    · omega
    · omega
    obtain ⟨rfl, hO8, hV7⟩ := hr7
    have hW8 := hW7.trans (hV7.mono hs7)
    clear c0 c1 c2 c3 c4 c5 c6
    have hsl8 := hAt hW8
    have hlen8b := hsl8.toLen
    obtain ⟨c0, c1, c2, c3, c4, c5, c6⟩ := hCell hW8
    have hA8 : RowsO s w8 ((pre ++ [(h.vo, marks (K) h.od.length)] ++ mkR (K + h.od.length) h.rp ++ mkR (K + h.od.length + tot (h.rp.map (·.2))) (flat h.gs) ++ [(h.uo, marks (K + h.od.length + tot (h.rp.map (·.2)) + tot ((flat h.gs).map (·.2))) h.oe.length)] ++ mkR (K + h.od.length + tot (h.rp.map (·.2)) + tot ((flat h.gs).map (·.2)) + h.oe.length) h.rq ++ mkR (K + h.od.length + tot (h.rp.map (·.2)) + tot ((flat h.gs).map (·.2)) + h.oe.length + tot (h.rq.map (·.2))) (flat h.hs)) ++ h.ri ++ (post)) := by
      simpa only [HE.rows, List.append_assoc, List.cons_append, List.nil_append] using hO8
    have hS8 := (hOk.i).wr hW8 (fun b hb => .inl hb)
    have hs8 : ∀ b, BlkOf (h.ri) b → BlkOf (allR es) b := fun b ⟨r, h1, h2⟩ => hsub b ⟨r, by simp [HE.rows, h1], h2⟩
    clear hlen7b hsl7
    refine go ?_
    refine ra (v := .pointer (some ⟨gb, i * 7, none⟩)) (h := rd_indexS (v := v) (m := i) (by ((try simp only [ev_tmp, ev_const, ev_func, get_put, get_args, get_putL, get_putL_nil, Nat.reduceEqDiff, reduceIte, List.getD_cons_zero, List.getD_cons_succ, List.getD_nil]); first | done | with_reducible rfl)) (by ((try simp only [ev_tmp, ev_const, ev_func, get_put, get_args, get_putL, get_putL_nil, Nat.reduceEqDiff, reduceIte, List.getD_cons_zero, List.getD_cons_succ, List.getD_nil]); first | done | with_reducible rfl)) hin hgb) (next := ?_)
    refine go ?_
    refine rc (markInt64SS_ok (k := K + h.od.length + tot (h.rp.map (·.2)) + tot ((flat h.gs).map (·.2)) + h.oe.length + tot (h.rq.map (·.2)) + tot ((flat h.hs).map (·.2))) hA8 hS8 (fun b hb => .inl (hs8 b hb)) ?_ ?_) (next := fun v9 w9 hr8 => ?_)
    · omega
    · omega
    obtain ⟨rfl, hO9, hV8⟩ := hr8
    have hW9 := hW8.trans (hV8.mono hs8)
    clear c0 c1 c2 c3 c4 c5 c6
    refine go ?_
    refine forQ_normal (by omega) ⟨?_, ?_, hW9⟩
    · have eK : k + (tot ((allR (es.take (i + 1))).map (·.2)) : Int) = K + h.od.length + tot (h.rp.map (·.2)) + tot ((flat h.gs).map (·.2)) + h.oe.length + tot (h.rq.map (·.2)) + tot ((flat h.hs).map (·.2)) + tot (h.ri.map (·.2)) := by omega
      rw [eK]
      exact hasP
    · rw [e3, mkR_append, hpre, hKK, hpost, ← HE.mark_rows]
      simpa only [HE.mark, HE.rows, flat_mkC, List.append_assoc, List.cons_append, List.nil_append] using hO9
  · refine go ?_
    obtain rfl : i = es.length := by omega
    rw [List.take_length] at hO2 ⊢
    rw [List.drop_length, show allR [] = [] from rfl, List.append_nil] at hO2
    exact ret1 ⟨rfl, hO.marked hO2 hW2, hW2⟩
set_option maxHeartbeats 4000000 in
theorem heldHomS_ok {e s t : Nat} {w : World} {v : Value} {k : Int} {es : List HE} (hO : HomsO e s t w v (markEs k es)) (hk : 0 ≤ k) (hb : k + tot ((allR es).map (·.2)) ≤ 9000000000000000000) :
    Calls Try.prog 20 #[v, .int .i64 k] w (Ret fun v' w' => v' = .int .i64 (k + tot ((allR es).map (·.2))) ∧ Ext w w') := by
  have hsl := hO.slS
  rw [markEs_len, markEs_cells] at hsl
  have hlen := hsl.toLen
  have hlm : es.length ≤ 9223372036854775807 := by obtain ⟨A, c, _, h1, h2, _⟩ := hlen; omega
  refine enter (args := [v, .int .i64 k]) (l := [.tmp 4]) Try.func20 rfl rfl Try.ntmps20 (by simp) ?_
  refine go ?_
  refine r_for es.length (fun i ρ w' => Has ρ [(0, v), (1, .int .i64 (k + tot ((allR (es.take i)).map (·.2)))), (5, .int .i64 i)] ∧ Ext w w') ?_ ?_
  · refine ⟨?_, .refl _⟩
    have e : ((allR (es.take 0)).map (·.2)) = [] := rfl
    rw [e]
    simp only [tot]
    exact hasP
  rintro i ρ w2 hi ⟨hH, he2⟩
  refine rwp_has hH fun ρ0 => ?_
  have ht := tot_allR_le es i
  refine go ?_
  refine c_if (fun h4 => ?_) (fun h4 => ?_)
  · have hin : i < es.length := by omega
    have hin' : i < (markEs k es).length := by rw [markEs_len]; exact hin
    have hm := List.getElem_mem hin'
    have hrd := HE.reads (RowsO.part hO.rows (allR_sub hm)) (hO.ok _ hm)
    have g := allC_get es i hin
    obtain ⟨gb, hgb⟩ := hsl.own (by omega)
    have hK0 : 0 ≤ k + (tot ((allR (es.take i)).map (·.2)) : Int) := by omega
    have hts : tot ((allR (es.take (i + 1))).map (·.2)) = tot ((allR (es.take i)).map (·.2)) + es[i].tt := by rw [allR_take_succ es hin, List.map_append, tot_append]; rfl
    have ht2 := tot_allR_le es (i + 1)
    have htt := es[i].tt_eq
    rw [markEs_get es k i hin hin'] at hrd
    generalize hKK : k + (tot ((allR (es.take i)).map (·.2)) : Int) = K at *
    generalize hh : es[i] = h at *
    have f1 := flat_tot h.gs
    have f2 := flat_tot h.hs
    have hc : ∀ f, f < 7 → Cell w gb (i * 7 + f) (h.cells.getD f nilv) := fun f hf => by
      have := hsl.cells hgb (j := i * 7 + f) (by omega)
      rw [g f hf] at this
      exact this
    have c0 : Cell w gb (i * 7) h.vo := hc 0 (by omega)
    have c1 : Cell w gb (i * 7 + 1) h.vp := hc 1 (by omega)
    have c2 : Cell w gb (i * 7 + 2) h.vc := hc 2 (by omega)
    have c3 : Cell w gb (i * 7 + 3) h.uo := hc 3 (by omega)
    have c4 : Cell w gb (i * 7 + 3 + 1) h.up := hc 4 (by omega)
    have c5 : Cell w gb (i * 7 + 3 + 2) h.uc := hc 5 (by omega)
    have c6 : Cell w gb (i * 7 + 6) h.vi := hc 6 (by omega)
    obtain ⟨r1, r2, r3, r4, r5, r6, r7⟩ := hrd
    simp only [HE.mark, mkR_snd, mkC_snd] at r1 r2 r3 r4 r5 r6 r7
    rw [f1] at r4 r5 r6 r7 htt
    rw [f2] at r7 htt
    refine go ?_
    refine ra (v := .pointer (some ⟨gb, i * 7, none⟩)) (h := rd_indexS (v := v) (m := i) (hl := hsl.same (he2.same _ _) he2.size) (by ((try simp only [ev_tmp, ev_const, ev_func, get_put, get_args, get_putL, get_putL_nil, Nat.reduceEqDiff, reduceIte, List.getD_cons_zero, List.getD_cons_succ, List.getD_nil]); first | done | with_reducible rfl)) (by ((try simp only [ev_tmp, ev_const, ev_func, get_put, get_args, get_putL, get_putL_nil, Nat.reduceEqDiff, reduceIte, List.getD_cons_zero, List.getD_cons_succ, List.getD_nil]); first | done | with_reducible rfl)) hin hgb) (next := ?_)
    refine go ?_
    refine rc (heldInt64S_ok (k := K) (n := h.od.length) (xs := marks (K) h.od.length) (hx := r1.same (he2.same _ _)) rfl ?_ ?_) (next := fun v3 w3 hr2 => ?_)
    · omega
    · omega
    obtain ⟨rfl, he3⟩ := hr2
    have hE3 := he2.trans he3
    refine go ?_
    refine c_if (fun h5 => ?_) (fun _ => ?_)
    · omega
    refine go ?_
    refine ra (v := .pointer (some ⟨gb, i * 7, none⟩)) (h := rd_indexS (v := v) (m := i) (hl := hsl.same (hE3.same _ _) hE3.size) (by ((try simp only [ev_tmp, ev_const, ev_func, get_put, get_args, get_putL, get_putL_nil, Nat.reduceEqDiff, reduceIte, List.getD_cons_zero, List.getD_cons_succ, List.getD_nil]); first | done | with_reducible rfl)) (by ((try simp only [ev_tmp, ev_const, ev_func, get_put, get_args, get_putL, get_putL_nil, Nat.reduceEqDiff, reduceIte, List.getD_cons_zero, List.getD_cons_succ, List.getD_nil]); first | done | with_reducible rfl)) hin hgb) (next := ?_)
    refine go ?_
    refine rc (heldInt64SS_ok (k := K + h.od.length) (yss := h.rp.map (·.2)) (hx := r2.same (hE3.same _ _)) rfl ?_ ?_) (next := fun v4 w4 hr3 => ?_)
    · omega
    · omega
    obtain ⟨rfl, he4⟩ := hr3
    have hE4 := hE3.trans he4
    refine go ?_
    refine c_if (fun h5 => ?_) (fun _ => ?_)
    · omega
    refine go ?_
    refine ra (v := .pointer (some ⟨gb, i * 7, none⟩)) (h := rd_indexS (v := v) (m := i) (hl := hsl.same (hE4.same _ _) hE4.size) (by ((try simp only [ev_tmp, ev_const, ev_func, get_put, get_args, get_putL, get_putL_nil, Nat.reduceEqDiff, reduceIte, List.getD_cons_zero, List.getD_cons_succ, List.getD_nil]); first | done | with_reducible rfl)) (by ((try simp only [ev_tmp, ev_const, ev_func, get_put, get_args, get_putL, get_putL_nil, Nat.reduceEqDiff, reduceIte, List.getD_cons_zero, List.getD_cons_succ, List.getD_nil]); first | done | with_reducible rfl)) hin hgb) (next := ?_)
    refine go ?_
    refine rc (heldInt64SSS_ok (k := K + h.od.length + tot (h.rp.map (·.2))) (ysss := h.gs.map fun q => q.2.map (·.2)) (hx := r3.same (hE4.same _ _)) rfl ?_ ?_) (next := fun v5 w5 hr4 => ?_)
    · omega
    · omega
    obtain ⟨rfl, he5⟩ := hr4
    have hE5 := hE4.trans he5
    refine go ?_
    refine c_if (fun h5 => ?_) (fun _ => ?_)
    · omega
    refine go ?_
    refine ra (v := .pointer (some ⟨gb, i * 7, none⟩)) (h := rd_indexS (v := v) (m := i) (hl := hsl.same (hE5.same _ _) hE5.size) (by ((try simp only [ev_tmp, ev_const, ev_func, get_put, get_args, get_putL, get_putL_nil, Nat.reduceEqDiff, reduceIte, List.getD_cons_zero, List.getD_cons_succ, List.getD_nil]); first | done | with_reducible rfl)) (by ((try simp only [ev_tmp, ev_const, ev_func, get_put, get_args, get_putL, get_putL_nil, Nat.reduceEqDiff, reduceIte, List.getD_cons_zero, List.getD_cons_succ, List.getD_nil]); first | done | with_reducible rfl)) hin hgb) (next := ?_)
    refine go ?_
    refine rc (heldInt64S_ok (k := K + h.od.length + tot (h.rp.map (·.2)) + tot (h.gs.map fun q => q.2.map (·.2)).flatten) (n := h.oe.length) (xs := marks (K + h.od.length + tot (h.rp.map (·.2)) + tot (h.gs.map fun q => q.2.map (·.2)).flatten) h.oe.length) (hx := r4.same (hE5.same _ _)) rfl ?_ ?_) (next := fun v6 w6 hr5 => ?_)
    · omega
    · omega
    obtain ⟨rfl, he6⟩ := hr5
    have hE6 := hE5.trans he6
    refine go ?_
    refine c_if (fun h5 => ?_) (fun _ => ?_)
    · omega
    refine go ?_
    refine ra (v := .pointer (some ⟨gb, i * 7, none⟩)) (h := rd_indexS (v := v) (m := i) (hl := hsl.same (hE6.same _ _) hE6.size) (by ((try simp only [ev_tmp, ev_const, ev_func, get_put, get_args, get_putL, get_putL_nil, Nat.reduceEqDiff, reduceIte, List.getD_cons_zero, List.getD_cons_succ, List.getD_nil]); first | done | with_reducible rfl)) (by ((try simp only [ev_tmp, ev_const, ev_func, get_put, get_args, get_putL, get_putL_nil, Nat.reduceEqDiff, reduceIte, List.getD_cons_zero, List.getD_cons_succ, List.getD_nil]); first | done | with_reducible rfl)) hin hgb) (next := ?_)
    refine go ?_
    refine rc (heldInt64SS_ok (k := K + h.od.length + tot (h.rp.map (·.2)) + tot (h.gs.map fun q => q.2.map (·.2)).flatten + h.oe.length) (yss := h.rq.map (·.2)) (hx := r5.same (hE6.same _ _)) rfl ?_ ?_) (next := fun v7 w7 hr6 => ?_)
    · omega
    · omega
    obtain ⟨rfl, he7⟩ := hr6
    have hE7 := hE6.trans he7
    refine go ?_
    refine c_if (fun h5 => ?_) (fun _ => ?_)
    · omega
    refine go ?_
    refine ra (v := .pointer (some ⟨gb, i * 7, none⟩)) (h := rd_indexS (v := v) (m := i) (hl := hsl.same (hE7.same _ _) hE7.size) (by ((try simp only [ev_tmp, ev_const, ev_func, get_put, get_args, get_putL, get_putL_nil, Nat.reduceEqDiff, reduceIte, List.getD_cons_zero, List.getD_cons_succ, List.getD_nil]); first | done | with_reducible rfl)) (by ((try simp only [ev_tmp, ev_const, ev_func, get_put, get_args, get_putL, get_putL_nil, Nat.reduceEqDiff, reduceIte, List.getD_cons_zero, List.getD_cons_succ, List.getD_nil]); first | done | with_reducible rfl)) hin hgb) (next := ?_)
    refine go ?_
    refine rc (heldInt64SSS_ok (k := K + h.od.length + tot (h.rp.map (·.2)) + tot (h.gs.map fun q => q.2.map (·.2)).flatten + h.oe.length + tot (h.rq.map (·.2))) (ysss := h.hs.map fun q => q.2.map (·.2)) (hx := r6.same (hE7.same _ _)) rfl ?_ ?_) (next := fun v8 w8 hr7 => ?_)
    · omega
    · omega
    obtain ⟨rfl, he8⟩ := hr7
    have hE8 := hE7.trans he8
    refine go ?_
    refine c_if (fun h5 => ?_) (fun _ => ?_)
    · omega
    refine go ?_
    refine ra (v := .pointer (some ⟨gb, i * 7, none⟩)) (h := rd_indexS (v := v) (m := i) (hl := hsl.same (hE8.same _ _) hE8.size) (by ((try simp only [ev_tmp, ev_const, ev_func, get_put, get_args, get_putL, get_putL_nil, Nat.reduceEqDiff, reduceIte, List.getD_cons_zero, List.getD_cons_succ, List.getD_nil]); first | done | with_reducible rfl)) (by ((try simp only [ev_tmp, ev_const, ev_func, get_put, get_args, get_putL, get_putL_nil, Nat.reduceEqDiff, reduceIte, List.getD_cons_zero, List.getD_cons_succ, List.getD_nil]); first | done | with_reducible rfl)) hin hgb) (next := ?_)
    refine go ?_
    refine rc (heldInt64SS_ok (k := K + h.od.length + tot (h.rp.map (·.2)) + tot (h.gs.map fun q => q.2.map (·.2)).flatten + h.oe.length + tot (h.rq.map (·.2)) + tot (h.hs.map fun q => q.2.map (·.2)).flatten) (yss := h.ri.map (·.2)) (hx := r7.same (hE8.same _ _)) rfl ?_ ?_) (next := fun v9 w9 hr8 => ?_)
    · omega
    · omega
    obtain ⟨rfl, he9⟩ := hr8
    have hE9 := hE8.trans he9
    refine go ?_
    refine c_if (fun h5 => ?_) (fun _ => ?_)
    · omega
    refine go ?_
    refine forQ_normal (by omega) ⟨?_, hE9⟩
    have eK : k + (tot ((allR (es.take (i + 1))).map (·.2)) : Int) = K + h.od.length + tot (h.rp.map (·.2)) + tot (h.gs.map fun q => q.2.map (·.2)).flatten + h.oe.length + tot (h.rq.map (·.2)) + tot (h.hs.map fun q => q.2.map (·.2)).flatten + tot (h.ri.map (·.2)) := by omega
    rw [eK]
    exact hasP
  · refine go ?_
    obtain rfl : i = es.length := by omega
    rw [List.take_length]
    exact ret1 ⟨rfl, he2⟩
end Go.Proofs.Ytnphljflkpekmaa
