/-
  Texts of one proof, put together by program: I03, I08d, I08e, I12e, I13, I14, I16, I17, I15, I18, I35, I40, I41, I42, Enum, Ans5, Ser, Ser2, L06, L08, Open.
  Conditions: those told at each part.
-/
import Derived.Test.YtnphljflkpekmaaB4
import Derived.Deep.Slices
set_option linter.unusedVariables false
set_option linter.unusedSimpArgs false
set_option linter.unusedSectionVars false
set_option linter.constructorNameAsVariable false
set_option linter.unnecessarySimpa false
set_option linter.deprecated false
/-
  Walk: the program's check of a presentation (IsPresentation).
  Conditions: stated at each theorem.
-/
namespace Go.Proofs.Ytnphljflkpekmaa
open Go Go.Pc
theorem foldl_mono : ∀ (l : List Int) (a : Int), (∀ o ∈ l, 1 ≤ o) → 1 ≤ a → a ≤ l.foldl (· * ·) a :=
  fun l a h ha => (capMul_foldl l a h ha).2.1
theorem prod_take {l : List Int} {k : Nat} (h : ∀ o ∈ l, 1 ≤ o) : 1 ≤ (l.take k).foldl (· * ·) 1 ∧ (l.take k).foldl (· * ·) 1 ≤ l.foldl (· * ·) 1 := by
  have h1 := foldl_mono (l.take k) 1 (fun o ho => h o (List.mem_of_mem_take ho)) (by omega)
  have h2 := foldl_mono (l.drop k) ((l.take k).foldl (· * ·) 1) (fun o ho => h o (List.mem_of_mem_drop ho)) h1
  rw [← List.foldl_append, List.take_append_drop] at h2
  exact ⟨h1, h2⟩
set_option maxHeartbeats 2000000 in
theorem impl_IsPresentation_ok {w : World} {v : Value} {p : Pr} {lo hi : Nat} [hp : Pres lo hi w v p] (hl : p.ord.length ≤ 2000000) :
    Calls Try.prog 81 #[v] w (Ret fun v' w' => ∃ b, v' = .bool b ∧ (b = true ↔ Valid p) ∧ Ext w w') := by
  have hol : p.ord.length = p.n := rfl
  obtain ⟨vo, vpw, vc, ps, cs, css, rfl, h1, h2, h3⟩ := hp.ex
  refine enter (args := [.agg #[vo, vpw, vc]]) (l := [.tmp 2]) Try.func81 rfl rfl Try.ntmps81 (by simp) ?_
  refine go ?_
  refine st_box3 (by ((try simp only [ev_tmp, ev_const, ev_func, get_put, get_args, get_putL, get_putL_nil, Nat.reduceEqDiff, reduceIte, List.getD_cons_zero, List.getD_cons_succ, List.getD_nil]); first | done | with_reducible rfl)) (by first | exact True.intro | exact ⟨_, rfl, by ((try simp only [ev_tmp, ev_const, ev_func, get_put, get_args, get_putL, get_putL_nil, Nat.reduceEqDiff, reduceIte, List.getD_cons_zero, List.getD_cons_succ, List.getD_nil, Bool.not_true, Bool.not_false]); first | done | with_reducible rfl)⟩) fun w1 b he1 hb1 hs1 hc0 hc1 hc2 => ?_
  have no : ∀ {w' : World}, ¬ Valid p → Ext w w' → ∃ b, Value.bool false = .bool b ∧ (b = true ↔ Valid p) ∧ Ext w w' := fun h he => ⟨_, rfl, by simp [h], he⟩
  have hpp := hp.boxed he1 hc0 hc1 hc2
  refine go ?_
  refine spd (fun hn => ?_) (fun hn => ?_)
  · refine go ?_
    exact ret1 (no (fun h => by have := h.n6; omega) he1)
  refine go ?_
  refine spd (fun hn2 => ?_) (fun hn2 => ?_)
  · refine go ?_
    exact ret1 (no (fun h => by have := h.lenw; omega) he1)
  refine go ?_
  refine c_if (fun hn3 => ?_) (fun hn3 => ?_)
  · refine go ?_
    exact ret1 (no (fun h => by have := h.lenc; omega) he1)
  refine go ?_
  refine r_for p.n (fun k ρ w' => Has ρ [(1, .pointer (some ⟨b, 0, none⟩)), (3, .int .i64 p.n), (4, .int .i64 ((p.ord.take k).foldl (· * ·) 1)), (30, vo), (31, .int .i64 p.n), (32, .int .i64 k)] ∧ Ext w1 w' ∧
    (p.ord.take k).foldl (· * ·) 1 ≤ 729 ∧ ∀ i, i < k → p.ord.getD i 0 = 2 ∨ p.ord.getD i 0 = 3 ∨ p.ord.getD i 0 = 5 ∨ p.ord.getD i 0 = 7) ?_ ?_
  · refine ⟨?_, Ext.refl _, by simp, fun i hi => by omega⟩
    exact hasP
  rintro k ρ w2 hk ⟨hH, he2, hpr, hpre⟩
  refine rwp_has hH fun ρ0 => ?_
  refine go ?_
  refine c_if (fun hk1 => ?_) (fun hk1 => ?_)
  · have hkn : k < p.n := by omega
    have hps : (p.ord.take (k + 1)).foldl (· * ·) 1 = (p.ord.take k).foldl (· * ·) 1 * p.ord.getD k 0 := foldl_take_succ _ _ _ _ _ hkn
    refine go ?_
    refine rc IsGroupPrime_ok (next := fun v3 w3 h3 => ?_)
    obtain ⟨b3, rfl, hb3, he3⟩ := h3
    refine go ?_
    refine sp (fun h4 => ?_) (fun h4 => ?_)
    · refine go ?_
      refine ret1 (no (fun h => ?_) ((he1.trans he2).trans he3))
      have := hb3.2 (h.prime k (by omega))
      rw [this] at h4; cases h4
    · have h5 := hb3.1 (by simpa using h4)
      have hone : 1 ≤ (p.ord.take k).foldl (· * ·) 1 := by
        refine foldl_mono _ 1 (fun o ho => ?_) (by omega)
        obtain ⟨i, hi, rfl⟩ := List.getElem_of_mem ho
        rw [List.length_take] at hi
        have := hpre i (by omega)
        simp only [List.getElem_take]
        have e : p.ord.getD i 0 = p.ord[i] := by simp [show i < p.ord.length by omega]
        rw [e] at this; omega
      have hm1 : 0 ≤ (p.ord.take k).foldl (· * ·) 1 * p.ord.getD k 0 := Int.mul_nonneg (by omega) (by omega)
      have hm2 : (p.ord.take k).foldl (· * ·) 1 * p.ord.getD k 0 ≤ 729 * 7 := Int.mul_le_mul hpr (by omega) (by omega) (by omega)
      have hmr : -9223372036854775808 ≤ (p.ord.take k).foldl (· * ·) 1 * p.ord.getD k 0 ∧ (p.ord.take k).foldl (· * ·) 1 * p.ord.getD k 0 ≤ 9223372036854775807 := by omega
      refine go ?_
      refine ra (h := rd_mul (by ((try simp only [ev_tmp, ev_const, ev_func, get_put, get_args, get_putL, get_putL_nil, Nat.reduceEqDiff, reduceIte, List.getD_cons_zero, List.getD_cons_succ, List.getD_nil]); first | done | with_reducible rfl)) (by ((try simp only [ev_tmp, ev_const, ev_func, get_put, get_args, get_putL, get_putL_nil, Nat.reduceEqDiff, reduceIte, List.getD_cons_zero, List.getD_cons_succ, List.getD_nil]); first | done | with_reducible rfl)) hmr) (next := ?_)
      refine go ?_
      refine c_if (fun h6 => ?_) (fun h6 => ?_)
      · refine go ?_
        refine ret1 (no (fun h => ?_) ((he1.trans he2).trans he3))
        have := (prod_take (k := k + 1) (fun o ho => (primes_bd h.prime o ho).1)).2
        have h8 := h.prod
        rw [hps] at this
        omega
      · refine go ?_
        refine ra (h := rd_mul (by ((try simp only [ev_tmp, ev_const, ev_func, get_put, get_args, get_putL, get_putL_nil, Nat.reduceEqDiff, reduceIte, List.getD_cons_zero, List.getD_cons_succ, List.getD_nil]); first | done | with_reducible rfl)) (by ((try simp only [ev_tmp, ev_const, ev_func, get_put, get_args, get_putL, get_putL_nil, Nat.reduceEqDiff, reduceIte, List.getD_cons_zero, List.getD_cons_succ, List.getD_nil]); first | done | with_reducible rfl)) hmr) (next := ?_)
        refine go ?_
        refine forQ_normal (by omega) ⟨?_, he2.trans he3, by rw [hps]; omega, fun i hi => ?_⟩
        · rw [hps]; exact hasP
        · by_cases e : i = k
          · subst e; exact h5
          · exact hpre i (by omega)
  · have hkn : k = p.n := by omega
    subst hkn
    have hprod : p.ord.foldl (· * ·) 1 ≤ 729 := by
      rw [← hol, List.take_length] at hpr; exact hpr
    have hbd : ∀ i, i < p.n → 2 ≤ p.o i ∧ p.o i ≤ 7 := fun i hi => by have := hpre i hi; unfold Pr.o; omega
    refine go ?_
    refine r_for p.n (fun k ρ w' => Has ρ [(1, .pointer (some ⟨b, 0, none⟩)), (3, .int .i64 p.n), (49, .int .i64 p.n), (50, .int .i64 k)] ∧ Ext w1 w' ∧ ∀ q, q < k → RowOk p q) ?_ ?_
    · refine ⟨?_, he2, fun i hi => by omega⟩
      exact hasP
    clear he2
    rintro k ρ w4 hk ⟨hH, he4, hrow⟩
    refine rwp_has hH fun ρ1 => ?_
    refine go ?_
    refine c_if (fun hk2 => ?_) (fun hk2 => ?_)
    · have hkn : k < p.n := by omega
      refine go ?_
      refine rc (tailVector_ok (p := p) (xs := p.pow.getD k []) rfl hkn hbd (by omega)) (next := fun v6 w6 h6 => ?_)
      obtain ⟨b6, rfl, hb6, he6⟩ := h6
      refine go ?_
      refine sp (fun h7 => ?_) (fun h7 => ?_)
      · refine go ?_
        refine ret1 (no (fun h => ?_) ((he1.trans he4).trans he6))
        have := hb6.2 ⟨h.w_in k hkn, h.w_zu k hkn⟩
        rw [this] at h7; cases h7
      · have h8 := exp_iff.2 (hb6.1 (by simpa using h7))
        refine go ?_
        refine c_if (fun h9 => ?_) (fun h9 => ?_)
        · refine go ?_
          refine ret1 (no (fun h => ?_) ((he1.trans he4).trans he6))
          have := ((valid_iff.1 h).2.2.2.2.2 k (by omega)).2.1
          omega
        · refine go ?_
          refine r_for (p.cnj.getD k []).length (fun m ρ w' => Has ρ [(1, .pointer (some ⟨b, 0, none⟩)), (3, .int .i64 p.n), (49, .int .i64 p.n), (50, .int .i64 k), (7, .int .i64 k), (78, Pc.rowAt vc cs k), (79, .int .i64 (p.cnj.getD k []).length), (80, .int .i64 m)] ∧ Ext w1 w' ∧ ∀ j, j < m → ExpP p.ord ((p.cnj.getD k []).getD j []) k) ?_ ?_
          · refine ⟨?_, he4.trans he6, fun i hi => by omega⟩
            exact hasP
          clear he4 he6
          rintro m ρ w7 hm ⟨hH, he7, hin⟩
          refine rwp_has hH fun ρ2 => ?_
          refine go ?_
          refine c_if (fun hm2 => ?_) (fun hm2 => ?_)
          · refine go ?_
            refine rc (tailVector_ok (p := p) (xs := (p.cnj.getD k []).getD m []) rfl hkn hbd (by omega)) (next := fun v9 w9 h9 => ?_)
            obtain ⟨b9, rfl, hb9, he9⟩ := h9
            refine go ?_
            refine c_b (fun h10 => ?_) (fun h10 => ?_)
            · refine go ?_
              refine ret1 (no (fun h => ?_) ((he1.trans he7).trans he9))
              have := hb9.2 (exp_iff.1 (((valid_iff.1 h).2.2.2.2.2 k (by omega)).2.2 m (by omega)))
              rw [this] at h10; cases h10
            · have h11 := exp_iff.2 (hb9.1 (by simpa using h10))
              refine go ?_
              refine forQ_normal (by omega) ⟨?_, he7.trans he9, fun j hj => ?_⟩
              · exact hasP
              · by_cases e : j = m
                · subst e; exact h11
                · exact hin j (by omega)
          · refine go ?_
            refine forQ_normal (by omega) ⟨?_, he7, fun q hq => ?_⟩
            · exact hasP
            · by_cases e : q = k
              · subst e
                exact ⟨h8, by omega, fun j hj => hin j (by omega)⟩
              · exact hrow q (by omega)
    · refine go ?_
      refine ret1 ⟨_, rfl, ?_, he1.trans he4⟩
      simp only [true_iff]
      exact valid_iff.2 ⟨by omega, by omega, by omega, hpre, hprod, fun q hq => hrow q (by omega)⟩
end Go.Proofs.Ytnphljflkpekmaa

/-
  Walks: the program's consistency (levelFault, consistentFrom, IsConsistent).
  Conditions: stated at each theorem.
-/
namespace Go.Proofs.Ytnphljflkpekmaa
open Go Go.Pc
def QC (p : Pr) (i : Nat) [h : Con p (i + 1)] (j k : Nat) : Prop := ∀ (hj : i < j ∧ j < p.n) (hk : i < k ∧ k < p.n), j < k → (Grp.cj (Tc h.valid hk) (Tc h.valid hj)).v = img p i (p.c j k)
def QI (p : Pr) (i : Nat) [h : Con p (i + 1)] (hi : i < p.n) (j : Nat) : Prop := ∀ (hj : i + 1 ≤ j ∧ j < p.n), rep (p.o i).toNat (img p i) (unitv p j 1) = (Grp.cj (gen h.valid (i + 1) j hj) (Tw h.valid hi)).v
theorem chk_iff2 {p : Pr} {i : Nat} [h : Con p (i + 1)] (hi : i < p.n) : Chk p i hi ↔ (∀ j, LP p i j) ∧ (∀ j k, QC p i j k) ∧ img p i (p.w i) = p.w i ∧ ∀ j, QI p i hi j := by
  constructor
  · intro hc
    refine ⟨fun j hj => congrArg T.v (hc.P j hj), fun j k hj hk hjk => congrArg T.v (hc.C j k hj hk hjk), congrArg T.v hc.F, fun j hj => ?_⟩
    have := congrArg T.v (hc.I j hj)
    rw [rep_Timg] at this
    exact this
  · rintro ⟨h1, h2, h3, h4⟩
    refine ⟨fun j hj => T.ext (h1 j hj), fun j k hj hk hjk => T.ext (h2 j k hj hk hjk), T.ext h3, fun j hj => T.ext ?_⟩
    rw [rep_Timg]
    exact h4 j hj
set_option maxHeartbeats 8000000 in
theorem levelFault_ok {p : Pr} {i : Nat} [hc : Con p (i + 1)] (hi : i < p.n) {w : World} {vp : Value} {ki : Int} {lo hi' : Nat} [hp : PresP lo hi' w vp p] (hki : ki = i) :
    Calls Try.prog 118 #[vp, .int .i64 ki] w (Ret fun v w' => ∃ k l f s : Int, v = faultV k l f s ∧ (k = 0 ↔ Chk p i hi) ∧ (k ≠ 0 → l = i) ∧ (k = 0 → l = 0 ∧ f = 0 ∧ s = 0) ∧ Ext w w') := by
  subst hki
  have hv := hc.valid
  have hn6 := hv.n6
  have hol : p.ord.length = p.n := rfl
  have hwl : p.pow.length = p.n := hv.lenw
  have hcl : p.cnj.length = p.n := hv.lenc
  have hci : (p.cnj.getD i []).length = p.n - 1 - i := hv.lenci i hi
  have hoi := hv.opos hi
  have hoe : p.o i = p.ord.getD i 0 := rfl
  obtain ⟨b, og, vo, vpw, vc, ps, cs, css, rfl, hb1, hb2, hc0, hc1, hc2, h1, h2, h3⟩ := hp.ex
  refine enter (args := [.pointer (some ⟨b, og, none⟩), .int .i64 i]) (l := [.cell 4 112]) Try.func118 rfl rfl Try.ntmps118 (by simp) ?_
  refine go ?_
  refine st_alloc (by first | exact True.intro | exact ⟨_, rfl, by ((try simp only [ev_tmp, ev_const, ev_func, get_put, get_args, get_putL, get_putL_nil, Nat.reduceEqDiff, reduceIte, List.getD_cons_zero, List.getD_cons_succ, List.getD_nil, Bool.not_true, Bool.not_false]); first | done | with_reducible rfl)⟩) fun w2 bf he2 hbf hs2 hbk => ?_
  have bad : ∀ {w3 : World} {k f s : Int}, Ext w w3 → k ≠ 0 → ¬ Chk p i hi → ∃ k' l' f' s' : Int, faultV k i f s = faultV k' l' f' s' ∧ (k' = 0 ↔ Chk p i hi) ∧ (k' ≠ 0 → l' = i) ∧ (k' = 0 → l' = 0 ∧ f' = 0 ∧ s' = 0) ∧ Ext w w3 :=
    fun he hk hn => ⟨_, _, _, _, rfl, ⟨fun h => absurd h hk, fun h => absurd h hn⟩, fun _ => rfl, fun h => absurd h hk, he⟩
  have hTcv : ∀ j (hj : i < j ∧ j < p.n), (p.cnj.getD i []).getD (j - i - 1) [] = (Tc hv hj).v := fun j hj => rfl
  refine go ?_
  refine r_for (p.n - (i + 1)) (fun k ρ w' => Has ρ [(0, .pointer (some ⟨b, og, none⟩)), (1, .int .i64 i), (4, .pointer (some ⟨bf, 0, none⟩)), (5, .int .i64 p.n), (6, .int .i64 i), (7, .int .i64 (i + 1 + k : Nat))] ∧ Ext w2 w' ∧ ∀ j, j < i + 1 + k → LP p i j) ?_ ?_
  · refine ⟨?_, Ext.refl _, fun j hj hj' => by omega⟩
    exact hasP
  rintro k ρ w3 hk ⟨hH, he3, hP⟩
  refine rwp_has hH fun ρ0 => ?_
  refine go ?_
  refine c_if (fun hj => ?_) (fun hj => ?_)
  · have hjn : i < i + 1 + k ∧ i + 1 + k < p.n := ⟨by omega, by omega⟩
    have hoj : 2 ≤ p.ord.getD (i + 1 + k) 0 ∧ p.ord.getD (i + 1 + k) 0 ≤ 7 := hv.opos hjn.2
    have hcv : (p.cnj.getD i []).getD (i + 1 + k - i - 1) [] = (Tc hv hjn).v := rfl
    refine go ?_
    refine d_order [0, 1, 2, 3, 4, 5, 6, 7, 8, 9, 10, 11, 12, 13, 14, 15, 16, 17, 18, 19, 20, 22, 23, 24, 25, 26, 27, 28, 29, 30, 21, 31, 32, 33] (h := fun w4 he4 _ => ?_)
    refine dgo ?_
    refine dce (power_ok (x := Tc hv hjn) (by omega) hcv ?_) (next := fun v5 w5 h5 => ?_)
    · omega
    obtain ⟨he5, hf5⟩ := h5
    refine dce (imageBy_ok hi (xs := p.w (i + 1 + k)) ?_ (hv.w_in _ hjn.2)) (next := fun v7 w7 h7 => ?_)
    · rfl
    obtain ⟨he7, hf7⟩ := h7
    have hlen := (Grp.pw (Tc hv hjn) (p.ord.getD (i + 1 + k) 0).toNat).inr.len
    refine dce (equalI_ok (xs := (Grp.pw (Tc hv hjn) (p.ord.getD (i + 1 + k) 0).toNat).v) (ys := img p i (p.w (i + 1 + k))) ?_) (next := fun v8 w8 h8 => ?_)
    · omega
    obtain ⟨b8, rfl, hb8, he8⟩ := h8
    have hE8 : Ext w2 w8 := (((he3.trans he4).trans he5).trans he7).trans he8
    refine dgo ?_
    refine d_end (h := ?_)
    refine go ?_
    refine c_b (fun h9 => ?_) (fun h9 => ?_)
    · refine go ?_
      refine ra (v := faultV 1 i (i + 1 + k : Nat) 0) (h := rd_build (by simp only [ev_tmp, ev_const, ev_func, get_put, get_args, get_putL, get_putL_nil, Nat.reduceEqDiff, reduceIte, List.getD_cons_zero, List.getD_cons_succ, List.getD_nil, List.map_toArray, List.map_cons, List.map_nil]; rfl) (fun _ => by kernel_rfl)) (next := ?_)
      refine st_store_agg (vs := [.int .i64 1, .int .i64 i, .int .i64 (i + 1 + k : Nat), .int .i64 0]) (cs := _) (by ((try simp only [ev_tmp, ev_const, ev_func, get_put, get_args, get_putL, get_putL_nil, Nat.reduceEqDiff, reduceIte, List.getD_cons_zero, List.getD_cons_succ, List.getD_nil]); first | done | with_reducible rfl)) (by ((try simp only [ev_tmp, ev_const, ev_func, get_put, get_args, get_putL, get_putL_nil, Nat.reduceEqDiff, reduceIte, List.getD_cons_zero, List.getD_cons_succ, List.getD_nil]); first | done | with_reducible rfl)) rfl ?_ rfl (by first | exact True.intro | exact ⟨_, rfl, by ((try simp only [ev_tmp, ev_const, ev_func, get_put, get_args, get_putL, get_putL_nil, Nat.reduceEqDiff, reduceIte, List.getD_cons_zero, List.getD_cons_succ, List.getD_nil, Bool.not_true, Bool.not_false]); first | done | with_reducible rfl)⟩) fun w9 hc9 hs9 hb9 => ?_
      · rfl
      refine go ?_
      refine retc (bad (k := 1) (f := (i + 1 + k : Nat)) (s := 0) (hc9.ext (he2.trans hE8) (by omega)) (by decide) fun h => ?_) rfl
      have := hb8.2 (((chk_iff2 hi).1 h).1 _ hjn)
      rw [this] at h9; cases h9
    · have h10 := hb8.1 (by simpa using h9)
      refine go ?_
      refine forQ_normal (by omega) ⟨?_, hE8, fun j hj => ?_⟩
      · exact hasP
      · by_cases e : j = i + 1 + k
        · subst e; exact fun _ => h10
        · exact hP j (by omega)
  refine go ?_
  have hP' : ∀ j, LP p i j := fun j => by
    by_cases e : j < i + 1 + k
    · exact hP j e
    · exact fun h => by omega
  clear hP hH hk hj
  refine r_for (p.n - (i + 1)) (fun k ρ w' => Has ρ [(0, .pointer (some ⟨b, og, none⟩)), (1, .int .i64 i), (4, .pointer (some ⟨bf, 0, none⟩)), (5, .int .i64 p.n), (6, .int .i64 i), (8, .int .i64 (i + 1 + k : Nat))] ∧ Ext w2 w' ∧ ∀ j k', j < i + 1 + k → QC p i j k') ?_ ?_
  · refine ⟨?_, he3, fun j k' hj hj' => by omega⟩
    exact hasP
  clear he3 ρ0 k
  rintro k ρ w4 hk ⟨hH, he4, hC⟩
  refine rwp_has hH fun ρ1 => ?_
  refine go ?_
  refine c_if (fun hj => ?_) (fun hj => ?_)
  · have hjn : i < i + 1 + k ∧ i + 1 + k < p.n := ⟨by omega, by omega⟩
    refine go ?_
    refine r_for (p.n - (i + 1 + k + 1)) (fun l ρ w' => Has ρ [(0, .pointer (some ⟨b, og, none⟩)), (1, .int .i64 i), (4, .pointer (some ⟨bf, 0, none⟩)), (5, .int .i64 p.n), (6, .int .i64 i), (8, .int .i64 (i + 1 + k : Nat)), (9, .int .i64 (i + 1 + k + 1 + l : Nat))] ∧ Ext w2 w' ∧ ∀ k', k' < i + 1 + k + 1 + l → QC p i (i + 1 + k) k') ?_ ?_
    · refine ⟨?_, he4, fun k' hk' h1 h2 h3 => by omega⟩
      exact hasP
    clear he4
    rintro l ρ w5 hl ⟨hH5, he5, hC5⟩
    refine rwp_has hH5 fun ρ2 => ?_
    refine go ?_
    refine c_if (fun hk2 => ?_) (fun hk2 => ?_)
    · have hkn : i < i + 1 + k + 1 + l ∧ i + 1 + k + 1 + l < p.n := ⟨by omega, by omega⟩
      have hjk : i + 1 + k < i + 1 + k + 1 + l := by omega
      have hcj := hv.lenci (i + 1 + k) hjn.2
      have hcv1 : (p.cnj.getD i []).getD (i + 1 + k - i - 1) [] = (Tc hv hjn).v := rfl
      have hcv2 : (p.cnj.getD i []).getD (i + 1 + k + 1 + l - i - 1) [] = (Tc hv hkn).v := rfl
      refine go ?_
      refine d_order [0, 1, 2, 3, 4, 5, 6, 7, 8, 9, 10, 11, 12, 13, 14, 15, 16, 17, 18, 19, 20, 21, 22, 23, 24, 25, 26, 28, 29, 30, 31, 32, 33, 34, 35, 36, 37, 38, 39, 40, 41, 42, 27, 43, 44, 45] (h := fun w6 he6 _ => ?_)
      refine dgo ?_
      refine dce (conjugate_ok (x := Tc hv hkn) (y := Tc hv hjn) (by omega) hcv2 hcv1) (next := fun v7 w7 h7 => ?_)
      obtain ⟨he7, hf7⟩ := h7
      refine dce (imageBy_ok hi (xs := p.c (i + 1 + k) (i + 1 + k + 1 + l)) ?_ (hv.c_in _ _ hjk hkn.2)) (next := fun v8 w8 h8 => ?_)
      · rfl
      obtain ⟨he8, hf8⟩ := h8
      have hlen := (Grp.cj (Tc hv hkn) (Tc hv hjn)).inr.len
      refine dce (equalI_ok (xs := (Grp.cj (Tc hv hkn) (Tc hv hjn)).v) (ys := img p i (p.c (i + 1 + k) (i + 1 + k + 1 + l))) ?_) (next := fun v9 w9 h9 => ?_)
      · omega
      obtain ⟨b9, rfl, hb9, he9⟩ := h9
      have hE9 : Ext w2 w9 := (((he5.trans he6).trans he7).trans he8).trans he9
      refine dgo ?_
      refine d_end (h := ?_)
      refine go ?_
      refine c_b (fun h10 => ?_) (fun h10 => ?_)
      · refine go ?_
        refine ra (v := faultV 2 i (i + 1 + k : Nat) (i + 1 + k + 1 + l : Nat)) (h := rd_build (by simp only [ev_tmp, ev_const, ev_func, get_put, get_args, get_putL, get_putL_nil, Nat.reduceEqDiff, reduceIte, List.getD_cons_zero, List.getD_cons_succ, List.getD_nil, List.map_toArray, List.map_cons, List.map_nil]; rfl) (fun _ => by kernel_rfl)) (next := ?_)
        refine st_store_agg (vs := [.int .i64 2, .int .i64 i, .int .i64 (i + 1 + k : Nat), .int .i64 (i + 1 + k + 1 + l : Nat)]) (cs := _) (by ((try simp only [ev_tmp, ev_const, ev_func, get_put, get_args, get_putL, get_putL_nil, Nat.reduceEqDiff, reduceIte, List.getD_cons_zero, List.getD_cons_succ, List.getD_nil]); first | done | with_reducible rfl)) (by ((try simp only [ev_tmp, ev_const, ev_func, get_put, get_args, get_putL, get_putL_nil, Nat.reduceEqDiff, reduceIte, List.getD_cons_zero, List.getD_cons_succ, List.getD_nil]); first | done | with_reducible rfl)) rfl ?_ rfl (by first | exact True.intro | exact ⟨_, rfl, by ((try simp only [ev_tmp, ev_const, ev_func, get_put, get_args, get_putL, get_putL_nil, Nat.reduceEqDiff, reduceIte, List.getD_cons_zero, List.getD_cons_succ, List.getD_nil, Bool.not_true, Bool.not_false]); first | done | with_reducible rfl)⟩) fun w10 hc10 hs10 hb10 => ?_
        · rfl
        refine go ?_
        refine retc (bad (k := 2) (f := (i + 1 + k : Nat)) (s := (i + 1 + k + 1 + l : Nat)) (hc10.ext (he2.trans hE9) (by omega)) (by decide) fun h => ?_) rfl
        have := hb9.2 (((chk_iff2 hi).1 h).2.1 _ _ hjn hkn hjk)
        rw [this] at h10; cases h10
      · have h11 := hb9.1 (by simpa using h10)
        refine go ?_
        refine forQ_normal (by omega) ⟨?_, hE9, fun k' hk' => ?_⟩
        · exact hasP
        · by_cases e : k' = i + 1 + k + 1 + l
          · subst e; exact fun _ _ _ => h11
          · exact hC5 k' (by omega)
    · refine go ?_
      refine forQ_normal (by omega) ⟨?_, he5, fun j k' hj2 => ?_⟩
      · exact hasP
      · by_cases e : j = i + 1 + k
        · subst e
          by_cases e2 : k' < i + 1 + k + 1 + l
          · exact hC5 k' e2
          · exact fun _ _ _ => by omega
        · exact hC j k' (by omega)
  refine go ?_
  have hC' : ∀ j k', QC p i j k' := fun j k' => by
    by_cases e : j < i + 1 + k
    · exact hC j k' e
    · exact fun h _ _ => by omega
  clear hC hH hk hj
  refine rc (imageBy_ok hi (xs := p.w i) ?_ (hv.w_in _ hi)) (next := fun v5 w5 h5 => ?_)
  · rfl
  obtain ⟨he5, hf5⟩ := h5
  have hlen := (img_in hv i (p.w i)).1.len
  refine go ?_
  refine rc (equalI_ok (xs := img p i (p.w i)) (ys := p.w i) ?_) (next := fun v6 w6 h6 => ?_)
  · omega
  obtain ⟨b6, rfl, hb6, he6⟩ := h6
  have hE6 : Ext w2 w6 := (he4.trans he5).trans he6
  clear he4 he5 he6 hf5
  refine go ?_
  refine c_b (fun h7 => ?_) (fun h7 => ?_)
  · refine go ?_
    refine ra (v := faultV 3 i 0 0) (h := rd_build (by simp only [ev_tmp, ev_const, ev_func, get_put, get_args, get_putL, get_putL_nil, Nat.reduceEqDiff, reduceIte, List.getD_cons_zero, List.getD_cons_succ, List.getD_nil, List.map_toArray, List.map_cons, List.map_nil]; rfl) (fun _ => by kernel_rfl)) (next := ?_)
    refine st_store_agg (vs := [.int .i64 3, .int .i64 i, .int .i64 0, .int .i64 0]) (cs := _) (by ((try simp only [ev_tmp, ev_const, ev_func, get_put, get_args, get_putL, get_putL_nil, Nat.reduceEqDiff, reduceIte, List.getD_cons_zero, List.getD_cons_succ, List.getD_nil]); first | done | with_reducible rfl)) (by ((try simp only [ev_tmp, ev_const, ev_func, get_put, get_args, get_putL, get_putL_nil, Nat.reduceEqDiff, reduceIte, List.getD_cons_zero, List.getD_cons_succ, List.getD_nil]); first | done | with_reducible rfl)) rfl ?_ rfl (by first | exact True.intro | exact ⟨_, rfl, by ((try simp only [ev_tmp, ev_const, ev_func, get_put, get_args, get_putL, get_putL_nil, Nat.reduceEqDiff, reduceIte, List.getD_cons_zero, List.getD_cons_succ, List.getD_nil, Bool.not_true, Bool.not_false]); first | done | with_reducible rfl)⟩) fun w9 hc9 hs9 hb9 => ?_
    · rfl
    refine go ?_
    refine retc (bad (k := 3) (f := 0) (s := 0) (hc9.ext (he2.trans hE6) (by omega)) (by decide) fun h => ?_) rfl
    have := hb6.2 ((chk_iff2 hi).1 h).2.2.1
    rw [this] at h7; cases h7
  have hF := hb6.1 (by simpa using h7)
  clear h7
  refine go ?_
  refine r_for (p.n - (i + 1)) (fun k ρ w' => Has ρ [(0, .pointer (some ⟨b, og, none⟩)), (1, .int .i64 i), (4, .pointer (some ⟨bf, 0, none⟩)), (5, .int .i64 p.n), (6, .int .i64 i), (10, Pc.rowAt vpw ps i), (11, .int .i64 (i + 1 + k : Nat))] ∧ Ext w2 w' ∧ ∀ j, j < i + 1 + k → QI p i hi j) ?_ ?_
  · refine ⟨?_, hE6, fun j hj h1 => by omega⟩
    exact hasP
  clear hE6
  rintro l ρ w8 hk ⟨hH, he8, hI⟩
  refine rwp_has hH fun ρ2 => ?_
  refine go ?_
  refine c_if (fun hj => ?_) (fun hj => ?_)
  · have hjn : i + 1 ≤ i + 1 + l ∧ i + 1 + l < p.n := ⟨by omega, by omega⟩
    refine go ?_
    refine rc (unitVector_ok (n := p.n) (i := i + 1 + l) rfl rfl ?_ hjn.2) (next := fun v9 w9 h9 => ?_)
    · omega
    obtain ⟨he9, hf9⟩ := h9
    have hg0 : (zeros p.n).set (i + 1 + l) 1 = unitv p (i + 1 + l) 1 := rfl
    rw [hg0] at hf9
    have hz8 := he8.size
    refine go ?_
    refine r_for (p.o i).toNat (fun q ρ w' => ∃ vx, Has ρ [(0, .pointer (some ⟨b, og, none⟩)), (1, .int .i64 i), (4, .pointer (some ⟨bf, 0, none⟩)), (5, .int .i64 p.n), (6, .int .i64 i), (10, Pc.rowAt vpw ps i), (11, .int .i64 (i + 1 + l : Nat)), (12, vx), (159, .int .i64 (p.ord.getD i 0)), (160, .int .i64 q)] ∧ Ext w8 w' ∧ Fr w8.heap.size w' vx (rep q (img p i) (unitv p (i + 1 + l) 1))) ?_ ?_
    · refine ⟨v9, ?_, he9, hf9⟩
      exact hasP
    clear he9 hf9
    rintro q ρ w10 hq ⟨vx, hH, he10, hf10⟩
    refine rwp_has hH fun ρ3 => ?_
    have hin : InR p (rep q (img p i) (unitv p (i + 1 + l) 1)) ∧ ZU (i + 1) (rep q (img p i) (unitv p (i + 1 + l) 1)) := by
      refine rep_inv (fun v => InR p v ∧ ZU (i + 1) v) (fun x _ => img_in hv i x) ⟨?_, unitv_zu p hjn.1 1⟩ q
      exact unitv_in hv (by omega) (fun h => by have := hv.opos h; omega)
    have hxi := hf10.ints
    refine go ?_
    refine c_if (fun hq2 => ?_) (fun hq2 => ?_)
    · refine go ?_
      refine rc (imageBy_ok hi (xs := rep q (img p i) (unitv p (i + 1 + l) 1)) ?_ hin.1) (next := fun v11 w11 h11 => ?_)
      · rfl
      obtain ⟨he11, hf11⟩ := h11
      refine go ?_
      refine forQ_normal (by omega) ⟨v11, ?_, he10.trans he11, hf11.mono he10.size⟩
      exact hasP
    · have hqe : q = (p.o i).toNat := by omega
      subst hqe
      refine go ?_
      refine rc (unitVector_ok (n := p.n) (i := i + 1 + l) rfl rfl ?_ hjn.2) (next := fun v11 w11 h11 => ?_)
      · omega
      obtain ⟨he11, hf11⟩ := h11
      refine go ?_
      refine rc (conjugate_ok (x := gen hv (i + 1) (i + 1 + l) hjn) (y := Tw hv hi) (xs := (zeros p.n).set (i + 1 + l) 1) (ys := p.w i) (by omega) rfl rfl) (next := fun v12 w12 h12 => ?_)
      obtain ⟨he12, hf12⟩ := h12
      have hlen2 := hin.1.len
      refine go ?_
      refine rc (equalI_ok (xs := rep (p.o i).toNat (img p i) (unitv p (i + 1 + l) 1)) (ys := (Grp.cj (gen hv (i + 1) (i + 1 + l) hjn) (Tw hv hi)).v) ?_) (next := fun v13 w13 h13 => ?_)
      · omega
      obtain ⟨b13, rfl, hb13, he13⟩ := h13
      have hE13 : Ext w2 w13 := (((he8.trans he10).trans he11).trans he12).trans he13
      refine go ?_
      refine c_b (fun h14 => ?_) (fun h14 => ?_)
      · refine go ?_
        refine ra (v := faultV 4 i (i + 1 + l : Nat) 0) (h := rd_build (by simp only [ev_tmp, ev_const, ev_func, get_put, get_args, get_putL, get_putL_nil, Nat.reduceEqDiff, reduceIte, List.getD_cons_zero, List.getD_cons_succ, List.getD_nil, List.map_toArray, List.map_cons, List.map_nil]; rfl) (fun _ => by kernel_rfl)) (next := ?_)
        refine st_store_agg (vs := [.int .i64 4, .int .i64 i, .int .i64 (i + 1 + l : Nat), .int .i64 0]) (cs := _) (by ((try simp only [ev_tmp, ev_const, ev_func, get_put, get_args, get_putL, get_putL_nil, Nat.reduceEqDiff, reduceIte, List.getD_cons_zero, List.getD_cons_succ, List.getD_nil]); first | done | with_reducible rfl)) (by ((try simp only [ev_tmp, ev_const, ev_func, get_put, get_args, get_putL, get_putL_nil, Nat.reduceEqDiff, reduceIte, List.getD_cons_zero, List.getD_cons_succ, List.getD_nil]); first | done | with_reducible rfl)) rfl ?_ rfl (by first | exact True.intro | exact ⟨_, rfl, by ((try simp only [ev_tmp, ev_const, ev_func, get_put, get_args, get_putL, get_putL_nil, Nat.reduceEqDiff, reduceIte, List.getD_cons_zero, List.getD_cons_succ, List.getD_nil, Bool.not_true, Bool.not_false]); first | done | with_reducible rfl)⟩) fun w15 hc15 hs15 hb15 => ?_
        · rfl
        refine go ?_
        refine retc (bad (k := 4) (f := (i + 1 + l : Nat)) (s := 0) (hc15.ext (he2.trans hE13) (by omega)) (by decide) fun h => ?_) rfl
        have := hb13.2 (((chk_iff2 hi).1 h).2.2.2 (i + 1 + l) hjn)
        rw [this] at h14; cases h14
      · have h15 := hb13.1 (by simpa using h14)
        refine go ?_
        refine forQ_normal (by omega) ⟨?_, hE13, fun j hj2 => ?_⟩
        · exact hasP
        · by_cases e : j = i + 1 + l
          · subst e; exact fun _ => h15
          · exact hI j (by omega)
  · refine go ?_
    refine ra (v := faultV 0 0 0 0) (h := rd_build (by rfl) (fun _ => by kernel_rfl)) (next := ?_)
    refine st_store_agg (vs := [.int .i64 0, .int .i64 0, .int .i64 0, .int .i64 0]) (cs := _) (by ((try simp only [ev_tmp, ev_const, ev_func, get_put, get_args, get_putL, get_putL_nil, Nat.reduceEqDiff, reduceIte, List.getD_cons_zero, List.getD_cons_succ, List.getD_nil]); first | done | with_reducible rfl)) (by ((try simp only [ev_tmp, ev_const, ev_func, get_put, get_args, get_putL, get_putL_nil, Nat.reduceEqDiff, reduceIte, List.getD_cons_zero, List.getD_cons_succ, List.getD_nil]); first | done | with_reducible rfl)) rfl ?_ rfl (by first | exact True.intro | exact ⟨_, rfl, by ((try simp only [ev_tmp, ev_const, ev_func, get_put, get_args, get_putL, get_putL_nil, Nat.reduceEqDiff, reduceIte, List.getD_cons_zero, List.getD_cons_succ, List.getD_nil, Bool.not_true, Bool.not_false]); first | done | with_reducible rfl)⟩) fun w15 hc15 hs15 hb15 => ?_
    · rfl
    refine go ?_
    exact retc ⟨0, 0, 0, 0, rfl, ⟨fun _ => (chk_iff2 hi).2 ⟨hP', hC', hF, fun j h1 => hI j (by omega) h1⟩, fun _ => rfl⟩, fun h => absurd rfl h, fun _ => ⟨rfl, rfl, rfl⟩, hc15.ext (he2.trans he8) (by omega)⟩ rfl
end Go.Proofs.Ytnphljflkpekmaa

/-
  Walks: the program's consistency of a presentation (consistentFrom, IsConsistent).
  Conditions: stated at each theorem.
-/
namespace Go.Proofs.Ytnphljflkpekmaa
open Go Go.Pc
theorem fault_guard : (Try.prog.eqGuardType Try.prog.depth 112) = false := by kernel_rfl
theorem fault_held : (Try.prog.stoodInHeld 112) = false := by kernel_rfl
theorem fault_fields : Try.prog.underlying 112 = some (.struct (Try.prog.fieldsOf 112)) := by simp [Program.fieldsOf, Try.underlying112]
theorem rd_eqFault {ρ : Env} {w : World} {ty : TypeId} {x y : Operand} {k l f s : Int} (h : ev ρ x = faultV k l f s) (h' : ev ρ y = faultV 0 0 0 0) :
    Rd Try.prog (.binOp .eql 112 x y 112) ty ρ w (.bool (decide (k = 0 ∧ l = 0 ∧ f = 0 ∧ s = 0))) := by
  constructor; intro _ _ _ _
  have h2 := fun d a b w => run_equalIn_int (P := Try.prog) w d 2 .i64 .i64 a b Try.underlying2
  simp [execOp, h, h', run_eqGuard_agg _ _ _ _ _ _ _ fault_guard, run_eql_struct, run_equalIn_agg _ _ _ _ _ fault_fields fault_held, Program.fieldsOf, Try.underlying112, Op.eqFields, h2, go_sem]
  by_cases hk : k = 0 <;> by_cases hl : l = 0 <;> by_cases hf : f = 0 <;> by_cases hs : s = 0 <;> simp [hk, hl, hf, hs]
set_option maxHeartbeats 1000000 in
theorem consistentFrom_ok {p : Pr} (hv : Valid p) {w : World} {vp : Value} {lo hi' : Nat} [hp : PresP lo hi' w vp p] :
    Calls Try.prog 82 #[vp] w (Ret fun v w' => ∃ i : Nat, v = .int .i64 i ∧ i ≤ p.n ∧ Levs p i ∧ (i ≠ 0 → ¬ Lev p (i - 1)) ∧ Ext w w') := by
  have hn6 := hv.n6
  have hol : p.ord.length = p.n := rfl
  obtain ⟨b, og, vo, vpw, vc, ps, cs, css, rfl, hb1, hb2, hc0, hc1, hc2, h1, h2, h3⟩ := hp.ex
  refine enter (args := [.pointer (some ⟨b, og, none⟩)]) (l := [.tmp 2]) Try.func82 rfl rfl Try.ntmps82 (by simp) ?_
  refine go ?_
  refine r_for p.n (fun k ρ w' => Has ρ [(0, .pointer (some ⟨b, og, none⟩)), (3, .int .i64 (p.n - k : Nat))] ∧ Ext w w' ∧ Levs p (p.n - k)) ?_ ?_
  · refine ⟨?_, Ext.refl _, fun j h h' => by omega⟩
    exact hasP
  rintro k ρ w3 hk ⟨hH, he3, hL⟩
  refine rwp_has hH fun ρ0 => ?_
  refine go ?_
  refine spd (fun h4 => ?_) (fun h4 => ?_)
  · obtain ⟨i, hie⟩ : ∃ i : Nat, p.n - k = i + 1 := ⟨p.n - k - 1, by omega⟩
    have hi : i < p.n := by omega
    rw [hie] at hL h4 ⊢
    have hc : Con p (i + 1) := Levs.con hv hL
    refine go ?_
    refine rc (levelFault_ok (p := p) (i := i) hi ?_) (next := fun v5 w5 h5 => ?_)
    · omega
    obtain ⟨k5, l5, f5, s5, rfl, hz, hl5, h05, he5⟩ := h5
    refine go ?_
    refine ra (v := faultV 0 0 0 0) (h := rd_build (by rfl) (fun _ => by kernel_rfl)) (next := ?_)
    refine go ?_
    refine ra (h := rd_eqFault (k := k5) (l := l5) (f := f5) (s := s5) (by ((try simp only [ev_tmp, ev_const, ev_func, get_put, get_args, get_putL, get_putL_nil, Nat.reduceEqDiff, reduceIte, List.getD_cons_zero, List.getD_cons_succ, List.getD_nil]); first | done | with_reducible rfl)) (by ((try simp only [ev_tmp, ev_const, ev_func, get_put, get_args, get_putL, get_putL_nil, Nat.reduceEqDiff, reduceIte, List.getD_cons_zero, List.getD_cons_succ, List.getD_nil]); first | done | with_reducible rfl))) (next := ?_)
    refine go ?_
    refine c_if (fun h8 => ?_) (fun h8 => ?_)
    · refine go ?_
      refine forQ_normal (by omega) ⟨?_, he3.trans he5, fun j hj hjn => ?_⟩
      · exact hasP
      · by_cases e : j = i
        · subst e; exact ⟨hc, hi, hz.1 h8.1⟩
        · exact hL j (by omega) hjn
    · refine go ?_
      refine ret1 ⟨i + 1, rfl, by omega, hL, fun _ => ?_, he3.trans he5⟩
      rintro ⟨_, _, h9⟩
      have h0 := hz.2 h9
      exact h8 ⟨h0, h05 h0⟩
  · refine go ?_
    have hkn : p.n - k = 0 := by omega
    rw [hkn] at hL ⊢
    exact ret1 ⟨0, rfl, by omega, hL, fun h => absurd rfl h, he3⟩
set_option maxHeartbeats 1000000 in
theorem impl_IsConsistent_ok {w : World} {vp : Value} {p : Pr} {lo hi' : Nat} [hp : Pres lo hi' w vp p] (hl : p.ord.length ≤ 2000000) :
    Calls Try.prog 50 #[vp] w (Ret fun v w' => ∃ b, v = .bool b ∧ (b = true ↔ IsGrp p) ∧ Ext w w') := by
  obtain ⟨vo, vpw, vc, ps, cs, css, rfl, h1, h2, h3⟩ := hp.ex
  refine enter (args := [.agg #[vo, vpw, vc]]) (l := [.tmp 2]) Try.func50 rfl rfl Try.ntmps50 (by simp) ?_
  refine go ?_
  refine st_box3 (by ((try simp only [ev_tmp, ev_const, ev_func, get_put, get_args, get_putL, get_putL_nil, Nat.reduceEqDiff, reduceIte, List.getD_cons_zero, List.getD_cons_succ, List.getD_nil]); first | done | with_reducible rfl)) (by first | exact True.intro | exact ⟨_, rfl, by ((try simp only [ev_tmp, ev_const, ev_func, get_put, get_args, get_putL, get_putL_nil, Nat.reduceEqDiff, reduceIte, List.getD_cons_zero, List.getD_cons_succ, List.getD_nil, Bool.not_true, Bool.not_false]); first | done | with_reducible rfl)⟩) fun w1 b he1 hb1 hs1 hc0 hc1 hc2 => ?_
  have hpp := hp.boxed he1 hc0 hc1 hc2
  refine go ?_
  refine rc (impl_IsPresentation_ok hl) (next := fun v5 w5 h5 => ?_)
  obtain ⟨b5, rfl, hb5, he5⟩ := h5
  refine go ?_
  refine sp (fun e5 => ?_) (fun e5 => ?_)
  · have hv := hb5.1 e5
    refine go ?_
    refine rc (consistentFrom_ok hv) (next := fun v6 w6 h6 => ?_)
    obtain ⟨i, rfl, hi, hL, hno, he6⟩ := h6
    refine go ?_
    refine ret1 ⟨_, rfl, ?_, (he1.trans he5).trans he6⟩
    rw [decide_eq_true_eq]
    constructor
    · intro h
      have : i = 0 := by omega
      subst this
      exact ⟨hv, hL⟩
    · intro h
      by_cases e : i = 0
      · omega
      · exact absurd (h.levs (i - 1) (by omega) (by omega)) (hno e)
  · refine go ?_
    refine ret1 ⟨_, rfl, ?_, he1.trans he5⟩
    simp only [Bool.false_eq_true, false_iff]
    intro h
    have := hb5.2 h.valid
    rw [e5] at this; cases this
end Go.Proofs.Ytnphljflkpekmaa

/-
  Walks: the program's test of subgroups (areSubgroups, IsSubgroup).
  Conditions: stated at each theorem.
-/
namespace Go.Proofs.Ytnphljflkpekmaa
open Go Go.Pc
theorem PresP.val {lo hi b : Nat} {w : World} {p : Pr} {vo vp vc : Value} {ps cs : List Value} {css : List (List Value)} (h1 : Ints lo hi w vo p.ord) (h2 : Pc.Rows lo hi w vp ps p.pow) (h3 : Rowss lo hi w vc cs css p.cnj) : Pres lo hi w (.agg #[vo, vp, vc]) p := ⟨⟨vo, vp, vc, ps, cs, css, rfl, h1, h2, h3⟩⟩
set_option maxHeartbeats 2000000 in
theorem areSubgroups_ok {p : Pr} {w : World} {vp vl : Value} {us : List Value} {uss : List (List Value)} {xsss : List (List (List Int))} {lo hi lo1 hi1 : Nat} [hp : PresP lo hi w vp p] [hl : Rowss lo1 hi1 w vl us uss xsss] (hol : p.ord.length ≤ 2000000) (hxl : xsss.length ≤ 2000000) :
    Calls Try.prog 27 #[vp, vl] w (Ret fun v w' => ∃ b, v = .bool b ∧ (b = true ↔ ∃ h : IsGrp p, ∀ i, i < xsss.length → @IsSeq p ⟨h.con⟩ (xsss.getD i [])) ∧ Ext w w') := by
  have hoe : p.ord.length = p.n := rfl
  obtain ⟨g, og, vo, vpw, vc, ps, cs, css, rfl, hg1, hg2, hc0, hc1, hc2, h1, h2, h3⟩ := hp.ex
  have hpv := PresP.val (b := g) h1 h2 h3
  refine enter (args := [.pointer (some ⟨g, og, none⟩), vl]) (l := [.tmp 4]) Try.func27 rfl rfl Try.ntmps27 (by simp) ?_
  refine go ?_
  refine rc (impl_IsConsistent_ok (p := p) hol) (next := fun v1 w1 h4 => ?_)
  obtain ⟨b1, rfl, hb1, he1⟩ := h4
  refine go ?_
  refine c_b (fun e1 => ?_) (fun e1 => ?_)
  · refine go ?_
    refine ret1 ⟨_, rfl, ?_, he1⟩
    simp only [Bool.false_eq_true, false_iff]
    rintro ⟨h, _⟩
    have := hb1.2 h
    rw [this] at e1; cases e1
  have hG := hb1.1 (by simpa using e1)
  haveI hcon : ConAll p := ⟨hG.con⟩
  have hv := hG.valid
  have hn6 := hv.n6
  have hno : ∀ {b : Bool} {w' : World} (i : Nat), i < xsss.length → ¬ IsSeq p (xsss.getD i []) → Ext w w' → ∃ b, Value.bool false = .bool b ∧ (b = true ↔ ∃ h : IsGrp p, ∀ i, i < xsss.length → @IsSeq p ⟨h.con⟩ (xsss.getD i [])) ∧ Ext w w' := by
    intro b w' i hi hn he
    refine ⟨_, rfl, ?_, he⟩
    simp only [Bool.false_eq_true, false_iff]
    rintro ⟨h, h5⟩
    exact hn (h5 i hi)
  refine go ?_
  refine r_for xsss.length (fun k ρ w' => Has ρ [(0, .pointer (some ⟨g, og, none⟩)), (14, vl), (15, .int .i64 xsss.length), (16, .int .i64 k)] ∧ Ext w w' ∧ ∀ i, i < k → IsSeq p (xsss.getD i [])) ?_ ?_
  · refine ⟨?_, he1, fun i hi => by omega⟩
    exact hasP
  clear he1
  rintro k ρ w2 hk ⟨hH, he2, hI⟩
  refine rwp_has hH fun ρ0 => ?_
  refine go ?_
  refine c_if (fun h4 => ?_) (fun h4 => ?_)
  · have hkn : k < xsss.length := by omega
    refine go ?_
    refine c_if (fun h5 => ?_) (fun h5 => ?_)
    · refine go ?_
      refine ret1 (hno (b := false) k hkn (fun h => ?_) he2)
      have := h.len; omega
    refine go ?_
    refine r_for (xsss.getD k []).length (fun q ρ w' => Has ρ [(0, .pointer (some ⟨g, og, none⟩)), (6, Pc.rowAt vl us k), (14, vl), (15, .int .i64 xsss.length), (16, .int .i64 k), (28, Pc.rowAt vl us k), (29, .int .i64 (xsss.getD k []).length), (30, .int .i64 q)] ∧ Ext w w' ∧ ∀ i, i < q → InR p ((xsss.getD k []).getD i [])) ?_ ?_
    · refine ⟨?_, he2, fun i hi => by omega⟩
      exact hasP
    clear he2
    rintro q ρ w3 hq ⟨hH3, he3, hQ⟩
    refine rwp_has hH3 fun ρ1 => ?_
    refine go ?_
    refine c_if (fun h6 => ?_) (fun h6 => ?_)
    · refine go ?_
      refine rc (isExponents_ok (p := p) (xs := (xsss.getD k []).getD q []) (fun i hi => hv.opos hi) (by omega)) (next := fun v4 w4 h7 => ?_)
      obtain ⟨b4, rfl, hb4, he4⟩ := h7
      refine go ?_
      refine c_b (fun h8 => ?_) (fun h8 => ?_)
      · refine go ?_
        refine ret1 (hno (b := false) k hkn (fun h => ?_) (he3.trans he4))
        obtain ⟨ys, hys, _⟩ := h
        have : InR p ((xsss.getD k []).getD q []) := by rw [hys]; exact vecs_in (by rw [← hys]; omega)
        rw [hb4.2 this] at h8; cases h8
      · have h9 := hb4.1 (by simpa using h8)
        refine go ?_
        refine forQ_normal (by omega) ⟨?_, he3.trans he4, fun i hi => ?_⟩
        · exact hasP
        · by_cases e : i = q
          · subst e; exact h9
          · exact hQ i (by omega)
    · obtain ⟨ys, hys⟩ := els_of (xss := xsss.getD k []) (fun i hi => hQ i (by omega))
      have hyl : (xsss.getD k []).length = ys.length := by rw [hys]; simp
      refine go ?_
      refine rc (generated_ok (p := p) (ys := ys) hys ?_) (next := fun v4 w4 h7 => ?_)
      · omega
      obtain ⟨he4, us4, hL4⟩ := h7
      have hr4 := hL4.toRows
      have hcl := canTo_len (Gen (fun a : El p => a ∈ ys)) p.n
      rw [canTo_end] at hcl
      refine go ?_
      refine rc (sameRows_ok (xss := canon (Gen (fun a : El p => a ∈ ys))) (yss := xsss.getD k []) ?_ ?_) (next := fun v5 w5 h8 => ?_)
      · intro i
        have := canon_row (Gen (fun a : El p => a ∈ ys)) i
        omega
      · omega
      obtain ⟨b5, rfl, hb5, he5⟩ := h8
      refine go ?_
      refine c_b (fun h9 => ?_) (fun h9 => ?_)
      · refine go ?_
        refine ret1 (hno (b := false) k hkn (fun h => ?_) ((he3.trans he4).trans he5))
        obtain ⟨zs, hzs, h10⟩ := h
        obtain rfl : ys = zs := vecs_inj (hys.symm.trans hzs)
        rw [hb5.2 h10] at h9; cases h9
      · have h10 := hb5.1 (by simpa using h9)
        refine go ?_
        refine forQ_normal (by omega) ⟨?_, (he3.trans he4).trans he5, fun i hi => ?_⟩
        · exact hasP
        · by_cases e : i = k
          · subst e; exact ⟨ys, hys, h10⟩
          · exact hI i (by omega)
  · refine go ?_
    refine ret1 ⟨_, rfl, ?_, he2⟩
    simp only [true_iff]
    exact ⟨hG, fun i hi => hI i (by omega)⟩
end Go.Proofs.Ytnphljflkpekmaa

/-
  Walks: the program's order of a subgroup (sizeOf, SubgroupOrder).
  Conditions: stated at each theorem.
-/
namespace Go.Proofs.Ytnphljflkpekmaa
open Go Go.Pc
end Go.Proofs.Ytnphljflkpekmaa

/-
  Walks: the program's IsMember and IsSubset.
  Conditions: what the arguments read as.
-/
namespace Go.Proofs.Ytnphljflkpekmaa
open Go Go.Pc
theorem rows_none (w : World) (hi : Nat) : Pc.Rows 0 hi w nilv [] [] :=
  ⟨⟨⟨none, 0, rfl, Nat.le_refl _, by omega, fun k u hu => by simp at hu⟩⟩, rfl, fun j => by simpa using (Ints.nil_ w).mono (Nat.le_refl 0) (Nat.zero_le _)⟩
theorem rowss_one {w : World} {v u : Value} {us : List Value} {xss : List (List Int)} {lo hi lo1 hi1 : Nat} (hs : Sl lo hi w v [u]) (hu : Pc.Rows lo1 hi1 w u us xss) : Rowss 0 w.heap.size w v [u] [us] [xss] := by
  refine ⟨hs.wide, rfl, rfl, fun i => ?_⟩
  cases i with
  | zero => exact hu.wide
  | succ i => exact rows_none w _
theorem areSub1 {p : Pr} {xss : List (List Int)} : (∃ h : IsGrp p, ∀ i, i < [xss].length → @IsSeq p ⟨h.con⟩ ([xss].getD i [])) ↔ IsSubP p xss :=
  ⟨fun ⟨h, h5⟩ => ⟨h, h5 0 (by simp)⟩, fun ⟨h, h5⟩ => ⟨h, fun i hi => by
    have : i = 0 := by simpa using hi
    subst this
    exact h5⟩⟩
end Go.Proofs.Ytnphljflkpekmaa

/-
  Walks: the program's generators, conjugates, conjugate subgroup, test of normality, test of elements.
  Conditions: stated at each theorem.
-/
namespace Go.Proofs.Ytnphljflkpekmaa
open Go Go.Pc
end Go.Proofs.Ytnphljflkpekmaa

/-
  Walks: the program's GeneratedSubgroup, ConjugateSubgroup, IsNormalSubgroup, SubgroupIndex, SubgroupDepths.
  Conditions: what the arguments read as.
-/
namespace Go.Proofs.Ytnphljflkpekmaa
open Go Go.Pc
end Go.Proofs.Ytnphljflkpekmaa

/-
  Walks: the program's CosetRepresentative.
  Conditions: what the arguments read as.
-/
namespace Go.Proofs.Ytnphljflkpekmaa
open Go Go.Pc
end Go.Proofs.Ytnphljflkpekmaa

/-
  Walks: the program's CosetNumber, MemberElement, MemberExponents.
  Conditions: what the arguments read as.
-/
namespace Go.Proofs.Ytnphljflkpekmaa
open Go Go.Pc
set_option maxHeartbeats 1000000 in
theorem memberExponents_ok {p : Pr} [hc : ConAll p] {ys : List (El p)} (hs : SeqEl ys) {w : World} {vp vu vx : Value} {us : List Value} {xss : List (List Int)} {x : El p} {xs : List Int} {lo hi lo1 hi1 lo2 hi2 : Nat} [hp : PresP lo hi w vp p] [hu : Pc.Rows lo1 hi1 w vu us xss] [hx : Ints lo2 hi2 w vx xs] (hus : xss = vecs ys) (hxe : xs = x.v) :
    Calls Try.prog 55 #[vp, vu, vx] w (Ret fun v w' => ∃ (u : Value) (b : Bool), v = .tuple #[u, .bool b] ∧ (b = true ↔ Gen (fun a : El p => a ∈ ys) x) ∧ Ext w w' ∧ Fr w.heap.size w' u (expsL ys x ys.length)) := by
  subst hus hxe
  have hv := hc.valid
  have hn6 := hv.n6
  have hyl := hs.len
  have hvl : (vecs ys).length = ys.length := by simp
  replace hx := hx.wide
  refine enter (args := [vp, vu, vx]) (l := [.tmp 6, .tmp 7]) Try.func55 rfl rfl Try.ntmps55 (by simp) ?_
  refine go ?_
  refine rc (pivots_ok (xss := vecs ys) ?_ ?_) (next := fun v1 w1 h5 => ?_)
  · omega
  · intro i hi
    rw [vecs_getD ys (by omega), (ys[i]'(by omega)).inr.len]
    exact ⟨(hs.ok.lead1 _ (List.getElem_mem _)).1, by omega⟩
  obtain ⟨he1, hf1⟩ := h5
  have hpi := hf1.ints
  have hpl : ((vecs ys).map fun x => (lead x : Int)).length = ys.length := by simp
  have hz1 := he1.size
  have hx1 : IntsAp (fun g => nilv.ownBlock = some g) w1 vx x.v := ⟨0, w.heap.size, hx.same (he1.same _ _), hz1, fun g hg => by cases hg⟩
  refine go ?_
  refine r_for ys.length (fun k ρ w' => ∃ vl vr, Has ρ [(0, vp), (1, vu), (2, vr), (8, vl), (13, v1), (14, .int .i64 ((vecs ys).map fun x => (lead x : Int)).length), (15, .int .i64 k)] ∧ Ext w1 w' ∧ GrowI 2 w1.heap.size w' vl (expsL ys x k) ∧ IntsAp (fun g => vl.ownBlock = some g) w' vr (stE ys x k).v) ?_ ?_
  · refine ⟨nilv, vx, ?_, Ext.refl _, by simpa [expsL] using GrowI.nil _ _ _, hx1⟩
    exact hasP
  clear hx1 hx
  rintro k ρ w3 hk ⟨vl, vr, hH, he3, hg3, hi3⟩
  refine rwp_has hH fun ρ0 => ?_
  have hz3 := he3.size
  have hkl := expsL_len ys x k
  have hsl := (stE ys x k).inr.len
  have hi3' := hi3.ints
  refine go ?_
  refine c_if (fun h4 => ?_) (fun h4 => ?_)
  · have hkn : k < ys.length := by omega
    have hg := vecs_getD ys hkn
    obtain ⟨hdn, hy1⟩ := hs.ok.lead1 _ (List.getElem_mem hkn)
    obtain ⟨d, hd⟩ : ∃ d, lead (ys[k]).v = d := ⟨_, rfl⟩
    rw [hd] at hdn
    have hpk : ((vecs ys).map fun x => (lead x : Int)).getD k 0 = (d : Int) := by rw [← hd]; simp [vecs, hkn]
    have hod := hv.opos hdn
    have hcr : 0 ≤ co (stE ys x k) d ∧ co (stE ys x k) d < p.o d := (stE ys x k).inr.rng d hdn
    refine go ?_
    rw [hpk]
    refine go ?_
    rw [show (stE ys x k).v.getD ((d : Int).toNat) 0 = co (stE ys x k) d from rfl]
    refine go ?_
    refine st_growi hg3 hz3 (by omega) (next := fun v10 v11 w11 hg11 hx11 hz11 hgs11 => ?_)
    have hE11 := hx11 w1 he3 (Nat.le_refl _)
    have hi11 := (hi3.gstep hgs11).ints
    have hz11' := hE11.size
    clear hi3'
    refine go ?_
    refine rc (power_ok (p := p) (x := ys[k]) (Nat.zero_le _) hg ?_) (next := fun v13 w13 h13 => ?_)
    · omega
    obtain ⟨he13, hf13⟩ := h13
    refine go ?_
    refine rc (invert_ok (p := p) (i := 0) (x := Grp.pw ys[k] (co (stE ys x k) d).toNat) rfl) (next := fun v14 w14 h14 => ?_)
    obtain ⟨he14, hf14⟩ := h14
    refine go ?_
    refine rc (multiply_ok (p := p) (i := 0) (x := (Grp.pw ys[k] (co (stE ys x k) d).toNat)⁻¹) (y := stE ys x k) (Nat.zero_le _) rfl rfl) (next := fun v15 w15 h15 => ?_)
    obtain ⟨he15, hf15⟩ := h15
    refine go ?_
    have hE14 := he13.trans he14
    have e1 : expsL ys x (k + 1) = expsL ys x k ++ [co (stE ys x k) d] := by rw [expsL_succ, getD_one hkn, hd]
    have e2 : stE ys x (k + 1) = (Grp.pw ys[k] (co (stE ys x k) d).toNat)⁻¹ * stE ys x k := by
      show Grp.pwz (ys.getD k 1) _ * _ = _
      have e3 := Grp.pwz_neg ys[k] (co (stE ys x k) d).toNat
      rw [Int.toNat_of_nonneg hcr.1] at e3
      rw [getD_one hkn, hd, e3]
    have hl11 : ∀ g, v11.ownBlock = some g → g < w11.heap.size := fun g hg => (hg11.own.lt g hg).2
    refine forQ_normal (by omega) ⟨v11, v15, ?_, hE11.trans (hE14.trans he15), ?_, ?_⟩
    · exact hasP
    · rw [e1]; exact @GrowI.ext _ _ _ _ _ _ (hE14.trans he15) hg11
    · rw [e2]; exact IntsAp.ofFr hf15 fun g hg => by have := hl11 g hg; have := hE14.size; omega
  · obtain rfl : k = ys.length := by omega
    refine go ?_
    refine rc (isZero_ok (xs := (stE ys x ys.length).v) ?_) (next := fun v4 w4 h6 => ?_)
    · omega
    obtain ⟨b4, rfl, hb4, he4⟩ := h6
    rw [← el_one_iff, stE_one hs] at hb4
    refine go ?_
    exact ret2 ⟨vl, b4, rfl, hb4, (he1.trans he3).trans he4, (hg3.fr.mono hz1).ext' he4⟩
end Go.Proofs.Ytnphljflkpekmaa

/-
  Walks: the program's ProjectElement.
  Conditions: stated at each theorem.
-/
namespace Go.Proofs.Ytnphljflkpekmaa
open Go Go.Pc
end Go.Proofs.Ytnphljflkpekmaa

/-
  Walks: the program's presentations of subgroups and quotients (subgroupPresentation, quotientPresentation).
  Conditions: stated at each theorem.
-/
namespace Go.Proofs.Ytnphljflkpekmaa
open Go Go.Pc
set_option maxHeartbeats 8000000 in
theorem subgroupPresentation_ok {p : Pr} [hc : ConAll p] {ys : List (El p)} (hse : SeqEl ys) {w : World} {vp vu : Value} {us : List Value} {xss : List (List Int)} {lo hi lo1 hi1 : Nat} [hp : PresP lo hi w vp p] [hu : Pc.Rows lo1 hi1 w vu us xss] (hus : xss = vecs ys) :
    Calls Try.prog 28 #[vp, vu] w (Ret fun v w' => Ext w w' ∧ PresO w.heap.size w'.heap.size w' v (subPr ys)) := by
  have hs := hse.ok
  have hyl := hse.len
  have hv := hc.valid
  have hn6 := hv.n6
  have hol : p.ord.length = p.n := rfl
  replace hu := hu.wide
  have hul : xss.length = ys.length := by rw [hus]; simp
  have hld : ∀ i, i < xss.length → lead (xss.getD i []) < (xss.getD i []).length ∧ (xss.getD i []).length ≤ 2000000 := fun i hi => by
    rw [hul] at hi
    rw [hus, vecs_getD ys hi]
    have h1 := (ys[i]).inr.len
    have h2 := (hs.lead1 _ (List.getElem_mem hi)).1
    omega
  refine enter (args := [vp, vu]) (l := [.cell 4 29]) Try.func28 rfl rfl Try.ntmps28 (by simp) ?_
  refine go ?_
  refine st_alloc (by first | exact True.intro | exact ⟨_, rfl, by ((try simp only [ev_tmp, ev_const, ev_func, get_put, get_args, get_putL, get_putL_nil, Nat.reduceEqDiff, reduceIte, List.getD_cons_zero, List.getD_cons_succ, List.getD_nil, Bool.not_true, Bool.not_false]); first | done | with_reducible rfl)⟩) fun w1 br he1 hbr hs1 hbk1 => ?_
  have hz1 := he1.size
  refine go ?_
  refine ra (v := .agg #[nilv, nilv, nilv]) (h := rd_build (by rfl) (fun _ => by kernel_rfl)) (next := ?_)
  refine st_alloc (by first | exact True.intro | exact ⟨_, rfl, by ((try simp only [ev_tmp, ev_const, ev_func, get_put, get_args, get_putL, get_putL_nil, Nat.reduceEqDiff, reduceIte, List.getD_cons_zero, List.getD_cons_succ, List.getD_nil, Bool.not_true, Bool.not_false]); first | done | with_reducible rfl)⟩) fun w4 bo he4 hbo hs4 hbk4 => ?_
  refine st_store_agg (vs := [nilv, nilv, nilv]) (cs := _) (hb := hbk4) (by ((try simp only [ev_tmp, ev_const, ev_func, get_put, get_args, get_putL, get_putL_nil, Nat.reduceEqDiff, reduceIte, List.getD_cons_zero, List.getD_cons_succ, List.getD_nil]); first | done | with_reducible rfl)) (by ((try simp only [ev_tmp, ev_const, ev_func, get_put, get_args, get_putL, get_putL_nil, Nat.reduceEqDiff, reduceIte, List.getD_cons_zero, List.getD_cons_succ, List.getD_nil]); first | done | with_reducible rfl)) rfl ?_ ?_ (by first | exact True.intro | exact ⟨_, rfl, by ((try simp only [ev_tmp, ev_const, ev_func, get_put, get_args, get_putL, get_putL_nil, Nat.reduceEqDiff, reduceIte, List.getD_cons_zero, List.getD_cons_succ, List.getD_nil, Bool.not_true, Bool.not_false]); first | done | with_reducible rfl)⟩) fun w5 hc5 hs5 hbk5 => ?_
  · rfl
  · rfl
  have hz4 := he4.size
  have hE15 : Ext w1 w5 := hc5.ext he4 (by omega)
  have hE5 := he1.trans hE15
  have hz5 := hE5.size
  refine go ?_
  refine rc (pivots_ok (xss := xss) (by omega) hld) (next := fun v3 w3 h4 => ?_)
  obtain ⟨he3, hf3⟩ := h4
  have hz3 := he3.size
  have hE13 := hE15.trans he3
  have hE3 := hE5.trans he3
  have hdl : (xss.map fun x => (lead x : Int)).length = ys.length := by simp [hul]
  -- the depths lie between the block of the struct and its lists
  have hb3 : Blk w3 bo [nilv, nilv, nilv] := @Blk.ext _ _ _ _ he3 hbk5
  have hT3 : Tri 2 22 23 22 w3.heap.size w3 nilv [] nilv [] nilv [] := Tri.nil _ _ _ _ _ _ (Nat.le_refl _)
  have hd3 : Ints w5.heap.size w3.heap.size w3 v3 (xss.map fun x => (lead x : Int)) := hf3.ints
  refine go ?_
  refine r_for ys.length (fun i ρ w' => ∃ vo vq vc rp gs, Has ρ [(0, vp), (1, vu), (4, .pointer (some ⟨br, 0, none⟩)), (5, .pointer (some ⟨bo, 0, none⟩)), (6, v3), (20, vu), (21, .int .i64 xss.length), (22, .int .i64 i)] ∧ Ext w1 w' ∧ Ints w5.heap.size w3.heap.size w' v3 (xss.map fun x => (lead x : Int)) ∧ Blk w' bo [vo, vq, vc] ∧ Tri 2 22 23 22 w3.heap.size w' vo ((List.range i).map fun i => p.o (lead (ys.getD i 1).v)) vq rp vc gs ∧ rp.map (·.2) = (List.range i).map (subPow ys) ∧ (gs.map fun q => q.2.map (·.2)) = (List.range i).map fun i => (List.range (ys.length - (i + 1))).map fun k => subCnj ys i (i + 1 + k)) ?_ ?_
  · refine ⟨nilv, nilv, nilv, [], [], ?_, hE13, hd3, hb3, hT3, rfl, rfl⟩
    exact hasP
  clear hbk4 hbk5 hb3 hT3 hd3
  rintro i ρ w6 hi ⟨vo6, vp6, vc6, rp, gs, hH, he6, hd6, hb6, hT6, hrp, hgs⟩
  refine rwp_has hH fun ρ0 => ?_
  have hz6 := he6.size
  have hlo6 := hT6.lo
  have hrl : rp.length = i := by have := congrArg List.length hrp; simpa using this
  have hgl : gs.length = i := by have := congrArg List.length hgs; simpa using this
  refine go ?_
  refine c_if (fun h4 => ?_) (fun h4 => ?_)
  · have hin : i < ys.length := by omega
    have hyi : xss.getD i [] = (ys.getD i 1).v := by rw [hus, vecs_getD ys hin]; simp [hin]
    have hmem : ys.getD i 1 ∈ ys := by simp [hin]
    have hlead := hs.lead1 _ hmem
    have hdi : (xss.map fun x => (lead x : Int)).getD i 0 = (lead (ys.getD i 1).v : Nat) := by
      have hix : i < xss.length := by omega
      have e1 : (xss.map fun x => (lead x : Int)).getD i 0 = (lead (xss.getD i []) : Nat) := by simp [hix]
      rw [e1, hyi]
    have hdo : p.ord.getD ((lead (ys.getD i 1).v : Nat) : Int).toNat 0 = p.o (lead (ys.getD i 1).v) := by rw [Int.toNat_natCast]; rfl
    have hob := hv.opos hlead.1
    have k0 : Cell w6 bo 0 vo6 := hb6.cell rfl
    obtain ⟨gP, oP, uo, upw, uc, ups, ucs, ucss, rfl, hgP, hgP2, kc0, kc1, kc2, kh1, kh2, kh3⟩ := hp.ex
    refine go ?_
    refine d_order (List.range 11) (h := fun w7 he7 hs7 => ?_)
    refine dgo ?_
    rw [hdi]
    refine dgo ?_
    refine d_end (h := ?_)
    rw [hdo]
    have hT7 := hT6.ext he7
    have hb7 : Blk w7 bo [vo6, vp6, vc6] := @Blk.ext _ _ _ _ he7 hb6
    have hd7 : Ints w5.heap.size w3.heap.size w7 v3 (xss.map fun x => (lead x : Int)) := hd6.same (he7.same _ _)
    have hE7 := he6.trans he7
    clear k0 hd6 hb6 hT6
    have k0 : Cell w7 bo 0 vo6 := hb7.cell rfl
    -- the order
    refine go ?_
    refine st_growi (GrowI.mk hT7.o) hT7.lo (by rw [List.length_map, List.length_range]; omega) (next := fun v8 v9 w9 hG9 hx9 hz9 hst9 => ?_)
    have hb9 : Blk w9 bo [vo6, vp6, vc6] := Blk.gstep hb7 hst9 (hT7.ob (by omega))
    have hd9 : Ints w5.heap.size w3.heap.size w9 v3 (xss.map fun x => (lead x : Int)) := hd7.same (hst9.wrt.same fun g hg => .inr (hT7.o.lt g hg).1)
    clear k0
    refine go ?_
    refine st_store_fld (h := hb9) (by ((try simp only [ev_tmp, ev_const, ev_func, get_put, get_args, get_putL, get_putL_nil, Nat.reduceEqDiff, reduceIte, List.getD_cons_zero, List.getD_cons_succ, List.getD_nil]); first | done | with_reducible rfl)) (by ((try simp only [ev_tmp, ev_const, ev_func, get_put, get_args, get_putL, get_putL_nil, Nat.reduceEqDiff, reduceIte, List.getD_cons_zero, List.getD_cons_succ, List.getD_nil]); first | done | with_reducible rfl)) ?_ ?_ (by first | exact True.intro | exact ⟨_, rfl, by ((try simp only [ev_tmp, ev_const, ev_func, get_put, get_args, get_putL, get_putL_nil, Nat.reduceEqDiff, reduceIte, List.getD_cons_zero, List.getD_cons_succ, List.getD_nil, Bool.not_true, Bool.not_false]); first | done | with_reducible rfl)⟩) fun w10 hc10 hs10 hb10 => ?_
    · exact hG9.own.toSl.one
    · simp
    have hT10 := hT7.fieldO (Ext.refl _) hG9 hst9 hc10 (by omega)
    have hE10 : Ext w1 w10 := hc10.ext (hx9 w1 hE7 (by omega)) (by omega)
    have hd10 : Ints w5.heap.size w3.heap.size w10 v3 (xss.map fun x => (lead x : Int)) := hd9.same (hc10.same (.inl (by omega)))
    have hb10' : Blk w10 bo [v9, vp6, vc6] := hb10
    clear hT7 hb7 hb9 hG9 hx9 hst9 hd7 hd9 hb10
    -- the power
    refine go ?_
    refine rc (power_ok (p := p) (x := ys.getD i 1) (k := p.o (lead (ys.getD i 1).v)) (Nat.zero_le _) hyi (by omega)) (next := fun v11 w11 h11 => ?_)
    obtain ⟨he11, hf11⟩ := h11
    have hi11 := hf11.ints
    refine go ?_
    refine rc (memberExponents_ok (p := p) (x := Grp.pw (ys.getD i 1) (p.o (lead (ys.getD i 1).v)).toNat) hse hus rfl) (next := fun v12 w12 h12 => ?_)
    obtain ⟨u12, b12, rfl, _, he12, hf12⟩ := h12
    have hx12 := he11.trans he12
    rw [← Grp.pwz_of (ys.getD i 1) (show 0 ≤ p.o (lead (ys.getD i 1).v) by omega)] at hf12
    have hf12' := hf12.mono (lo' := w10.heap.size) (by have := he11.size; omega)
    have hb12 : Blk w12 bo [v9, vp6, vc6] := @Blk.ext _ _ _ _ hx12 hb10'
    have k1 : Cell w12 bo 1 vp6 := hb12.cell rfl
    refine go ?_
    refine st_grow (hT10.p.grow hT10.lo) hx12 hf12' hT10.lo (by omega) (next := fun v13 v14 w14 hG14 hx14 hz14 hst14 => ?_)
    have hb14 : Blk w14 bo [v9, vp6, vc6] := Blk.gstep hb12 hst14 (hT10.pb (by omega))
    clear k1
    refine go ?_
    refine st_store_fld (h := hb14) (by ((try simp only [ev_tmp, ev_const, ev_func, get_put, get_args, get_putL, get_putL_nil, Nat.reduceEqDiff, reduceIte, List.getD_cons_zero, List.getD_cons_succ, List.getD_nil]); first | done | with_reducible rfl)) (by ((try simp only [ev_tmp, ev_const, ev_func, get_put, get_args, get_putL, get_putL_nil, Nat.reduceEqDiff, reduceIte, List.getD_cons_zero, List.getD_cons_succ, List.getD_nil]); first | done | with_reducible rfl)) ?_ ?_ (by first | exact True.intro | exact ⟨_, rfl, by ((try simp only [ev_tmp, ev_const, ev_func, get_put, get_args, get_putL, get_putL_nil, Nat.reduceEqDiff, reduceIte, List.getD_cons_zero, List.getD_cons_succ, List.getD_nil, Bool.not_true, Bool.not_false]); first | done | with_reducible rfl)⟩) fun w15 hc15 hs15 hb15 => ?_
    · exact hG14.lst.own.toSl.one
    · simp
    have hT15 := hT10.fieldP hx12 hf12' hG14 hst14 hc15 (by omega)
    have hE15 : Ext w1 w15 := hc15.ext (hx14 w1 (hE10.trans hx12) (by omega)) (by omega)
    have hd15 : Ints w5.heap.size w3.heap.size w15 v3 (xss.map fun x => (lead x : Int)) := ((hd10.same (hx12.same _ _)).same (hst14.wrt.same fun g hg => .inr (hT10.p.own.lt g hg).1)).same (hc15.same (.inl (by omega)))
    have hb15' : Blk w15 bo [v9, v14, vc6] := hb15
    clear hT10 hb10' hb12 hb14 hG14 hx14 hst14 hd10 hb15 hf11 hf12 hf12' hi11
    have hz15 := hE15.size
    -- the conjugates
    have hul' : us.length = ys.length := by rw [← hul]; exact hu.vals.len
    have hcut := hu.cut (a := i + 1) (k := xss.length) (by omega) (by omega)
    have hcl : ((xss.take xss.length).drop (i + 1)).length = ys.length - (i + 1) := by simp [hul]
    have hcg : ∀ k, i + 1 + k < ys.length → ((xss.take xss.length).drop (i + 1)).getD k [] = (ys.getD (i + 1 + k) 1).v := fun k hk => by
      rw [getD_cut _ _ _ (by omega), hus, vecs_getD ys hk]; simp [hk]
    generalize (xss.take xss.length).drop (i + 1) = rest at hcut hcl hcg
    generalize (us.take xss.length).drop (i + 1) = restU at hcut
    refine go ?_
    refine r_for (ys.length - (i + 1)) (fun k ρ w' => ∃ vl rs, Has ρ [(0, .pointer (some ⟨gP, oP, none⟩)), (1, vu), (4, .pointer (some ⟨br, 0, none⟩)), (5, .pointer (some ⟨bo, 0, none⟩)), (6, v3), (7, .int .i64 i), (8, Pc.rowAt vu us i), (12, vl), (20, vu), (21, .int .i64 xss.length), (22, .int .i64 i), (62, Pc.cut vu (i + 1) xss.length), (63, .int .i64 rest.length), (64, .int .i64 k)] ∧ Ext w15 w' ∧ GrowL 22 w15.heap.size w' vl rs ∧ rs.map (·.2) = (List.range k).map fun k => subCnj ys i (i + 1 + k)) ?_ ?_
    · refine ⟨nilv, [], ?_, Ext.refl _, GrowL.nil _ _ _ (Nat.le_refl _), rfl⟩
      exact hasP
    rintro k ρ w16 hk ⟨vl, rs, hH, he16, hG16, hrs16⟩
    refine rwp_has hH fun ρ0 => ?_
    have hz16 := he16.size
    have hE16 := hE15.trans he16
    have hrsl : rs.length = k := by have := congrArg List.length hrs16; simpa using this
    refine go ?_
    refine c_if (fun h5 => ?_) (fun h5 => ?_)
    · have hin2 : i + 1 + k < ys.length := by omega
      have hyj := hcg k hin2
      refine go ?_
      refine rc (conjugate_ok (p := p) (x := ys.getD (i + 1 + k) 1) (y := ys.getD i 1) (Nat.zero_le _) hyj hyi) (next := fun v17 w17 h17 => ?_)
      obtain ⟨he17, hf17⟩ := h17
      have hi17 := hf17.ints
      refine go ?_
      refine rc (memberExponents_ok (p := p) (x := Grp.cj (ys.getD (i + 1 + k) 1) (ys.getD i 1)) hse hus rfl) (next := fun v18 w18 h18 => ?_)
      obtain ⟨u18, b18, rfl, _, he18, hf18⟩ := h18
      have hx := he17.trans he18
      refine go ?_
      refine st_grow hG16 hx (hf18.mono (by have := he17.size; omega)) hz16 (by omega) (next := fun v19 v20 w20 hG20 hx20 hz20 hst20 => ?_)
      refine go ?_
      refine forQ_normal (by omega) ⟨v20, _, ?_, hx20 w15 (he16.trans hx) (Nat.le_refl _), hG20, ?_⟩
      · exact hasP
      · rw [List.range_succ, List.map_append, List.map_append, hrs16]; rfl
    · obtain rfl : k = ys.length - (i + 1) := by omega
      have hT16 := hT15.ext he16
      have hb16 : Blk w16 bo [v9, v14, vc6] := @Blk.ext _ _ _ _ he16 hb15'
      have hd16 : Ints w5.heap.size w3.heap.size w16 v3 (xss.map fun x => (lead x : Int)) := hd15.same (he16.same _ _)
      have k2 : Cell w16 bo 2 vc6 := hb16.cell rfl
      have hL := GrL.of hG16
      refine go ?_
      refine st_growu (sb := w3.heap.size) hT16.c.own hG16.lst.own.toSl.cells hG16.lst.own.toSl.one hT16.lo (by rw [List.length_map]; omega) (next := fun v17 v18 w18 hO18 hx18 hz18 hst18 => ?_)
      have hb18 : Blk w18 bo [v9, v14, vc6] := Blk.gstep hb16 hst18 (hT16.cb (by omega))
      clear k2
      refine go ?_
      refine st_store_fld (h := hb18) (by ((try simp only [ev_tmp, ev_const, ev_func, get_put, get_args, get_putL, get_putL_nil, Nat.reduceEqDiff, reduceIte, List.getD_cons_zero, List.getD_cons_succ, List.getD_nil]); first | done | with_reducible rfl)) (by ((try simp only [ev_tmp, ev_const, ev_func, get_put, get_args, get_putL, get_putL_nil, Nat.reduceEqDiff, reduceIte, List.getD_cons_zero, List.getD_cons_succ, List.getD_nil]); first | done | with_reducible rfl)) ?_ ?_ (by first | exact True.intro | exact ⟨_, rfl, by ((try simp only [ev_tmp, ev_const, ev_func, get_put, get_args, get_putL, get_putL_nil, Nat.reduceEqDiff, reduceIte, List.getD_cons_zero, List.getD_cons_succ, List.getD_nil, Bool.not_true, Bool.not_false]); first | done | with_reducible rfl)⟩) fun w19 hc19 hs19 hb19 => ?_
      · exact hO18.toSl.one
      · simp
      have hT19 := hT15.fieldC he16 hL hO18 hst18 hc19 (by omega)
      have hE19 : Ext w1 w19 := hc19.ext (hx18 w1 hE16 (by omega)) (by omega)
      have hd19 : Ints w5.heap.size w3.heap.size w19 v3 (xss.map fun x => (lead x : Int)) := (hd16.same (hst18.wrt.same fun g hg => .inr (hT16.c.own.lt g hg).1)).same (hc19.same (.inl (by omega)))
      refine go ?_
      have hro : (List.range (i + 1)).map (fun i => p.o (lead (ys.getD i 1).v)) = (List.range i).map (fun i => p.o (lead (ys.getD i 1).v)) ++ [p.o (lead (ys.getD i 1).v)] := by rw [List.range_succ, List.map_append]; rfl
      rw [← hro] at hT19
      refine forQ_normal (by omega) ⟨v9, v14, v18, _, _, ?_, hE19, hd19, hb19, hT19, ?_, ?_⟩
      · exact hasP
      · rw [List.range_succ, List.map_append, List.map_append, hrp]; rfl
      · rw [List.range_succ, List.map_append, List.map_append, hgs]
        simp only [List.map_cons, List.map_nil, hrs16]
  · obtain rfl : i = ys.length := by omega
    have hbr6 : Blk w6 br _ := @Blk.ext _ _ _ _ he6 hbk1
    have hP := hT6.pres
    rw [hrp, hgs] at hP
    have o3 := hP.pres.one3
    refine go ?_
    refine ra (v := .agg #[vo6, vp6, vc6]) (h := rd_load_blk (hb := hb6) (by ((try simp only [ev_tmp, ev_const, ev_func, get_put, get_args, get_putL, get_putL_nil, Nat.reduceEqDiff, reduceIte, List.getD_cons_zero, List.getD_cons_succ, List.getD_nil]); first | done | with_reducible rfl)) rfl) (next := ?_)
    refine st_store_agg (vs := [vo6, vp6, vc6]) (cs := _) (hb := hbr6) (by ((try simp only [ev_tmp, ev_const, ev_func, get_put, get_args, get_putL, get_putL_nil, Nat.reduceEqDiff, reduceIte, List.getD_cons_zero, List.getD_cons_succ, List.getD_nil]); first | done | with_reducible rfl)) (by ((try simp only [ev_tmp, ev_const, ev_func, get_put, get_args, get_putL, get_putL_nil, Nat.reduceEqDiff, reduceIte, List.getD_cons_zero, List.getD_cons_succ, List.getD_nil]); first | done | with_reducible rfl)) rfl ?_ ?_ (by first | exact True.intro | exact ⟨_, rfl, by ((try simp only [ev_tmp, ev_const, ev_func, get_put, get_args, get_putL, get_putL_nil, Nat.reduceEqDiff, reduceIte, List.getD_cons_zero, List.getD_cons_succ, List.getD_nil, Bool.not_true, Bool.not_false]); first | done | with_reducible rfl)⟩) fun w7 hc7 hs7 hb7 => ?_
    · rfl
    · simp [o3.1, o3.2.1, o3.2.2]
    refine go ?_
    have hE7 : Ext w w7 := hc7.ext (he1.trans he6) (by omega)
    refine retc (b := br) (hb := hb7) ⟨hE7, ?_⟩ rfl
    have hP7 := hP.wr (.one (B := fun g => g = br) rfl hc7) (fun g hg => .inl (by omega))
    rw [hs7]
    exact hP7.sub (by omega) (Nat.le_refl _)
end Go.Proofs.Ytnphljflkpekmaa

/-
  Walks: the program's presentation of a quotient (quotientPresentation), normalCode.
  Conditions: stated at each theorem.
-/
namespace Go.Proofs.Ytnphljflkpekmaa
open Go Go.Pc
end Go.Proofs.Ytnphljflkpekmaa

/-
  Walks: the program's SubgroupPresentation, QuotientPresentation.
  Conditions: stated at each theorem.
-/
namespace Go.Proofs.Ytnphljflkpekmaa
open Go Go.Pc
set_option maxHeartbeats 2000000 in
theorem impl_SubgroupPresentation_ok {p : Pr} {w : World} {vp vu : Value} {us : List Value} {xss : List (List Int)} {lo hi lo1 hi1 : Nat} [hp : Pres lo hi w vp p] [hu : Pc.Rows lo1 hi1 w vu us xss] (hl : p.ord.length ≤ 2000000) :
    Calls Try.prog 10 #[vp, vu] w (Ret fun v w' => ∃ (u : Value) (k : Pr) (e : Int), v = .tuple #[u, .int .i64 e] ∧ Ans (IsSubP p xss) (SpV p xss) noP k e ∧ Ext w w' ∧ PresO w.heap.size w'.heap.size w' u k) := by
  replace hp := hp.wide
  replace hu := hu.wide
  obtain ⟨vo, vpw, vc, ps, cs, css, rfl, h1, h2, h3⟩ := hp.ex
  refine enter (args := [.agg #[vo, vpw, vc], vu]) (l := [.cell 4 29, .tmp 5]) Try.func10 rfl rfl Try.ntmps10 (by simp) ?_
  refine go ?_
  refine st_box3 (by ((try simp only [ev_tmp, ev_const, ev_func, get_put, get_args, get_putL, get_putL_nil, Nat.reduceEqDiff, reduceIte, List.getD_cons_zero, List.getD_cons_succ, List.getD_nil]); first | done | with_reducible rfl)) (by first | exact True.intro | exact ⟨_, rfl, by ((try simp only [ev_tmp, ev_const, ev_func, get_put, get_args, get_putL, get_putL_nil, Nat.reduceEqDiff, reduceIte, List.getD_cons_zero, List.getD_cons_succ, List.getD_nil, Bool.not_true, Bool.not_false]); first | done | with_reducible rfl)⟩) fun w1 b he1 hb1 hs1 hc0 hc1 hc2 => ?_
  have hpp := hp.boxed he1 hc0 hc1 hc2
  refine go ?_
  refine st_alloc (by first | exact True.intro | exact ⟨_, rfl, by ((try simp only [ev_tmp, ev_const, ev_func, get_put, get_args, get_putL, get_putL_nil, Nat.reduceEqDiff, reduceIte, List.getD_cons_zero, List.getD_cons_succ, List.getD_nil, Bool.not_true, Bool.not_false]); first | done | with_reducible rfl)⟩) fun w2 br he2 hbr hs2 hbk2 => ?_
  have hz1 := he1.size
  refine go ?_
  refine st_slice1 (u := vu) (by ((try simp only [ev_tmp, ev_const, ev_func, get_put, get_args, get_putL, get_putL_nil, Nat.reduceEqDiff, reduceIte, List.getD_cons_zero, List.getD_cons_succ, List.getD_nil]); first | done | with_reducible rfl)) hu.sl.cells rfl (by first | exact True.intro | exact ⟨_, rfl, by ((try simp only [ev_tmp, ev_const, ev_func, get_put, get_args, get_putL, get_putL_nil, Nat.reduceEqDiff, reduceIte, List.getD_cons_zero, List.getD_cons_succ, List.getD_nil, Bool.not_true, Bool.not_false]); first | done | with_reducible rfl)⟩) fun w3 v3 he3 hs3 ho3 => ?_
  have hE3 := (he1.trans he2).trans he3
  have hR := rowss_one (xss := xss) ho3 (hu.same (hE3.same _ _)).wide
  refine go ?_
  refine rc (areSubgroups_ok (p := p) (xsss := [xss]) hl (by simp)) (next := fun v5 w5 h5 => ?_)
  obtain ⟨b5, rfl, hb5, he5⟩ := h5
  rw [areSub1] at hb5
  have hx5 := he3.trans he5
  have hE5 := hE3.trans he5
  have hz5 := hE5.size
  have hz52 := hx5.size
  refine go ?_
  refine c_b (fun e5 => ?_) (fun e5 => ?_)
  · have hb5' : Blk w5 br _ := @Blk.ext _ _ _ _ hx5 hbk2
    refine go ?_
    refine ra (v := .agg #[nilv, nilv, nilv]) (h := rd_build (by rfl) (fun _ => by kernel_rfl)) (next := ?_)
    refine st_store_agg (vs := [nilv, nilv, nilv]) (cs := _) (hb := hb5') (by ((try simp only [ev_tmp, ev_const, ev_func, get_put, get_args, get_putL, get_putL_nil, Nat.reduceEqDiff, reduceIte, List.getD_cons_zero, List.getD_cons_succ, List.getD_nil]); first | done | with_reducible rfl)) (by ((try simp only [ev_tmp, ev_const, ev_func, get_put, get_args, get_putL, get_putL_nil, Nat.reduceEqDiff, reduceIte, List.getD_cons_zero, List.getD_cons_succ, List.getD_nil]); first | done | with_reducible rfl)) rfl ?_ ?_ (by first | exact True.intro | exact ⟨_, rfl, by ((try simp only [ev_tmp, ev_const, ev_func, get_put, get_args, get_putL, get_putL_nil, Nat.reduceEqDiff, reduceIte, List.getD_cons_zero, List.getD_cons_succ, List.getD_nil, Bool.not_true, Bool.not_false]); first | done | with_reducible rfl)⟩) fun w6 hc6 hs6 hb6 => ?_
    · rfl
    · rfl
    have hE6 : Ext w w6 := hc6.ext hE5 (by omega)
    refine go ?_
    refine retc2 (b := br) (hb := hb6) ⟨_, noP, 1, rfl, .inr ⟨fun h => ?_, rfl, rfl⟩, hE6, presO_nilA hE6.size⟩ rfl
    rw [hb5.2 h] at e5; cases e5
  have hS := hb5.1 (by simpa using e5)
  have hS' := hS
  obtain ⟨hG, hq⟩ := hS'
  haveI : ConAll p := ⟨hG.con⟩
  obtain ⟨ys, hys, hse⟩ := isSeq_iff.1 hq
  refine go ?_
  refine rc (subgroupPresentation_ok (p := p) hse hys) (next := fun v6 w6 h6 => ?_)
  obtain ⟨he6, hP6⟩ := h6
  obtain ⟨u0, u1, u2, _, _, rfl, _⟩ := hP6.ex
  have o3 := hP6.pres.one3
  have hb6 : Blk w6 br _ := @Blk.ext _ _ _ _ (hx5.trans he6) hbk2
  refine go ?_
  refine st_store_agg (vs := [u0, u1, u2]) (cs := _) (hb := hb6) (by ((try simp only [ev_tmp, ev_const, ev_func, get_put, get_args, get_putL, get_putL_nil, Nat.reduceEqDiff, reduceIte, List.getD_cons_zero, List.getD_cons_succ, List.getD_nil]); first | done | with_reducible rfl)) (by ((try simp only [ev_tmp, ev_const, ev_func, get_put, get_args, get_putL, get_putL_nil, Nat.reduceEqDiff, reduceIte, List.getD_cons_zero, List.getD_cons_succ, List.getD_nil]); first | done | with_reducible rfl)) rfl ?_ ?_ (by first | exact True.intro | exact ⟨_, rfl, by ((try simp only [ev_tmp, ev_const, ev_func, get_put, get_args, get_putL, get_putL_nil, Nat.reduceEqDiff, reduceIte, List.getD_cons_zero, List.getD_cons_succ, List.getD_nil, Bool.not_true, Bool.not_false]); first | done | with_reducible rfl)⟩) fun w7 hc7 hs7 hb7 => ?_
  · rfl
  · simp [o3.1, o3.2.1, o3.2.2]
  have hE7 : Ext w w7 := hc7.ext (hE5.trans he6) (by omega)
  have hP7 := hP6.wr (.one (B := fun g => g = br) rfl hc7) (fun g hg => .inl (by omega))
  refine go ?_
  exact retc2 (b := br) (hb := hb7) ⟨_, subPr ys, 0, rfl, .inl ⟨hS, ⟨inferInstance, ys, hys, rfl⟩, rfl⟩, hE7, hP7.sub (by omega) (by omega)⟩ rfl
end Go.Proofs.Ytnphljflkpekmaa

/-
  All elements of a group, by their numbers; elements whose commutators with the generators lie in a subgroup.
  Conditions: the tails at all levels are groups.
-/
namespace Go.Proofs.Ytnphljflkpekmaa
open Go Go.Pc
section
variable {p : Pr}
end
section
variable {p : Pr} [hc : ConAll p]
/-- The commutators with all generators lie in the subgroup. -/
def AbP (ys : List (El p)) (x : El p) : Prop := ∀ i (h : i < (gensL p).length), Gen (fun a : El p => a ∈ ys) (Grp.cm x (gensL p)[i])
end
def CtV (p : Pr) (r : List (List Int)) (e : Int) : Prop := (∃ (_ : ConAll p), r = canon (Gen (fun a : El p => AbP [] a))) ∧ e = 0
theorem CtV.uniq {p : Pr} (a b : List (List Int)) (c d : Int) (h : CtV p a c) (k : CtV p b d) : a = b ∧ c = d := by
  obtain ⟨⟨_, h1⟩, h2⟩ := h
  obtain ⟨⟨_, k1⟩, k2⟩ := k
  exact ⟨by rw [h1, k1], by rw [h2, k2]⟩
end Go.Proofs.Ytnphljflkpekmaa

/-
  Answers: joins, normal closures, commutator subgroups.
  Conditions: none.
-/
namespace Go.Proofs.Ytnphljflkpekmaa
open Go Go.Pc
def JoinV (p : Pr) (xss yss r : List (List Int)) (e : Int) : Prop := (∃ (_ : ConAll p) (ys zs : List (El p)), xss = vecs ys ∧ yss = vecs zs ∧ r = canon (Gen (fun a : El p => a ∈ ys ++ zs))) ∧ e = 0
theorem JoinV.uniq {p : Pr} {xss yss : List (List Int)} (a b : List (List Int)) (c d : Int) (h : JoinV p xss yss a c) (k : JoinV p xss yss b d) : a = b ∧ c = d := by
  obtain ⟨⟨hc, ys, zs, h2, h3, h4⟩, h5⟩ := h
  obtain ⟨⟨hc', ys', zs', k2, k3, k4⟩, k5⟩ := k
  obtain rfl := vecs_inj (h2.symm.trans k2)
  obtain rfl := vecs_inj (h3.symm.trans k3)
  exact ⟨by rw [h4, k4], by rw [h5, k5]⟩
def CommV (p : Pr) (xss yss r : List (List Int)) (e : Int) : Prop := (∃ (_ : ConAll p) (ys zs : List (El p)), xss = vecs ys ∧ yss = vecs zs ∧ r = canon (CommC ys zs)) ∧ e = 0
theorem CommV.uniq {p : Pr} {xss yss : List (List Int)} (a b : List (List Int)) (c d : Int) (h : CommV p xss yss a c) (k : CommV p xss yss b d) : a = b ∧ c = d := by
  obtain ⟨⟨hc, ys, zs, h2, h3, h4⟩, h5⟩ := h
  obtain ⟨⟨hc', ys', zs', k2, k3, k4⟩, k5⟩ := k
  obtain rfl := vecs_inj (h2.symm.trans k2)
  obtain rfl := vecs_inj (h3.symm.trans k3)
  exact ⟨by rw [h4, k4], by rw [h5, k5]⟩
def NclV (p : Pr) (xss r : List (List Int)) (e : Int) : Prop := (∃ (_ : ConAll p) (ys : List (El p)), xss = vecs ys ∧ r = canon (Clo (fun a : El p => a ∈ ys) (fun a : El p => a ∈ gensL p))) ∧ e = 0
theorem NclV.uniq {p : Pr} {xss : List (List Int)} (a b : List (List Int)) (c d : Int) (h : NclV p xss a c) (k : NclV p xss b d) : a = b ∧ c = d := by
  obtain ⟨⟨hc, ys, h2, h4⟩, h5⟩ := h
  obtain ⟨⟨hc', ys', k2, k4⟩, k5⟩ := k
  obtain rfl := vecs_inj (h2.symm.trans k2)
  exact ⟨by rw [h4, k4], by rw [h5, k5]⟩
end Go.Proofs.Ytnphljflkpekmaa

/-
  Series of subgroups: steps until one stands still; the derived and the lower central series.
  Conditions: the tails at all levels are groups.
-/
namespace Go.Proofs.Ytnphljflkpekmaa
open Go Go.Pc
def itL {α : Type} (f : α → α) (y : α) : Nat → α
  | 0 => y
  | k + 1 => f (itL f y k)
def SerR {α : Type} (f : α → α) (y : α) (K : Nat) : Prop := itL f y (K + 1) = itL f y K ∧ ∀ j, j < K → itL f y (j + 1) ≠ itL f y j
theorem SerR.uniq {α : Type} {f : α → α} {y : α} {K J : Nat} (h : SerR f y K) (k : SerR f y J) : K = J := by
  rcases Nat.lt_trichotomy K J with e | e | e
  · exact absurd h.1 (k.2 K e)
  · exact e
  · exact absurd k.1 (h.2 J e)
section
variable {p : Pr} [hc : ConAll p] {ys zs : List (El p)}
theorem seq_len_le (hy : SeqEl ys) (hz : SeqEl zs) (hle : ∀ a, Gen (fun a : El p => a ∈ zs) a → Gen (fun a : El p => a ∈ ys) a) : zs.length ≤ ys.length := by
  have := can_len_le (Gen.sub _) (Gen.sub _) hle
  rwa [hy.els, hz.els] at this
theorem seq_len_iff (hy : SeqEl ys) (hz : SeqEl zs) (hle : ∀ a, Gen (fun a : El p => a ∈ zs) a → Gen (fun a : El p => a ∈ ys) a) : zs.length = ys.length ↔ zs = ys := by
  refine ⟨fun h => ?_, fun h => by rw [h]⟩
  have h2 := same_of_len (Gen.sub _) (Gen.sub _) hle (by rw [hy.els, hz.els]; omega)
  have e : Gen (fun a : El p => a ∈ zs) = Gen (fun a : El p => a ∈ ys) := by
    funext a; exact propext ⟨hle a, h2 a⟩
  rw [← hz.els, ← hy.els, e]
/-- What the walks need of a series. -/
structure SerOk (f : List (El p) → List (El p)) (y0 : List (El p)) : Prop where
  seq : ∀ k, SeqEl (itL f y0 k)
  eqv : ∀ k, (itL f y0 (k + 1)).length = (itL f y0 k).length ↔ itL f y0 (k + 1) = itL f y0 k
  bd : ∀ K, (∀ j, j < K → itL f y0 (j + 1) ≠ itL f y0 j) → K ≤ p.n
/-- A series that goes up. -/
theorem SerOk.up {f : List (El p) → List (El p)} {y0 : List (El p)} (Good : List (El p) → Prop) (h0 : Good y0) (hseq : ∀ ys, Good ys → SeqEl ys) (hf : ∀ ys, Good ys → Good (f ys))
    (hle : ∀ ys, Good ys → ∀ a, Gen (fun a : El p => a ∈ ys) a → Gen (fun a : El p => a ∈ f ys) a) : SerOk f y0 := by
  have hg : ∀ k, Good (itL f y0 k) := by
    intro k
    induction k with
    | zero => exact h0
    | succ k ih => exact hf _ ih
  have hs : ∀ k, SeqEl (itL f y0 k) := fun k => hseq _ (hg k)
  have he : ∀ k, (itL f y0 (k + 1)).length = (itL f y0 k).length ↔ itL f y0 (k + 1) = itL f y0 k := fun k => by
    have := seq_len_iff (hs (k + 1)) (hs k) (hle _ (hg k))
    exact ⟨fun h => (this.1 h.symm).symm, fun h => by rw [h]⟩
  refine ⟨hs, he, fun K hK => ?_⟩
  have key : ∀ k, k ≤ K → k ≤ (itL f y0 k).length := by
    intro k
    induction k with
    | zero => exact fun _ => Nat.zero_le _
    | succ k ih =>
      intro hk
      have h1 := ih (by omega)
      have h2 := seq_len_le (hs (k + 1)) (hs k) (hle _ (hg k))
      have h3 := hK k (by omega)
      rw [Ne, ← he k] at h3
      omega
  have h1 := key K (Nat.le_refl _)
  have h2 := (hs K).len
  omega
noncomputable def lowF (ys : List (El p)) : List (El p) := canEls (CommC ys (gensL p))
end
/-- What a series is, with its code. -/
def SrV (p : Pr) (C : ConAll p → (List (El p) → List (El p)) × List (El p)) (r : List (List (List Int))) (e : Int) : Prop := ∃ (c : ConAll p) (K : Nat), SerR (C c).1 (C c).2 K ∧ r = (List.range (K + 1)).map (fun j => vecs (itL (C c).1 (C c).2 j)) ∧ e = 0
theorem SrV.uniq {p : Pr} {C : ConAll p → (List (El p) → List (El p)) × List (El p)} (a b : List (List (List Int))) (c d : Int) (h : SrV p C a c) (g : SrV p C b d) : a = b ∧ c = d := by
  obtain ⟨_, K, h1, rfl, rfl⟩ := h
  obtain ⟨_, J, g1, rfl, rfl⟩ := g
  obtain rfl := h1.uniq g1
  exact ⟨rfl, rfl⟩
/-- The class of a nilpotent group, with its code. -/
def NcV (p : Pr) (r e : Int) : Prop := ∃ (c : ConAll p) (K : Nat), SerR (lowF (p := p)) (gensL p) K ∧ ((0 < (itL (lowF (p := p)) (gensL p) K).length ∧ r = 0 ∧ e = 4) ∨ ((itL (lowF (p := p)) (gensL p) K).length = 0 ∧ r = K ∧ e = 0))
theorem NcV.uniq {p : Pr} (a b c d : Int) (h : NcV p a c) (g : NcV p b d) : a = b ∧ c = d := by
  obtain ⟨_, K, h1, h2⟩ := h
  obtain ⟨_, J, g1, g2⟩ := g
  obtain rfl := h1.uniq g1
  rcases h2 with ⟨h3, rfl, rfl⟩ | ⟨h3, rfl, rfl⟩ <;> rcases g2 with ⟨g3, rfl, rfl⟩ | ⟨g3, rfl, rfl⟩
  · exact ⟨rfl, rfl⟩
  · omega
  · omega
  · exact ⟨rfl, rfl⟩
end Go.Proofs.Ytnphljflkpekmaa

/-
  The upper central series and the lower exponent series.
  Conditions: the tails at all levels are groups.
-/
namespace Go.Proofs.Ytnphljflkpekmaa
open Go Go.Pc
section
variable {p : Pr} [hc : ConAll p]
noncomputable def expL (q : Int) (ys : List (El p)) : List (El p) := lowF ys ++ ys.map fun y => Grp.pwz y q
noncomputable def expF (q : Int) (ys : List (El p)) : List (El p) := canEls (Gen (fun a : El p => a ∈ expL q ys))
end
noncomputable def ExpC (p : Pr) (q : Int) (c : ConAll p) : (List (El p) → List (El p)) × List (El p) := (expF q, gensL p)
/-- What a series for a prime is, with its code. -/
def ExV (p : Pr) (q : Int) (r : List (List (List Int))) (e : Int) : Prop := (¬ (q = 2 ∨ q = 3 ∨ q = 5 ∨ q = 7) ∧ r = [] ∧ e = 2) ∨ ((q = 2 ∨ q = 3 ∨ q = 5 ∨ q = 7) ∧ SrV p (ExpC p q) r e)
theorem ExV.uniq {p : Pr} {q : Int} (a b : List (List (List Int))) (c d : Int) (h : ExV p q a c) (g : ExV p q b d) : a = b ∧ c = d := by
  rcases h with ⟨h1, rfl, rfl⟩ | ⟨h1, h2⟩ <;> rcases g with ⟨g1, rfl, rfl⟩ | ⟨g1, g2⟩
  · exact ⟨rfl, rfl⟩
  · exact absurd g1 h1
  · exact absurd h1 g1
  · exact h2.uniq _ _ _ _ g2
end Go.Proofs.Ytnphljflkpekmaa

/-
  Walks: the check of marks on lists of lists of lists (heldInt64SSS); sizes of series.
  Conditions: stated at each theorem.
-/
namespace Go.Proofs.Ytnphljflkpekmaa
open Go Go.Pc
def markC (k : Int) : List (List (List Int)) → List (List (List Int))
  | [] => []
  | x :: l => markL k x :: markC (k + tot x) l
def mkC (k : Int) : List (Value × List (Value × List Int)) → List (Value × List (Value × List Int))
  | [] => []
  | q :: l => (q.1, mkR k q.2) :: mkC (k + tot (q.2.map (·.2))) l
theorem mkC_fst : ∀ (gs : List (Value × List (Value × List Int))) (k : Int), (mkC k gs).map (·.1) = gs.map (·.1)
  | [], _ => rfl
  | q :: l, k => by simp [mkC, mkC_fst l]
theorem mkC_mid : ∀ (gs : List (Value × List (Value × List Int))) (k : Int), ((mkC k gs).map fun q => q.2.map (·.1)) = gs.map fun q => q.2.map (·.1)
  | [], _ => rfl
  | q :: l, k => by
    show (mkR k q.2).map (·.1) :: ((mkC (k + tot (q.2.map (·.2))) l).map fun q => q.2.map (·.1)) = _
    rw [mkR_fst, mkC_mid l]; rfl
theorem mkC_snd : ∀ (gs : List (Value × List (Value × List Int))) (k : Int), ((mkC k gs).map fun q => q.2.map (·.2)) = markC k (gs.map fun q => q.2.map (·.2))
  | [], _ => rfl
  | q :: l, k => by
    show (mkR k q.2).map (·.2) :: ((mkC (k + tot (q.2.map (·.2))) l).map fun q => q.2.map (·.2)) = _
    rw [mkR_snd, mkC_snd l]; rfl
theorem flat_cons (q : Value × List (Value × List Int)) (l : List (Value × List (Value × List Int))) : flat (q :: l) = q.2 ++ flat l := by simp [flat]
theorem flat_mkC : ∀ (gs : List (Value × List (Value × List Int))) (k : Int), flat (mkC k gs) = mkR k (flat gs)
  | [], _ => rfl
  | q :: l, k => by
    rw [flat_cons, mkR_append, ← flat_mkC l]
    show flat ((q.1, mkR k q.2) :: mkC (k + tot (q.2.map (·.2))) l) = _
    rw [flat_cons]
theorem markC_len : ∀ (l : List (List (List Int))) (k : Int), (markC k l).length = l.length
  | [], _ => rfl
  | x :: l, k => by simp [markC, markC_len l]
theorem markC_getD : ∀ (l : List (List (List Int))) (k : Int) (i : Nat), i < l.length → (markC k l).getD i [] = markL (k + tot (l.take i).flatten) (l.getD i [])
  | [], _, _, h => by simp at h
  | x :: l, k, 0, _ => by simp [markC, tot]
  | x :: l, k, i + 1, h => by
    have := markC_getD l (k + tot x) i (by simpa using h)
    simp only [markC, List.getD_cons_succ, this, List.take_succ_cons, List.flatten_cons, tot_append]
    rw [Int.add_assoc]; simp
theorem tot_takeF_le (l : List (List (List Int))) (k : Nat) : tot (l.take k).flatten ≤ tot l.flatten := by
  have e : l.flatten = (l.take k).flatten ++ (l.drop k).flatten := by rw [← List.flatten_append, List.take_append_drop]
  rw [e, tot_append]; omega
theorem tot_takeF_succ (l : List (List (List Int))) {k : Nat} (hk : k < l.length) : tot (l.take (k + 1)).flatten = tot (l.take k).flatten + tot (l.getD k []) := by
  rw [List.take_succ_eq_append_getElem hk, List.flatten_append, tot_append]
  simp [hk]
theorem mkC_mem {gs : List (Value × List (Value × List Int))} {k : Int} {q : Value × List (Value × List Int)} (hq : q ∈ mkC k gs) : ∃ q', q' ∈ gs ∧ q.1 = q'.1 ∧ q.2.map (·.1) = q'.2.map (·.1) := by
  induction gs generalizing k with
  | nil => cases hq
  | cons g l ih =>
    rcases List.mem_cons.1 hq with rfl | hq
    · exact ⟨g, List.mem_cons_self, rfl, mkR_fst _ _⟩
    · obtain ⟨q', h1, h2⟩ := ih hq
      exact ⟨q', List.mem_cons_of_mem _ h1, h2⟩
theorem RowsO.ofFlat {s : Nat} {w : World} {gs : List (Value × List (Value × List Int))} (h : RowsO s w (flat gs)) {q : Value × List (Value × List Int)} (hq : q ∈ gs) : RowsO s w q.2 := by
  have hs : List.Sublist q.2 (flat gs) := List.sublist_flatten_of_mem (List.mem_map.2 ⟨q, hq, rfl⟩)
  exact ⟨fun r hr => h.fr r (hs.subset hr), h.sep.sublist hs⟩
set_option maxHeartbeats 1000000 in
theorem heldInt64SSS_ok {w : World} {v : Value} {k : Int} {lo hi : Nat} {us : List Value} {uss : List (List Value)} {xsss ysss : List (List (List Int))} [hx : Rowss lo hi w v us uss xsss] (hxs : xsss = markC k ysss) (hk : 0 ≤ k) (hb : k + tot ysss.flatten ≤ 9000000000000000000) :
    Calls Try.prog 35 #[v, .int .i64 k] w (Ret fun v' w' => v' = .int .i64 (k + tot ysss.flatten) ∧ Ext w w') := by
  have hl : xsss.length = ysss.length := by rw [hxs, markC_len]
  have hul := hx.vals.len
  have hm := sl_len hx.sl
  have hg : ∀ i, i < ysss.length → xsss.getD i [] = markL (k + tot (ysss.take i).flatten) (ysss.getD i []) := fun i hi => by rw [hxs, markC_getD _ _ _ hi]
  refine enter (args := [v, .int .i64 k]) (l := [.tmp 4]) Try.func35 rfl rfl Try.ntmps35 (by simp) ?_
  refine go ?_
  refine r_for ysss.length (fun i ρ w' => Has ρ [(0, v), (1, .int .i64 (k + tot (ysss.take i).flatten)), (5, .int .i64 i)] ∧ Ext w w') ?_ ?_
  · refine ⟨?_, Ext.refl _⟩
    simp only [List.take_zero, List.flatten_nil, tot]
    exact hasP
  rintro i ρ w2 hi ⟨hH, he2⟩
  refine rwp_has hH fun ρ0 => ?_
  have ht := tot_takeF_le ysss i
  refine go ?_
  refine c_if (fun h4 => ?_) (fun h4 => ?_)
  · have hin : i < ysss.length := by omega
    have hts := tot_takeF_succ ysss hin
    have ht2 := tot_takeF_le ysss (i + 1)
    refine go ?_
    refine rc (heldInt64SS_ok (xss := xsss.getD i []) (yss := ysss.getD i []) (hg i hin) ?_ ?_) (next := fun v3 w3 h3 => ?_)
    · omega
    · omega
    obtain ⟨rfl, he3⟩ := h3
    refine go ?_
    refine c_if (fun h5 => ?_) (fun h5 => ?_)
    · omega
    · refine go ?_
      refine forQ_normal (by omega) ⟨?_, he2.trans he3⟩
      exact hasP
  · refine go ?_
    obtain rfl : i = ysss.length := by omega
    refine ret1 ⟨?_, he2⟩
    rw [List.take_length]
end Go.Proofs.Ytnphljflkpekmaa

/-
  Walks: marks on a presentation that is a result, and the test that they are held (markPresentation, heldPresentation).
  Conditions: stated at each theorem.
-/
namespace Go.Pc
open Go Go.RowKit
section
variable {lo hi s t : Nat} {w w' : World} {v : Value} {us us' : List Value} {uss : List (List Value)} {xs xs' : List Int} {xss xss' : List (List Int)} {xsss xsss' : List (List (List Int))}
/-- Where a slice's cells lie is told by the slice. -/
theorem Sl.range (h : Sl s t w v us) (k : Sl lo hi w' v us') (hl : us.length = us'.length) : Sl s t w' v us' := by
  obtain ⟨A, c, hv, hc, hm, hcell⟩ := h.ex
  obtain ⟨A', c', hv', hc', hm', hcell'⟩ := k.ex
  refine ⟨⟨A', c', hv', hc', hm', fun i u hu => ?_⟩⟩
  obtain ⟨a, hA', _, _, e3⟩ := hcell' i u hu
  have hi : i < us.length := by rw [hl]; exact (List.getElem?_eq_some_iff.1 hu).1
  obtain ⟨a2, hA, e1, e2, _⟩ := hcell i us[i] (by simp [hi])
  rw [hv] at hv'
  injection hv' with h1 _ _
  rw [hA, hA'] at h1
  injection h1 with h1
  subst h1
  exact ⟨a2, hA', e1, e2, e3⟩
theorem Ints.range (h : Ints s t w v xs) (k : Ints lo hi w' v xs') (hl : xs.length = xs'.length) : Ints s t w' v xs' := ⟨h.sl.range k.sl (by simpa using hl)⟩
theorem Rows.range (h : Rows s t w v us xss) (k : Rows lo hi w' v us xss') (hl : ∀ i, (xss.getD i []).length = (xss'.getD i []).length) : Rows s t w' v us xss' :=
  ⟨h.sl.range k.sl rfl, k.vals.len, fun i => (h.vals.at_ i).range (k.vals.at_ i) (hl i)⟩
theorem Rowss.range (h : Rowss s t w v us uss xsss) (k : Rowss lo hi w' v us uss xsss') (hl : ∀ i j, ((xsss.getD i []).getD j []).length = ((xsss'.getD i []).getD j []).length) : Rowss s t w' v us uss xsss' :=
  ⟨h.sl.range k.sl rfl, k.vals.len, k.vals.len', fun i => (h.vals.at_ i).range (k.vals.at_ i) (hl i)⟩
end
end Go.Pc
namespace Go.Proofs.Ytnphljflkpekmaa
open Go Go.Pc
theorem markL_lens (l : List (List Int)) (k : Int) (i : Nat) : (l.getD i []).length = ((markL k l).getD i []).length := by
  by_cases h : i < l.length
  · rw [markL_getD l k i h, marks_len]
  · rw [List.getD_eq_getElem?_getD, List.getElem?_eq_none (by omega), List.getD_eq_getElem?_getD, List.getElem?_eq_none (by rw [markL_len]; omega)]
theorem markC_lens (l : List (List (List Int))) (k : Int) (i j : Nat) : ((l.getD i []).getD j []).length = (((markC k l).getD i []).getD j []).length := by
  by_cases h : i < l.length
  · rw [markC_getD l k i h]; exact markL_lens _ _ _
  · have e1 : l.getD i [] = [] := by rw [List.getD_eq_getElem?_getD, List.getElem?_eq_none (by omega)]; rfl
    have e2 : (markC k l).getD i [] = [] := by rw [List.getD_eq_getElem?_getD, List.getElem?_eq_none (by rw [markC_len]; omega)]; rfl
    rw [e1, e2]
/-- A presentation after its marks. -/
def markP (k : Int) (p : Pr) : Pr := ⟨marks k p.ord.length, markL (k + p.ord.length) p.pow, markC (k + p.ord.length + tot p.pow) p.cnj⟩
set_option maxHeartbeats 1000000 in
theorem markPresentationR_ok {s t : Nat} {w : World} {v : Value} {p : Pr} {k : Int} (hP : PresO s t w v p) (hk : 0 ≤ k) (hb : k + totP p ≤ 9000000000000000000) :
    Calls Try.prog 13 #[v, .int .i64 k] w (Ret fun v' w' => v' = .int .i64 (k + totP p) ∧ Wrt (fun b => s ≤ b ∧ b < t) w w' ∧ Pres s t w' v (markP k p)) := by
  obtain ⟨vo, vp, vc, rp, gs, rfl, hO, hlt, hsp, hcub, hpow, hcnj, hr1, hr2, hr3⟩ := hP.ex
  have hA : ∀ b, BlkOf ((vo, p.ord) :: (rp ++ flat gs)) b → s ≤ b ∧ b < t := fun b hb => ⟨(hO.blk hb).1, hlt b hb⟩
  have e1 : totP p = p.ord.length + (tot (rp.map (·.2)) + tot ((flat gs).map (·.2))) := by rw [flat_tot, ← hpow, ← hcnj]; rfl
  refine enter (args := [.agg #[vo, vp, vc], .int .i64 k]) (l := [.tmp 4]) Try.func13 rfl rfl Try.ntmps13 (by simp) ?_
  refine go ?_
  refine st_box3 (by ((try simp only [ev_tmp, ev_const, ev_func, get_put, get_args, get_putL, get_putL_nil, Nat.reduceEqDiff, reduceIte, List.getD_cons_zero, List.getD_cons_succ, List.getD_nil]); first | done | with_reducible rfl)) (by first | exact True.intro | exact ⟨_, rfl, by ((try simp only [ev_tmp, ev_const, ev_func, get_put, get_args, get_putL, get_putL_nil, Nat.reduceEqDiff, reduceIte, List.getD_cons_zero, List.getD_cons_succ, List.getD_nil, Bool.not_true, Bool.not_false]); first | done | with_reducible rfl)⟩) fun w1 b he1 hb1 hs1 hc0 hc1 hc2 => ?_
  have hO1 := hO.ext he1
  have hB1 : ∀ g, BlkOf ((vo, p.ord) :: (rp ++ flat gs)) g → g ≠ b := fun g hg e => by have := (hO.blk hg).2; omega
  have hcell : ∀ {w2 : World} {j : Nat} {u : Value}, Cell w1 b j u → Wrt (BlkOf ((vo, p.ord) :: (rp ++ flat gs))) w1 w2 → Cell w2 b j u := fun h k => h.same (k.same fun g hg => by have := hB1 g hg; omega) k.size
  have hfr : Fr s w1 vo p.ord := hO1.fr _ List.mem_cons_self
  refine go ?_
  refine rc (markInt64S_ok hfr hk ?_) (next := fun v2 w2 h2 => ?_)
  · omega
  obtain ⟨rfl, hf2, hW2⟩ := h2
  have hW2' : Wrt (BlkOf ((vo, p.ord) :: (rp ++ flat gs))) w1 w2 := hW2.mono fun g ⟨hn, e⟩ => ⟨_, List.mem_cons_self, hn, e⟩
  have hO2 : RowsO s w2 ([] ++ (vo, marks k p.ord.length) :: (rp ++ flat gs)) := RowsO.upd (pre := []) (by simpa using hO1) hW2 hf2 marks_ne.1
  have hc0' := hcell hc0 hW2'
  have hc1' := hcell hc1 hW2'
  have hc2' := hcell hc2 hW2'
  have hO2' : RowsO s w2 (([(vo, marks k p.ord.length)]) ++ rp ++ flat gs) := by simpa using hO2
  have hsp2 := (SpA.grow hsp he1 (fun g hg => .inl hg)).wr hW2' (fun g hg => hg)
  refine go ?_
  refine rc (markInt64SS_ok hO2' hsp2 (fun g hg => ?_) ?_ ?_) (next := fun v3 w3 h3 => ?_)
  · obtain ⟨r, h1, h2⟩ := hg
    exact ⟨r, List.mem_cons_of_mem _ (List.mem_append_left _ h1), h2⟩
  · omega
  · omega
  obtain ⟨rfl, hO3, hW3⟩ := h3
  have hW3' : Wrt (BlkOf ((vo, p.ord) :: (rp ++ flat gs))) w2 w3 := hW3.mono fun g ⟨r, h1, h2⟩ => ⟨r, List.mem_cons_of_mem _ (List.mem_append_left _ h1), h2⟩
  have hc2'' := hcell hc2 (hW2'.trans hW3')
  have hO3' : RowsO s w3 (([(vo, marks k p.ord.length)] ++ mkR (k + p.ord.length) rp) ++ flat gs ++ []) := by simpa using hO3
  have hcub3 : CubO (BlkOf ((vo, p.ord) :: (rp ++ flat gs))) w3 vc gs := CubO.wr ⟨(SpA.grow hcub.sp0 he1 (fun g hg => .inl hg)).wr hW2' (fun g hg => hg), fun q hq => (SpA.grow (hcub.sp q hq) he1 (fun g hg => .inl hg)).wr hW2' (fun g hg => hg)⟩ hW3' (fun g hg => hg)
  clear hc0' hc1' hc2'
  refine go ?_
  refine rc (markInt64SSS_ok hO3' hcub3 (fun g hg => ?_) ?_ ?_) (next := fun v4 w4 h4 => ?_)
  · obtain ⟨r, h1, h2⟩ := hg
    exact ⟨r, List.mem_cons_of_mem _ (List.mem_append_right _ h1), h2⟩
  · omega
  · omega
  obtain ⟨rfl, hO4, hW4⟩ := h4
  refine go ?_
  have hW4' : Wrt (BlkOf ((vo, p.ord) :: (rp ++ flat gs))) w3 w4 := hW4.mono fun g ⟨r, h1, h2⟩ => ⟨r, List.mem_cons_of_mem _ (List.mem_append_right _ h1), h2⟩
  have hfo4 : Ints 0 w4.heap.size w4 vo (marks k p.ord.length) := ((hO4.fr (vo, marks k p.ord.length) (by simp)).ints).wide
  have hsp4 := (hsp2.wr (hW3'.trans hW4') (fun g hg => hg)).sl
  have hcub4 := hcub3.wr hW4' (fun g hg => hg)
  have hOp : RowsO s w4 (mkR (k + p.ord.length) rp) := RowsO.right (rs := [(vo, marks k p.ord.length)]) (RowsO.left (RowsO.left hO4))
  have hOc : RowsO s w4 (mkR (k + p.ord.length + tot (rp.map (·.2))) (flat gs)) := RowsO.right (RowsO.left hO4)
  have hRp := hOp.rows (v := vp) (by rw [mkR_fst]; exact hsp4)
  rw [mkR_fst, mkR_snd, ← hpow] at hRp
  have hRc : Rowss 0 w4.heap.size w4 vc (gs.map (·.1)) (gs.map fun q => q.2.map (·.1)) (markC (k + p.ord.length + tot (rp.map (·.2))) (gs.map fun q => q.2.map (·.2))) := by
    rw [← flat_mkC] at hOc
    rw [← mkC_fst gs (k + p.ord.length + tot (rp.map (·.2))), ← mkC_mid gs (k + p.ord.length + tot (rp.map (·.2))), ← mkC_snd gs (k + p.ord.length + tot (rp.map (·.2)))]
    refine rowss_of_cub (A := fun _ => True) (s := 0) ?_ (Nat.zero_le _) fun q hq => ?_
    · rw [mkC_fst]; exact hcub4.sp0.sl
    · obtain ⟨q', h1, h2, h3⟩ := mkC_mem hq
      refine (RowsO.ofFlat hOc hq).rows (v := q.1) ?_
      rw [h2, h3]
      exact (hcub4.sp _ h1).sl
  rw [← hpow] at hr2
  rw [← hcnj] at hr3
  rw [← hcnj, ← hpow] at hRc
  refine ret1 ⟨?_, ?_, ⟨⟨vo, vp, vc, _, _, _, rfl, hr1.range hfo4 (marks_len _ _).symm, hr2.range hRp (markL_lens _ _), hr3.range hRc (markC_lens _ _)⟩⟩⟩
  · rw [e1]
    exact int_congr (by omega)
  · refine (Wrt.ofExt he1).trans ((hW2'.mono hA).trans ((hW3'.mono hA).trans (hW4.mono fun g hg => hA g ?_)))
    obtain ⟨r, h1, h2⟩ := hg
    exact ⟨r, List.mem_cons_of_mem _ (List.mem_append_right _ h1), h2⟩
set_option maxHeartbeats 1000000 in
theorem heldPresentation_ok {w : World} {v : Value} {k : Int} {lo hi : Nat} {p q : Pr} [hp : Pres lo hi w v q] (hq : q = markP k p) (hk : 0 ≤ k) (hb : k + totP p ≤ 9000000000000000000) :
    Calls Try.prog 15 #[v, .int .i64 k] w (Ret fun v' w' => v' = .int .i64 (k + totP p) ∧ Ext w w') := by
  subst hq
  obtain ⟨vo, vpw, vc, ps, cs, css, rfl, h1, h2, h3⟩ := hp.ex
  have e1 : totP p = p.ord.length + (tot p.pow + tot p.cnj.flatten) := rfl
  replace h1 : Ints lo hi w vo (marks k p.ord.length) := h1
  replace h2 : Pc.Rows lo hi w vpw ps (markL (k + p.ord.length) p.pow) := h2
  replace h3 : Rowss lo hi w vc cs css (markC (k + p.ord.length + tot p.pow) p.cnj) := h3
  refine enter (args := [.agg #[vo, vpw, vc], .int .i64 k]) (l := [.tmp 4]) Try.func15 rfl rfl Try.ntmps15 (by simp) ?_
  refine go ?_
  refine st_box3 (by ((try simp only [ev_tmp, ev_const, ev_func, get_put, get_args, get_putL, get_putL_nil, Nat.reduceEqDiff, reduceIte, List.getD_cons_zero, List.getD_cons_succ, List.getD_nil]); first | done | with_reducible rfl)) (by first | exact True.intro | exact ⟨_, rfl, by ((try simp only [ev_tmp, ev_const, ev_func, get_put, get_args, get_putL, get_putL_nil, Nat.reduceEqDiff, reduceIte, List.getD_cons_zero, List.getD_cons_succ, List.getD_nil, Bool.not_true, Bool.not_false]); first | done | with_reducible rfl)⟩) fun w1 b he1 hb1 hs1 hc0 hc1 hc2 => ?_
  refine go ?_
  refine rc (heldInt64S_ok (k := k) (n := p.ord.length) (xs := marks k p.ord.length) rfl hk (by omega)) (next := fun v2 w2 h4 => ?_)
  obtain ⟨rfl, he2⟩ := h4
  refine go ?_
  refine c_if (fun h => ?_) (fun _ => ?_)
  · omega
  refine go ?_
  refine rc (heldInt64SS_ok (k := k + p.ord.length) (yss := p.pow) (xss := markL (k + p.ord.length) p.pow) rfl (by omega) (by omega)) (next := fun v3 w3 h5 => ?_)
  obtain ⟨rfl, he3⟩ := h5
  refine go ?_
  refine c_if (fun h => ?_) (fun _ => ?_)
  · omega
  refine go ?_
  refine rc (heldInt64SSS_ok (k := k + p.ord.length + tot p.pow) (ysss := p.cnj) (xsss := markC (k + p.ord.length + tot p.pow) p.cnj) rfl (by omega) (by omega)) (next := fun v4 w4 h6 => ?_)
  obtain ⟨rfl, he4⟩ := h6
  refine go ?_
  refine c_if (fun h => ?_) (fun _ => ?_)
  · omega
  refine go ?_
  refine ret1 ⟨?_, ((he1.trans he2).trans he3).trans he4⟩
  rw [e1]
  exact int_congr (by omega)
end Go.Proofs.Ytnphljflkpekmaa

/-
  Arguments that read as slices of integers, slices of slices, slices of slices of slices: what the calculus knows of them.
  Conditions: none; nothing of the program stands here.
-/
namespace Go.Pc
open Go Go.RowKit Go.Deep Go.ChangeShapes Go.WideShapes
section
variable {H : Type} {enc : TypeId × Value → H} {P : Program} {w : World} {base : Nat} {held : Bool} {fuel : Nat} {v : Value} {x : DataW H × List MemPlace}
theorem ints_of_trod {t e : TypeId} (ht : P.underlying t = some (.slice e)) (he : P.underlying e = some (.int .i64)) (hc : P.cellsOf e = 1) (h : DataW.trod enc P w base (fun _ => true) held fuel t [v] = some x) : ∃ xs, Ints 0 w.heap.size w v xs := by
  rcases open_ints ht he hc h with ⟨hcs, _⟩ | ⟨a, len, cap, zs, hcs, _, hl, hm, hz, _, hcell, _⟩
  · have : v = nilv := by simpa using hcs
    subst this
    exact ⟨[], (Ints.nil_ w).mono (Nat.le_refl 0) (Nat.zero_le _)⟩
  · have : v = .slice (some a) len cap := by simpa using hcs
    subst this
    simp only [if_true] at hz
    have hlen : (zs.take len).length = len := by rw [List.length_take]; omega
    refine ⟨zs.take len, ⟨⟨some a, cap, by rw [List.length_map, hlen], by rw [List.length_map, hlen]; omega, by simp only [maxLen] at hm; omega, fun k u hu => ?_⟩⟩⟩
    rw [List.getElem?_map, List.getElem?_take] at hu
    split at hu
    · have hk : k < zs.length := by omega
      have hck := hcell k hk
      rw [List.getElem?_eq_getElem hk] at hu
      simp only [Option.map_some, Option.some.injEq] at hu
      have e : zs.getD k 0 = zs[k] := by simp [hk]
      rw [e, hu] at hck
      exact ⟨a, rfl, Nat.zero_le _, by have := block_lt hck; rwa [add_block] at this, hck⟩
    · cases hu
theorem sl_of {a : Addr} {len cap m : Nat} {V : Nat → Value} (hl : len ≤ cap) (hm : cap ≤ maxLen) (hlm : len ≤ m) (hx : ∀ i, i < m → w.cell? (a.add i) = some (V i)) : Sl 0 w.heap.size w (.slice (some a) len cap) ((List.range len).map V) := by
  refine ⟨⟨some a, cap, by simp, by simpa using hl, by simp only [maxLen] at hm; omega, fun k u hu => ?_⟩⟩
  rw [List.getElem?_map] at hu
  by_cases hk : k < len
  · rw [List.getElem?_range hk] at hu
    simp only [Option.map_some, Option.some.injEq] at hu
    have hck := hx k (by omega)
    rw [hu] at hck
    exact ⟨a, rfl, Nat.zero_le _, by have := block_lt hck; rwa [add_block] at this, hck⟩
  · rw [List.getElem?_eq_none (by simp; omega)] at hu; cases hu
theorem getD_map_range {α : Type} {n i : Nat} {f : Nat → α} {d : α} (h : i < n) : ((List.range n).map f).getD i d = f i := by simp [h]
theorem getD_map_range' {α : Type} {n i : Nat} {f : Nat → α} {d : α} (h : ¬ i < n) : ((List.range n).map f).getD i d = d := by
  rw [List.getD_eq_getElem?_getD, List.getElem?_eq_none (by simp; omega)]; rfl
theorem Rows.nil_ (w : World) : Rows 0 w.heap.size w nilv [] [] :=
  ⟨⟨⟨none, 0, rfl, Nat.le_refl _, by omega, fun k u hu => by simp at hu⟩⟩, rfl, fun i => by simpa using (Ints.nil_ w).mono (Nat.le_refl 0) (Nat.zero_le _)⟩
theorem rows_of_trod {t e q : TypeId} (ht : P.underlying t = some (.slice e)) (he : P.underlying e = some (.slice q)) (hq : P.underlying q = some (.int .i64)) (ce : P.cellsOf e = 1) (cq : P.cellsOf q = 1)
    (h : DataW.trod enc P w base (fun _ => true) held fuel t [v] = some x) : ∃ us xss, Rows 0 w.heap.size w v us xss := by
  rcases open_slice1 ht ce h with ⟨hcs, _⟩ | ⟨a, len, cap, m, n, V, D, Pl, hcs, _, hl, hm, hmm, _, hx⟩
  · have : v = nilv := by simpa using hcs
    subst this
    exact ⟨[], [], Rows.nil_ w⟩
  · have : v = .slice (some a) len cap := by simpa using hcs
    subst this
    simp only [if_true] at hmm
    have hlm : len ≤ m := by omega
    obtain ⟨X, hX⟩ := choose_lt (α := List Int) (n := len) (p := fun i xs => Ints 0 w.heap.size w (V i) xs) fun i hi => ints_of_trod he hq cq (hx i (by omega)).2
    refine ⟨(List.range len).map V, (List.range len).map X, sl_of hl hm hlm fun i hi => (hx i hi).1, by simp, fun i => ?_⟩
    by_cases hi : i < len
    · rw [getD_map_range hi, getD_map_range hi]; exact hX i hi
    · rw [getD_map_range' hi, getD_map_range' hi]; exact (Ints.nil_ w).mono (Nat.le_refl 0) (Nat.zero_le _)
theorem rowss_of_trod {t e q r : TypeId} (ht : P.underlying t = some (.slice e)) (he : P.underlying e = some (.slice q)) (hq : P.underlying q = some (.slice r)) (hr : P.underlying r = some (.int .i64)) (ce : P.cellsOf e = 1) (cq : P.cellsOf q = 1) (cr : P.cellsOf r = 1)
    (h : DataW.trod enc P w base (fun _ => true) held fuel t [v] = some x) : ∃ us uss xsss, Rowss 0 w.heap.size w v us uss xsss := by
  rcases open_slice1 ht ce h with ⟨hcs, _⟩ | ⟨a, len, cap, m, n, V, D, Pl, hcs, _, hl, hm, hmm, _, hx⟩
  · have : v = nilv := by simpa using hcs
    subst this
    exact ⟨[], [], [], ⟨⟨none, 0, rfl, Nat.le_refl _, by omega, fun k u hu => by simp at hu⟩⟩, rfl, rfl, fun i => by simpa using Rows.nil_ w⟩
  · have : v = .slice (some a) len cap := by simpa using hcs
    subst this
    simp only [if_true] at hmm
    have hlm : len ≤ m := by omega
    obtain ⟨X, hX⟩ := choose_lt (α := List Value × List (List Int)) (n := len) (p := fun i y => Rows 0 w.heap.size w (V i) y.1 y.2) fun i hi => by
      obtain ⟨us, xss, hR⟩ := rows_of_trod he hq hr cq cr (hx i (by omega)).2
      exact ⟨(us, xss), hR⟩
    refine ⟨(List.range len).map V, (List.range len).map fun i => (X i).1, (List.range len).map fun i => (X i).2, sl_of hl hm hlm fun i hi => (hx i hi).1, by simp, by simp, fun i => ?_⟩
    by_cases hi : i < len
    · rw [getD_map_range hi, getD_map_range hi, getD_map_range hi]; exact hX i hi
    · rw [getD_map_range' hi, getD_map_range' hi, getD_map_range' hi]; exact Rows.nil_ w
end
end Go.Pc
