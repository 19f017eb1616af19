/-
  Texts of one proof, put together by program: I08, I08b, I08c, I08d, I08e, I12, I12b, I12c.
  Conditions: those told at each part.
-/
import Derived.Test.YtjcmdmjlhngjcaaB4
set_option linter.unusedVariables false
set_option linter.unusedSimpArgs false
set_option linter.unusedSectionVars false
set_option linter.constructorNameAsVariable false
set_option linter.unnecessarySimpa false
set_option linter.deprecated false
/-
  Walks: the program's products in place (timesGenerator, timesVector).
  Conditions: the tail at the level is a group; the vector written is the call's own and lies apart from what is read.
-/
namespace Go.Proofs.Ytjcmdmjlhngjcaa
open Go Go.Pc
def TGSpec (p : Pr) (j : Nat) : Prop := ∀ {i : Nat} [Con p i] {w : World} {vp ve : Value} {te b : Nat} {kj : Int} {x : T p i} {xs : List Int} {lo hi : Nat} [PresP lo hi w vp p] [OwnI te b w ve xs] [Apart lo hi b],
  i ≤ j → j < p.n → kj = j → xs = x.v → Calls Try.prog 81 #[vp, ve, .int .i64 kj] w (Ret fun _ w' => Chg b w w' ∧ OwnI te b w' ve (x * gOf p i j).v)
def TVSpec (p : Pr) (j : Nat) : Prop := ∀ {i : Nat} [Con p i] {w : World} {vp ve vf : Value} {te b : Nat} {x y : T p i} {xs ys : List Int} {lo hi lo1 hi1 : Nat} [PresP lo hi w vp p] [OwnI te b w ve xs] [Ints lo1 hi1 w vf ys] [Apart lo hi b] [Apart lo1 hi1 b],
  i ≤ p.n → xs = x.v → ys = y.v → ZU j ys → Calls Try.prog 77 #[vp, ve, vf] w (Ret fun _ w' => Chg b w w' ∧ OwnI te b w' ve (x * y).v)
set_option maxHeartbeats 1000000 in
theorem tv_of_tg {p : Pr} {j : Nat} (htg : ∀ k, j ≤ k → TGSpec p k) : TVSpec p j := by
  intro i hcon w vp ve vf te b x y xs ys lo hi lo1 hi1 hp ho hf ha1 ha2 hin hxs hys hz
  subst hxs hys
  have hv := hcon.valid
  have hn6 := hv.n6
  have hyl := y.inr.len
  refine enter (args := [vp, ve, vf]) (l := []) Try.func77 rfl rfl Try.ntmps77 (by simp) ?_
  repeat (first | (show rops _ _ _ _ (_ :: _) _ _; first | refine ra (next := ?_) | refine rk (next := ?_) | refine rku (next := ?_)) | refine st_end ?_ | refine thn_normal ?_ | refine r_seq ?_ | refine r_region rfl ?_ | refine thn_exit ?_ | refine thn_ret ?_ | refine inBlk_normal ?_ | refine inBlk_ret ?_ | refine inBlk_hit ?_ | refine inBlk_miss (by decide) ?_ | refine forQ_exit ?_ | refine forQ_ret ?_ | refine loopQ_exit ?_ | refine loopQ_ret ?_ | refine r_block ?_ | refine r_skip ?_ | refine r_exit ?_ | refine r_ret ?_ | (show rwp _ _ (.cond _ _ _) _ _ _; first | refine c_t (h := ?_) | refine c_f (h := ?_)))
  refine r_for p.n (fun k ρ w' => ∃ xs', Has ρ [(0, vp), (1, ve), (8, vf), (9, .int .i64 y.v.length), (10, .int .i64 k)] ∧ Chg b w w' ∧ OwnI te b w' ve xs' ∧ xs' = (x * phi (gOf p i) y.v 0 k).v) ?_ ?_
  · refine ⟨x.v, ?_, Chg.refl b w, ho, ?_⟩
    · ((try simp only [Has, ev_tmp, ev_const, ev_func, get_put, get_args, get_putL, get_putL_nil, Nat.reduceEqDiff, reduceIte, List.getD_cons_zero, List.getD_cons_succ, List.getD_nil]); repeat' (first | exact True.intro | apply And.intro | with_reducible rfl | exact int_congr (by first | omega | rfl)))
    · show _ = (x * 1).v
      rw [Grp.mul_one]
  rintro k ρ w2 hk ⟨xs', hH, hc2, ho2, hx2⟩
  refine rwp_has hH fun ρ0 => ?_
  repeat (first | (show rops _ _ _ _ (_ :: _) _ _; first | refine ra (next := ?_) | refine rk (next := ?_) | refine rku (next := ?_)) | refine st_end ?_ | refine thn_normal ?_ | refine r_seq ?_ | refine r_region rfl ?_ | refine thn_exit ?_ | refine thn_ret ?_ | refine inBlk_normal ?_ | refine inBlk_ret ?_ | refine inBlk_hit ?_ | refine inBlk_miss (by decide) ?_ | refine forQ_exit ?_ | refine forQ_ret ?_ | refine loopQ_exit ?_ | refine loopQ_ret ?_ | refine r_block ?_ | refine r_skip ?_ | refine r_exit ?_ | refine r_ret ?_ | (show rwp _ _ (.cond _ _ _) _ _ _; first | refine c_t (h := ?_) | refine c_f (h := ?_)))
  refine c_if (fun h4 => ?_) (fun h4 => ?_)
  · have hkn : k < p.n := by omega
    have hyk := y.inr.rng k hkn
    have hok := hv.opos hkn
    repeat (first | (show rops _ _ _ _ (_ :: _) _ _; first | refine ra (next := ?_) | refine rk (next := ?_) | refine rku (next := ?_)) | refine st_end ?_ | refine thn_normal ?_ | refine r_seq ?_ | refine r_region rfl ?_ | refine thn_exit ?_ | refine thn_ret ?_ | refine inBlk_normal ?_ | refine inBlk_ret ?_ | refine inBlk_hit ?_ | refine inBlk_miss (by decide) ?_ | refine forQ_exit ?_ | refine forQ_ret ?_ | refine loopQ_exit ?_ | refine loopQ_ret ?_ | refine r_block ?_ | refine r_skip ?_ | refine r_exit ?_ | refine r_ret ?_ | (show rwp _ _ (.cond _ _ _) _ _ _; first | refine c_t (h := ?_) | refine c_f (h := ?_)))
    refine r_for (y.v.getD k 0).toNat (fun q ρ w' => ∃ xs', Has ρ [(0, vp), (1, ve), (8, vf), (9, .int .i64 y.v.length), (10, .int .i64 k), (6, .int .i64 k), (15, .int .i64 (y.v.getD k 0)), (16, .int .i64 q)] ∧ Chg b w w' ∧ OwnI te b w' ve xs' ∧ xs' = (x * phi (gOf p i) y.v 0 k * Grp.pw (gOf p i k) q).v) ?_ ?_
    · refine ⟨xs', ?_, hc2, ho2, ?_⟩
      · ((try simp only [Has, ev_tmp, ev_const, ev_func, get_put, get_args, get_putL, get_putL_nil, Nat.reduceEqDiff, reduceIte, List.getD_cons_zero, List.getD_cons_succ, List.getD_nil]); repeat' (first | exact True.intro | apply And.intro | with_reducible rfl | exact int_congr (by first | omega | rfl)))
      · rw [Grp.pw_zero, Grp.mul_one]; exact hx2
    clear hc2 ho2
    rintro q ρ w3 hq ⟨xs3, hH3, hc3, ho3, hx3⟩
    refine rwp_has hH3 fun ρ1 => ?_
    repeat (first | (show rops _ _ _ _ (_ :: _) _ _; first | refine ra (next := ?_) | refine rk (next := ?_) | refine rku (next := ?_)) | refine st_end ?_ | refine thn_normal ?_ | refine r_seq ?_ | refine r_region rfl ?_ | refine thn_exit ?_ | refine thn_ret ?_ | refine inBlk_normal ?_ | refine inBlk_ret ?_ | refine inBlk_hit ?_ | refine inBlk_miss (by decide) ?_ | refine forQ_exit ?_ | refine forQ_ret ?_ | refine loopQ_exit ?_ | refine loopQ_ret ?_ | refine r_block ?_ | refine r_skip ?_ | refine r_exit ?_ | refine r_ret ?_ | (show rwp _ _ (.cond _ _ _) _ _ _; first | refine c_t (h := ?_) | refine c_f (h := ?_)))
    refine c_if (fun h5 => ?_) (fun h5 => ?_)
    · have hik : i ≤ k := by
        by_cases h : i ≤ k
        · exact h
        · have := y.zu k (by omega); omega
      have hjk : j ≤ k := by
        by_cases h : j ≤ k
        · exact h
        · have := hz k (by omega); omega
      repeat (first | (show rops _ _ _ _ (_ :: _) _ _; first | refine ra (next := ?_) | refine rk (next := ?_) | refine rku (next := ?_)) | refine st_end ?_ | refine thn_normal ?_ | refine r_seq ?_ | refine r_region rfl ?_ | refine thn_exit ?_ | refine thn_ret ?_ | refine inBlk_normal ?_ | refine inBlk_ret ?_ | refine inBlk_hit ?_ | refine inBlk_miss (by decide) ?_ | refine forQ_exit ?_ | refine forQ_ret ?_ | refine loopQ_exit ?_ | refine loopQ_ret ?_ | refine r_block ?_ | refine r_skip ?_ | refine r_exit ?_ | refine r_ret ?_ | (show rwp _ _ (.cond _ _ _) _ _ _; first | refine c_t (h := ?_) | refine c_f (h := ?_)))
      refine rc (htg k hjk (x := x * phi (gOf p i) y.v 0 k * Grp.pw (gOf p i k) q) hik hkn rfl hx3) (next := fun v4 w4 h4 => ?_)
      obtain ⟨hc4, ho4⟩ := h4
      repeat (first | (show rops _ _ _ _ (_ :: _) _ _; first | refine ra (next := ?_) | refine rk (next := ?_) | refine rku (next := ?_)) | refine st_end ?_ | refine thn_normal ?_ | refine r_seq ?_ | refine r_region rfl ?_ | refine thn_exit ?_ | refine thn_ret ?_ | refine inBlk_normal ?_ | refine inBlk_ret ?_ | refine inBlk_hit ?_ | refine inBlk_miss (by decide) ?_ | refine forQ_exit ?_ | refine forQ_ret ?_ | refine loopQ_exit ?_ | refine loopQ_ret ?_ | refine r_block ?_ | refine r_skip ?_ | refine r_exit ?_ | refine r_ret ?_ | (show rwp _ _ (.cond _ _ _) _ _ _; first | refine c_t (h := ?_) | refine c_f (h := ?_)))
      refine forQ_normal (by omega) ⟨_, ?_, hc3.trans hc4, ho4, ?_⟩
      · ((try simp only [Has, ev_tmp, ev_const, ev_func, get_put, get_args, get_putL, get_putL_nil, Nat.reduceEqDiff, reduceIte, List.getD_cons_zero, List.getD_cons_succ, List.getD_nil]); repeat' (first | exact True.intro | apply And.intro | with_reducible rfl | exact int_congr (by first | omega | rfl)))
      · rw [Grp.pw_succ, ← Grp.mul_assoc]
    · repeat (first | (show rops _ _ _ _ (_ :: _) _ _; first | refine ra (next := ?_) | refine rk (next := ?_) | refine rku (next := ?_)) | refine st_end ?_ | refine thn_normal ?_ | refine r_seq ?_ | refine r_region rfl ?_ | refine thn_exit ?_ | refine thn_ret ?_ | refine inBlk_normal ?_ | refine inBlk_ret ?_ | refine inBlk_hit ?_ | refine inBlk_miss (by decide) ?_ | refine forQ_exit ?_ | refine forQ_ret ?_ | refine loopQ_exit ?_ | refine loopQ_ret ?_ | refine r_block ?_ | refine r_skip ?_ | refine r_exit ?_ | refine r_ret ?_ | (show rwp _ _ (.cond _ _ _) _ _ _; first | refine c_t (h := ?_) | refine c_f (h := ?_)))
      refine forQ_normal (by omega) ⟨xs3, ?_, hc3, ho3, ?_⟩
      · ((try simp only [Has, ev_tmp, ev_const, ev_func, get_put, get_args, get_putL, get_putL_nil, Nat.reduceEqDiff, reduceIte, List.getD_cons_zero, List.getD_cons_succ, List.getD_nil]); repeat' (first | exact True.intro | apply And.intro | with_reducible rfl | exact int_congr (by first | omega | rfl)))
      · rw [hx3, phi_last, Nat.zero_add, show q = (y.v.getD k 0).toNat by omega, Grp.mul_assoc]
  · obtain rfl : k = p.n := by omega
    repeat (first | (show rops _ _ _ _ (_ :: _) _ _; first | refine ra (next := ?_) | refine rk (next := ?_) | refine rku (next := ?_)) | refine st_end ?_ | refine thn_normal ?_ | refine r_seq ?_ | refine r_region rfl ?_ | refine thn_exit ?_ | refine thn_ret ?_ | refine inBlk_normal ?_ | refine inBlk_ret ?_ | refine inBlk_hit ?_ | refine inBlk_miss (by decide) ?_ | refine forQ_exit ?_ | refine forQ_ret ?_ | refine loopQ_exit ?_ | refine loopQ_ret ?_ | refine r_block ?_ | refine r_skip ?_ | refine r_exit ?_ | refine r_ret ?_ | (show rwp _ _ (.cond _ _ _) _ _ _; first | refine c_t (h := ?_) | refine c_f (h := ?_)))
    refine retQ_0 ⟨hc2, ?_⟩
    rw [phi_all hin] at hx2
    rw [← hx2]; exact ho2
theorem mkE {p : Pr} {i : Nat} [hc : Con p i] (x : T p i) {v : List Int} {j : Nat} (hj : i ≤ j ∧ j < p.n) (hl : v.length = p.n) (hlow : ∀ t, t < j → v.getD t 0 = x.v.getD t 0) (hjv : 0 ≤ v.getD j 0 ∧ v.getD j 0 < p.o j) (hz : ∀ t, j < t → t < p.n → v.getD t 0 = 0) : ∃ e : T p i, e.v = v := by
  refine ⟨⟨v, ⟨hl, fun t ht => ?_⟩, fun t ht => ?_⟩, rfl⟩
  · by_cases h1 : t < j
    · rw [hlow t h1]; exact x.inr.rng t ht
    · by_cases h2 : t = j
      · subst h2; exact hjv
      · rw [hz t (by omega) ht]; have := hc.valid.opos ht; omega
  · rw [hlow t (by omega)]; exact x.zu t ht
set_option maxHeartbeats 2000000 in
theorem tg_of_tv {p : Pr} {j : Nat} (htv : TVSpec p (j + 1)) : TGSpec p j := by
  intro i hcon w vp ve te b kj x xs lo hi hp ho ha hij hjn hkj hxs
  subst hxs hkj
  have hv := hcon.valid
  have hn6 := hv.n6
  have hol : p.ord.length = p.n := rfl
  have hwl : p.pow.length = p.n := hv.lenw
  have hcl : p.cnj.length = p.n := hv.lenc
  have hci := hv.lenci j hjn
  have hxl := x.inr.len
  have hxj := x.inr.rng j hjn
  have hoj := hv.opos hjn
  have hoe : p.ord.getD j 0 = p.o j := rfl
  have hbl := ho.lt
  obtain ⟨g, vo, vpw, vc, ps, cs, css, rfl, hg1, hg2, hc0, hc1, hc2, h1, h2, h3⟩ := hp.ex
  have hag : Apart g (g + 1) b := ⟨by have := ha.out; omega⟩
  refine enter (args := [.pointer (some ⟨g, 0, none⟩), ve, .int .i64 j]) (l := []) Try.func81 rfl rfl Try.ntmps81 (by simp) ?_
  repeat (first | (show rops _ _ _ _ (_ :: _) _ _; first | refine ra (next := ?_) | refine rk (next := ?_) | refine rku (next := ?_)) | refine st_end ?_ | refine thn_normal ?_ | refine r_seq ?_ | refine r_region rfl ?_ | refine thn_exit ?_ | refine thn_ret ?_ | refine inBlk_normal ?_ | refine inBlk_ret ?_ | refine inBlk_hit ?_ | refine inBlk_miss (by decide) ?_ | refine forQ_exit ?_ | refine forQ_ret ?_ | refine loopQ_exit ?_ | refine loopQ_ret ?_ | refine r_block ?_ | refine r_skip ?_ | refine r_exit ?_ | refine r_ret ?_ | (show rwp _ _ (.cond _ _ _) _ _ _; first | refine c_t (h := ?_) | refine c_f (h := ?_)))
  have hints : Ints b (b + 1) w ve x.v := inferInstance
  have hcut := hints.cut (l := j + 1) (k := x.v.length) (by omega) (Nat.le_refl _)
  have hdl : ((x.v.take x.v.length).drop (j + 1)).length = p.n - (j + 1) := by simp [hxl]
  have hdg : ∀ k, ((x.v.take x.v.length).drop (j + 1)).getD k 0 = x.v.getD (j + 1 + k) 0 := fun k => by simp
  refine rc (cloneI_ok (xs := (x.v.take x.v.length).drop (j + 1)) ?_) (next := fun v1 w1 h4 => ?_)
  · omega
  obtain ⟨he1, hf1⟩ := h4
  generalize (x.v.take x.v.length).drop (j + 1) = rest at hcut hdl hdg hf1
  have hfi := hf1.ints
  have ha1 : Apart w.heap.size w1.heap.size b := ⟨.inl hbl⟩
  have ho1 : OwnI te b w1 ve x.v := inferInstance
  repeat (first | (show rops _ _ _ _ (_ :: _) _ _; first | refine ra (next := ?_) | refine rk (next := ?_) | refine rku (next := ?_)) | refine st_end ?_ | refine thn_normal ?_ | refine r_seq ?_ | refine r_region rfl ?_ | refine thn_exit ?_ | refine thn_ret ?_ | refine inBlk_normal ?_ | refine inBlk_ret ?_ | refine inBlk_hit ?_ | refine inBlk_miss (by decide) ?_ | refine forQ_exit ?_ | refine forQ_ret ?_ | refine loopQ_exit ?_ | refine loopQ_ret ?_ | refine r_block ?_ | refine r_skip ?_ | refine r_exit ?_ | refine r_ret ?_ | (show rwp _ _ (.cond _ _ _) _ _ _; first | refine c_t (h := ?_) | refine c_f (h := ?_)))
  refine r_for (p.n - (j + 1)) (fun k ρ w' => ∃ xs', Has ρ [(0, .pointer (some ⟨g, 0, none⟩)), (1, ve), (2, .int .i64 j), (6, v1), (16, .int .i64 rest.length), (17, .int .i64 k)] ∧ Chg b w1 w' ∧ OwnI te b w' ve xs' ∧ xs'.length = p.n ∧
    ∀ t, xs'.getD t 0 = if j + 1 ≤ t ∧ t < j + 1 + k then 0 else x.v.getD t 0) ?_ ?_
  · refine ⟨x.v, ?_, Chg.refl b w1, ho1, hxl, fun t => by rw [if_neg (by omega)]⟩
    ((try simp only [Has, ev_tmp, ev_const, ev_func, get_put, get_args, get_putL, get_putL_nil, Nat.reduceEqDiff, reduceIte, List.getD_cons_zero, List.getD_cons_succ, List.getD_nil]); repeat' (first | exact True.intro | apply And.intro | with_reducible rfl | exact int_congr (by first | omega | rfl)))
  clear ho1
  rintro k ρ w2 hk ⟨xs2, hH2, hch2, ho2, hl2, hx2⟩
  refine rwp_has hH2 fun ρ0 => ?_
  repeat (first | (show rops _ _ _ _ (_ :: _) _ _; first | refine ra (next := ?_) | refine rk (next := ?_) | refine rku (next := ?_)) | refine st_end ?_ | refine thn_normal ?_ | refine r_seq ?_ | refine r_region rfl ?_ | refine thn_exit ?_ | refine thn_ret ?_ | refine inBlk_normal ?_ | refine inBlk_ret ?_ | refine inBlk_hit ?_ | refine inBlk_miss (by decide) ?_ | refine forQ_exit ?_ | refine forQ_ret ?_ | refine loopQ_exit ?_ | refine loopQ_ret ?_ | refine r_block ?_ | refine r_skip ?_ | refine r_exit ?_ | refine r_ret ?_ | (show rwp _ _ (.cond _ _ _) _ _ _; first | refine c_t (h := ?_) | refine c_f (h := ?_)))
  refine c_if (fun h4 => ?_) (fun h4 => ?_)
  · repeat (first | (show rops _ _ _ _ (_ :: _) _ _; first | refine ra (next := ?_) | refine rk (next := ?_) | refine rku (next := ?_)) | refine st_end ?_ | refine thn_normal ?_ | refine r_seq ?_ | refine r_region rfl ?_ | refine thn_exit ?_ | refine thn_ret ?_ | refine inBlk_normal ?_ | refine inBlk_ret ?_ | refine inBlk_hit ?_ | refine inBlk_miss (by decide) ?_ | refine forQ_exit ?_ | refine forQ_ret ?_ | refine loopQ_exit ?_ | refine loopQ_ret ?_ | refine r_block ?_ | refine r_skip ?_ | refine r_exit ?_ | refine r_ret ?_ | (show rwp _ _ (.cond _ _ _) _ _ _; first | refine c_t (h := ?_) | refine c_f (h := ?_)))
    refine st_store_int (by ((try simp only [ev_tmp, ev_const, ev_func, get_put, get_args, get_putL, get_putL_nil, Nat.reduceEqDiff, reduceIte, List.getD_cons_zero, List.getD_cons_succ, List.getD_nil]); first | done | with_reducible rfl)) (by ((try simp only [ev_tmp, ev_const, ev_func, get_put, get_args, get_putL, get_putL_nil, Nat.reduceEqDiff, reduceIte, List.getD_cons_zero, List.getD_cons_succ, List.getD_nil]); first | done | with_reducible rfl)) ?_ (by first | exact True.intro | exact ⟨_, rfl, by ((try simp only [ev_tmp, ev_const, ev_func, get_put, get_args, get_putL, get_putL_nil, Nat.reduceEqDiff, reduceIte, List.getD_cons_zero, List.getD_cons_succ, List.getD_nil, Bool.not_true, Bool.not_false]); first | done | with_reducible rfl)⟩) fun w3 hch3 hs3 ho3 => ?_
    · omega
    repeat (first | (show rops _ _ _ _ (_ :: _) _ _; first | refine ra (next := ?_) | refine rk (next := ?_) | refine rku (next := ?_)) | refine st_end ?_ | refine thn_normal ?_ | refine r_seq ?_ | refine r_region rfl ?_ | refine thn_exit ?_ | refine thn_ret ?_ | refine inBlk_normal ?_ | refine inBlk_ret ?_ | refine inBlk_hit ?_ | refine inBlk_miss (by decide) ?_ | refine forQ_exit ?_ | refine forQ_ret ?_ | refine loopQ_exit ?_ | refine loopQ_ret ?_ | refine r_block ?_ | refine r_skip ?_ | refine r_exit ?_ | refine r_ret ?_ | (show rwp _ _ (.cond _ _ _) _ _ _; first | refine c_t (h := ?_) | refine c_f (h := ?_)))
    refine forQ_normal (by omega) ⟨xs2.set (j + 1 + k) 0, ?_, hch2.trans hch3, ho3, by simp [hl2], fun t => ?_⟩
    · ((try simp only [Has, ev_tmp, ev_const, ev_func, get_put, get_args, get_putL, get_putL_nil, Nat.reduceEqDiff, reduceIte, List.getD_cons_zero, List.getD_cons_succ, List.getD_nil]); repeat' (first | exact True.intro | apply And.intro | with_reducible rfl | exact int_congr (by first | omega | rfl)))
    · by_cases e : j + 1 + k = t
      · subst e; rw [Pc.getD_set_eq _ _ _ (by omega), if_pos (by omega)]
      · rw [Pc.getD_set_ne _ _ _ _ e, hx2 t]
        by_cases h : j + 1 ≤ t ∧ t < j + 1 + k
        · rw [if_pos h, if_pos (by omega)]
        · rw [if_neg h, if_neg (by omega)]
  · have hk' : k = p.n - (j + 1) := by omega
    subst hk'
    have hlow2 : ∀ t, t < j + 1 → xs2.getD t 0 = x.v.getD t 0 := fun t ht => by rw [hx2, if_neg (by omega)]
    have hz2 : ∀ t, j < t → t < p.n → xs2.getD t 0 = 0 := fun t h1 h2 => by rw [hx2, if_pos (by omega)]
    have hj2 := hlow2 j (by omega)
    clear hx2
    repeat (first | (show rops _ _ _ _ (_ :: _) _ _; first | refine ra (next := ?_) | refine rk (next := ?_) | refine rku (next := ?_)) | refine st_end ?_ | refine thn_normal ?_ | refine r_seq ?_ | refine r_region rfl ?_ | refine thn_exit ?_ | refine thn_ret ?_ | refine inBlk_normal ?_ | refine inBlk_ret ?_ | refine inBlk_hit ?_ | refine inBlk_miss (by decide) ?_ | refine forQ_exit ?_ | refine forQ_ret ?_ | refine loopQ_exit ?_ | refine loopQ_ret ?_ | refine r_block ?_ | refine r_skip ?_ | refine r_exit ?_ | refine r_ret ?_ | (show rwp _ _ (.cond _ _ _) _ _ _; first | refine c_t (h := ?_) | refine c_f (h := ?_)))
    refine st_store_int (by ((try simp only [ev_tmp, ev_const, ev_func, get_put, get_args, get_putL, get_putL_nil, Nat.reduceEqDiff, reduceIte, List.getD_cons_zero, List.getD_cons_succ, List.getD_nil]); first | done | with_reducible rfl)) (by ((try simp only [ev_tmp, ev_const, ev_func, get_put, get_args, get_putL, get_putL_nil, Nat.reduceEqDiff, reduceIte, List.getD_cons_zero, List.getD_cons_succ, List.getD_nil]); first | done | with_reducible rfl)) ?_ (by first | exact True.intro | exact ⟨_, rfl, by ((try simp only [ev_tmp, ev_const, ev_func, get_put, get_args, get_putL, get_putL_nil, Nat.reduceEqDiff, reduceIte, List.getD_cons_zero, List.getD_cons_succ, List.getD_nil, Bool.not_true, Bool.not_false]); first | done | with_reducible rfl)⟩) fun w3 hch3 hs3 ho3 => ?_
    · omega
    have hch3' := hch2.trans hch3
    have hl3 : (xs2.set j (xs2.getD j 0 + 1)).length = p.n := by simp [hl2]
    have hj3 : (xs2.set j (xs2.getD j 0 + 1)).getD j 0 = x.v.getD j 0 + 1 := by rw [Pc.getD_set_eq _ _ _ (by omega), hj2]
    have hlow3 : ∀ t, t < j → (xs2.set j (xs2.getD j 0 + 1)).getD t 0 = x.v.getD t 0 := fun t ht => by rw [Pc.getD_set_ne _ _ _ _ (by omega), hlow2 t (by omega)]
    have hz3 : ∀ t, j < t → t < p.n → (xs2.set j (xs2.getD j 0 + 1)).getD t 0 = 0 := fun t h1 h2 => by rw [Pc.getD_set_ne _ _ _ _ (by omega), hz2 t h1 h2]
    generalize xs2.set j (xs2.getD j 0 + 1) = xs3 at ho3 hl3 hj3 hlow3 hz3
    clear ho2 hch2 hch3
    have hch0 : Chg b w w3 := hch3'.pre he1 hbl
    repeat (first | (show rops _ _ _ _ (_ :: _) _ _; first | refine ra (next := ?_) | refine rk (next := ?_) | refine rku (next := ?_)) | refine st_end ?_ | refine thn_normal ?_ | refine r_seq ?_ | refine r_region rfl ?_ | refine thn_exit ?_ | refine thn_ret ?_ | refine inBlk_normal ?_ | refine inBlk_ret ?_ | refine inBlk_hit ?_ | refine inBlk_miss (by decide) ?_ | refine forQ_exit ?_ | refine forQ_ret ?_ | refine loopQ_exit ?_ | refine loopQ_ret ?_ | refine r_block ?_ | refine r_skip ?_ | refine r_exit ?_ | refine r_ret ?_ | (show rwp _ _ (.cond _ _ _) _ _ _; first | refine c_t (h := ?_) | refine c_f (h := ?_)))
    refine d_region fun w4 he4 _ => ?_
    repeat (first | refine da (next := ?_) | refine dsk (next := ?_) | refine dsku (next := ?_))
    refine d_end (h := ?_)
    have hch4 : Chg b w1 w4 := hch3'.grow he4
    have ho4 : OwnI te b w4 ve xs3 := inferInstance
    clear ho3
    repeat (first | (show rops _ _ _ _ (_ :: _) _ _; first | refine ra (next := ?_) | refine rk (next := ?_) | refine rku (next := ?_)) | refine st_end ?_ | refine thn_normal ?_ | refine r_seq ?_ | refine r_region rfl ?_ | refine thn_exit ?_ | refine thn_ret ?_ | refine inBlk_normal ?_ | refine inBlk_ret ?_ | refine inBlk_hit ?_ | refine inBlk_miss (by decide) ?_ | refine forQ_exit ?_ | refine forQ_ret ?_ | refine loopQ_exit ?_ | refine loopQ_ret ?_ | refine r_block ?_ | refine r_skip ?_ | refine r_exit ?_ | refine r_ret ?_ | (show rwp _ _ (.cond _ _ _) _ _ _; first | refine c_t (h := ?_) | refine c_f (h := ?_)))
    refine rwp_mono (Q := onK fun ρ w' => ∃ xs' e, Has ρ [(0, .pointer (some ⟨g, 0, none⟩)), (1, ve), (2, .int .i64 j), (6, v1)] ∧ Chg b w1 w' ∧ OwnI te b w' ve xs' ∧ xs' = T.v (p := p) (i := i) e ∧ e * phi (cIn p i j) x.v (j + 1) (p.n - (j + 1)) = x * gOf p i j) ?_ ?_
    · refine c_if (fun h5 => ?_) (fun h5 => ?_)
      · repeat (first | (show rops _ _ _ _ (_ :: _) _ _; first | refine ra (next := ?_) | refine rk (next := ?_) | refine rku (next := ?_)) | refine st_end ?_ | refine thn_normal ?_ | refine r_seq ?_ | refine r_region rfl ?_ | refine thn_exit ?_ | refine thn_ret ?_ | refine inBlk_normal ?_ | refine inBlk_ret ?_ | refine inBlk_hit ?_ | refine inBlk_miss (by decide) ?_ | refine forQ_exit ?_ | refine forQ_ret ?_ | refine loopQ_exit ?_ | refine loopQ_ret ?_ | refine r_block ?_ | refine r_skip ?_ | refine r_exit ?_ | refine r_ret ?_ | (show rwp _ _ (.cond _ _ _) _ _ _; first | refine c_t (h := ?_) | refine c_f (h := ?_)))
        refine st_store_int (by ((try simp only [ev_tmp, ev_const, ev_func, get_put, get_args, get_putL, get_putL_nil, Nat.reduceEqDiff, reduceIte, List.getD_cons_zero, List.getD_cons_succ, List.getD_nil]); first | done | with_reducible rfl)) (by ((try simp only [ev_tmp, ev_const, ev_func, get_put, get_args, get_putL, get_putL_nil, Nat.reduceEqDiff, reduceIte, List.getD_cons_zero, List.getD_cons_succ, List.getD_nil]); first | done | with_reducible rfl)) ?_ (by first | exact True.intro | exact ⟨_, rfl, by ((try simp only [ev_tmp, ev_const, ev_func, get_put, get_args, get_putL, get_putL_nil, Nat.reduceEqDiff, reduceIte, List.getD_cons_zero, List.getD_cons_succ, List.getD_nil, Bool.not_true, Bool.not_false]); first | done | with_reducible rfl)⟩) fun w5 hch5 hs5 ho5 => ?_
        · omega
        have hj5 : (xs3.set j 0).getD j 0 = 0 := Pc.getD_set_eq _ _ _ (by omega)
        have hlow5 : ∀ t, t < j → (xs3.set j 0).getD t 0 = x.v.getD t 0 := fun t ht => by rw [Pc.getD_set_ne _ _ _ _ (by omega), hlow3 t ht]
        have hz5 : ∀ t, j < t → t < p.n → (xs3.set j 0).getD t 0 = 0 := fun t h1 h2 => by rw [Pc.getD_set_ne _ _ _ _ (by omega), hz3 t h1 h2]
        obtain ⟨e, he⟩ := mkE x (v := xs3.set j 0) ⟨hij, hjn⟩ (by simp [hl3]) hlow5 (by rw [hj5]; omega) hz5
        rw [← he] at hj5 hlow5 hz5
        have hch15 : Chg b w1 w5 := hch4.trans hch5
        have hch05 : Chg b w w5 := hch15.pre he1 hbl
        clear ho4 hch5
        repeat (first | (show rops _ _ _ _ (_ :: _) _ _; first | refine ra (next := ?_) | refine rk (next := ?_) | refine rku (next := ?_)) | refine st_end ?_ | refine thn_normal ?_ | refine r_seq ?_ | refine r_region rfl ?_ | refine thn_exit ?_ | refine thn_ret ?_ | refine inBlk_normal ?_ | refine inBlk_ret ?_ | refine inBlk_hit ?_ | refine inBlk_miss (by decide) ?_ | refine forQ_exit ?_ | refine forQ_ret ?_ | refine loopQ_exit ?_ | refine loopQ_ret ?_ | refine r_block ?_ | refine r_skip ?_ | refine r_exit ?_ | refine r_ret ?_ | (show rwp _ _ (.cond _ _ _) _ _ _; first | refine c_t (h := ?_) | refine c_f (h := ?_)))
        refine rc (htv (x := e) (y := Tw' hv ⟨hij, hjn⟩) (by omega) he.symm rfl (hv.w_zu j hjn)) (next := fun v6 w6 h6 => ?_)
        obtain ⟨hch6, ho6⟩ := h6
        repeat (first | (show rops _ _ _ _ (_ :: _) _ _; first | refine ra (next := ?_) | refine rk (next := ?_) | refine rku (next := ?_)) | refine st_end ?_ | refine thn_normal ?_ | refine r_seq ?_ | refine r_region rfl ?_ | refine thn_exit ?_ | refine thn_ret ?_ | refine inBlk_normal ?_ | refine inBlk_ret ?_ | refine inBlk_hit ?_ | refine inBlk_miss (by decide) ?_ | refine forQ_exit ?_ | refine forQ_ret ?_ | refine loopQ_exit ?_ | refine loopQ_ret ?_ | refine r_block ?_ | refine r_skip ?_ | refine r_exit ?_ | refine r_ret ?_ | (show rwp _ _ (.cond _ _ _) _ _ _; first | refine c_t (h := ?_) | refine c_f (h := ?_)))
        refine onK_normal ⟨_, e * Tw' hv ⟨hij, hjn⟩, ?_, hch15.trans hch6, ho6, rfl, tg_eq ⟨hij, hjn⟩ hlow5 hz5 hj5 (by omega)⟩
        ((try simp only [Has, ev_tmp, ev_const, ev_func, get_put, get_args, get_putL, get_putL_nil, Nat.reduceEqDiff, reduceIte, List.getD_cons_zero, List.getD_cons_succ, List.getD_nil]); repeat' (first | exact True.intro | apply And.intro | with_reducible rfl | exact int_congr (by first | omega | rfl)))
      · repeat (first | (show rops _ _ _ _ (_ :: _) _ _; first | refine ra (next := ?_) | refine rk (next := ?_) | refine rku (next := ?_)) | refine st_end ?_ | refine thn_normal ?_ | refine r_seq ?_ | refine r_region rfl ?_ | refine thn_exit ?_ | refine thn_ret ?_ | refine inBlk_normal ?_ | refine inBlk_ret ?_ | refine inBlk_hit ?_ | refine inBlk_miss (by decide) ?_ | refine forQ_exit ?_ | refine forQ_ret ?_ | refine loopQ_exit ?_ | refine loopQ_ret ?_ | refine r_block ?_ | refine r_skip ?_ | refine r_exit ?_ | refine r_ret ?_ | (show rwp _ _ (.cond _ _ _) _ _ _; first | refine c_t (h := ?_) | refine c_f (h := ?_)))
        obtain ⟨e, he⟩ := mkE x (v := xs3) ⟨hij, hjn⟩ hl3 hlow3 (by omega) hz3
        rw [← he] at hj3 hlow3 hz3
        refine onK_normal ⟨_, e, ?_, hch4, ho4, he.symm, tg_lt ⟨hij, hjn⟩ hlow3 hz3 hj3⟩
        ((try simp only [Has, ev_tmp, ev_const, ev_func, get_put, get_args, get_putL, get_putL_nil, Nat.reduceEqDiff, reduceIte, List.getD_cons_zero, List.getD_cons_succ, List.getD_nil]); repeat' (first | exact True.intro | apply And.intro | with_reducible rfl | exact int_congr (by first | omega | rfl)))
    · intro ex ρ w5 hK
      cases ex with
      | normal =>
        obtain ⟨xs5, e, hH5, hch5, ho5, hx5, hE⟩ := hK
        clear ho4 hch4 hch3' hch0
        refine thn_normal (rwp_has hH5 fun ρ1 => ?_)
        repeat (first | (show rops _ _ _ _ (_ :: _) _ _; first | refine ra (next := ?_) | refine rk (next := ?_) | refine rku (next := ?_)) | refine st_end ?_ | refine thn_normal ?_ | refine r_seq ?_ | refine r_region rfl ?_ | refine thn_exit ?_ | refine thn_ret ?_ | refine inBlk_normal ?_ | refine inBlk_ret ?_ | refine inBlk_hit ?_ | refine inBlk_miss (by decide) ?_ | refine forQ_exit ?_ | refine forQ_ret ?_ | refine loopQ_exit ?_ | refine loopQ_ret ?_ | refine r_block ?_ | refine r_skip ?_ | refine r_exit ?_ | refine r_ret ?_ | (show rwp _ _ (.cond _ _ _) _ _ _; first | refine c_t (h := ?_) | refine c_f (h := ?_)))
        refine r_for (p.n - (j + 1)) (fun k ρ w' => ∃ xs', Has ρ [(0, .pointer (some ⟨g, 0, none⟩)), (1, ve), (2, .int .i64 j), (58, v1), (59, .int .i64 rest.length), (60, .int .i64 k)] ∧ Chg b w1 w' ∧ OwnI te b w' ve xs' ∧ xs' = (e * phi (cIn p i j) x.v (j + 1) k).v) ?_ ?_
        · refine ⟨xs5, ?_, hch5, ho5, ?_⟩
          · ((try simp only [Has, ev_tmp, ev_const, ev_func, get_put, get_args, get_putL, get_putL_nil, Nat.reduceEqDiff, reduceIte, List.getD_cons_zero, List.getD_cons_succ, List.getD_nil]); repeat' (first | exact True.intro | apply And.intro | with_reducible rfl | exact int_congr (by first | omega | rfl)))
          · show _ = (e * 1).v
            rw [Grp.mul_one]; exact hx5
        clear ho5 hch5
        rintro k ρ w6 hk ⟨xs6, hH6, hch6, ho6, hx6⟩
        refine rwp_has hH6 fun ρ2 => ?_
        repeat (first | (show rops _ _ _ _ (_ :: _) _ _; first | refine ra (next := ?_) | refine rk (next := ?_) | refine rku (next := ?_)) | refine st_end ?_ | refine thn_normal ?_ | refine r_seq ?_ | refine r_region rfl ?_ | refine thn_exit ?_ | refine thn_ret ?_ | refine inBlk_normal ?_ | refine inBlk_ret ?_ | refine inBlk_hit ?_ | refine inBlk_miss (by decide) ?_ | refine forQ_exit ?_ | refine forQ_ret ?_ | refine loopQ_exit ?_ | refine loopQ_ret ?_ | refine r_block ?_ | refine r_skip ?_ | refine r_exit ?_ | refine r_ret ?_ | (show rwp _ _ (.cond _ _ _) _ _ _; first | refine c_t (h := ?_) | refine c_f (h := ?_)))
        refine c_if (fun h6 => ?_) (fun h6 => ?_)
        · have hkn : j + 1 + k < p.n := by omega
          have hyk := x.inr.rng (j + 1 + k) hkn
          have hok := hv.opos hkn
          have hdk := hdg k
          repeat (first | (show rops _ _ _ _ (_ :: _) _ _; first | refine ra (next := ?_) | refine rk (next := ?_) | refine rku (next := ?_)) | refine st_end ?_ | refine thn_normal ?_ | refine r_seq ?_ | refine r_region rfl ?_ | refine thn_exit ?_ | refine thn_ret ?_ | refine inBlk_normal ?_ | refine inBlk_ret ?_ | refine inBlk_hit ?_ | refine inBlk_miss (by decide) ?_ | refine forQ_exit ?_ | refine forQ_ret ?_ | refine loopQ_exit ?_ | refine loopQ_ret ?_ | refine r_block ?_ | refine r_skip ?_ | refine r_exit ?_ | refine r_ret ?_ | (show rwp _ _ (.cond _ _ _) _ _ _; first | refine c_t (h := ?_) | refine c_f (h := ?_)))
          refine r_for (x.v.getD (j + 1 + k) 0).toNat (fun q ρ w' => ∃ xs', Has ρ [(0, .pointer (some ⟨g, 0, none⟩)), (1, ve), (2, .int .i64 j), (58, v1), (59, .int .i64 rest.length), (60, .int .i64 k), (8, .int .i64 k), (65, .int .i64 (x.v.getD (j + 1 + k) 0)), (66, .int .i64 q)] ∧ Chg b w1 w' ∧ OwnI te b w' ve xs' ∧
            xs' = (e * phi (cIn p i j) x.v (j + 1) k * Grp.pw (cIn p i j (j + 1 + k)) q).v) ?_ ?_
          · refine ⟨xs6, ?_, hch6, ho6, ?_⟩
            · ((try simp only [Has, ev_tmp, ev_const, ev_func, get_put, get_args, get_putL, get_putL_nil, Nat.reduceEqDiff, reduceIte, List.getD_cons_zero, List.getD_cons_succ, List.getD_nil]); repeat' (first | exact True.intro | apply And.intro | with_reducible rfl | exact int_congr (by first | omega | rfl)))
            · rw [Grp.pw_zero, Grp.mul_one]; exact hx6
          clear ho6 hch6
          rintro q ρ w7 hq ⟨xs7, hH7, hch7, ho7, hx7⟩
          refine rwp_has hH7 fun ρ3 => ?_
          have hch07 : Chg b w w7 := hch7.pre he1 hbl
          have hcv : (p.cnj.getD j []).getD k [] = (cIn p i j (j + 1 + k)).v := by
            have : cIn p i j (j + 1 + k) = _ := dif_pos ⟨hij, by omega, hkn⟩
            rw [this]
            show _ = p.c j (j + 1 + k)
            unfold Pr.c
            rw [show j + 1 + k - j - 1 = k by omega]
          repeat (first | (show rops _ _ _ _ (_ :: _) _ _; first | refine ra (next := ?_) | refine rk (next := ?_) | refine rku (next := ?_)) | refine st_end ?_ | refine thn_normal ?_ | refine r_seq ?_ | refine r_region rfl ?_ | refine thn_exit ?_ | refine thn_ret ?_ | refine inBlk_normal ?_ | refine inBlk_ret ?_ | refine inBlk_hit ?_ | refine inBlk_miss (by decide) ?_ | refine forQ_exit ?_ | refine forQ_ret ?_ | refine loopQ_exit ?_ | refine loopQ_ret ?_ | refine r_block ?_ | refine r_skip ?_ | refine r_exit ?_ | refine r_ret ?_ | (show rwp _ _ (.cond _ _ _) _ _ _; first | refine c_t (h := ?_) | refine c_f (h := ?_)))
          refine c_if (fun h7 => ?_) (fun h7 => ?_)
          · have hzc : ZU (j + 1) (cIn p i j (j + 1 + k)).v := by
              have : cIn p i j (j + 1 + k) = _ := dif_pos ⟨hij, by omega, hkn⟩
              rw [this]
              exact hv.c_zu _ _ (by omega) hkn
            repeat (first | (show rops _ _ _ _ (_ :: _) _ _; first | refine ra (next := ?_) | refine rk (next := ?_) | refine rku (next := ?_)) | refine st_end ?_ | refine thn_normal ?_ | refine r_seq ?_ | refine r_region rfl ?_ | refine thn_exit ?_ | refine thn_ret ?_ | refine inBlk_normal ?_ | refine inBlk_ret ?_ | refine inBlk_hit ?_ | refine inBlk_miss (by decide) ?_ | refine forQ_exit ?_ | refine forQ_ret ?_ | refine loopQ_exit ?_ | refine loopQ_ret ?_ | refine r_block ?_ | refine r_skip ?_ | refine r_exit ?_ | refine r_ret ?_ | (show rwp _ _ (.cond _ _ _) _ _ _; first | refine c_t (h := ?_) | refine c_f (h := ?_)))
            refine rc (htv (x := e * phi (cIn p i j) x.v (j + 1) k * Grp.pw (cIn p i j (j + 1 + k)) q) (y := cIn p i j (j + 1 + k)) (by omega) hx7 hcv (by rw [hcv]; exact hzc)) (next := fun v8 w8 h8 => ?_)
            obtain ⟨hch8, ho8⟩ := h8
            repeat (first | (show rops _ _ _ _ (_ :: _) _ _; first | refine ra (next := ?_) | refine rk (next := ?_) | refine rku (next := ?_)) | refine st_end ?_ | refine thn_normal ?_ | refine r_seq ?_ | refine r_region rfl ?_ | refine thn_exit ?_ | refine thn_ret ?_ | refine inBlk_normal ?_ | refine inBlk_ret ?_ | refine inBlk_hit ?_ | refine inBlk_miss (by decide) ?_ | refine forQ_exit ?_ | refine forQ_ret ?_ | refine loopQ_exit ?_ | refine loopQ_ret ?_ | refine r_block ?_ | refine r_skip ?_ | refine r_exit ?_ | refine r_ret ?_ | (show rwp _ _ (.cond _ _ _) _ _ _; first | refine c_t (h := ?_) | refine c_f (h := ?_)))
            refine forQ_normal (by omega) ⟨_, ?_, hch7.trans hch8, ho8, ?_⟩
            · ((try simp only [Has, ev_tmp, ev_const, ev_func, get_put, get_args, get_putL, get_putL_nil, Nat.reduceEqDiff, reduceIte, List.getD_cons_zero, List.getD_cons_succ, List.getD_nil]); repeat' (first | exact True.intro | apply And.intro | with_reducible rfl | exact int_congr (by first | omega | rfl)))
            · rw [Grp.pw_succ, ← Grp.mul_assoc]
          · repeat (first | (show rops _ _ _ _ (_ :: _) _ _; first | refine ra (next := ?_) | refine rk (next := ?_) | refine rku (next := ?_)) | refine st_end ?_ | refine thn_normal ?_ | refine r_seq ?_ | refine r_region rfl ?_ | refine thn_exit ?_ | refine thn_ret ?_ | refine inBlk_normal ?_ | refine inBlk_ret ?_ | refine inBlk_hit ?_ | refine inBlk_miss (by decide) ?_ | refine forQ_exit ?_ | refine forQ_ret ?_ | refine loopQ_exit ?_ | refine loopQ_ret ?_ | refine r_block ?_ | refine r_skip ?_ | refine r_exit ?_ | refine r_ret ?_ | (show rwp _ _ (.cond _ _ _) _ _ _; first | refine c_t (h := ?_) | refine c_f (h := ?_)))
            refine forQ_normal (by omega) ⟨xs7, ?_, hch7, ho7, ?_⟩
            · ((try simp only [Has, ev_tmp, ev_const, ev_func, get_put, get_args, get_putL, get_putL_nil, Nat.reduceEqDiff, reduceIte, List.getD_cons_zero, List.getD_cons_succ, List.getD_nil]); repeat' (first | exact True.intro | apply And.intro | with_reducible rfl | exact int_congr (by first | omega | rfl)))
            · rw [hx7, phi_last, show q = (x.v.getD (j + 1 + k) 0).toNat by omega, Grp.mul_assoc]
        · obtain rfl : k = p.n - (j + 1) := by omega
          repeat (first | (show rops _ _ _ _ (_ :: _) _ _; first | refine ra (next := ?_) | refine rk (next := ?_) | refine rku (next := ?_)) | refine st_end ?_ | refine thn_normal ?_ | refine r_seq ?_ | refine r_region rfl ?_ | refine thn_exit ?_ | refine thn_ret ?_ | refine inBlk_normal ?_ | refine inBlk_ret ?_ | refine inBlk_hit ?_ | refine inBlk_miss (by decide) ?_ | refine forQ_exit ?_ | refine forQ_ret ?_ | refine loopQ_exit ?_ | refine loopQ_ret ?_ | refine r_block ?_ | refine r_skip ?_ | refine r_exit ?_ | refine r_ret ?_ | (show rwp _ _ (.cond _ _ _) _ _ _; first | refine c_t (h := ?_) | refine c_f (h := ?_)))
          refine retQ_0 ⟨hch6.pre he1 hbl, ?_⟩
          rw [hE] at hx6
          rw [← hx6]; exact ho6
      | _ => exact hK.elim
theorem tgv_ok {p : Pr} : ∀ (m j : Nat), p.n - j = m → TGSpec p j ∧ TVSpec p j
  | 0, j, hm => by
    have htg : ∀ k, j ≤ k → TGSpec p k := by
      intro k hk i hcon w vp ve te b kj x xs lo hi hp ho ha hij hjn
      omega
    exact ⟨htg j (Nat.le_refl _), tv_of_tg htg⟩
  | m + 1, j, hm => by
    have ih := tgv_ok (p := p) m (j + 1) (by omega)
    have htg : ∀ k, j ≤ k → TGSpec p k := by
      intro k hk
      by_cases e : k = j
      · subst e; exact tg_of_tv ih.2
      · exact (tgv_ok (p := p) (p.n - k) k rfl).1
    exact ⟨htg j (Nat.le_refl _), tv_of_tg htg⟩
termination_by m => m
decreasing_by all_goals omega
theorem timesGenerator_ok {p : Pr} (j : Nat) : TGSpec p j := (tgv_ok _ j rfl).1
theorem timesVector_ok {p : Pr} (j : Nat) : TVSpec p j := (tgv_ok _ j rfl).2
end Go.Proofs.Ytjcmdmjlhngjcaa

/-
  Walks: the program's products, powers, inverses, conjugates, commutators, images (multiply, power, invert, conjugate, commutator, imageBy, unitVector).
  Conditions: the tail at the level is a group.
-/
namespace Go.Proofs.Ytjcmdmjlhngjcaa
open Go Go.Pc
set_option maxHeartbeats 400000 in
/-- Nothing is multiplied. -/
theorem timesVector0_ok {w : World} {vp ve vf : Value} {lo1 hi1 : Nat} [hf : Ints lo1 hi1 w vf []] : Calls Try.prog 77 #[vp, ve, vf] w (Ret fun _ w' => Ext w w') := by
  refine enter (args := [vp, ve, vf]) (l := []) Try.func77 rfl rfl Try.ntmps77 (by simp) ?_
  repeat (first | (show rops _ _ _ _ (_ :: _) _ _; first | refine ra (next := ?_) | refine rk (next := ?_) | refine rku (next := ?_)) | refine st_end ?_ | refine thn_normal ?_ | refine r_seq ?_ | refine r_region rfl ?_ | refine thn_exit ?_ | refine thn_ret ?_ | refine inBlk_normal ?_ | refine inBlk_ret ?_ | refine inBlk_hit ?_ | refine inBlk_miss (by decide) ?_ | refine forQ_exit ?_ | refine forQ_ret ?_ | refine loopQ_exit ?_ | refine loopQ_ret ?_ | refine r_block ?_ | refine r_skip ?_ | refine r_exit ?_ | refine r_ret ?_ | (show rwp _ _ (.cond _ _ _) _ _ _; first | refine c_t (h := ?_) | refine c_f (h := ?_)))
  refine r_for 0 (fun k ρ w' => Has ρ [(9, .int .i64 ([] : List Int).length), (10, .int .i64 k)] ∧ Ext w w') ?_ ?_
  · refine ⟨?_, Ext.refl _⟩
    ((try simp only [Has, ev_tmp, ev_const, ev_func, get_put, get_args, get_putL, get_putL_nil, Nat.reduceEqDiff, reduceIte, List.getD_cons_zero, List.getD_cons_succ, List.getD_nil]); repeat' (first | exact True.intro | apply And.intro | with_reducible rfl | exact int_congr (by first | omega | rfl)))
  rintro k ρ w2 hk ⟨hH, he2⟩
  refine rwp_has hH fun ρ0 => ?_
  repeat (first | (show rops _ _ _ _ (_ :: _) _ _; first | refine ra (next := ?_) | refine rk (next := ?_) | refine rku (next := ?_)) | refine st_end ?_ | refine thn_normal ?_ | refine r_seq ?_ | refine r_region rfl ?_ | refine thn_exit ?_ | refine thn_ret ?_ | refine inBlk_normal ?_ | refine inBlk_ret ?_ | refine inBlk_hit ?_ | refine inBlk_miss (by decide) ?_ | refine forQ_exit ?_ | refine forQ_ret ?_ | refine loopQ_exit ?_ | refine loopQ_ret ?_ | refine r_block ?_ | refine r_skip ?_ | refine r_exit ?_ | refine r_ret ?_ | (show rwp _ _ (.cond _ _ _) _ _ _; first | refine c_t (h := ?_) | refine c_f (h := ?_)))
  refine c_if (fun h4 => ?_) (fun h4 => ?_)
  · simp at h4
    omega
  · repeat (first | (show rops _ _ _ _ (_ :: _) _ _; first | refine ra (next := ?_) | refine rk (next := ?_) | refine rku (next := ?_)) | refine st_end ?_ | refine thn_normal ?_ | refine r_seq ?_ | refine r_region rfl ?_ | refine thn_exit ?_ | refine thn_ret ?_ | refine inBlk_normal ?_ | refine inBlk_ret ?_ | refine inBlk_hit ?_ | refine inBlk_miss (by decide) ?_ | refine forQ_exit ?_ | refine forQ_ret ?_ | refine loopQ_exit ?_ | refine loopQ_ret ?_ | refine r_block ?_ | refine r_skip ?_ | refine r_exit ?_ | refine r_ret ?_ | (show rwp _ _ (.cond _ _ _) _ _ _; first | refine c_t (h := ?_) | refine c_f (h := ?_)))
    exact retQ_0 he2
section
variable {p : Pr} {i : Nat} [hcon : Con p i]
theorem el0 (hn : p.n = 0) (x : T p i) : x.v = [] := List.eq_nil_of_length_eq_zero (by rw [x.inr.len, hn])
/-- Into a vector of the caller's own, of which the caller's memory ahead of world w0 is apart. -/
theorem timesVectorF_ok {w0 w : World} {vp ve vf : Value} {x y : T p i} {xs ys : List Int} [hp : PresP 0 w0.heap.size w0 vp p] [hf : Ints 0 w0.heap.size w0 vf ys] (he : Ext w0 w) (hx : Fr w0.heap.size w ve xs) (hi : i ≤ p.n) (hxs : xs = x.v) (hys : ys = y.v) :
    Calls Try.prog 77 #[vp, ve, vf] w (Ret fun _ w' => Ext w0 w' ∧ Fr w0.heap.size w' ve (x * y).v) := by
  by_cases hn : p.n = 0
  · have h1 : ys = [] := by rw [hys]; exact el0 hn y
    subst h1
    refine Calls.ret_mono (timesVector0_ok (vf := vf) (lo1 := 0) (hi1 := w0.heap.size)) fun v w' h => ⟨he.trans h, ?_⟩
    rw [el0 hn (x * y), ← el0 hn x, ← hxs]
    exact hx.ext' h
  · obtain ⟨te, b, hb, ho⟩ := hx.own (by intro e; have := x.inr.len; rw [← hxs, e] at this; simp at this; omega)
    have ha : Apart 0 w0.heap.size b := ⟨.inr hb⟩
    refine Calls.ret_mono (timesVector_ok 0 (x := x) (y := y) hi hxs hys (fun k hk => absurd hk (Nat.not_lt_zero _))) fun v w' h => ?_
    exact ⟨h.1.ext he hb, h.2.toFr hb⟩
set_option maxHeartbeats 1000000 in
theorem multiply_ok {w : World} {vp va vb : Value} {x y : T p i} {xs ys : List Int} {lo hi lo1 hi1 lo2 hi2 : Nat} [hp : PresP lo hi w vp p] [hx : Ints lo1 hi1 w va xs] [hy : Ints lo2 hi2 w vb ys] (hi' : i ≤ p.n) (hxs : xs = x.v) (hys : ys = y.v) :
    Calls Try.prog 75 #[vp, va, vb] w (Ret fun v w' => Ext w w' ∧ Fr w.heap.size w' v (x * y).v) := by
  have hn6 := hcon.valid.n6
  replace hp := hp.wide
  replace hy := hy.wide
  refine enter (args := [vp, va, vb]) (l := [.tmp 6]) Try.func75 rfl rfl Try.ntmps75 (by simp) ?_
  repeat (first | (show rops _ _ _ _ (_ :: _) _ _; first | refine ra (next := ?_) | refine rk (next := ?_) | refine rku (next := ?_)) | refine st_end ?_ | refine thn_normal ?_ | refine r_seq ?_ | refine r_region rfl ?_ | refine thn_exit ?_ | refine thn_ret ?_ | refine inBlk_normal ?_ | refine inBlk_ret ?_ | refine inBlk_hit ?_ | refine inBlk_miss (by decide) ?_ | refine forQ_exit ?_ | refine forQ_ret ?_ | refine loopQ_exit ?_ | refine loopQ_ret ?_ | refine r_block ?_ | refine r_skip ?_ | refine r_exit ?_ | refine r_ret ?_ | (show rwp _ _ (.cond _ _ _) _ _ _; first | refine c_t (h := ?_) | refine c_f (h := ?_)))
  refine rc (cloneI_ok (xs := xs) ?_) (next := fun v1 w1 h4 => ?_)
  · rw [hxs, x.inr.len]; omega
  obtain ⟨he1, hf1⟩ := h4
  repeat (first | (show rops _ _ _ _ (_ :: _) _ _; first | refine ra (next := ?_) | refine rk (next := ?_) | refine rku (next := ?_)) | refine st_end ?_ | refine thn_normal ?_ | refine r_seq ?_ | refine r_region rfl ?_ | refine thn_exit ?_ | refine thn_ret ?_ | refine inBlk_normal ?_ | refine inBlk_ret ?_ | refine inBlk_hit ?_ | refine inBlk_miss (by decide) ?_ | refine forQ_exit ?_ | refine forQ_ret ?_ | refine loopQ_exit ?_ | refine loopQ_ret ?_ | refine r_block ?_ | refine r_skip ?_ | refine r_exit ?_ | refine r_ret ?_ | (show rwp _ _ (.cond _ _ _) _ _ _; first | refine c_t (h := ?_) | refine c_f (h := ?_)))
  refine rc (timesVectorF_ok (x := x) (y := y) he1 hf1 hi' hxs hys) (next := fun v2 w2 h5 => ?_)
  obtain ⟨he2, hf2⟩ := h5
  repeat (first | (show rops _ _ _ _ (_ :: _) _ _; first | refine ra (next := ?_) | refine rk (next := ?_) | refine rku (next := ?_)) | refine st_end ?_ | refine thn_normal ?_ | refine r_seq ?_ | refine r_region rfl ?_ | refine thn_exit ?_ | refine thn_ret ?_ | refine inBlk_normal ?_ | refine inBlk_ret ?_ | refine inBlk_hit ?_ | refine inBlk_miss (by decide) ?_ | refine forQ_exit ?_ | refine forQ_ret ?_ | refine loopQ_exit ?_ | refine loopQ_ret ?_ | refine r_block ?_ | refine r_skip ?_ | refine r_exit ?_ | refine r_ret ?_ | (show rwp _ _ (.cond _ _ _) _ _ _; first | refine c_t (h := ?_) | refine c_f (h := ?_)))
  exact ret1 ⟨he2, hf2⟩
set_option maxHeartbeats 1000000 in
theorem power_ok {w : World} {vp va : Value} {x : T p i} {xs : List Int} {k : Int} {lo hi lo1 hi1 : Nat} [hp : PresP lo hi w vp p] [hx : Ints lo1 hi1 w va xs] (hi' : i ≤ p.n) (hxs : xs = x.v) (hk : 0 ≤ k ∧ k ≤ 9223372036854775806) :
    Calls Try.prog 64 #[vp, va, .int .i64 k] w (Ret fun v w' => Ext w w' ∧ Fr w.heap.size w' v (Grp.pw x k.toNat).v) := by
  have hn6 := hcon.valid.n6
  have hxl := x.inr.len
  replace hp := hp.wide
  replace hx := hx.wide
  refine enter (args := [vp, va, .int .i64 k]) (l := [.tmp 6]) Try.func64 rfl rfl Try.ntmps64 (by simp) ?_
  repeat (first | (show rops _ _ _ _ (_ :: _) _ _; first | refine ra (next := ?_) | refine rk (next := ?_) | refine rku (next := ?_)) | refine st_end ?_ | refine thn_normal ?_ | refine r_seq ?_ | refine r_region rfl ?_ | refine thn_exit ?_ | refine thn_ret ?_ | refine inBlk_normal ?_ | refine inBlk_ret ?_ | refine inBlk_hit ?_ | refine inBlk_miss (by decide) ?_ | refine forQ_exit ?_ | refine forQ_ret ?_ | refine loopQ_exit ?_ | refine loopQ_ret ?_ | refine r_block ?_ | refine r_skip ?_ | refine r_exit ?_ | refine r_ret ?_ | (show rwp _ _ (.cond _ _ _) _ _ _; first | refine c_t (h := ?_) | refine c_f (h := ?_)))
  refine st_make_int (by ((try simp only [ev_tmp, ev_const, ev_func, get_put, get_args, get_putL, get_putL_nil, Nat.reduceEqDiff, reduceIte, List.getD_cons_zero, List.getD_cons_succ, List.getD_nil]); first | done | with_reducible rfl)) (by ((try simp only [ev_tmp, ev_const, ev_func, get_put, get_args, get_putL, get_putL_nil, Nat.reduceEqDiff, reduceIte, List.getD_cons_zero, List.getD_cons_succ, List.getD_nil]); first | done | with_reducible rfl)) (by omega) (by rw [hxs]; omega) (by first | exact True.intro | exact ⟨_, rfl, by ((try simp only [ev_tmp, ev_const, ev_func, get_put, get_args, get_putL, get_putL_nil, Nat.reduceEqDiff, reduceIte, List.getD_cons_zero, List.getD_cons_succ, List.getD_nil, Bool.not_true, Bool.not_false]); first | done | with_reducible rfl)⟩) fun w1 v1 he1 hs1 ho1 => ?_
  have hz : Fr w.heap.size w1 v1 (zeros p.n) := by
    have := ho1.toFr (Nat.le_refl w.heap.size)
    rwa [hxs, hxl] at this
  repeat (first | (show rops _ _ _ _ (_ :: _) _ _; first | refine ra (next := ?_) | refine rk (next := ?_) | refine rku (next := ?_)) | refine st_end ?_ | refine thn_normal ?_ | refine r_seq ?_ | refine r_region rfl ?_ | refine thn_exit ?_ | refine thn_ret ?_ | refine inBlk_normal ?_ | refine inBlk_ret ?_ | refine inBlk_hit ?_ | refine inBlk_miss (by decide) ?_ | refine forQ_exit ?_ | refine forQ_ret ?_ | refine loopQ_exit ?_ | refine loopQ_ret ?_ | refine r_block ?_ | refine r_skip ?_ | refine r_exit ?_ | refine r_ret ?_ | (show rwp _ _ (.cond _ _ _) _ _ _; first | refine c_t (h := ?_) | refine c_f (h := ?_)))
  refine r_for k.toNat (fun q ρ w' => Has ρ [(0, vp), (1, va), (7, v1), (11, .int .i64 k), (12, .int .i64 q)] ∧ Ext w w' ∧ Fr w.heap.size w' v1 (Grp.pw x q).v) ?_ ?_
  · refine ⟨?_, he1, hz⟩
    ((try simp only [Has, ev_tmp, ev_const, ev_func, get_put, get_args, get_putL, get_putL_nil, Nat.reduceEqDiff, reduceIte, List.getD_cons_zero, List.getD_cons_succ, List.getD_nil]); repeat' (first | exact True.intro | apply And.intro | with_reducible rfl | exact int_congr (by first | omega | rfl)))
  rintro q ρ w2 hq ⟨hH, he2, hf2⟩
  refine rwp_has hH fun ρ0 => ?_
  repeat (first | (show rops _ _ _ _ (_ :: _) _ _; first | refine ra (next := ?_) | refine rk (next := ?_) | refine rku (next := ?_)) | refine st_end ?_ | refine thn_normal ?_ | refine r_seq ?_ | refine r_region rfl ?_ | refine thn_exit ?_ | refine thn_ret ?_ | refine inBlk_normal ?_ | refine inBlk_ret ?_ | refine inBlk_hit ?_ | refine inBlk_miss (by decide) ?_ | refine forQ_exit ?_ | refine forQ_ret ?_ | refine loopQ_exit ?_ | refine loopQ_ret ?_ | refine r_block ?_ | refine r_skip ?_ | refine r_exit ?_ | refine r_ret ?_ | (show rwp _ _ (.cond _ _ _) _ _ _; first | refine c_t (h := ?_) | refine c_f (h := ?_)))
  refine c_if (fun h4 => ?_) (fun h4 => ?_)
  · repeat (first | (show rops _ _ _ _ (_ :: _) _ _; first | refine ra (next := ?_) | refine rk (next := ?_) | refine rku (next := ?_)) | refine st_end ?_ | refine thn_normal ?_ | refine r_seq ?_ | refine r_region rfl ?_ | refine thn_exit ?_ | refine thn_ret ?_ | refine inBlk_normal ?_ | refine inBlk_ret ?_ | refine inBlk_hit ?_ | refine inBlk_miss (by decide) ?_ | refine forQ_exit ?_ | refine forQ_ret ?_ | refine loopQ_exit ?_ | refine loopQ_ret ?_ | refine r_block ?_ | refine r_skip ?_ | refine r_exit ?_ | refine r_ret ?_ | (show rwp _ _ (.cond _ _ _) _ _ _; first | refine c_t (h := ?_) | refine c_f (h := ?_)))
    refine rc (timesVectorF_ok (x := Grp.pw x q) (y := x) he2 hf2 hi' rfl hxs) (next := fun v3 w3 h5 => ?_)
    obtain ⟨he3, hf3⟩ := h5
    repeat (first | (show rops _ _ _ _ (_ :: _) _ _; first | refine ra (next := ?_) | refine rk (next := ?_) | refine rku (next := ?_)) | refine st_end ?_ | refine thn_normal ?_ | refine r_seq ?_ | refine r_region rfl ?_ | refine thn_exit ?_ | refine thn_ret ?_ | refine inBlk_normal ?_ | refine inBlk_ret ?_ | refine inBlk_hit ?_ | refine inBlk_miss (by decide) ?_ | refine forQ_exit ?_ | refine forQ_ret ?_ | refine loopQ_exit ?_ | refine loopQ_ret ?_ | refine r_block ?_ | refine r_skip ?_ | refine r_exit ?_ | refine r_ret ?_ | (show rwp _ _ (.cond _ _ _) _ _ _; first | refine c_t (h := ?_) | refine c_f (h := ?_)))
    refine forQ_normal (by omega) ⟨?_, he3, hf3⟩
    ((try simp only [Has, ev_tmp, ev_const, ev_func, get_put, get_args, get_putL, get_putL_nil, Nat.reduceEqDiff, reduceIte, List.getD_cons_zero, List.getD_cons_succ, List.getD_nil]); repeat' (first | exact True.intro | apply And.intro | with_reducible rfl | exact int_congr (by first | omega | rfl)))
  · obtain rfl : q = k.toNat := by omega
    repeat (first | (show rops _ _ _ _ (_ :: _) _ _; first | refine ra (next := ?_) | refine rk (next := ?_) | refine rku (next := ?_)) | refine st_end ?_ | refine thn_normal ?_ | refine r_seq ?_ | refine r_region rfl ?_ | refine thn_exit ?_ | refine thn_ret ?_ | refine inBlk_normal ?_ | refine inBlk_ret ?_ | refine inBlk_hit ?_ | refine inBlk_miss (by decide) ?_ | refine forQ_exit ?_ | refine forQ_ret ?_ | refine loopQ_exit ?_ | refine loopQ_ret ?_ | refine r_block ?_ | refine r_skip ?_ | refine r_exit ?_ | refine r_ret ?_ | (show rwp _ _ (.cond _ _ _) _ _ _; first | refine c_t (h := ?_) | refine c_f (h := ?_)))
    exact ret1 ⟨he2, hf2⟩
theorem co_gen {l : Nat} (hl : i ≤ l ∧ l < p.n) (x : T p i) : (∀ t, t < l → (x * gOf p i l).v.getD t 0 = x.v.getD t 0) ∧ (x * gOf p i l).v.getD l 0 = (x.v.getD l 0 + 1) % p.o l := by
  have hv := hcon.valid
  have hu := unitv_in hv (j := l) (k := 1) (by omega) (fun _ => by have := hv.opos hl.2; omega)
  have h := atv_low hv hl.2 (l - i) i rfl hl.1 x.v (unitv p l 1) x.inr hu x.zu (unitv_zu p (Nat.le_refl _) 1)
  rw [gOf_eq hl]
  have e1 : (unitv p l 1).getD l 0 = 1 := Pc.getD_set_eq _ _ _ (by rw [zeros_len]; exact hl.2)
  rw [e1] at h
  exact h
end
end Go.Proofs.Ytjcmdmjlhngjcaa

/-
  Walks: the program's inverses, conjugates, commutators, images (invert, conjugate, commutator, imageBy, unitVector).
  Conditions: the tail at the level is a group.
-/
namespace Go.Proofs.Ytjcmdmjlhngjcaa
open Go Go.Pc
section
variable {p : Pr} {i : Nat} [hcon : Con p i]
theorem one_of_zero {x : T p i} (h : ∀ t, t < p.n → x.v.getD t 0 = 0) : x = 1 :=
  T.ext (inr_ext x.inr hcon.valid.zeros_in fun t ht => by rw [h t ht]; exact (zeros_getD _ _).symm)
set_option maxHeartbeats 2000000 in
theorem invert_ok {w : World} {vp va : Value} {x : T p i} {xs : List Int} {lo hi lo1 hi1 : Nat} [hp : PresP lo hi w vp p] [hx : Ints lo1 hi1 w va xs] (hxs : xs = x.v) :
    Calls Try.prog 78 #[vp, va] w (Ret fun v w' => Ext w w' ∧ Fr w.heap.size w' v (x⁻¹).v) := by
  subst hxs
  have hv := hcon.valid
  have hn6 := hv.n6
  have hxl := x.inr.len
  replace hp := hp.wide
  replace hx := hx.wide
  refine enter (args := [vp, va]) (l := [.tmp 4]) Try.func78 rfl rfl Try.ntmps78 (by simp) ?_
  repeat (first | (show rops _ _ _ _ (_ :: _) _ _; first | refine ra (next := ?_) | refine rk (next := ?_) | refine rku (next := ?_)) | refine st_end ?_ | refine thn_normal ?_ | refine r_seq ?_ | refine r_region rfl ?_ | refine thn_exit ?_ | refine thn_ret ?_ | refine inBlk_normal ?_ | refine inBlk_ret ?_ | refine inBlk_hit ?_ | refine inBlk_miss (by decide) ?_ | refine forQ_exit ?_ | refine forQ_ret ?_ | refine loopQ_exit ?_ | refine loopQ_ret ?_ | refine r_block ?_ | refine r_skip ?_ | refine r_exit ?_ | refine r_ret ?_ | (show rwp _ _ (.cond _ _ _) _ _ _; first | refine c_t (h := ?_) | refine c_f (h := ?_)))
  refine rc (cloneI_ok (xs := x.v) (by omega)) (next := fun v1 w1 h4 => ?_)
  obtain ⟨he1, hf1⟩ := h4
  repeat (first | (show rops _ _ _ _ (_ :: _) _ _; first | refine ra (next := ?_) | refine rk (next := ?_) | refine rku (next := ?_)) | refine st_end ?_ | refine thn_normal ?_ | refine r_seq ?_ | refine r_region rfl ?_ | refine thn_exit ?_ | refine thn_ret ?_ | refine inBlk_normal ?_ | refine inBlk_ret ?_ | refine inBlk_hit ?_ | refine inBlk_miss (by decide) ?_ | refine forQ_exit ?_ | refine forQ_ret ?_ | refine loopQ_exit ?_ | refine loopQ_ret ?_ | refine r_block ?_ | refine r_skip ?_ | refine r_exit ?_ | refine r_ret ?_ | (show rwp _ _ (.cond _ _ _) _ _ _; first | refine c_t (h := ?_) | refine c_f (h := ?_)))
  refine st_make_int (by ((try simp only [ev_tmp, ev_const, ev_func, get_put, get_args, get_putL, get_putL_nil, Nat.reduceEqDiff, reduceIte, List.getD_cons_zero, List.getD_cons_succ, List.getD_nil]); first | done | with_reducible rfl)) (by ((try simp only [ev_tmp, ev_const, ev_func, get_put, get_args, get_putL, get_putL_nil, Nat.reduceEqDiff, reduceIte, List.getD_cons_zero, List.getD_cons_succ, List.getD_nil]); first | done | with_reducible rfl)) (by omega) (by omega) (by first | exact True.intro | exact ⟨_, rfl, by ((try simp only [ev_tmp, ev_const, ev_func, get_put, get_args, get_putL, get_putL_nil, Nat.reduceEqDiff, reduceIte, List.getD_cons_zero, List.getD_cons_succ, List.getD_nil, Bool.not_true, Bool.not_false]); first | done | with_reducible rfl)⟩) fun w2 v2 he2 hs2 ho2 => ?_
  have hfi := hf1.ints
  by_cases hn : p.n = 0
  · have hx0 := el0 hn x
    repeat (first | (show rops _ _ _ _ (_ :: _) _ _; first | refine ra (next := ?_) | refine rk (next := ?_) | refine rku (next := ?_)) | refine st_end ?_ | refine thn_normal ?_ | refine r_seq ?_ | refine r_region rfl ?_ | refine thn_exit ?_ | refine thn_ret ?_ | refine inBlk_normal ?_ | refine inBlk_ret ?_ | refine inBlk_hit ?_ | refine inBlk_miss (by decide) ?_ | refine forQ_exit ?_ | refine forQ_ret ?_ | refine loopQ_exit ?_ | refine loopQ_ret ?_ | refine r_block ?_ | refine r_skip ?_ | refine r_exit ?_ | refine r_ret ?_ | (show rwp _ _ (.cond _ _ _) _ _ _; first | refine c_t (h := ?_) | refine c_f (h := ?_)))
    refine r_for 0 (fun k ρ w' => Has ρ [(6, v2), (14, .int .i64 x.v.length), (15, .int .i64 k)] ∧ Ext w2 w') ?_ ?_
    · refine ⟨?_, Ext.refl _⟩
      ((try simp only [Has, ev_tmp, ev_const, ev_func, get_put, get_args, get_putL, get_putL_nil, Nat.reduceEqDiff, reduceIte, List.getD_cons_zero, List.getD_cons_succ, List.getD_nil]); repeat' (first | exact True.intro | apply And.intro | with_reducible rfl | exact int_congr (by first | omega | rfl)))
    rintro k ρ w3 hk ⟨hH, he3⟩
    refine rwp_has hH fun ρ0 => ?_
    repeat (first | (show rops _ _ _ _ (_ :: _) _ _; first | refine ra (next := ?_) | refine rk (next := ?_) | refine rku (next := ?_)) | refine st_end ?_ | refine thn_normal ?_ | refine r_seq ?_ | refine r_region rfl ?_ | refine thn_exit ?_ | refine thn_ret ?_ | refine inBlk_normal ?_ | refine inBlk_ret ?_ | refine inBlk_hit ?_ | refine inBlk_miss (by decide) ?_ | refine forQ_exit ?_ | refine forQ_ret ?_ | refine loopQ_exit ?_ | refine loopQ_ret ?_ | refine r_block ?_ | refine r_skip ?_ | refine r_exit ?_ | refine r_ret ?_ | (show rwp _ _ (.cond _ _ _) _ _ _; first | refine c_t (h := ?_) | refine c_f (h := ?_)))
    refine c_if (fun h4 => ?_) (fun h4 => ?_)
    · omega
    · repeat (first | (show rops _ _ _ _ (_ :: _) _ _; first | refine ra (next := ?_) | refine rk (next := ?_) | refine rku (next := ?_)) | refine st_end ?_ | refine thn_normal ?_ | refine r_seq ?_ | refine r_region rfl ?_ | refine thn_exit ?_ | refine thn_ret ?_ | refine inBlk_normal ?_ | refine inBlk_ret ?_ | refine inBlk_hit ?_ | refine inBlk_miss (by decide) ?_ | refine forQ_exit ?_ | refine forQ_ret ?_ | refine loopQ_exit ?_ | refine loopQ_ret ?_ | refine r_block ?_ | refine r_skip ?_ | refine r_exit ?_ | refine r_ret ?_ | (show rwp _ _ (.cond _ _ _) _ _ _; first | refine c_t (h := ?_) | refine c_f (h := ?_)))
      refine ret1 ⟨(he1.trans he2).trans he3, ?_⟩
      have h5 := ho2.toFr (lo := w.heap.size) he1.size
      rw [el0 hn x⁻¹]
      rw [hx0] at h5
      exact h5.ext' he3
  · obtain ⟨te, b1, hb1, ho1⟩ := hf1.own (by intro e; rw [e] at hxl; simp at hxl; omega)
    have hbl := ho1.lt
    have hz1 := he1.size
    have ho2' : ∃ b2, b2 ≠ b1 ∧ w.heap.size ≤ b2 ∧ OwnI 2 b2 w2 v2 (1 : T p i).v := ⟨_, by omega, hz1, by rw [hxl] at ho2; exact ho2⟩
    clear ho2
    obtain ⟨b2, hb21, hb2, ho2⟩ := ho2'
    have ap1 : Apart 0 w.heap.size b1 := ⟨.inr hb1⟩
    have ap2 : Apart 0 w.heap.size b2 := ⟨.inr hb2⟩
    have ho1' : OwnI te b1 w2 v1 (x * 1).v := by rw [Grp.mul_one]; exact OwnI.ext (h := ho1)
    clear ho1 hfi hf1
    have hxl1 := (x * 1).inr.len
    repeat (first | (show rops _ _ _ _ (_ :: _) _ _; first | refine ra (next := ?_) | refine rk (next := ?_) | refine rku (next := ?_)) | refine st_end ?_ | refine thn_normal ?_ | refine r_seq ?_ | refine r_region rfl ?_ | refine thn_exit ?_ | refine thn_ret ?_ | refine inBlk_normal ?_ | refine inBlk_ret ?_ | refine inBlk_hit ?_ | refine inBlk_miss (by decide) ?_ | refine forQ_exit ?_ | refine forQ_ret ?_ | refine loopQ_exit ?_ | refine loopQ_ret ?_ | refine r_block ?_ | refine r_skip ?_ | refine r_exit ?_ | refine r_ret ?_ | (show rwp _ _ (.cond _ _ _) _ _ _; first | refine c_t (h := ?_) | refine c_f (h := ?_)))
    refine r_for p.n (fun k ρ w' => ∃ z xs zs, Has ρ [(0, vp), (5, v1), (6, v2), (14, .int .i64 p.n), (15, .int .i64 k)] ∧ Ext w w' ∧ OwnI te b1 w' v1 xs ∧ OwnI 2 b2 w' v2 zs ∧ xs = (x * z).v ∧ zs = T.v (p := p) (i := i) z ∧ ∀ t, t < k → (x * z).v.getD t 0 = 0) ?_ ?_
    · refine ⟨1, _, _, ?_, he1.trans he2, ho1', ho2, rfl, rfl, fun t ht => by omega⟩
      ((try simp only [Has, ev_tmp, ev_const, ev_func, get_put, get_args, get_putL, get_putL_nil, Nat.reduceEqDiff, reduceIte, List.getD_cons_zero, List.getD_cons_succ, List.getD_nil]); repeat' (first | exact True.intro | apply And.intro | with_reducible rfl | exact int_congr (by first | omega | rfl)))
    rintro k ρ w3 hk ⟨z, xs3, zs3, hH3, he3, ho13, ho23, hxs3, hzs3, hz3⟩
    refine rwp_has hH3 fun ρ0 => ?_
    clear ho1' ho2
    repeat (first | (show rops _ _ _ _ (_ :: _) _ _; first | refine ra (next := ?_) | refine rk (next := ?_) | refine rku (next := ?_)) | refine st_end ?_ | refine thn_normal ?_ | refine r_seq ?_ | refine r_region rfl ?_ | refine thn_exit ?_ | refine thn_ret ?_ | refine inBlk_normal ?_ | refine inBlk_ret ?_ | refine inBlk_hit ?_ | refine inBlk_miss (by decide) ?_ | refine forQ_exit ?_ | refine forQ_ret ?_ | refine loopQ_exit ?_ | refine loopQ_ret ?_ | refine r_block ?_ | refine r_skip ?_ | refine r_exit ?_ | refine r_ret ?_ | (show rwp _ _ (.cond _ _ _) _ _ _; first | refine c_t (h := ?_) | refine c_f (h := ?_)))
    refine c_if (fun h4 => ?_) (fun h4 => ?_)
    · have hkn : k < p.n := by omega
      have hok := hv.opos hkn
      repeat (first | (show rops _ _ _ _ (_ :: _) _ _; first | refine ra (next := ?_) | refine rk (next := ?_) | refine rku (next := ?_)) | refine st_end ?_ | refine thn_normal ?_ | refine r_seq ?_ | refine r_region rfl ?_ | refine thn_exit ?_ | refine thn_ret ?_ | refine inBlk_normal ?_ | refine inBlk_ret ?_ | refine inBlk_hit ?_ | refine inBlk_miss (by decide) ?_ | refine forQ_exit ?_ | refine forQ_ret ?_ | refine loopQ_exit ?_ | refine loopQ_ret ?_ | refine r_block ?_ | refine r_skip ?_ | refine r_exit ?_ | refine r_ret ?_ | (show rwp _ _ (.cond _ _ _) _ _ _; first | refine c_t (h := ?_) | refine c_f (h := ?_)))
      refine r_loop (fun m ρ w' => ∃ z xs zs, Has ρ [(0, vp), (5, v1), (6, v2), (7, .int .i64 k), (14, .int .i64 p.n), (15, .int .i64 k)] ∧ Ext w w' ∧ OwnI te b1 w' v1 xs ∧ OwnI 2 b2 w' v2 zs ∧ xs = (x * z).v ∧ zs = T.v (p := p) (i := i) z ∧ (∀ t, t < k → (x * z).v.getD t 0 = 0) ∧
        m = if xs.getD k 0 = 0 then 0 else (p.o k - xs.getD k 0).toNat) (if xs3.getD k 0 = 0 then 0 else (p.o k - xs3.getD k 0).toNat) ?_ ?_
      · refine ⟨z, xs3, zs3, ?_, he3, ho13, ho23, hxs3, hzs3, hz3, rfl⟩
        ((try simp only [Has, ev_tmp, ev_const, ev_func, get_put, get_args, get_putL, get_putL_nil, Nat.reduceEqDiff, reduceIte, List.getD_cons_zero, List.getD_cons_succ, List.getD_nil]); repeat' (first | exact True.intro | apply And.intro | with_reducible rfl | exact int_congr (by first | omega | rfl)))
      clear ho13 ho23 hz3 hxs3 hzs3
      rintro m ρ w4 ⟨z, xs4, zs4, hH4, he4, ho14, ho24, hxs4, hzs4, hz4, hm⟩
      refine rwp_has hH4 fun ρ1 => ?_
      have hxr := (x * z).inr.rng k hkn
      have hxl4 : xs4.length = p.n := by rw [hxs4]; exact (x * z).inr.len
      rw [← hxs4] at hxr
      repeat (first | (show rops _ _ _ _ (_ :: _) _ _; first | refine ra (next := ?_) | refine rk (next := ?_) | refine rku (next := ?_)) | refine st_end ?_ | refine thn_normal ?_ | refine r_seq ?_ | refine r_region rfl ?_ | refine thn_exit ?_ | refine thn_ret ?_ | refine inBlk_normal ?_ | refine inBlk_ret ?_ | refine inBlk_hit ?_ | refine inBlk_miss (by decide) ?_ | refine forQ_exit ?_ | refine forQ_ret ?_ | refine loopQ_exit ?_ | refine loopQ_ret ?_ | refine r_block ?_ | refine r_skip ?_ | refine r_exit ?_ | refine r_ret ?_ | (show rwp _ _ (.cond _ _ _) _ _ _; first | refine c_t (h := ?_) | refine c_f (h := ?_)))
      refine c_if (fun h5 => ?_) (fun h5 => ?_)
      · rw [if_neg h5] at hm
        have hik : i ≤ k := by
          by_cases h : i ≤ k
          · exact h
          · exact absurd (by rw [hxs4]; exact (x * z).zu k (by omega)) h5
        have hco := co_gen ⟨hik, hkn⟩ (x * z)
        repeat (first | (show rops _ _ _ _ (_ :: _) _ _; first | refine ra (next := ?_) | refine rk (next := ?_) | refine rku (next := ?_)) | refine st_end ?_ | refine thn_normal ?_ | refine r_seq ?_ | refine r_region rfl ?_ | refine thn_exit ?_ | refine thn_ret ?_ | refine inBlk_normal ?_ | refine inBlk_ret ?_ | refine inBlk_hit ?_ | refine inBlk_miss (by decide) ?_ | refine forQ_exit ?_ | refine forQ_ret ?_ | refine loopQ_exit ?_ | refine loopQ_ret ?_ | refine r_block ?_ | refine r_skip ?_ | refine r_exit ?_ | refine r_ret ?_ | (show rwp _ _ (.cond _ _ _) _ _ _; first | refine c_t (h := ?_) | refine c_f (h := ?_)))
        refine rc (timesGenerator_ok k (x := x * z) hik hkn rfl hxs4) (next := fun v5 w5 h6 => ?_)
        obtain ⟨hc5, ho15⟩ := h6
        have ho25 := ho24.chg' hc5 hb21
        have he5 := hc5.ext he4 hb1
        clear ho14 ho24 hc5
        repeat (first | (show rops _ _ _ _ (_ :: _) _ _; first | refine ra (next := ?_) | refine rk (next := ?_) | refine rku (next := ?_)) | refine st_end ?_ | refine thn_normal ?_ | refine r_seq ?_ | refine r_region rfl ?_ | refine thn_exit ?_ | refine thn_ret ?_ | refine inBlk_normal ?_ | refine inBlk_ret ?_ | refine inBlk_hit ?_ | refine inBlk_miss (by decide) ?_ | refine forQ_exit ?_ | refine forQ_ret ?_ | refine loopQ_exit ?_ | refine loopQ_ret ?_ | refine r_block ?_ | refine r_skip ?_ | refine r_exit ?_ | refine r_ret ?_ | (show rwp _ _ (.cond _ _ _) _ _ _; first | refine c_t (h := ?_) | refine c_f (h := ?_)))
        refine rc (timesGenerator_ok k (x := z) hik hkn rfl hzs4) (next := fun v6 w6 h7 => ?_)
        obtain ⟨hc6, ho26⟩ := h7
        have ho16 := ho15.chg' hc6 (fun e => hb21 e.symm)
        have he6 := hc6.ext he5 hb2
        clear ho15 ho25 hc6
        repeat (first | (show rops _ _ _ _ (_ :: _) _ _; first | refine ra (next := ?_) | refine rk (next := ?_) | refine rku (next := ?_)) | refine st_end ?_ | refine thn_normal ?_ | refine r_seq ?_ | refine r_region rfl ?_ | refine thn_exit ?_ | refine thn_ret ?_ | refine inBlk_normal ?_ | refine inBlk_ret ?_ | refine inBlk_hit ?_ | refine inBlk_miss (by decide) ?_ | refine forQ_exit ?_ | refine forQ_ret ?_ | refine loopQ_exit ?_ | refine loopQ_ret ?_ | refine r_block ?_ | refine r_skip ?_ | refine r_exit ?_ | refine r_ret ?_ | (show rwp _ _ (.cond _ _ _) _ _ _; first | refine c_t (h := ?_) | refine c_f (h := ?_)))
        refine loopQ_normal ?_ ⟨z * gOf p i k, _, _, ?_, he6, ho16, ho26, by rw [Grp.mul_assoc], rfl, fun t ht => ?_, rfl⟩
        · rw [hco.2, ← hxs4, hm]
          by_cases h8 : xs4.getD k 0 + 1 = p.o k
          · rw [if_pos (by rw [h8, Int.emod_self])]; omega
          · rw [Int.emod_eq_of_lt (by omega) (by omega), if_neg (by omega)]; omega
        · ((try simp only [Has, ev_tmp, ev_const, ev_func, get_put, get_args, get_putL, get_putL_nil, Nat.reduceEqDiff, reduceIte, List.getD_cons_zero, List.getD_cons_succ, List.getD_nil]); repeat' (first | exact True.intro | apply And.intro | with_reducible rfl | exact int_congr (by first | omega | rfl)))
        · rw [← Grp.mul_assoc, hco.1 t ht]; exact hz4 t ht
      · repeat (first | (show rops _ _ _ _ (_ :: _) _ _; first | refine ra (next := ?_) | refine rk (next := ?_) | refine rku (next := ?_)) | refine st_end ?_ | refine thn_normal ?_ | refine r_seq ?_ | refine r_region rfl ?_ | refine thn_exit ?_ | refine thn_ret ?_ | refine inBlk_normal ?_ | refine inBlk_ret ?_ | refine inBlk_hit ?_ | refine inBlk_miss (by decide) ?_ | refine forQ_exit ?_ | refine forQ_ret ?_ | refine loopQ_exit ?_ | refine loopQ_ret ?_ | refine r_block ?_ | refine r_skip ?_ | refine r_exit ?_ | refine r_ret ?_ | (show rwp _ _ (.cond _ _ _) _ _ _; first | refine c_t (h := ?_) | refine c_f (h := ?_)))
        refine forQ_normal (by omega) ⟨z, xs4, zs4, ?_, he4, ho14, ho24, hxs4, hzs4, fun t ht => ?_⟩
        · ((try simp only [Has, ev_tmp, ev_const, ev_func, get_put, get_args, get_putL, get_putL_nil, Nat.reduceEqDiff, reduceIte, List.getD_cons_zero, List.getD_cons_succ, List.getD_nil]); repeat' (first | exact True.intro | apply And.intro | with_reducible rfl | exact int_congr (by first | omega | rfl)))
        · by_cases e : t = k
          · subst e; rw [← hxs4]; exact Decidable.not_not.1 h5
          · exact hz4 t (by omega)
    · obtain rfl : k = p.n := by omega
      repeat (first | (show rops _ _ _ _ (_ :: _) _ _; first | refine ra (next := ?_) | refine rk (next := ?_) | refine rku (next := ?_)) | refine st_end ?_ | refine thn_normal ?_ | refine r_seq ?_ | refine r_region rfl ?_ | refine thn_exit ?_ | refine thn_ret ?_ | refine inBlk_normal ?_ | refine inBlk_ret ?_ | refine inBlk_hit ?_ | refine inBlk_miss (by decide) ?_ | refine forQ_exit ?_ | refine forQ_ret ?_ | refine loopQ_exit ?_ | refine loopQ_ret ?_ | refine r_block ?_ | refine r_skip ?_ | refine r_exit ?_ | refine r_ret ?_ | (show rwp _ _ (.cond _ _ _) _ _ _; first | refine c_t (h := ?_) | refine c_f (h := ?_)))
      have h5 := Grp.eq_inv_of_mul' (one_of_zero hz3)
      refine ret1 ⟨he3, ?_⟩
      rw [← h5, ← hzs3]
      exact ho23.toFr hb2
set_option maxHeartbeats 1000000 in
theorem conjugate_ok {w : World} {vp va vb : Value} {x y : T p i} {xs ys : List Int} {lo hi lo1 hi1 lo2 hi2 : Nat} [hp : PresP lo hi w vp p] [hx : Ints lo1 hi1 w va xs] [hy : Ints lo2 hi2 w vb ys] (hi' : i ≤ p.n) (hxs : xs = x.v) (hys : ys = y.v) :
    Calls Try.prog 73 #[vp, va, vb] w (Ret fun v w' => Ext w w' ∧ Fr w.heap.size w' v (Grp.cj x y).v) := by
  refine enter (args := [vp, va, vb]) (l := [.tmp 6]) Try.func73 rfl rfl Try.ntmps73 (by simp) ?_
  repeat (first | (show rops _ _ _ _ (_ :: _) _ _; first | refine ra (next := ?_) | refine rk (next := ?_) | refine rku (next := ?_)) | refine st_end ?_ | refine thn_normal ?_ | refine r_seq ?_ | refine r_region rfl ?_ | refine thn_exit ?_ | refine thn_ret ?_ | refine inBlk_normal ?_ | refine inBlk_ret ?_ | refine inBlk_hit ?_ | refine inBlk_miss (by decide) ?_ | refine forQ_exit ?_ | refine forQ_ret ?_ | refine loopQ_exit ?_ | refine loopQ_ret ?_ | refine r_block ?_ | refine r_skip ?_ | refine r_exit ?_ | refine r_ret ?_ | (show rwp _ _ (.cond _ _ _) _ _ _; first | refine c_t (h := ?_) | refine c_f (h := ?_)))
  refine rc (invert_ok (x := y) hys) (next := fun v1 w1 h4 => ?_)
  obtain ⟨he1, hf1⟩ := h4
  repeat (first | (show rops _ _ _ _ (_ :: _) _ _; first | refine ra (next := ?_) | refine rk (next := ?_) | refine rku (next := ?_)) | refine st_end ?_ | refine thn_normal ?_ | refine r_seq ?_ | refine r_region rfl ?_ | refine thn_exit ?_ | refine thn_ret ?_ | refine inBlk_normal ?_ | refine inBlk_ret ?_ | refine inBlk_hit ?_ | refine inBlk_miss (by decide) ?_ | refine forQ_exit ?_ | refine forQ_ret ?_ | refine loopQ_exit ?_ | refine loopQ_ret ?_ | refine r_block ?_ | refine r_skip ?_ | refine r_exit ?_ | refine r_ret ?_ | (show rwp _ _ (.cond _ _ _) _ _ _; first | refine c_t (h := ?_) | refine c_f (h := ?_)))
  refine rc (multiply_ok (x := x) (y := y) hi' hxs hys) (next := fun v2 w2 h5 => ?_)
  obtain ⟨he2, hf2⟩ := h5
  repeat (first | (show rops _ _ _ _ (_ :: _) _ _; first | refine ra (next := ?_) | refine rk (next := ?_) | refine rku (next := ?_)) | refine st_end ?_ | refine thn_normal ?_ | refine r_seq ?_ | refine r_region rfl ?_ | refine thn_exit ?_ | refine thn_ret ?_ | refine inBlk_normal ?_ | refine inBlk_ret ?_ | refine inBlk_hit ?_ | refine inBlk_miss (by decide) ?_ | refine forQ_exit ?_ | refine forQ_ret ?_ | refine loopQ_exit ?_ | refine loopQ_ret ?_ | refine r_block ?_ | refine r_skip ?_ | refine r_exit ?_ | refine r_ret ?_ | (show rwp _ _ (.cond _ _ _) _ _ _; first | refine c_t (h := ?_) | refine c_f (h := ?_)))
  refine rc (multiply_ok (x := y⁻¹) (y := x * y) (xs := (y⁻¹).v) (ys := (x * y).v) hi' rfl rfl) (next := fun v3 w3 h6 => ?_)
  obtain ⟨he3, hf3⟩ := h6
  repeat (first | (show rops _ _ _ _ (_ :: _) _ _; first | refine ra (next := ?_) | refine rk (next := ?_) | refine rku (next := ?_)) | refine st_end ?_ | refine thn_normal ?_ | refine r_seq ?_ | refine r_region rfl ?_ | refine thn_exit ?_ | refine thn_ret ?_ | refine inBlk_normal ?_ | refine inBlk_ret ?_ | refine inBlk_hit ?_ | refine inBlk_miss (by decide) ?_ | refine forQ_exit ?_ | refine forQ_ret ?_ | refine loopQ_exit ?_ | refine loopQ_ret ?_ | refine r_block ?_ | refine r_skip ?_ | refine r_exit ?_ | refine r_ret ?_ | (show rwp _ _ (.cond _ _ _) _ _ _; first | refine c_t (h := ?_) | refine c_f (h := ?_)))
  have hE := he1.trans he2
  exact ret1 ⟨hE.trans he3, hf3.mono hE.size⟩
set_option maxHeartbeats 1000000 in
theorem commutator_ok {w : World} {vp va vb : Value} {x y : T p i} {xs ys : List Int} {lo hi lo1 hi1 lo2 hi2 : Nat} [hp : PresP lo hi w vp p] [hx : Ints lo1 hi1 w va xs] [hy : Ints lo2 hi2 w vb ys] (hi' : i ≤ p.n) (hxs : xs = x.v) (hys : ys = y.v) :
    Calls Try.prog 65 #[vp, va, vb] w (Ret fun v w' => Ext w w' ∧ Fr w.heap.size w' v (Grp.cm x y).v) := by
  refine enter (args := [vp, va, vb]) (l := [.tmp 6]) Try.func65 rfl rfl Try.ntmps65 (by simp) ?_
  repeat (first | (show rops _ _ _ _ (_ :: _) _ _; first | refine ra (next := ?_) | refine rk (next := ?_) | refine rku (next := ?_)) | refine st_end ?_ | refine thn_normal ?_ | refine r_seq ?_ | refine r_region rfl ?_ | refine thn_exit ?_ | refine thn_ret ?_ | refine inBlk_normal ?_ | refine inBlk_ret ?_ | refine inBlk_hit ?_ | refine inBlk_miss (by decide) ?_ | refine forQ_exit ?_ | refine forQ_ret ?_ | refine loopQ_exit ?_ | refine loopQ_ret ?_ | refine r_block ?_ | refine r_skip ?_ | refine r_exit ?_ | refine r_ret ?_ | (show rwp _ _ (.cond _ _ _) _ _ _; first | refine c_t (h := ?_) | refine c_f (h := ?_)))
  refine rc (invert_ok (x := x) hxs) (next := fun v1 w1 h4 => ?_)
  obtain ⟨he1, hf1⟩ := h4
  repeat (first | (show rops _ _ _ _ (_ :: _) _ _; first | refine ra (next := ?_) | refine rk (next := ?_) | refine rku (next := ?_)) | refine st_end ?_ | refine thn_normal ?_ | refine r_seq ?_ | refine r_region rfl ?_ | refine thn_exit ?_ | refine thn_ret ?_ | refine inBlk_normal ?_ | refine inBlk_ret ?_ | refine inBlk_hit ?_ | refine inBlk_miss (by decide) ?_ | refine forQ_exit ?_ | refine forQ_ret ?_ | refine loopQ_exit ?_ | refine loopQ_ret ?_ | refine r_block ?_ | refine r_skip ?_ | refine r_exit ?_ | refine r_ret ?_ | (show rwp _ _ (.cond _ _ _) _ _ _; first | refine c_t (h := ?_) | refine c_f (h := ?_)))
  refine rc (conjugate_ok (x := x) (y := y) hi' hxs hys) (next := fun v2 w2 h5 => ?_)
  obtain ⟨he2, hf2⟩ := h5
  repeat (first | (show rops _ _ _ _ (_ :: _) _ _; first | refine ra (next := ?_) | refine rk (next := ?_) | refine rku (next := ?_)) | refine st_end ?_ | refine thn_normal ?_ | refine r_seq ?_ | refine r_region rfl ?_ | refine thn_exit ?_ | refine thn_ret ?_ | refine inBlk_normal ?_ | refine inBlk_ret ?_ | refine inBlk_hit ?_ | refine inBlk_miss (by decide) ?_ | refine forQ_exit ?_ | refine forQ_ret ?_ | refine loopQ_exit ?_ | refine loopQ_ret ?_ | refine r_block ?_ | refine r_skip ?_ | refine r_exit ?_ | refine r_ret ?_ | (show rwp _ _ (.cond _ _ _) _ _ _; first | refine c_t (h := ?_) | refine c_f (h := ?_)))
  refine rc (multiply_ok (x := x⁻¹) (y := Grp.cj x y) (xs := (x⁻¹).v) (ys := (Grp.cj x y).v) hi' rfl rfl) (next := fun v3 w3 h6 => ?_)
  obtain ⟨he3, hf3⟩ := h6
  repeat (first | (show rops _ _ _ _ (_ :: _) _ _; first | refine ra (next := ?_) | refine rk (next := ?_) | refine rku (next := ?_)) | refine st_end ?_ | refine thn_normal ?_ | refine r_seq ?_ | refine r_region rfl ?_ | refine thn_exit ?_ | refine thn_ret ?_ | refine inBlk_normal ?_ | refine inBlk_ret ?_ | refine inBlk_hit ?_ | refine inBlk_miss (by decide) ?_ | refine forQ_exit ?_ | refine forQ_ret ?_ | refine loopQ_exit ?_ | refine loopQ_ret ?_ | refine r_block ?_ | refine r_skip ?_ | refine r_exit ?_ | refine r_ret ?_ | (show rwp _ _ (.cond _ _ _) _ _ _; first | refine c_t (h := ?_) | refine c_f (h := ?_)))
  have hE := he1.trans he2
  exact ret1 ⟨hE.trans he3, hf3.mono hE.size⟩
end
set_option maxHeartbeats 1000000 in
theorem imageBy_ok {p : Pr} {i : Nat} [hcon : Con p (i + 1)] (hi' : i < p.n) {w : World} {vp va : Value} {xs : List Int} {ki : Int} {lo hi lo1 hi1 : Nat} [hp : PresP lo hi w vp p] [hx : Ints lo1 hi1 w va xs] (hki : ki = i) (hxr : InR p xs) :
    Calls Try.prog 72 #[vp, .int .i64 ki, va] w (Ret fun v w' => Ext w w' ∧ Fr w.heap.size w' v (img p i xs)) := by
  subst hki
  have hv := hcon.valid
  have hn6 := hv.n6
  have hcl : p.cnj.length = p.n := hv.lenc
  have hci := hv.lenci i hi'
  have hxl := hxr.len
  replace hp := hp.wide
  replace hx := hx.wide
  obtain ⟨g, vo, vpw, vc, ps, cs, css, rfl, hg1, hg2, hc0, hc1, hc2, h1, h2, h3⟩ := hp.ex
  refine enter (args := [.pointer (some ⟨g, 0, none⟩), .int .i64 i, va]) (l := [.tmp 6]) Try.func72 rfl rfl Try.ntmps72 (by simp) ?_
  repeat (first | (show rops _ _ _ _ (_ :: _) _ _; first | refine ra (next := ?_) | refine rk (next := ?_) | refine rku (next := ?_)) | refine st_end ?_ | refine thn_normal ?_ | refine r_seq ?_ | refine r_region rfl ?_ | refine thn_exit ?_ | refine thn_ret ?_ | refine inBlk_normal ?_ | refine inBlk_ret ?_ | refine inBlk_hit ?_ | refine inBlk_miss (by decide) ?_ | refine forQ_exit ?_ | refine forQ_ret ?_ | refine loopQ_exit ?_ | refine loopQ_ret ?_ | refine r_block ?_ | refine r_skip ?_ | refine r_exit ?_ | refine r_ret ?_ | (show rwp _ _ (.cond _ _ _) _ _ _; first | refine c_t (h := ?_) | refine c_f (h := ?_)))
  refine st_make_int (by ((try simp only [ev_tmp, ev_const, ev_func, get_put, get_args, get_putL, get_putL_nil, Nat.reduceEqDiff, reduceIte, List.getD_cons_zero, List.getD_cons_succ, List.getD_nil]); first | done | with_reducible rfl)) (by ((try simp only [ev_tmp, ev_const, ev_func, get_put, get_args, get_putL, get_putL_nil, Nat.reduceEqDiff, reduceIte, List.getD_cons_zero, List.getD_cons_succ, List.getD_nil]); first | done | with_reducible rfl)) (by omega) (by omega) (by first | exact True.intro | exact ⟨_, rfl, by ((try simp only [ev_tmp, ev_const, ev_func, get_put, get_args, get_putL, get_putL_nil, Nat.reduceEqDiff, reduceIte, List.getD_cons_zero, List.getD_cons_succ, List.getD_nil, Bool.not_true, Bool.not_false]); first | done | with_reducible rfl)⟩) fun w1 v1 he1 hs1 ho1 => ?_
  have hz : Fr w.heap.size w1 v1 (1 : T p (i + 1)).v := by
    have := ho1.toFr (Nat.le_refl w.heap.size)
    rw [hxl] at this; exact this
  clear ho1
  repeat (first | (show rops _ _ _ _ (_ :: _) _ _; first | refine ra (next := ?_) | refine rk (next := ?_) | refine rku (next := ?_)) | refine st_end ?_ | refine thn_normal ?_ | refine r_seq ?_ | refine r_region rfl ?_ | refine thn_exit ?_ | refine thn_ret ?_ | refine inBlk_normal ?_ | refine inBlk_ret ?_ | refine inBlk_hit ?_ | refine inBlk_miss (by decide) ?_ | refine forQ_exit ?_ | refine forQ_ret ?_ | refine loopQ_exit ?_ | refine loopQ_ret ?_ | refine r_block ?_ | refine r_skip ?_ | refine r_exit ?_ | refine r_ret ?_ | (show rwp _ _ (.cond _ _ _) _ _ _; first | refine c_t (h := ?_) | refine c_f (h := ?_)))
  refine r_for (p.n - (i + 1)) (fun k ρ w' => Has ρ [(0, .pointer (some ⟨g, 0, none⟩)), (1, .int .i64 i), (2, va), (7, v1), (19, Pc.rowAt vc cs i), (20, .int .i64 (p.cnj.getD i []).length), (21, .int .i64 k)] ∧ Ext w w' ∧ Fr w.heap.size w' v1 (phi (cOf p i) xs (i + 1) k).v) ?_ ?_
  · refine ⟨?_, he1, hz⟩
    ((try simp only [Has, ev_tmp, ev_const, ev_func, get_put, get_args, get_putL, get_putL_nil, Nat.reduceEqDiff, reduceIte, List.getD_cons_zero, List.getD_cons_succ, List.getD_nil]); repeat' (first | exact True.intro | apply And.intro | with_reducible rfl | exact int_congr (by first | omega | rfl)))
  rintro k ρ w2 hk ⟨hH2, he2, hf2⟩
  refine rwp_has hH2 fun ρ0 => ?_
  repeat (first | (show rops _ _ _ _ (_ :: _) _ _; first | refine ra (next := ?_) | refine rk (next := ?_) | refine rku (next := ?_)) | refine st_end ?_ | refine thn_normal ?_ | refine r_seq ?_ | refine r_region rfl ?_ | refine thn_exit ?_ | refine thn_ret ?_ | refine inBlk_normal ?_ | refine inBlk_ret ?_ | refine inBlk_hit ?_ | refine inBlk_miss (by decide) ?_ | refine forQ_exit ?_ | refine forQ_ret ?_ | refine loopQ_exit ?_ | refine loopQ_ret ?_ | refine r_block ?_ | refine r_skip ?_ | refine r_exit ?_ | refine r_ret ?_ | (show rwp _ _ (.cond _ _ _) _ _ _; first | refine c_t (h := ?_) | refine c_f (h := ?_)))
  refine c_if (fun h4 => ?_) (fun h4 => ?_)
  · have hkn : i + 1 + k < p.n := by omega
    have hxk := hxr.rng (i + 1 + k) hkn
    have hok := hv.opos hkn
    repeat (first | (show rops _ _ _ _ (_ :: _) _ _; first | refine ra (next := ?_) | refine rk (next := ?_) | refine rku (next := ?_)) | refine st_end ?_ | refine thn_normal ?_ | refine r_seq ?_ | refine r_region rfl ?_ | refine thn_exit ?_ | refine thn_ret ?_ | refine inBlk_normal ?_ | refine inBlk_ret ?_ | refine inBlk_hit ?_ | refine inBlk_miss (by decide) ?_ | refine forQ_exit ?_ | refine forQ_ret ?_ | refine loopQ_exit ?_ | refine loopQ_ret ?_ | refine r_block ?_ | refine r_skip ?_ | refine r_exit ?_ | refine r_ret ?_ | (show rwp _ _ (.cond _ _ _) _ _ _; first | refine c_t (h := ?_) | refine c_f (h := ?_)))
    refine r_for (xs.getD (i + 1 + k) 0).toNat (fun q ρ w' => Has ρ [(0, .pointer (some ⟨g, 0, none⟩)), (1, .int .i64 i), (2, va), (7, v1), (9, Pc.rowAt (Pc.rowAt vc cs i) (css.getD i []) k), (19, Pc.rowAt vc cs i), (20, .int .i64 (p.cnj.getD i []).length), (21, .int .i64 k), (32, .int .i64 (xs.getD (i + 1 + k) 0)), (33, .int .i64 q)] ∧ Ext w w' ∧
      Fr w.heap.size w' v1 (phi (cOf p i) xs (i + 1) k * Grp.pw (cOf p i (i + 1 + k)) q).v) ?_ ?_
    · refine ⟨?_, he2, ?_⟩
      · ((try simp only [Has, ev_tmp, ev_const, ev_func, get_put, get_args, get_putL, get_putL_nil, Nat.reduceEqDiff, reduceIte, List.getD_cons_zero, List.getD_cons_succ, List.getD_nil]); repeat' (first | exact True.intro | apply And.intro | with_reducible rfl | exact int_congr (by first | omega | rfl)))
      · rw [Grp.pw_zero, Grp.mul_one]; exact hf2
    clear he2 hf2
    rintro q ρ w3 hq ⟨hH3, he3, hf3⟩
    refine rwp_has hH3 fun ρ1 => ?_
    have hcv : (p.cnj.getD i []).getD k [] = (cOf p i (i + 1 + k)).v := by
      have : cOf p i (i + 1 + k) = _ := dif_pos ⟨by omega, hkn⟩
      rw [this]
      show _ = p.c i (i + 1 + k)
      unfold Pr.c
      rw [show i + 1 + k - i - 1 = k by omega]
    repeat (first | (show rops _ _ _ _ (_ :: _) _ _; first | refine ra (next := ?_) | refine rk (next := ?_) | refine rku (next := ?_)) | refine st_end ?_ | refine thn_normal ?_ | refine r_seq ?_ | refine r_region rfl ?_ | refine thn_exit ?_ | refine thn_ret ?_ | refine inBlk_normal ?_ | refine inBlk_ret ?_ | refine inBlk_hit ?_ | refine inBlk_miss (by decide) ?_ | refine forQ_exit ?_ | refine forQ_ret ?_ | refine loopQ_exit ?_ | refine loopQ_ret ?_ | refine r_block ?_ | refine r_skip ?_ | refine r_exit ?_ | refine r_ret ?_ | (show rwp _ _ (.cond _ _ _) _ _ _; first | refine c_t (h := ?_) | refine c_f (h := ?_)))
    refine c_if (fun h5 => ?_) (fun h5 => ?_)
    · repeat (first | (show rops _ _ _ _ (_ :: _) _ _; first | refine ra (next := ?_) | refine rk (next := ?_) | refine rku (next := ?_)) | refine st_end ?_ | refine thn_normal ?_ | refine r_seq ?_ | refine r_region rfl ?_ | refine thn_exit ?_ | refine thn_ret ?_ | refine inBlk_normal ?_ | refine inBlk_ret ?_ | refine inBlk_hit ?_ | refine inBlk_miss (by decide) ?_ | refine forQ_exit ?_ | refine forQ_ret ?_ | refine loopQ_exit ?_ | refine loopQ_ret ?_ | refine r_block ?_ | refine r_skip ?_ | refine r_exit ?_ | refine r_ret ?_ | (show rwp _ _ (.cond _ _ _) _ _ _; first | refine c_t (h := ?_) | refine c_f (h := ?_)))
      refine rc (timesVectorF_ok (x := phi (cOf p i) xs (i + 1) k * Grp.pw (cOf p i (i + 1 + k)) q) (y := cOf p i (i + 1 + k)) he3 hf3 (by omega) rfl hcv) (next := fun v4 w4 h6 => ?_)
      obtain ⟨he4, hf4⟩ := h6
      repeat (first | (show rops _ _ _ _ (_ :: _) _ _; first | refine ra (next := ?_) | refine rk (next := ?_) | refine rku (next := ?_)) | refine st_end ?_ | refine thn_normal ?_ | refine r_seq ?_ | refine r_region rfl ?_ | refine thn_exit ?_ | refine thn_ret ?_ | refine inBlk_normal ?_ | refine inBlk_ret ?_ | refine inBlk_hit ?_ | refine inBlk_miss (by decide) ?_ | refine forQ_exit ?_ | refine forQ_ret ?_ | refine loopQ_exit ?_ | refine loopQ_ret ?_ | refine r_block ?_ | refine r_skip ?_ | refine r_exit ?_ | refine r_ret ?_ | (show rwp _ _ (.cond _ _ _) _ _ _; first | refine c_t (h := ?_) | refine c_f (h := ?_)))
      refine forQ_normal (by omega) ⟨?_, he4, ?_⟩
      · ((try simp only [Has, ev_tmp, ev_const, ev_func, get_put, get_args, get_putL, get_putL_nil, Nat.reduceEqDiff, reduceIte, List.getD_cons_zero, List.getD_cons_succ, List.getD_nil]); repeat' (first | exact True.intro | apply And.intro | with_reducible rfl | exact int_congr (by first | omega | rfl)))
      · rw [Grp.pw_succ, ← Grp.mul_assoc]; exact hf4
    · repeat (first | (show rops _ _ _ _ (_ :: _) _ _; first | refine ra (next := ?_) | refine rk (next := ?_) | refine rku (next := ?_)) | refine st_end ?_ | refine thn_normal ?_ | refine r_seq ?_ | refine r_region rfl ?_ | refine thn_exit ?_ | refine thn_ret ?_ | refine inBlk_normal ?_ | refine inBlk_ret ?_ | refine inBlk_hit ?_ | refine inBlk_miss (by decide) ?_ | refine forQ_exit ?_ | refine forQ_ret ?_ | refine loopQ_exit ?_ | refine loopQ_ret ?_ | refine r_block ?_ | refine r_skip ?_ | refine r_exit ?_ | refine r_ret ?_ | (show rwp _ _ (.cond _ _ _) _ _ _; first | refine c_t (h := ?_) | refine c_f (h := ?_)))
      refine forQ_normal (by omega) ⟨?_, he3, ?_⟩
      · ((try simp only [Has, ev_tmp, ev_const, ev_func, get_put, get_args, get_putL, get_putL_nil, Nat.reduceEqDiff, reduceIte, List.getD_cons_zero, List.getD_cons_succ, List.getD_nil]); repeat' (first | exact True.intro | apply And.intro | with_reducible rfl | exact int_congr (by first | omega | rfl)))
      · rw [phi_last, ← show q = (xs.getD (i + 1 + k) 0).toNat by omega]; exact hf3
  · obtain rfl : k = p.n - (i + 1) := by omega
    repeat (first | (show rops _ _ _ _ (_ :: _) _ _; first | refine ra (next := ?_) | refine rk (next := ?_) | refine rku (next := ?_)) | refine st_end ?_ | refine thn_normal ?_ | refine r_seq ?_ | refine r_region rfl ?_ | refine thn_exit ?_ | refine thn_ret ?_ | refine inBlk_normal ?_ | refine inBlk_ret ?_ | refine inBlk_hit ?_ | refine inBlk_miss (by decide) ?_ | refine forQ_exit ?_ | refine forQ_ret ?_ | refine loopQ_exit ?_ | refine loopQ_ret ?_ | refine r_block ?_ | refine r_skip ?_ | refine r_exit ?_ | refine r_ret ?_ | (show rwp _ _ (.cond _ _ _) _ _ _; first | refine c_t (h := ?_) | refine c_f (h := ?_)))
    refine ret1 ⟨he2, ?_⟩
    have hin := imgTo_in hv (atv_in hv _ (i + 1) rfl) xs (p.n - (i + 1)) (Nat.le_refl _)
    have h5 := imgTo_phi xs (p.n - (i + 1)) (Nat.le_refl _) hin.1 hin.2
    rw [← h5] at hf2
    rw [img_eq]; exact hf2
set_option maxHeartbeats 400000 in
theorem unitVector_ok {w : World} {n i : Nat} {kn ki : Int} (hkn : kn = n) (hki : ki = i) (hn : n ≤ 2000000) (hi : i < n) :
    Calls Try.prog 74 #[.int .i64 kn, .int .i64 ki] w (Ret fun v' w' => Ext w w' ∧ Fr w.heap.size w' v' ((zeros n).set i 1)) := by
  subst hkn hki
  refine enter (args := [.int .i64 n, .int .i64 i]) (l := [.tmp 4]) Try.func74 rfl rfl Try.ntmps74 (by simp) ?_
  repeat (first | (show rops _ _ _ _ (_ :: _) _ _; first | refine ra (next := ?_) | refine rk (next := ?_) | refine rku (next := ?_)) | refine st_end ?_ | refine thn_normal ?_ | refine r_seq ?_ | refine r_region rfl ?_ | refine thn_exit ?_ | refine thn_ret ?_ | refine inBlk_normal ?_ | refine inBlk_ret ?_ | refine inBlk_hit ?_ | refine inBlk_miss (by decide) ?_ | refine forQ_exit ?_ | refine forQ_ret ?_ | refine loopQ_exit ?_ | refine loopQ_ret ?_ | refine r_block ?_ | refine r_skip ?_ | refine r_exit ?_ | refine r_ret ?_ | (show rwp _ _ (.cond _ _ _) _ _ _; first | refine c_t (h := ?_) | refine c_f (h := ?_)))
  refine st_make_int (by ((try simp only [ev_tmp, ev_const, ev_func, get_put, get_args, get_putL, get_putL_nil, Nat.reduceEqDiff, reduceIte, List.getD_cons_zero, List.getD_cons_succ, List.getD_nil]); first | done | with_reducible rfl)) (by ((try simp only [ev_tmp, ev_const, ev_func, get_put, get_args, get_putL, get_putL_nil, Nat.reduceEqDiff, reduceIte, List.getD_cons_zero, List.getD_cons_succ, List.getD_nil]); first | done | with_reducible rfl)) (by omega) (by omega) (by first | exact True.intro | exact ⟨_, rfl, by ((try simp only [ev_tmp, ev_const, ev_func, get_put, get_args, get_putL, get_putL_nil, Nat.reduceEqDiff, reduceIte, List.getD_cons_zero, List.getD_cons_succ, List.getD_nil, Bool.not_true, Bool.not_false]); first | done | with_reducible rfl)⟩) fun w1 v1 he1 hs1 ho1 => ?_
  have hlen : (List.replicate n (0 : Int)).length = n := by simp
  repeat (first | (show rops _ _ _ _ (_ :: _) _ _; first | refine ra (next := ?_) | refine rk (next := ?_) | refine rku (next := ?_)) | refine st_end ?_ | refine thn_normal ?_ | refine r_seq ?_ | refine r_region rfl ?_ | refine thn_exit ?_ | refine thn_ret ?_ | refine inBlk_normal ?_ | refine inBlk_ret ?_ | refine inBlk_hit ?_ | refine inBlk_miss (by decide) ?_ | refine forQ_exit ?_ | refine forQ_ret ?_ | refine loopQ_exit ?_ | refine loopQ_ret ?_ | refine r_block ?_ | refine r_skip ?_ | refine r_exit ?_ | refine r_ret ?_ | (show rwp _ _ (.cond _ _ _) _ _ _; first | refine c_t (h := ?_) | refine c_f (h := ?_)))
  refine st_store_int (by ((try simp only [ev_tmp, ev_const, ev_func, get_put, get_args, get_putL, get_putL_nil, Nat.reduceEqDiff, reduceIte, List.getD_cons_zero, List.getD_cons_succ, List.getD_nil]); first | done | with_reducible rfl)) (by ((try simp only [ev_tmp, ev_const, ev_func, get_put, get_args, get_putL, get_putL_nil, Nat.reduceEqDiff, reduceIte, List.getD_cons_zero, List.getD_cons_succ, List.getD_nil]); first | done | with_reducible rfl)) ?_ (by first | exact True.intro | exact ⟨_, rfl, by ((try simp only [ev_tmp, ev_const, ev_func, get_put, get_args, get_putL, get_putL_nil, Nat.reduceEqDiff, reduceIte, List.getD_cons_zero, List.getD_cons_succ, List.getD_nil, Bool.not_true, Bool.not_false]); first | done | with_reducible rfl)⟩) fun w2 hc2 hs2 ho2 => ?_
  · omega
  repeat (first | (show rops _ _ _ _ (_ :: _) _ _; first | refine ra (next := ?_) | refine rk (next := ?_) | refine rku (next := ?_)) | refine st_end ?_ | refine thn_normal ?_ | refine r_seq ?_ | refine r_region rfl ?_ | refine thn_exit ?_ | refine thn_ret ?_ | refine inBlk_normal ?_ | refine inBlk_ret ?_ | refine inBlk_hit ?_ | refine inBlk_miss (by decide) ?_ | refine forQ_exit ?_ | refine forQ_ret ?_ | refine loopQ_exit ?_ | refine loopQ_ret ?_ | refine r_block ?_ | refine r_skip ?_ | refine r_exit ?_ | refine r_ret ?_ | (show rwp _ _ (.cond _ _ _) _ _ _; first | refine c_t (h := ?_) | refine c_f (h := ?_)))
  exact ret1 ⟨hc2.ext he1 (Nat.le_refl _), ho2.toFr (Nat.le_refl _)⟩
end Go.Proofs.Ytjcmdmjlhngjcaa

/-
  Walks: the program's consistency (levelFault, consistentFrom, IsConsistent).
  Conditions: stated at each theorem.
-/
namespace Go.Proofs.Ytjcmdmjlhngjcaa
open Go Go.Pc
def QC (p : Pr) (i : Nat) [h : Con p (i + 1)] (j k : Nat) : Prop := ∀ (hj : i < j ∧ j < p.n) (hk : i < k ∧ k < p.n), j < k → (Grp.cj (Tc h.valid hk) (Tc h.valid hj)).v = img p i (p.c j k)
def QI (p : Pr) (i : Nat) [h : Con p (i + 1)] (hi : i < p.n) (j : Nat) : Prop := ∀ (hj : i + 1 ≤ j ∧ j < p.n), rep (p.o i).toNat (img p i) (unitv p j 1) = (Grp.cj (gen h.valid (i + 1) j hj) (Tw h.valid hi)).v
theorem chk_iff2 {p : Pr} {i : Nat} [h : Con p (i + 1)] (hi : i < p.n) : Chk p i hi ↔ (∀ j, LP p i j) ∧ (∀ j k, QC p i j k) ∧ img p i (p.w i) = p.w i ∧ ∀ j, QI p i hi j := by
  constructor
  · intro hc
    refine ⟨fun j hj => congrArg T.v (hc.P j hj), fun j k hj hk hjk => congrArg T.v (hc.C j k hj hk hjk), congrArg T.v hc.F, fun j hj => ?_⟩
    have := congrArg T.v (hc.I j hj)
    rw [rep_Timg] at this
    exact this
  · rintro ⟨h1, h2, h3, h4⟩
    refine ⟨fun j hj => T.ext (h1 j hj), fun j k hj hk hjk => T.ext (h2 j k hj hk hjk), T.ext h3, fun j hj => T.ext ?_⟩
    rw [rep_Timg]
    exact h4 j hj
set_option maxHeartbeats 8000000 in
theorem levelFault_ok {p : Pr} {i : Nat} [hc : Con p (i + 1)] (hi : i < p.n) {w : World} {vp : Value} {ki : Int} {lo hi' : Nat} [hp : PresP lo hi' w vp p] (hki : ki = i) :
    Calls Try.prog 59 #[vp, .int .i64 ki] w (Ret fun v w' => ∃ k l f s : Int, v = faultV k l f s ∧ (k = 0 ↔ Chk p i hi) ∧ (k ≠ 0 → l = i) ∧ (k = 0 → l = 0 ∧ f = 0 ∧ s = 0) ∧ Ext w w') := by
  subst hki
  have hv := hc.valid
  have hn6 := hv.n6
  have hol : p.ord.length = p.n := rfl
  have hwl : p.pow.length = p.n := hv.lenw
  have hcl : p.cnj.length = p.n := hv.lenc
  have hci : (p.cnj.getD i []).length = p.n - 1 - i := hv.lenci i hi
  have hoi := hv.opos hi
  have hoe : p.o i = p.ord.getD i 0 := rfl
  obtain ⟨b, vo, vpw, vc, ps, cs, css, rfl, hb1, hb2, hc0, hc1, hc2, h1, h2, h3⟩ := hp.ex
  refine enter (args := [.pointer (some ⟨b, 0, none⟩), .int .i64 i]) (l := [.cell 4 52]) Try.func59 rfl rfl Try.ntmps59 (by simp) ?_
  repeat (first | (show rops _ _ _ _ (_ :: _) _ _; first | refine ra (next := ?_) | refine rk (next := ?_) | refine rku (next := ?_)) | refine st_end ?_ | refine thn_normal ?_ | refine r_seq ?_ | refine r_region rfl ?_ | refine thn_exit ?_ | refine thn_ret ?_ | refine inBlk_normal ?_ | refine inBlk_ret ?_ | refine inBlk_hit ?_ | refine inBlk_miss (by decide) ?_ | refine forQ_exit ?_ | refine forQ_ret ?_ | refine loopQ_exit ?_ | refine loopQ_ret ?_ | refine r_block ?_ | refine r_skip ?_ | refine r_exit ?_ | refine r_ret ?_ | (show rwp _ _ (.cond _ _ _) _ _ _; first | refine c_t (h := ?_) | refine c_f (h := ?_)))
  refine st_alloc (by first | exact True.intro | exact ⟨_, rfl, by ((try simp only [ev_tmp, ev_const, ev_func, get_put, get_args, get_putL, get_putL_nil, Nat.reduceEqDiff, reduceIte, List.getD_cons_zero, List.getD_cons_succ, List.getD_nil, Bool.not_true, Bool.not_false]); first | done | with_reducible rfl)⟩) fun w2 bf he2 hbf hs2 hbk => ?_
  have bad : ∀ {w3 : World} {k f s : Int}, Ext w w3 → k ≠ 0 → ¬ Chk p i hi → ∃ k' l' f' s' : Int, faultV k i f s = faultV k' l' f' s' ∧ (k' = 0 ↔ Chk p i hi) ∧ (k' ≠ 0 → l' = i) ∧ (k' = 0 → l' = 0 ∧ f' = 0 ∧ s' = 0) ∧ Ext w w3 :=
    fun he hk hn => ⟨_, _, _, _, rfl, ⟨fun h => absurd h hk, fun h => absurd h hn⟩, fun _ => rfl, fun h => absurd h hk, he⟩
  have hTcv : ∀ j (hj : i < j ∧ j < p.n), (p.cnj.getD i []).getD (j - i - 1) [] = (Tc hv hj).v := fun j hj => rfl
  repeat (first | (show rops _ _ _ _ (_ :: _) _ _; first | refine ra (next := ?_) | refine rk (next := ?_) | refine rku (next := ?_)) | refine st_end ?_ | refine thn_normal ?_ | refine r_seq ?_ | refine r_region rfl ?_ | refine thn_exit ?_ | refine thn_ret ?_ | refine inBlk_normal ?_ | refine inBlk_ret ?_ | refine inBlk_hit ?_ | refine inBlk_miss (by decide) ?_ | refine forQ_exit ?_ | refine forQ_ret ?_ | refine loopQ_exit ?_ | refine loopQ_ret ?_ | refine r_block ?_ | refine r_skip ?_ | refine r_exit ?_ | refine r_ret ?_ | (show rwp _ _ (.cond _ _ _) _ _ _; first | refine c_t (h := ?_) | refine c_f (h := ?_)))
  refine r_for (p.n - (i + 1)) (fun k ρ w' => Has ρ [(0, .pointer (some ⟨b, 0, none⟩)), (1, .int .i64 i), (4, .pointer (some ⟨bf, 0, none⟩)), (5, .int .i64 p.n), (6, .int .i64 i), (7, .int .i64 (i + 1 + k : Nat))] ∧ Ext w2 w' ∧ ∀ j, j < i + 1 + k → LP p i j) ?_ ?_
  · refine ⟨?_, Ext.refl _, fun j hj hj' => by omega⟩
    ((try simp only [Has, ev_tmp, ev_const, ev_func, get_put, get_args, get_putL, get_putL_nil, Nat.reduceEqDiff, reduceIte, List.getD_cons_zero, List.getD_cons_succ, List.getD_nil]); repeat' (first | exact True.intro | apply And.intro | with_reducible rfl | exact int_congr (by first | omega | rfl)))
  rintro k ρ w3 hk ⟨hH, he3, hP⟩
  refine rwp_has hH fun ρ0 => ?_
  repeat (first | (show rops _ _ _ _ (_ :: _) _ _; first | refine ra (next := ?_) | refine rk (next := ?_) | refine rku (next := ?_)) | refine st_end ?_ | refine thn_normal ?_ | refine r_seq ?_ | refine r_region rfl ?_ | refine thn_exit ?_ | refine thn_ret ?_ | refine inBlk_normal ?_ | refine inBlk_ret ?_ | refine inBlk_hit ?_ | refine inBlk_miss (by decide) ?_ | refine forQ_exit ?_ | refine forQ_ret ?_ | refine loopQ_exit ?_ | refine loopQ_ret ?_ | refine r_block ?_ | refine r_skip ?_ | refine r_exit ?_ | refine r_ret ?_ | (show rwp _ _ (.cond _ _ _) _ _ _; first | refine c_t (h := ?_) | refine c_f (h := ?_)))
  refine c_if (fun hj => ?_) (fun hj => ?_)
  · have hjn : i < i + 1 + k ∧ i + 1 + k < p.n := ⟨by omega, by omega⟩
    have hoj : 2 ≤ p.ord.getD (i + 1 + k) 0 ∧ p.ord.getD (i + 1 + k) 0 ≤ 7 := hv.opos hjn.2
    have hcv : (p.cnj.getD i []).getD (i + 1 + k - i - 1) [] = (Tc hv hjn).v := rfl
    repeat (first | (show rops _ _ _ _ (_ :: _) _ _; first | refine ra (next := ?_) | refine rk (next := ?_) | refine rku (next := ?_)) | refine st_end ?_ | refine thn_normal ?_ | refine r_seq ?_ | refine r_region rfl ?_ | refine thn_exit ?_ | refine thn_ret ?_ | refine inBlk_normal ?_ | refine inBlk_ret ?_ | refine inBlk_hit ?_ | refine inBlk_miss (by decide) ?_ | refine forQ_exit ?_ | refine forQ_ret ?_ | refine loopQ_exit ?_ | refine loopQ_ret ?_ | refine r_block ?_ | refine r_skip ?_ | refine r_exit ?_ | refine r_ret ?_ | (show rwp _ _ (.cond _ _ _) _ _ _; first | refine c_t (h := ?_) | refine c_f (h := ?_)))
    refine d_order [0, 1, 2, 3, 4, 5, 6, 7, 8, 9, 10, 11, 12, 13, 14, 15, 16, 17, 18, 19, 20, 22, 23, 24, 25, 26, 27, 28, 29, 30, 21, 31, 32, 33] (h := fun w4 he4 _ => ?_)
    repeat (first | refine da (next := ?_) | refine dsk (next := ?_) | refine dsku (next := ?_))
    refine dce (power_ok (x := Tc hv hjn) (by omega) hcv ?_) (next := fun v5 w5 h5 => ?_)
    · omega
    obtain ⟨he5, hf5⟩ := h5
    refine dce (imageBy_ok hi (xs := p.w (i + 1 + k)) ?_ (hv.w_in _ hjn.2)) (next := fun v7 w7 h7 => ?_)
    · rfl
    obtain ⟨he7, hf7⟩ := h7
    have hlen := (Grp.pw (Tc hv hjn) (p.ord.getD (i + 1 + k) 0).toNat).inr.len
    refine dce (equalI_ok (xs := (Grp.pw (Tc hv hjn) (p.ord.getD (i + 1 + k) 0).toNat).v) (ys := img p i (p.w (i + 1 + k))) ?_) (next := fun v8 w8 h8 => ?_)
    · omega
    obtain ⟨b8, rfl, hb8, he8⟩ := h8
    have hE8 : Ext w2 w8 := (((he3.trans he4).trans he5).trans he7).trans he8
    repeat (first | refine da (next := ?_) | refine dsk (next := ?_) | refine dsku (next := ?_))
    refine d_end (h := ?_)
    repeat (first | (show rops _ _ _ _ (_ :: _) _ _; first | refine ra (next := ?_) | refine rk (next := ?_) | refine rku (next := ?_)) | refine st_end ?_ | refine thn_normal ?_ | refine r_seq ?_ | refine r_region rfl ?_ | refine thn_exit ?_ | refine thn_ret ?_ | refine inBlk_normal ?_ | refine inBlk_ret ?_ | refine inBlk_hit ?_ | refine inBlk_miss (by decide) ?_ | refine forQ_exit ?_ | refine forQ_ret ?_ | refine loopQ_exit ?_ | refine loopQ_ret ?_ | refine r_block ?_ | refine r_skip ?_ | refine r_exit ?_ | refine r_ret ?_ | (show rwp _ _ (.cond _ _ _) _ _ _; first | refine c_t (h := ?_) | refine c_f (h := ?_)))
    refine c_b (fun h9 => ?_) (fun h9 => ?_)
    · repeat (first | (show rops _ _ _ _ (_ :: _) _ _; first | refine ra (next := ?_) | refine rk (next := ?_) | refine rku (next := ?_)) | refine st_end ?_ | refine thn_normal ?_ | refine r_seq ?_ | refine r_region rfl ?_ | refine thn_exit ?_ | refine thn_ret ?_ | refine inBlk_normal ?_ | refine inBlk_ret ?_ | refine inBlk_hit ?_ | refine inBlk_miss (by decide) ?_ | refine forQ_exit ?_ | refine forQ_ret ?_ | refine loopQ_exit ?_ | refine loopQ_ret ?_ | refine r_block ?_ | refine r_skip ?_ | refine r_exit ?_ | refine r_ret ?_ | (show rwp _ _ (.cond _ _ _) _ _ _; first | refine c_t (h := ?_) | refine c_f (h := ?_)))
      refine ra (v := faultV 1 i (i + 1 + k : Nat) 0) (h := rd_build (by simp only [ev_tmp, ev_const, ev_func, get_put, get_args, get_putL, get_putL_nil, Nat.reduceEqDiff, reduceIte, List.getD_cons_zero, List.getD_cons_succ, List.getD_nil, List.map_toArray, List.map_cons, List.map_nil]; rfl) (fun _ => by kernel_rfl)) (next := ?_)
      refine st_store_agg (vs := [.int .i64 1, .int .i64 i, .int .i64 (i + 1 + k : Nat), .int .i64 0]) (cs := _) (by ((try simp only [ev_tmp, ev_const, ev_func, get_put, get_args, get_putL, get_putL_nil, Nat.reduceEqDiff, reduceIte, List.getD_cons_zero, List.getD_cons_succ, List.getD_nil]); first | done | with_reducible rfl)) (by ((try simp only [ev_tmp, ev_const, ev_func, get_put, get_args, get_putL, get_putL_nil, Nat.reduceEqDiff, reduceIte, List.getD_cons_zero, List.getD_cons_succ, List.getD_nil]); first | done | with_reducible rfl)) rfl ?_ rfl (by first | exact True.intro | exact ⟨_, rfl, by ((try simp only [ev_tmp, ev_const, ev_func, get_put, get_args, get_putL, get_putL_nil, Nat.reduceEqDiff, reduceIte, List.getD_cons_zero, List.getD_cons_succ, List.getD_nil, Bool.not_true, Bool.not_false]); first | done | with_reducible rfl)⟩) fun w9 hc9 hs9 hb9 => ?_
      · rfl
      repeat (first | (show rops _ _ _ _ (_ :: _) _ _; first | refine ra (next := ?_) | refine rk (next := ?_) | refine rku (next := ?_)) | refine st_end ?_ | refine thn_normal ?_ | refine r_seq ?_ | refine r_region rfl ?_ | refine thn_exit ?_ | refine thn_ret ?_ | refine inBlk_normal ?_ | refine inBlk_ret ?_ | refine inBlk_hit ?_ | refine inBlk_miss (by decide) ?_ | refine forQ_exit ?_ | refine forQ_ret ?_ | refine loopQ_exit ?_ | refine loopQ_ret ?_ | refine r_block ?_ | refine r_skip ?_ | refine r_exit ?_ | refine r_ret ?_ | (show rwp _ _ (.cond _ _ _) _ _ _; first | refine c_t (h := ?_) | refine c_f (h := ?_)))
      refine retc (bad (k := 1) (f := (i + 1 + k : Nat)) (s := 0) (hc9.ext (he2.trans hE8) (by omega)) (by decide) fun h => ?_) rfl
      have := hb8.2 (((chk_iff2 hi).1 h).1 _ hjn)
      rw [this] at h9; cases h9
    · have h10 := hb8.1 (by simpa using h9)
      repeat (first | (show rops _ _ _ _ (_ :: _) _ _; first | refine ra (next := ?_) | refine rk (next := ?_) | refine rku (next := ?_)) | refine st_end ?_ | refine thn_normal ?_ | refine r_seq ?_ | refine r_region rfl ?_ | refine thn_exit ?_ | refine thn_ret ?_ | refine inBlk_normal ?_ | refine inBlk_ret ?_ | refine inBlk_hit ?_ | refine inBlk_miss (by decide) ?_ | refine forQ_exit ?_ | refine forQ_ret ?_ | refine loopQ_exit ?_ | refine loopQ_ret ?_ | refine r_block ?_ | refine r_skip ?_ | refine r_exit ?_ | refine r_ret ?_ | (show rwp _ _ (.cond _ _ _) _ _ _; first | refine c_t (h := ?_) | refine c_f (h := ?_)))
      refine forQ_normal (by omega) ⟨?_, hE8, fun j hj => ?_⟩
      · ((try simp only [Has, ev_tmp, ev_const, ev_func, get_put, get_args, get_putL, get_putL_nil, Nat.reduceEqDiff, reduceIte, List.getD_cons_zero, List.getD_cons_succ, List.getD_nil]); repeat' (first | exact True.intro | apply And.intro | with_reducible rfl | exact int_congr (by first | omega | rfl)))
      · by_cases e : j = i + 1 + k
        · subst e; exact fun _ => h10
        · exact hP j (by omega)
  repeat (first | (show rops _ _ _ _ (_ :: _) _ _; first | refine ra (next := ?_) | refine rk (next := ?_) | refine rku (next := ?_)) | refine st_end ?_ | refine thn_normal ?_ | refine r_seq ?_ | refine r_region rfl ?_ | refine thn_exit ?_ | refine thn_ret ?_ | refine inBlk_normal ?_ | refine inBlk_ret ?_ | refine inBlk_hit ?_ | refine inBlk_miss (by decide) ?_ | refine forQ_exit ?_ | refine forQ_ret ?_ | refine loopQ_exit ?_ | refine loopQ_ret ?_ | refine r_block ?_ | refine r_skip ?_ | refine r_exit ?_ | refine r_ret ?_ | (show rwp _ _ (.cond _ _ _) _ _ _; first | refine c_t (h := ?_) | refine c_f (h := ?_)))
  have hP' : ∀ j, LP p i j := fun j => by
    by_cases e : j < i + 1 + k
    · exact hP j e
    · exact fun h => by omega
  clear hP hH hk hj
  refine r_for (p.n - (i + 1)) (fun k ρ w' => Has ρ [(0, .pointer (some ⟨b, 0, none⟩)), (1, .int .i64 i), (4, .pointer (some ⟨bf, 0, none⟩)), (5, .int .i64 p.n), (6, .int .i64 i), (8, .int .i64 (i + 1 + k : Nat))] ∧ Ext w2 w' ∧ ∀ j k', j < i + 1 + k → QC p i j k') ?_ ?_
  · refine ⟨?_, he3, fun j k' hj hj' => by omega⟩
    ((try simp only [Has, ev_tmp, ev_const, ev_func, get_put, get_args, get_putL, get_putL_nil, Nat.reduceEqDiff, reduceIte, List.getD_cons_zero, List.getD_cons_succ, List.getD_nil]); repeat' (first | exact True.intro | apply And.intro | with_reducible rfl | exact int_congr (by first | omega | rfl)))
  clear he3 ρ0 k
  rintro k ρ w4 hk ⟨hH, he4, hC⟩
  refine rwp_has hH fun ρ1 => ?_
  repeat (first | (show rops _ _ _ _ (_ :: _) _ _; first | refine ra (next := ?_) | refine rk (next := ?_) | refine rku (next := ?_)) | refine st_end ?_ | refine thn_normal ?_ | refine r_seq ?_ | refine r_region rfl ?_ | refine thn_exit ?_ | refine thn_ret ?_ | refine inBlk_normal ?_ | refine inBlk_ret ?_ | refine inBlk_hit ?_ | refine inBlk_miss (by decide) ?_ | refine forQ_exit ?_ | refine forQ_ret ?_ | refine loopQ_exit ?_ | refine loopQ_ret ?_ | refine r_block ?_ | refine r_skip ?_ | refine r_exit ?_ | refine r_ret ?_ | (show rwp _ _ (.cond _ _ _) _ _ _; first | refine c_t (h := ?_) | refine c_f (h := ?_)))
  refine c_if (fun hj => ?_) (fun hj => ?_)
  · have hjn : i < i + 1 + k ∧ i + 1 + k < p.n := ⟨by omega, by omega⟩
    repeat (first | (show rops _ _ _ _ (_ :: _) _ _; first | refine ra (next := ?_) | refine rk (next := ?_) | refine rku (next := ?_)) | refine st_end ?_ | refine thn_normal ?_ | refine r_seq ?_ | refine r_region rfl ?_ | refine thn_exit ?_ | refine thn_ret ?_ | refine inBlk_normal ?_ | refine inBlk_ret ?_ | refine inBlk_hit ?_ | refine inBlk_miss (by decide) ?_ | refine forQ_exit ?_ | refine forQ_ret ?_ | refine loopQ_exit ?_ | refine loopQ_ret ?_ | refine r_block ?_ | refine r_skip ?_ | refine r_exit ?_ | refine r_ret ?_ | (show rwp _ _ (.cond _ _ _) _ _ _; first | refine c_t (h := ?_) | refine c_f (h := ?_)))
    refine r_for (p.n - (i + 1 + k + 1)) (fun l ρ w' => Has ρ [(0, .pointer (some ⟨b, 0, none⟩)), (1, .int .i64 i), (4, .pointer (some ⟨bf, 0, none⟩)), (5, .int .i64 p.n), (6, .int .i64 i), (8, .int .i64 (i + 1 + k : Nat)), (9, .int .i64 (i + 1 + k + 1 + l : Nat))] ∧ Ext w2 w' ∧ ∀ k', k' < i + 1 + k + 1 + l → QC p i (i + 1 + k) k') ?_ ?_
    · refine ⟨?_, he4, fun k' hk' h1 h2 h3 => by omega⟩
      ((try simp only [Has, ev_tmp, ev_const, ev_func, get_put, get_args, get_putL, get_putL_nil, Nat.reduceEqDiff, reduceIte, List.getD_cons_zero, List.getD_cons_succ, List.getD_nil]); repeat' (first | exact True.intro | apply And.intro | with_reducible rfl | exact int_congr (by first | omega | rfl)))
    clear he4
    rintro l ρ w5 hl ⟨hH5, he5, hC5⟩
    refine rwp_has hH5 fun ρ2 => ?_
    repeat (first | (show rops _ _ _ _ (_ :: _) _ _; first | refine ra (next := ?_) | refine rk (next := ?_) | refine rku (next := ?_)) | refine st_end ?_ | refine thn_normal ?_ | refine r_seq ?_ | refine r_region rfl ?_ | refine thn_exit ?_ | refine thn_ret ?_ | refine inBlk_normal ?_ | refine inBlk_ret ?_ | refine inBlk_hit ?_ | refine inBlk_miss (by decide) ?_ | refine forQ_exit ?_ | refine forQ_ret ?_ | refine loopQ_exit ?_ | refine loopQ_ret ?_ | refine r_block ?_ | refine r_skip ?_ | refine r_exit ?_ | refine r_ret ?_ | (show rwp _ _ (.cond _ _ _) _ _ _; first | refine c_t (h := ?_) | refine c_f (h := ?_)))
    refine c_if (fun hk2 => ?_) (fun hk2 => ?_)
    · have hkn : i < i + 1 + k + 1 + l ∧ i + 1 + k + 1 + l < p.n := ⟨by omega, by omega⟩
      have hjk : i + 1 + k < i + 1 + k + 1 + l := by omega
      have hcj := hv.lenci (i + 1 + k) hjn.2
      have hcv1 : (p.cnj.getD i []).getD (i + 1 + k - i - 1) [] = (Tc hv hjn).v := rfl
      have hcv2 : (p.cnj.getD i []).getD (i + 1 + k + 1 + l - i - 1) [] = (Tc hv hkn).v := rfl
      repeat (first | (show rops _ _ _ _ (_ :: _) _ _; first | refine ra (next := ?_) | refine rk (next := ?_) | refine rku (next := ?_)) | refine st_end ?_ | refine thn_normal ?_ | refine r_seq ?_ | refine r_region rfl ?_ | refine thn_exit ?_ | refine thn_ret ?_ | refine inBlk_normal ?_ | refine inBlk_ret ?_ | refine inBlk_hit ?_ | refine inBlk_miss (by decide) ?_ | refine forQ_exit ?_ | refine forQ_ret ?_ | refine loopQ_exit ?_ | refine loopQ_ret ?_ | refine r_block ?_ | refine r_skip ?_ | refine r_exit ?_ | refine r_ret ?_ | (show rwp _ _ (.cond _ _ _) _ _ _; first | refine c_t (h := ?_) | refine c_f (h := ?_)))
      refine d_order [0, 1, 2, 3, 4, 5, 6, 7, 8, 9, 10, 11, 12, 13, 14, 15, 16, 17, 18, 19, 20, 21, 22, 23, 24, 25, 26, 28, 29, 30, 31, 32, 33, 34, 35, 36, 37, 38, 39, 40, 41, 42, 27, 43, 44, 45] (h := fun w6 he6 _ => ?_)
      repeat (first | refine da (next := ?_) | refine dsk (next := ?_) | refine dsku (next := ?_))
      refine dce (conjugate_ok (x := Tc hv hkn) (y := Tc hv hjn) (by omega) hcv2 hcv1) (next := fun v7 w7 h7 => ?_)
      obtain ⟨he7, hf7⟩ := h7
      refine dce (imageBy_ok hi (xs := p.c (i + 1 + k) (i + 1 + k + 1 + l)) ?_ (hv.c_in _ _ hjk hkn.2)) (next := fun v8 w8 h8 => ?_)
      · rfl
      obtain ⟨he8, hf8⟩ := h8
      have hlen := (Grp.cj (Tc hv hkn) (Tc hv hjn)).inr.len
      refine dce (equalI_ok (xs := (Grp.cj (Tc hv hkn) (Tc hv hjn)).v) (ys := img p i (p.c (i + 1 + k) (i + 1 + k + 1 + l))) ?_) (next := fun v9 w9 h9 => ?_)
      · omega
      obtain ⟨b9, rfl, hb9, he9⟩ := h9
      have hE9 : Ext w2 w9 := (((he5.trans he6).trans he7).trans he8).trans he9
      repeat (first | refine da (next := ?_) | refine dsk (next := ?_) | refine dsku (next := ?_))
      refine d_end (h := ?_)
      repeat (first | (show rops _ _ _ _ (_ :: _) _ _; first | refine ra (next := ?_) | refine rk (next := ?_) | refine rku (next := ?_)) | refine st_end ?_ | refine thn_normal ?_ | refine r_seq ?_ | refine r_region rfl ?_ | refine thn_exit ?_ | refine thn_ret ?_ | refine inBlk_normal ?_ | refine inBlk_ret ?_ | refine inBlk_hit ?_ | refine inBlk_miss (by decide) ?_ | refine forQ_exit ?_ | refine forQ_ret ?_ | refine loopQ_exit ?_ | refine loopQ_ret ?_ | refine r_block ?_ | refine r_skip ?_ | refine r_exit ?_ | refine r_ret ?_ | (show rwp _ _ (.cond _ _ _) _ _ _; first | refine c_t (h := ?_) | refine c_f (h := ?_)))
      refine c_b (fun h10 => ?_) (fun h10 => ?_)
      · repeat (first | (show rops _ _ _ _ (_ :: _) _ _; first | refine ra (next := ?_) | refine rk (next := ?_) | refine rku (next := ?_)) | refine st_end ?_ | refine thn_normal ?_ | refine r_seq ?_ | refine r_region rfl ?_ | refine thn_exit ?_ | refine thn_ret ?_ | refine inBlk_normal ?_ | refine inBlk_ret ?_ | refine inBlk_hit ?_ | refine inBlk_miss (by decide) ?_ | refine forQ_exit ?_ | refine forQ_ret ?_ | refine loopQ_exit ?_ | refine loopQ_ret ?_ | refine r_block ?_ | refine r_skip ?_ | refine r_exit ?_ | refine r_ret ?_ | (show rwp _ _ (.cond _ _ _) _ _ _; first | refine c_t (h := ?_) | refine c_f (h := ?_)))
        refine ra (v := faultV 2 i (i + 1 + k : Nat) (i + 1 + k + 1 + l : Nat)) (h := rd_build (by simp only [ev_tmp, ev_const, ev_func, get_put, get_args, get_putL, get_putL_nil, Nat.reduceEqDiff, reduceIte, List.getD_cons_zero, List.getD_cons_succ, List.getD_nil, List.map_toArray, List.map_cons, List.map_nil]; rfl) (fun _ => by kernel_rfl)) (next := ?_)
        refine st_store_agg (vs := [.int .i64 2, .int .i64 i, .int .i64 (i + 1 + k : Nat), .int .i64 (i + 1 + k + 1 + l : Nat)]) (cs := _) (by ((try simp only [ev_tmp, ev_const, ev_func, get_put, get_args, get_putL, get_putL_nil, Nat.reduceEqDiff, reduceIte, List.getD_cons_zero, List.getD_cons_succ, List.getD_nil]); first | done | with_reducible rfl)) (by ((try simp only [ev_tmp, ev_const, ev_func, get_put, get_args, get_putL, get_putL_nil, Nat.reduceEqDiff, reduceIte, List.getD_cons_zero, List.getD_cons_succ, List.getD_nil]); first | done | with_reducible rfl)) rfl ?_ rfl (by first | exact True.intro | exact ⟨_, rfl, by ((try simp only [ev_tmp, ev_const, ev_func, get_put, get_args, get_putL, get_putL_nil, Nat.reduceEqDiff, reduceIte, List.getD_cons_zero, List.getD_cons_succ, List.getD_nil, Bool.not_true, Bool.not_false]); first | done | with_reducible rfl)⟩) fun w10 hc10 hs10 hb10 => ?_
        · rfl
        repeat (first | (show rops _ _ _ _ (_ :: _) _ _; first | refine ra (next := ?_) | refine rk (next := ?_) | refine rku (next := ?_)) | refine st_end ?_ | refine thn_normal ?_ | refine r_seq ?_ | refine r_region rfl ?_ | refine thn_exit ?_ | refine thn_ret ?_ | refine inBlk_normal ?_ | refine inBlk_ret ?_ | refine inBlk_hit ?_ | refine inBlk_miss (by decide) ?_ | refine forQ_exit ?_ | refine forQ_ret ?_ | refine loopQ_exit ?_ | refine loopQ_ret ?_ | refine r_block ?_ | refine r_skip ?_ | refine r_exit ?_ | refine r_ret ?_ | (show rwp _ _ (.cond _ _ _) _ _ _; first | refine c_t (h := ?_) | refine c_f (h := ?_)))
        refine retc (bad (k := 2) (f := (i + 1 + k : Nat)) (s := (i + 1 + k + 1 + l : Nat)) (hc10.ext (he2.trans hE9) (by omega)) (by decide) fun h => ?_) rfl
        have := hb9.2 (((chk_iff2 hi).1 h).2.1 _ _ hjn hkn hjk)
        rw [this] at h10; cases h10
      · have h11 := hb9.1 (by simpa using h10)
        repeat (first | (show rops _ _ _ _ (_ :: _) _ _; first | refine ra (next := ?_) | refine rk (next := ?_) | refine rku (next := ?_)) | refine st_end ?_ | refine thn_normal ?_ | refine r_seq ?_ | refine r_region rfl ?_ | refine thn_exit ?_ | refine thn_ret ?_ | refine inBlk_normal ?_ | refine inBlk_ret ?_ | refine inBlk_hit ?_ | refine inBlk_miss (by decide) ?_ | refine forQ_exit ?_ | refine forQ_ret ?_ | refine loopQ_exit ?_ | refine loopQ_ret ?_ | refine r_block ?_ | refine r_skip ?_ | refine r_exit ?_ | refine r_ret ?_ | (show rwp _ _ (.cond _ _ _) _ _ _; first | refine c_t (h := ?_) | refine c_f (h := ?_)))
        refine forQ_normal (by omega) ⟨?_, hE9, fun k' hk' => ?_⟩
        · ((try simp only [Has, ev_tmp, ev_const, ev_func, get_put, get_args, get_putL, get_putL_nil, Nat.reduceEqDiff, reduceIte, List.getD_cons_zero, List.getD_cons_succ, List.getD_nil]); repeat' (first | exact True.intro | apply And.intro | with_reducible rfl | exact int_congr (by first | omega | rfl)))
        · by_cases e : k' = i + 1 + k + 1 + l
          · subst e; exact fun _ _ _ => h11
          · exact hC5 k' (by omega)
    · repeat (first | (show rops _ _ _ _ (_ :: _) _ _; first | refine ra (next := ?_) | refine rk (next := ?_) | refine rku (next := ?_)) | refine st_end ?_ | refine thn_normal ?_ | refine r_seq ?_ | refine r_region rfl ?_ | refine thn_exit ?_ | refine thn_ret ?_ | refine inBlk_normal ?_ | refine inBlk_ret ?_ | refine inBlk_hit ?_ | refine inBlk_miss (by decide) ?_ | refine forQ_exit ?_ | refine forQ_ret ?_ | refine loopQ_exit ?_ | refine loopQ_ret ?_ | refine r_block ?_ | refine r_skip ?_ | refine r_exit ?_ | refine r_ret ?_ | (show rwp _ _ (.cond _ _ _) _ _ _; first | refine c_t (h := ?_) | refine c_f (h := ?_)))
      refine forQ_normal (by omega) ⟨?_, he5, fun j k' hj2 => ?_⟩
      · ((try simp only [Has, ev_tmp, ev_const, ev_func, get_put, get_args, get_putL, get_putL_nil, Nat.reduceEqDiff, reduceIte, List.getD_cons_zero, List.getD_cons_succ, List.getD_nil]); repeat' (first | exact True.intro | apply And.intro | with_reducible rfl | exact int_congr (by first | omega | rfl)))
      · by_cases e : j = i + 1 + k
        · subst e
          by_cases e2 : k' < i + 1 + k + 1 + l
          · exact hC5 k' e2
          · exact fun _ _ _ => by omega
        · exact hC j k' (by omega)
  repeat (first | (show rops _ _ _ _ (_ :: _) _ _; first | refine ra (next := ?_) | refine rk (next := ?_) | refine rku (next := ?_)) | refine st_end ?_ | refine thn_normal ?_ | refine r_seq ?_ | refine r_region rfl ?_ | refine thn_exit ?_ | refine thn_ret ?_ | refine inBlk_normal ?_ | refine inBlk_ret ?_ | refine inBlk_hit ?_ | refine inBlk_miss (by decide) ?_ | refine forQ_exit ?_ | refine forQ_ret ?_ | refine loopQ_exit ?_ | refine loopQ_ret ?_ | refine r_block ?_ | refine r_skip ?_ | refine r_exit ?_ | refine r_ret ?_ | (show rwp _ _ (.cond _ _ _) _ _ _; first | refine c_t (h := ?_) | refine c_f (h := ?_)))
  have hC' : ∀ j k', QC p i j k' := fun j k' => by
    by_cases e : j < i + 1 + k
    · exact hC j k' e
    · exact fun h _ _ => by omega
  clear hC hH hk hj
  refine rc (imageBy_ok hi (xs := p.w i) ?_ (hv.w_in _ hi)) (next := fun v5 w5 h5 => ?_)
  · rfl
  obtain ⟨he5, hf5⟩ := h5
  have hlen := (img_in hv i (p.w i)).1.len
  repeat (first | (show rops _ _ _ _ (_ :: _) _ _; first | refine ra (next := ?_) | refine rk (next := ?_) | refine rku (next := ?_)) | refine st_end ?_ | refine thn_normal ?_ | refine r_seq ?_ | refine r_region rfl ?_ | refine thn_exit ?_ | refine thn_ret ?_ | refine inBlk_normal ?_ | refine inBlk_ret ?_ | refine inBlk_hit ?_ | refine inBlk_miss (by decide) ?_ | refine forQ_exit ?_ | refine forQ_ret ?_ | refine loopQ_exit ?_ | refine loopQ_ret ?_ | refine r_block ?_ | refine r_skip ?_ | refine r_exit ?_ | refine r_ret ?_ | (show rwp _ _ (.cond _ _ _) _ _ _; first | refine c_t (h := ?_) | refine c_f (h := ?_)))
  refine rc (equalI_ok (xs := img p i (p.w i)) (ys := p.w i) ?_) (next := fun v6 w6 h6 => ?_)
  · omega
  obtain ⟨b6, rfl, hb6, he6⟩ := h6
  have hE6 : Ext w2 w6 := (he4.trans he5).trans he6
  clear he4 he5 he6 hf5
  repeat (first | (show rops _ _ _ _ (_ :: _) _ _; first | refine ra (next := ?_) | refine rk (next := ?_) | refine rku (next := ?_)) | refine st_end ?_ | refine thn_normal ?_ | refine r_seq ?_ | refine r_region rfl ?_ | refine thn_exit ?_ | refine thn_ret ?_ | refine inBlk_normal ?_ | refine inBlk_ret ?_ | refine inBlk_hit ?_ | refine inBlk_miss (by decide) ?_ | refine forQ_exit ?_ | refine forQ_ret ?_ | refine loopQ_exit ?_ | refine loopQ_ret ?_ | refine r_block ?_ | refine r_skip ?_ | refine r_exit ?_ | refine r_ret ?_ | (show rwp _ _ (.cond _ _ _) _ _ _; first | refine c_t (h := ?_) | refine c_f (h := ?_)))
  refine c_b (fun h7 => ?_) (fun h7 => ?_)
  · repeat (first | (show rops _ _ _ _ (_ :: _) _ _; first | refine ra (next := ?_) | refine rk (next := ?_) | refine rku (next := ?_)) | refine st_end ?_ | refine thn_normal ?_ | refine r_seq ?_ | refine r_region rfl ?_ | refine thn_exit ?_ | refine thn_ret ?_ | refine inBlk_normal ?_ | refine inBlk_ret ?_ | refine inBlk_hit ?_ | refine inBlk_miss (by decide) ?_ | refine forQ_exit ?_ | refine forQ_ret ?_ | refine loopQ_exit ?_ | refine loopQ_ret ?_ | refine r_block ?_ | refine r_skip ?_ | refine r_exit ?_ | refine r_ret ?_ | (show rwp _ _ (.cond _ _ _) _ _ _; first | refine c_t (h := ?_) | refine c_f (h := ?_)))
    refine ra (v := faultV 3 i 0 0) (h := rd_build (by simp only [ev_tmp, ev_const, ev_func, get_put, get_args, get_putL, get_putL_nil, Nat.reduceEqDiff, reduceIte, List.getD_cons_zero, List.getD_cons_succ, List.getD_nil, List.map_toArray, List.map_cons, List.map_nil]; rfl) (fun _ => by kernel_rfl)) (next := ?_)
    refine st_store_agg (vs := [.int .i64 3, .int .i64 i, .int .i64 0, .int .i64 0]) (cs := _) (by ((try simp only [ev_tmp, ev_const, ev_func, get_put, get_args, get_putL, get_putL_nil, Nat.reduceEqDiff, reduceIte, List.getD_cons_zero, List.getD_cons_succ, List.getD_nil]); first | done | with_reducible rfl)) (by ((try simp only [ev_tmp, ev_const, ev_func, get_put, get_args, get_putL, get_putL_nil, Nat.reduceEqDiff, reduceIte, List.getD_cons_zero, List.getD_cons_succ, List.getD_nil]); first | done | with_reducible rfl)) rfl ?_ rfl (by first | exact True.intro | exact ⟨_, rfl, by ((try simp only [ev_tmp, ev_const, ev_func, get_put, get_args, get_putL, get_putL_nil, Nat.reduceEqDiff, reduceIte, List.getD_cons_zero, List.getD_cons_succ, List.getD_nil, Bool.not_true, Bool.not_false]); first | done | with_reducible rfl)⟩) fun w9 hc9 hs9 hb9 => ?_
    · rfl
    repeat (first | (show rops _ _ _ _ (_ :: _) _ _; first | refine ra (next := ?_) | refine rk (next := ?_) | refine rku (next := ?_)) | refine st_end ?_ | refine thn_normal ?_ | refine r_seq ?_ | refine r_region rfl ?_ | refine thn_exit ?_ | refine thn_ret ?_ | refine inBlk_normal ?_ | refine inBlk_ret ?_ | refine inBlk_hit ?_ | refine inBlk_miss (by decide) ?_ | refine forQ_exit ?_ | refine forQ_ret ?_ | refine loopQ_exit ?_ | refine loopQ_ret ?_ | refine r_block ?_ | refine r_skip ?_ | refine r_exit ?_ | refine r_ret ?_ | (show rwp _ _ (.cond _ _ _) _ _ _; first | refine c_t (h := ?_) | refine c_f (h := ?_)))
    refine retc (bad (k := 3) (f := 0) (s := 0) (hc9.ext (he2.trans hE6) (by omega)) (by decide) fun h => ?_) rfl
    have := hb6.2 ((chk_iff2 hi).1 h).2.2.1
    rw [this] at h7; cases h7
  have hF := hb6.1 (by simpa using h7)
  clear h7
  repeat (first | (show rops _ _ _ _ (_ :: _) _ _; first | refine ra (next := ?_) | refine rk (next := ?_) | refine rku (next := ?_)) | refine st_end ?_ | refine thn_normal ?_ | refine r_seq ?_ | refine r_region rfl ?_ | refine thn_exit ?_ | refine thn_ret ?_ | refine inBlk_normal ?_ | refine inBlk_ret ?_ | refine inBlk_hit ?_ | refine inBlk_miss (by decide) ?_ | refine forQ_exit ?_ | refine forQ_ret ?_ | refine loopQ_exit ?_ | refine loopQ_ret ?_ | refine r_block ?_ | refine r_skip ?_ | refine r_exit ?_ | refine r_ret ?_ | (show rwp _ _ (.cond _ _ _) _ _ _; first | refine c_t (h := ?_) | refine c_f (h := ?_)))
  refine r_for (p.n - (i + 1)) (fun k ρ w' => Has ρ [(0, .pointer (some ⟨b, 0, none⟩)), (1, .int .i64 i), (4, .pointer (some ⟨bf, 0, none⟩)), (5, .int .i64 p.n), (6, .int .i64 i), (10, Pc.rowAt vpw ps i), (11, .int .i64 (i + 1 + k : Nat))] ∧ Ext w2 w' ∧ ∀ j, j < i + 1 + k → QI p i hi j) ?_ ?_
  · refine ⟨?_, hE6, fun j hj h1 => by omega⟩
    ((try simp only [Has, ev_tmp, ev_const, ev_func, get_put, get_args, get_putL, get_putL_nil, Nat.reduceEqDiff, reduceIte, List.getD_cons_zero, List.getD_cons_succ, List.getD_nil]); repeat' (first | exact True.intro | apply And.intro | with_reducible rfl | exact int_congr (by first | omega | rfl)))
  clear hE6
  rintro l ρ w8 hk ⟨hH, he8, hI⟩
  refine rwp_has hH fun ρ2 => ?_
  repeat (first | (show rops _ _ _ _ (_ :: _) _ _; first | refine ra (next := ?_) | refine rk (next := ?_) | refine rku (next := ?_)) | refine st_end ?_ | refine thn_normal ?_ | refine r_seq ?_ | refine r_region rfl ?_ | refine thn_exit ?_ | refine thn_ret ?_ | refine inBlk_normal ?_ | refine inBlk_ret ?_ | refine inBlk_hit ?_ | refine inBlk_miss (by decide) ?_ | refine forQ_exit ?_ | refine forQ_ret ?_ | refine loopQ_exit ?_ | refine loopQ_ret ?_ | refine r_block ?_ | refine r_skip ?_ | refine r_exit ?_ | refine r_ret ?_ | (show rwp _ _ (.cond _ _ _) _ _ _; first | refine c_t (h := ?_) | refine c_f (h := ?_)))
  refine c_if (fun hj => ?_) (fun hj => ?_)
  · have hjn : i + 1 ≤ i + 1 + l ∧ i + 1 + l < p.n := ⟨by omega, by omega⟩
    repeat (first | (show rops _ _ _ _ (_ :: _) _ _; first | refine ra (next := ?_) | refine rk (next := ?_) | refine rku (next := ?_)) | refine st_end ?_ | refine thn_normal ?_ | refine r_seq ?_ | refine r_region rfl ?_ | refine thn_exit ?_ | refine thn_ret ?_ | refine inBlk_normal ?_ | refine inBlk_ret ?_ | refine inBlk_hit ?_ | refine inBlk_miss (by decide) ?_ | refine forQ_exit ?_ | refine forQ_ret ?_ | refine loopQ_exit ?_ | refine loopQ_ret ?_ | refine r_block ?_ | refine r_skip ?_ | refine r_exit ?_ | refine r_ret ?_ | (show rwp _ _ (.cond _ _ _) _ _ _; first | refine c_t (h := ?_) | refine c_f (h := ?_)))
    refine rc (unitVector_ok (n := p.n) (i := i + 1 + l) rfl rfl ?_ hjn.2) (next := fun v9 w9 h9 => ?_)
    · omega
    obtain ⟨he9, hf9⟩ := h9
    have hg0 : (zeros p.n).set (i + 1 + l) 1 = unitv p (i + 1 + l) 1 := rfl
    rw [hg0] at hf9
    have hz8 := he8.size
    repeat (first | (show rops _ _ _ _ (_ :: _) _ _; first | refine ra (next := ?_) | refine rk (next := ?_) | refine rku (next := ?_)) | refine st_end ?_ | refine thn_normal ?_ | refine r_seq ?_ | refine r_region rfl ?_ | refine thn_exit ?_ | refine thn_ret ?_ | refine inBlk_normal ?_ | refine inBlk_ret ?_ | refine inBlk_hit ?_ | refine inBlk_miss (by decide) ?_ | refine forQ_exit ?_ | refine forQ_ret ?_ | refine loopQ_exit ?_ | refine loopQ_ret ?_ | refine r_block ?_ | refine r_skip ?_ | refine r_exit ?_ | refine r_ret ?_ | (show rwp _ _ (.cond _ _ _) _ _ _; first | refine c_t (h := ?_) | refine c_f (h := ?_)))
    refine r_for (p.o i).toNat (fun q ρ w' => ∃ vx, Has ρ [(0, .pointer (some ⟨b, 0, none⟩)), (1, .int .i64 i), (4, .pointer (some ⟨bf, 0, none⟩)), (5, .int .i64 p.n), (6, .int .i64 i), (10, Pc.rowAt vpw ps i), (11, .int .i64 (i + 1 + l : Nat)), (12, vx), (159, .int .i64 (p.ord.getD i 0)), (160, .int .i64 q)] ∧ Ext w8 w' ∧ Fr w8.heap.size w' vx (rep q (img p i) (unitv p (i + 1 + l) 1))) ?_ ?_
    · refine ⟨v9, ?_, he9, hf9⟩
      ((try simp only [Has, ev_tmp, ev_const, ev_func, get_put, get_args, get_putL, get_putL_nil, Nat.reduceEqDiff, reduceIte, List.getD_cons_zero, List.getD_cons_succ, List.getD_nil]); repeat' (first | exact True.intro | apply And.intro | with_reducible rfl | exact int_congr (by first | omega | rfl)))
    clear he9 hf9
    rintro q ρ w10 hq ⟨vx, hH, he10, hf10⟩
    refine rwp_has hH fun ρ3 => ?_
    have hin : InR p (rep q (img p i) (unitv p (i + 1 + l) 1)) ∧ ZU (i + 1) (rep q (img p i) (unitv p (i + 1 + l) 1)) := by
      refine rep_inv (fun v => InR p v ∧ ZU (i + 1) v) (fun x _ => img_in hv i x) ⟨?_, unitv_zu p hjn.1 1⟩ q
      exact unitv_in hv (by omega) (fun h => by have := hv.opos h; omega)
    have hxi := hf10.ints
    repeat (first | (show rops _ _ _ _ (_ :: _) _ _; first | refine ra (next := ?_) | refine rk (next := ?_) | refine rku (next := ?_)) | refine st_end ?_ | refine thn_normal ?_ | refine r_seq ?_ | refine r_region rfl ?_ | refine thn_exit ?_ | refine thn_ret ?_ | refine inBlk_normal ?_ | refine inBlk_ret ?_ | refine inBlk_hit ?_ | refine inBlk_miss (by decide) ?_ | refine forQ_exit ?_ | refine forQ_ret ?_ | refine loopQ_exit ?_ | refine loopQ_ret ?_ | refine r_block ?_ | refine r_skip ?_ | refine r_exit ?_ | refine r_ret ?_ | (show rwp _ _ (.cond _ _ _) _ _ _; first | refine c_t (h := ?_) | refine c_f (h := ?_)))
    refine c_if (fun hq2 => ?_) (fun hq2 => ?_)
    · repeat (first | (show rops _ _ _ _ (_ :: _) _ _; first | refine ra (next := ?_) | refine rk (next := ?_) | refine rku (next := ?_)) | refine st_end ?_ | refine thn_normal ?_ | refine r_seq ?_ | refine r_region rfl ?_ | refine thn_exit ?_ | refine thn_ret ?_ | refine inBlk_normal ?_ | refine inBlk_ret ?_ | refine inBlk_hit ?_ | refine inBlk_miss (by decide) ?_ | refine forQ_exit ?_ | refine forQ_ret ?_ | refine loopQ_exit ?_ | refine loopQ_ret ?_ | refine r_block ?_ | refine r_skip ?_ | refine r_exit ?_ | refine r_ret ?_ | (show rwp _ _ (.cond _ _ _) _ _ _; first | refine c_t (h := ?_) | refine c_f (h := ?_)))
      refine rc (imageBy_ok hi (xs := rep q (img p i) (unitv p (i + 1 + l) 1)) ?_ hin.1) (next := fun v11 w11 h11 => ?_)
      · rfl
      obtain ⟨he11, hf11⟩ := h11
      repeat (first | (show rops _ _ _ _ (_ :: _) _ _; first | refine ra (next := ?_) | refine rk (next := ?_) | refine rku (next := ?_)) | refine st_end ?_ | refine thn_normal ?_ | refine r_seq ?_ | refine r_region rfl ?_ | refine thn_exit ?_ | refine thn_ret ?_ | refine inBlk_normal ?_ | refine inBlk_ret ?_ | refine inBlk_hit ?_ | refine inBlk_miss (by decide) ?_ | refine forQ_exit ?_ | refine forQ_ret ?_ | refine loopQ_exit ?_ | refine loopQ_ret ?_ | refine r_block ?_ | refine r_skip ?_ | refine r_exit ?_ | refine r_ret ?_ | (show rwp _ _ (.cond _ _ _) _ _ _; first | refine c_t (h := ?_) | refine c_f (h := ?_)))
      refine forQ_normal (by omega) ⟨v11, ?_, he10.trans he11, hf11.mono he10.size⟩
      ((try simp only [Has, ev_tmp, ev_const, ev_func, get_put, get_args, get_putL, get_putL_nil, Nat.reduceEqDiff, reduceIte, List.getD_cons_zero, List.getD_cons_succ, List.getD_nil]); repeat' (first | exact True.intro | apply And.intro | with_reducible rfl | exact int_congr (by first | omega | rfl)))
    · have hqe : q = (p.o i).toNat := by omega
      subst hqe
      repeat (first | (show rops _ _ _ _ (_ :: _) _ _; first | refine ra (next := ?_) | refine rk (next := ?_) | refine rku (next := ?_)) | refine st_end ?_ | refine thn_normal ?_ | refine r_seq ?_ | refine r_region rfl ?_ | refine thn_exit ?_ | refine thn_ret ?_ | refine inBlk_normal ?_ | refine inBlk_ret ?_ | refine inBlk_hit ?_ | refine inBlk_miss (by decide) ?_ | refine forQ_exit ?_ | refine forQ_ret ?_ | refine loopQ_exit ?_ | refine loopQ_ret ?_ | refine r_block ?_ | refine r_skip ?_ | refine r_exit ?_ | refine r_ret ?_ | (show rwp _ _ (.cond _ _ _) _ _ _; first | refine c_t (h := ?_) | refine c_f (h := ?_)))
      refine rc (unitVector_ok (n := p.n) (i := i + 1 + l) rfl rfl ?_ hjn.2) (next := fun v11 w11 h11 => ?_)
      · omega
      obtain ⟨he11, hf11⟩ := h11
      repeat (first | (show rops _ _ _ _ (_ :: _) _ _; first | refine ra (next := ?_) | refine rk (next := ?_) | refine rku (next := ?_)) | refine st_end ?_ | refine thn_normal ?_ | refine r_seq ?_ | refine r_region rfl ?_ | refine thn_exit ?_ | refine thn_ret ?_ | refine inBlk_normal ?_ | refine inBlk_ret ?_ | refine inBlk_hit ?_ | refine inBlk_miss (by decide) ?_ | refine forQ_exit ?_ | refine forQ_ret ?_ | refine loopQ_exit ?_ | refine loopQ_ret ?_ | refine r_block ?_ | refine r_skip ?_ | refine r_exit ?_ | refine r_ret ?_ | (show rwp _ _ (.cond _ _ _) _ _ _; first | refine c_t (h := ?_) | refine c_f (h := ?_)))
      refine rc (conjugate_ok (x := gen hv (i + 1) (i + 1 + l) hjn) (y := Tw hv hi) (xs := (zeros p.n).set (i + 1 + l) 1) (ys := p.w i) (by omega) rfl rfl) (next := fun v12 w12 h12 => ?_)
      obtain ⟨he12, hf12⟩ := h12
      have hlen2 := hin.1.len
      repeat (first | (show rops _ _ _ _ (_ :: _) _ _; first | refine ra (next := ?_) | refine rk (next := ?_) | refine rku (next := ?_)) | refine st_end ?_ | refine thn_normal ?_ | refine r_seq ?_ | refine r_region rfl ?_ | refine thn_exit ?_ | refine thn_ret ?_ | refine inBlk_normal ?_ | refine inBlk_ret ?_ | refine inBlk_hit ?_ | refine inBlk_miss (by decide) ?_ | refine forQ_exit ?_ | refine forQ_ret ?_ | refine loopQ_exit ?_ | refine loopQ_ret ?_ | refine r_block ?_ | refine r_skip ?_ | refine r_exit ?_ | refine r_ret ?_ | (show rwp _ _ (.cond _ _ _) _ _ _; first | refine c_t (h := ?_) | refine c_f (h := ?_)))
      refine rc (equalI_ok (xs := rep (p.o i).toNat (img p i) (unitv p (i + 1 + l) 1)) (ys := (Grp.cj (gen hv (i + 1) (i + 1 + l) hjn) (Tw hv hi)).v) ?_) (next := fun v13 w13 h13 => ?_)
      · omega
      obtain ⟨b13, rfl, hb13, he13⟩ := h13
      have hE13 : Ext w2 w13 := (((he8.trans he10).trans he11).trans he12).trans he13
      repeat (first | (show rops _ _ _ _ (_ :: _) _ _; first | refine ra (next := ?_) | refine rk (next := ?_) | refine rku (next := ?_)) | refine st_end ?_ | refine thn_normal ?_ | refine r_seq ?_ | refine r_region rfl ?_ | refine thn_exit ?_ | refine thn_ret ?_ | refine inBlk_normal ?_ | refine inBlk_ret ?_ | refine inBlk_hit ?_ | refine inBlk_miss (by decide) ?_ | refine forQ_exit ?_ | refine forQ_ret ?_ | refine loopQ_exit ?_ | refine loopQ_ret ?_ | refine r_block ?_ | refine r_skip ?_ | refine r_exit ?_ | refine r_ret ?_ | (show rwp _ _ (.cond _ _ _) _ _ _; first | refine c_t (h := ?_) | refine c_f (h := ?_)))
      refine c_b (fun h14 => ?_) (fun h14 => ?_)
      · repeat (first | (show rops _ _ _ _ (_ :: _) _ _; first | refine ra (next := ?_) | refine rk (next := ?_) | refine rku (next := ?_)) | refine st_end ?_ | refine thn_normal ?_ | refine r_seq ?_ | refine r_region rfl ?_ | refine thn_exit ?_ | refine thn_ret ?_ | refine inBlk_normal ?_ | refine inBlk_ret ?_ | refine inBlk_hit ?_ | refine inBlk_miss (by decide) ?_ | refine forQ_exit ?_ | refine forQ_ret ?_ | refine loopQ_exit ?_ | refine loopQ_ret ?_ | refine r_block ?_ | refine r_skip ?_ | refine r_exit ?_ | refine r_ret ?_ | (show rwp _ _ (.cond _ _ _) _ _ _; first | refine c_t (h := ?_) | refine c_f (h := ?_)))
        refine ra (v := faultV 4 i (i + 1 + l : Nat) 0) (h := rd_build (by simp only [ev_tmp, ev_const, ev_func, get_put, get_args, get_putL, get_putL_nil, Nat.reduceEqDiff, reduceIte, List.getD_cons_zero, List.getD_cons_succ, List.getD_nil, List.map_toArray, List.map_cons, List.map_nil]; rfl) (fun _ => by kernel_rfl)) (next := ?_)
        refine st_store_agg (vs := [.int .i64 4, .int .i64 i, .int .i64 (i + 1 + l : Nat), .int .i64 0]) (cs := _) (by ((try simp only [ev_tmp, ev_const, ev_func, get_put, get_args, get_putL, get_putL_nil, Nat.reduceEqDiff, reduceIte, List.getD_cons_zero, List.getD_cons_succ, List.getD_nil]); first | done | with_reducible rfl)) (by ((try simp only [ev_tmp, ev_const, ev_func, get_put, get_args, get_putL, get_putL_nil, Nat.reduceEqDiff, reduceIte, List.getD_cons_zero, List.getD_cons_succ, List.getD_nil]); first | done | with_reducible rfl)) rfl ?_ rfl (by first | exact True.intro | exact ⟨_, rfl, by ((try simp only [ev_tmp, ev_const, ev_func, get_put, get_args, get_putL, get_putL_nil, Nat.reduceEqDiff, reduceIte, List.getD_cons_zero, List.getD_cons_succ, List.getD_nil, Bool.not_true, Bool.not_false]); first | done | with_reducible rfl)⟩) fun w15 hc15 hs15 hb15 => ?_
        · rfl
        repeat (first | (show rops _ _ _ _ (_ :: _) _ _; first | refine ra (next := ?_) | refine rk (next := ?_) | refine rku (next := ?_)) | refine st_end ?_ | refine thn_normal ?_ | refine r_seq ?_ | refine r_region rfl ?_ | refine thn_exit ?_ | refine thn_ret ?_ | refine inBlk_normal ?_ | refine inBlk_ret ?_ | refine inBlk_hit ?_ | refine inBlk_miss (by decide) ?_ | refine forQ_exit ?_ | refine forQ_ret ?_ | refine loopQ_exit ?_ | refine loopQ_ret ?_ | refine r_block ?_ | refine r_skip ?_ | refine r_exit ?_ | refine r_ret ?_ | (show rwp _ _ (.cond _ _ _) _ _ _; first | refine c_t (h := ?_) | refine c_f (h := ?_)))
        refine retc (bad (k := 4) (f := (i + 1 + l : Nat)) (s := 0) (hc15.ext (he2.trans hE13) (by omega)) (by decide) fun h => ?_) rfl
        have := hb13.2 (((chk_iff2 hi).1 h).2.2.2 (i + 1 + l) hjn)
        rw [this] at h14; cases h14
      · have h15 := hb13.1 (by simpa using h14)
        repeat (first | (show rops _ _ _ _ (_ :: _) _ _; first | refine ra (next := ?_) | refine rk (next := ?_) | refine rku (next := ?_)) | refine st_end ?_ | refine thn_normal ?_ | refine r_seq ?_ | refine r_region rfl ?_ | refine thn_exit ?_ | refine thn_ret ?_ | refine inBlk_normal ?_ | refine inBlk_ret ?_ | refine inBlk_hit ?_ | refine inBlk_miss (by decide) ?_ | refine forQ_exit ?_ | refine forQ_ret ?_ | refine loopQ_exit ?_ | refine loopQ_ret ?_ | refine r_block ?_ | refine r_skip ?_ | refine r_exit ?_ | refine r_ret ?_ | (show rwp _ _ (.cond _ _ _) _ _ _; first | refine c_t (h := ?_) | refine c_f (h := ?_)))
        refine forQ_normal (by omega) ⟨?_, hE13, fun j hj2 => ?_⟩
        · ((try simp only [Has, ev_tmp, ev_const, ev_func, get_put, get_args, get_putL, get_putL_nil, Nat.reduceEqDiff, reduceIte, List.getD_cons_zero, List.getD_cons_succ, List.getD_nil]); repeat' (first | exact True.intro | apply And.intro | with_reducible rfl | exact int_congr (by first | omega | rfl)))
        · by_cases e : j = i + 1 + l
          · subst e; exact fun _ => h15
          · exact hI j (by omega)
  · repeat (first | (show rops _ _ _ _ (_ :: _) _ _; first | refine ra (next := ?_) | refine rk (next := ?_) | refine rku (next := ?_)) | refine st_end ?_ | refine thn_normal ?_ | refine r_seq ?_ | refine r_region rfl ?_ | refine thn_exit ?_ | refine thn_ret ?_ | refine inBlk_normal ?_ | refine inBlk_ret ?_ | refine inBlk_hit ?_ | refine inBlk_miss (by decide) ?_ | refine forQ_exit ?_ | refine forQ_ret ?_ | refine loopQ_exit ?_ | refine loopQ_ret ?_ | refine r_block ?_ | refine r_skip ?_ | refine r_exit ?_ | refine r_ret ?_ | (show rwp _ _ (.cond _ _ _) _ _ _; first | refine c_t (h := ?_) | refine c_f (h := ?_)))
    refine ra (v := faultV 0 0 0 0) (h := rd_build (by rfl) (fun _ => by kernel_rfl)) (next := ?_)
    refine st_store_agg (vs := [.int .i64 0, .int .i64 0, .int .i64 0, .int .i64 0]) (cs := _) (by ((try simp only [ev_tmp, ev_const, ev_func, get_put, get_args, get_putL, get_putL_nil, Nat.reduceEqDiff, reduceIte, List.getD_cons_zero, List.getD_cons_succ, List.getD_nil]); first | done | with_reducible rfl)) (by ((try simp only [ev_tmp, ev_const, ev_func, get_put, get_args, get_putL, get_putL_nil, Nat.reduceEqDiff, reduceIte, List.getD_cons_zero, List.getD_cons_succ, List.getD_nil]); first | done | with_reducible rfl)) rfl ?_ rfl (by first | exact True.intro | exact ⟨_, rfl, by ((try simp only [ev_tmp, ev_const, ev_func, get_put, get_args, get_putL, get_putL_nil, Nat.reduceEqDiff, reduceIte, List.getD_cons_zero, List.getD_cons_succ, List.getD_nil, Bool.not_true, Bool.not_false]); first | done | with_reducible rfl)⟩) fun w15 hc15 hs15 hb15 => ?_
    · rfl
    repeat (first | (show rops _ _ _ _ (_ :: _) _ _; first | refine ra (next := ?_) | refine rk (next := ?_) | refine rku (next := ?_)) | refine st_end ?_ | refine thn_normal ?_ | refine r_seq ?_ | refine r_region rfl ?_ | refine thn_exit ?_ | refine thn_ret ?_ | refine inBlk_normal ?_ | refine inBlk_ret ?_ | refine inBlk_hit ?_ | refine inBlk_miss (by decide) ?_ | refine forQ_exit ?_ | refine forQ_ret ?_ | refine loopQ_exit ?_ | refine loopQ_ret ?_ | refine r_block ?_ | refine r_skip ?_ | refine r_exit ?_ | refine r_ret ?_ | (show rwp _ _ (.cond _ _ _) _ _ _; first | refine c_t (h := ?_) | refine c_f (h := ?_)))
    exact retc ⟨0, 0, 0, 0, rfl, ⟨fun _ => (chk_iff2 hi).2 ⟨hP', hC', hF, fun j h1 => hI j (by omega) h1⟩, fun _ => rfl⟩, fun h => absurd rfl h, fun _ => ⟨rfl, rfl, rfl⟩, hc15.ext (he2.trans he8) (by omega)⟩ rfl
end Go.Proofs.Ytjcmdmjlhngjcaa

/-
  Walks: the program's consistency of a presentation (consistentFrom, IsConsistent).
  Conditions: stated at each theorem.
-/
namespace Go.Proofs.Ytjcmdmjlhngjcaa
open Go Go.Pc
theorem fault_guard : (Try.prog.eqGuardType Try.prog.depth 52) = false := by kernel_rfl
theorem fault_held : (Try.prog.stoodInHeld 52) = false := by kernel_rfl
theorem fault_fields : Try.prog.underlying 52 = some (.struct (Try.prog.fieldsOf 52)) := by simp [Program.fieldsOf, Try.underlying52]
theorem rd_eqFault {ρ : Env} {w : World} {ty : TypeId} {x y : Operand} {k l f s : Int} (h : ev ρ x = faultV k l f s) (h' : ev ρ y = faultV 0 0 0 0) :
    Rd Try.prog (.binOp .eql 52 x y 52) ty ρ w (.bool (decide (k = 0 ∧ l = 0 ∧ f = 0 ∧ s = 0))) := by
  constructor; intro _ _ _ _
  have h2 := fun d a b w => run_equalIn_int (P := Try.prog) w d 2 .i64 .i64 a b Try.underlying2
  simp [execOp, h, h', run_eqGuard_agg _ _ _ _ _ _ _ fault_guard, run_eql_struct, run_equalIn_agg _ _ _ _ _ fault_fields fault_held, Program.fieldsOf, Try.underlying52, Op.eqFields, h2, go_sem]
  by_cases hk : k = 0 <;> by_cases hl : l = 0 <;> by_cases hf : f = 0 <;> by_cases hs : s = 0 <;> simp [hk, hl, hf, hs]
set_option maxHeartbeats 1000000 in
theorem consistentFrom_ok {p : Pr} (hv : Valid p) {w : World} {vp : Value} {lo hi' : Nat} [hp : PresP lo hi' w vp p] :
    Calls Try.prog 43 #[vp] w (Ret fun v w' => ∃ i : Nat, v = .int .i64 i ∧ i ≤ p.n ∧ Levs p i ∧ (i ≠ 0 → ¬ Lev p (i - 1)) ∧ Ext w w') := by
  have hn6 := hv.n6
  have hol : p.ord.length = p.n := rfl
  obtain ⟨b, vo, vpw, vc, ps, cs, css, rfl, hb1, hb2, hc0, hc1, hc2, h1, h2, h3⟩ := hp.ex
  refine enter (args := [.pointer (some ⟨b, 0, none⟩)]) (l := [.tmp 2]) Try.func43 rfl rfl Try.ntmps43 (by simp) ?_
  repeat (first | (show rops _ _ _ _ (_ :: _) _ _; first | refine ra (next := ?_) | refine rk (next := ?_) | refine rku (next := ?_)) | refine st_end ?_ | refine thn_normal ?_ | refine r_seq ?_ | refine r_region rfl ?_ | refine thn_exit ?_ | refine thn_ret ?_ | refine inBlk_normal ?_ | refine inBlk_ret ?_ | refine inBlk_hit ?_ | refine inBlk_miss (by decide) ?_ | refine forQ_exit ?_ | refine forQ_ret ?_ | refine loopQ_exit ?_ | refine loopQ_ret ?_ | refine r_block ?_ | refine r_skip ?_ | refine r_exit ?_ | refine r_ret ?_ | (show rwp _ _ (.cond _ _ _) _ _ _; first | refine c_t (h := ?_) | refine c_f (h := ?_)))
  refine r_for p.n (fun k ρ w' => Has ρ [(0, .pointer (some ⟨b, 0, none⟩)), (3, .int .i64 (p.n - k : Nat))] ∧ Ext w w' ∧ Levs p (p.n - k)) ?_ ?_
  · refine ⟨?_, Ext.refl _, fun j h h' => by omega⟩
    ((try simp only [Has, ev_tmp, ev_const, ev_func, get_put, get_args, get_putL, get_putL_nil, Nat.reduceEqDiff, reduceIte, List.getD_cons_zero, List.getD_cons_succ, List.getD_nil]); repeat' (first | exact True.intro | apply And.intro | with_reducible rfl | exact int_congr (by first | omega | rfl)))
  rintro k ρ w3 hk ⟨hH, he3, hL⟩
  refine rwp_has hH fun ρ0 => ?_
  repeat (first | (show rops _ _ _ _ (_ :: _) _ _; first | refine ra (next := ?_) | refine rk (next := ?_) | refine rku (next := ?_)) | refine st_end ?_ | refine thn_normal ?_ | refine r_seq ?_ | refine r_region rfl ?_ | refine thn_exit ?_ | refine thn_ret ?_ | refine inBlk_normal ?_ | refine inBlk_ret ?_ | refine inBlk_hit ?_ | refine inBlk_miss (by decide) ?_ | refine forQ_exit ?_ | refine forQ_ret ?_ | refine loopQ_exit ?_ | refine loopQ_ret ?_ | refine r_block ?_ | refine r_skip ?_ | refine r_exit ?_ | refine r_ret ?_ | (show rwp _ _ (.cond _ _ _) _ _ _; first | refine c_t (h := ?_) | refine c_f (h := ?_)))
  refine spd (fun h4 => ?_) (fun h4 => ?_)
  · obtain ⟨i, hie⟩ : ∃ i : Nat, p.n - k = i + 1 := ⟨p.n - k - 1, by omega⟩
    have hi : i < p.n := by omega
    rw [hie] at hL h4 ⊢
    have hc : Con p (i + 1) := Levs.con hv hL
    repeat (first | (show rops _ _ _ _ (_ :: _) _ _; first | refine ra (next := ?_) | refine rk (next := ?_) | refine rku (next := ?_)) | refine st_end ?_ | refine thn_normal ?_ | refine r_seq ?_ | refine r_region rfl ?_ | refine thn_exit ?_ | refine thn_ret ?_ | refine inBlk_normal ?_ | refine inBlk_ret ?_ | refine inBlk_hit ?_ | refine inBlk_miss (by decide) ?_ | refine forQ_exit ?_ | refine forQ_ret ?_ | refine loopQ_exit ?_ | refine loopQ_ret ?_ | refine r_block ?_ | refine r_skip ?_ | refine r_exit ?_ | refine r_ret ?_ | (show rwp _ _ (.cond _ _ _) _ _ _; first | refine c_t (h := ?_) | refine c_f (h := ?_)))
    refine rc (levelFault_ok (p := p) (i := i) hi ?_) (next := fun v5 w5 h5 => ?_)
    · omega
    obtain ⟨k5, l5, f5, s5, rfl, hz, hl5, h05, he5⟩ := h5
    repeat (first | (show rops _ _ _ _ (_ :: _) _ _; first | refine ra (next := ?_) | refine rk (next := ?_) | refine rku (next := ?_)) | refine st_end ?_ | refine thn_normal ?_ | refine r_seq ?_ | refine r_region rfl ?_ | refine thn_exit ?_ | refine thn_ret ?_ | refine inBlk_normal ?_ | refine inBlk_ret ?_ | refine inBlk_hit ?_ | refine inBlk_miss (by decide) ?_ | refine forQ_exit ?_ | refine forQ_ret ?_ | refine loopQ_exit ?_ | refine loopQ_ret ?_ | refine r_block ?_ | refine r_skip ?_ | refine r_exit ?_ | refine r_ret ?_ | (show rwp _ _ (.cond _ _ _) _ _ _; first | refine c_t (h := ?_) | refine c_f (h := ?_)))
    refine ra (v := faultV 0 0 0 0) (h := rd_build (by rfl) (fun _ => by kernel_rfl)) (next := ?_)
    repeat (first | (show rops _ _ _ _ (_ :: _) _ _; first | refine ra (next := ?_) | refine rk (next := ?_) | refine rku (next := ?_)) | refine st_end ?_ | refine thn_normal ?_ | refine r_seq ?_ | refine r_region rfl ?_ | refine thn_exit ?_ | refine thn_ret ?_ | refine inBlk_normal ?_ | refine inBlk_ret ?_ | refine inBlk_hit ?_ | refine inBlk_miss (by decide) ?_ | refine forQ_exit ?_ | refine forQ_ret ?_ | refine loopQ_exit ?_ | refine loopQ_ret ?_ | refine r_block ?_ | refine r_skip ?_ | refine r_exit ?_ | refine r_ret ?_ | (show rwp _ _ (.cond _ _ _) _ _ _; first | refine c_t (h := ?_) | refine c_f (h := ?_)))
    refine ra (h := rd_eqFault (k := k5) (l := l5) (f := f5) (s := s5) (by ((try simp only [ev_tmp, ev_const, ev_func, get_put, get_args, get_putL, get_putL_nil, Nat.reduceEqDiff, reduceIte, List.getD_cons_zero, List.getD_cons_succ, List.getD_nil]); first | done | with_reducible rfl)) (by ((try simp only [ev_tmp, ev_const, ev_func, get_put, get_args, get_putL, get_putL_nil, Nat.reduceEqDiff, reduceIte, List.getD_cons_zero, List.getD_cons_succ, List.getD_nil]); first | done | with_reducible rfl))) (next := ?_)
    repeat (first | (show rops _ _ _ _ (_ :: _) _ _; first | refine ra (next := ?_) | refine rk (next := ?_) | refine rku (next := ?_)) | refine st_end ?_ | refine thn_normal ?_ | refine r_seq ?_ | refine r_region rfl ?_ | refine thn_exit ?_ | refine thn_ret ?_ | refine inBlk_normal ?_ | refine inBlk_ret ?_ | refine inBlk_hit ?_ | refine inBlk_miss (by decide) ?_ | refine forQ_exit ?_ | refine forQ_ret ?_ | refine loopQ_exit ?_ | refine loopQ_ret ?_ | refine r_block ?_ | refine r_skip ?_ | refine r_exit ?_ | refine r_ret ?_ | (show rwp _ _ (.cond _ _ _) _ _ _; first | refine c_t (h := ?_) | refine c_f (h := ?_)))
    refine c_if (fun h8 => ?_) (fun h8 => ?_)
    · repeat (first | (show rops _ _ _ _ (_ :: _) _ _; first | refine ra (next := ?_) | refine rk (next := ?_) | refine rku (next := ?_)) | refine st_end ?_ | refine thn_normal ?_ | refine r_seq ?_ | refine r_region rfl ?_ | refine thn_exit ?_ | refine thn_ret ?_ | refine inBlk_normal ?_ | refine inBlk_ret ?_ | refine inBlk_hit ?_ | refine inBlk_miss (by decide) ?_ | refine forQ_exit ?_ | refine forQ_ret ?_ | refine loopQ_exit ?_ | refine loopQ_ret ?_ | refine r_block ?_ | refine r_skip ?_ | refine r_exit ?_ | refine r_ret ?_ | (show rwp _ _ (.cond _ _ _) _ _ _; first | refine c_t (h := ?_) | refine c_f (h := ?_)))
      refine forQ_normal (by omega) ⟨?_, he3.trans he5, fun j hj hjn => ?_⟩
      · ((try simp only [Has, ev_tmp, ev_const, ev_func, get_put, get_args, get_putL, get_putL_nil, Nat.reduceEqDiff, reduceIte, List.getD_cons_zero, List.getD_cons_succ, List.getD_nil]); repeat' (first | exact True.intro | apply And.intro | with_reducible rfl | exact int_congr (by first | omega | rfl)))
      · by_cases e : j = i
        · subst e; exact ⟨hc, hi, hz.1 h8.1⟩
        · exact hL j (by omega) hjn
    · repeat (first | (show rops _ _ _ _ (_ :: _) _ _; first | refine ra (next := ?_) | refine rk (next := ?_) | refine rku (next := ?_)) | refine st_end ?_ | refine thn_normal ?_ | refine r_seq ?_ | refine r_region rfl ?_ | refine thn_exit ?_ | refine thn_ret ?_ | refine inBlk_normal ?_ | refine inBlk_ret ?_ | refine inBlk_hit ?_ | refine inBlk_miss (by decide) ?_ | refine forQ_exit ?_ | refine forQ_ret ?_ | refine loopQ_exit ?_ | refine loopQ_ret ?_ | refine r_block ?_ | refine r_skip ?_ | refine r_exit ?_ | refine r_ret ?_ | (show rwp _ _ (.cond _ _ _) _ _ _; first | refine c_t (h := ?_) | refine c_f (h := ?_)))
      refine ret1 ⟨i + 1, rfl, by omega, hL, fun _ => ?_, he3.trans he5⟩
      rintro ⟨_, _, h9⟩
      have h0 := hz.2 h9
      exact h8 ⟨h0, h05 h0⟩
  · repeat (first | (show rops _ _ _ _ (_ :: _) _ _; first | refine ra (next := ?_) | refine rk (next := ?_) | refine rku (next := ?_)) | refine st_end ?_ | refine thn_normal ?_ | refine r_seq ?_ | refine r_region rfl ?_ | refine thn_exit ?_ | refine thn_ret ?_ | refine inBlk_normal ?_ | refine inBlk_ret ?_ | refine inBlk_hit ?_ | refine inBlk_miss (by decide) ?_ | refine forQ_exit ?_ | refine forQ_ret ?_ | refine loopQ_exit ?_ | refine loopQ_ret ?_ | refine r_block ?_ | refine r_skip ?_ | refine r_exit ?_ | refine r_ret ?_ | (show rwp _ _ (.cond _ _ _) _ _ _; first | refine c_t (h := ?_) | refine c_f (h := ?_)))
    have hkn : p.n - k = 0 := by omega
    rw [hkn] at hL ⊢
    exact ret1 ⟨0, rfl, by omega, hL, fun h => absurd rfl h, he3⟩
set_option maxHeartbeats 1000000 in
theorem impl_IsConsistent_ok {w : World} {vp : Value} {p : Pr} {lo hi' : Nat} [hp : Pres lo hi' w vp p] (hl : p.ord.length ≤ 2000000) :
    Calls Try.prog 26 #[vp] w (Ret fun v w' => ∃ b, v = .bool b ∧ (b = true ↔ IsGrp p) ∧ Ext w w') := by
  obtain ⟨vo, vpw, vc, ps, cs, css, rfl, h1, h2, h3⟩ := hp.ex
  refine enter (args := [.agg #[vo, vpw, vc]]) (l := [.tmp 2]) Try.func26 rfl rfl Try.ntmps26 (by simp) ?_
  repeat (first | (show rops _ _ _ _ (_ :: _) _ _; first | refine ra (next := ?_) | refine rk (next := ?_) | refine rku (next := ?_)) | refine st_end ?_ | refine thn_normal ?_ | refine r_seq ?_ | refine r_region rfl ?_ | refine thn_exit ?_ | refine thn_ret ?_ | refine inBlk_normal ?_ | refine inBlk_ret ?_ | refine inBlk_hit ?_ | refine inBlk_miss (by decide) ?_ | refine forQ_exit ?_ | refine forQ_ret ?_ | refine loopQ_exit ?_ | refine loopQ_ret ?_ | refine r_block ?_ | refine r_skip ?_ | refine r_exit ?_ | refine r_ret ?_ | (show rwp _ _ (.cond _ _ _) _ _ _; first | refine c_t (h := ?_) | refine c_f (h := ?_)))
  refine st_box3 (by ((try simp only [ev_tmp, ev_const, ev_func, get_put, get_args, get_putL, get_putL_nil, Nat.reduceEqDiff, reduceIte, List.getD_cons_zero, List.getD_cons_succ, List.getD_nil]); first | done | with_reducible rfl)) (by first | exact True.intro | exact ⟨_, rfl, by ((try simp only [ev_tmp, ev_const, ev_func, get_put, get_args, get_putL, get_putL_nil, Nat.reduceEqDiff, reduceIte, List.getD_cons_zero, List.getD_cons_succ, List.getD_nil, Bool.not_true, Bool.not_false]); first | done | with_reducible rfl)⟩) fun w1 b he1 hb1 hs1 hc0 hc1 hc2 => ?_
  have hpp := hp.boxed he1 hc0 hc1 hc2
  repeat (first | (show rops _ _ _ _ (_ :: _) _ _; first | refine ra (next := ?_) | refine rk (next := ?_) | refine rku (next := ?_)) | refine st_end ?_ | refine thn_normal ?_ | refine r_seq ?_ | refine r_region rfl ?_ | refine thn_exit ?_ | refine thn_ret ?_ | refine inBlk_normal ?_ | refine inBlk_ret ?_ | refine inBlk_hit ?_ | refine inBlk_miss (by decide) ?_ | refine forQ_exit ?_ | refine forQ_ret ?_ | refine loopQ_exit ?_ | refine loopQ_ret ?_ | refine r_block ?_ | refine r_skip ?_ | refine r_exit ?_ | refine r_ret ?_ | (show rwp _ _ (.cond _ _ _) _ _ _; first | refine c_t (h := ?_) | refine c_f (h := ?_)))
  refine rc (impl_IsPresentation_ok hl) (next := fun v5 w5 h5 => ?_)
  obtain ⟨b5, rfl, hb5, he5⟩ := h5
  repeat (first | (show rops _ _ _ _ (_ :: _) _ _; first | refine ra (next := ?_) | refine rk (next := ?_) | refine rku (next := ?_)) | refine st_end ?_ | refine thn_normal ?_ | refine r_seq ?_ | refine r_region rfl ?_ | refine thn_exit ?_ | refine thn_ret ?_ | refine inBlk_normal ?_ | refine inBlk_ret ?_ | refine inBlk_hit ?_ | refine inBlk_miss (by decide) ?_ | refine forQ_exit ?_ | refine forQ_ret ?_ | refine loopQ_exit ?_ | refine loopQ_ret ?_ | refine r_block ?_ | refine r_skip ?_ | refine r_exit ?_ | refine r_ret ?_ | (show rwp _ _ (.cond _ _ _) _ _ _; first | refine c_t (h := ?_) | refine c_f (h := ?_)))
  refine sp (fun e5 => ?_) (fun e5 => ?_)
  · have hv := hb5.1 e5
    repeat (first | (show rops _ _ _ _ (_ :: _) _ _; first | refine ra (next := ?_) | refine rk (next := ?_) | refine rku (next := ?_)) | refine st_end ?_ | refine thn_normal ?_ | refine r_seq ?_ | refine r_region rfl ?_ | refine thn_exit ?_ | refine thn_ret ?_ | refine inBlk_normal ?_ | refine inBlk_ret ?_ | refine inBlk_hit ?_ | refine inBlk_miss (by decide) ?_ | refine forQ_exit ?_ | refine forQ_ret ?_ | refine loopQ_exit ?_ | refine loopQ_ret ?_ | refine r_block ?_ | refine r_skip ?_ | refine r_exit ?_ | refine r_ret ?_ | (show rwp _ _ (.cond _ _ _) _ _ _; first | refine c_t (h := ?_) | refine c_f (h := ?_)))
    refine rc (consistentFrom_ok hv) (next := fun v6 w6 h6 => ?_)
    obtain ⟨i, rfl, hi, hL, hno, he6⟩ := h6
    repeat (first | (show rops _ _ _ _ (_ :: _) _ _; first | refine ra (next := ?_) | refine rk (next := ?_) | refine rku (next := ?_)) | refine st_end ?_ | refine thn_normal ?_ | refine r_seq ?_ | refine r_region rfl ?_ | refine thn_exit ?_ | refine thn_ret ?_ | refine inBlk_normal ?_ | refine inBlk_ret ?_ | refine inBlk_hit ?_ | refine inBlk_miss (by decide) ?_ | refine forQ_exit ?_ | refine forQ_ret ?_ | refine loopQ_exit ?_ | refine loopQ_ret ?_ | refine r_block ?_ | refine r_skip ?_ | refine r_exit ?_ | refine r_ret ?_ | (show rwp _ _ (.cond _ _ _) _ _ _; first | refine c_t (h := ?_) | refine c_f (h := ?_)))
    refine ret1 ⟨_, rfl, ?_, (he1.trans he5).trans he6⟩
    rw [decide_eq_true_eq]
    constructor
    · intro h
      have : i = 0 := by omega
      subst this
      exact ⟨hv, hL⟩
    · intro h
      by_cases e : i = 0
      · omega
      · exact absurd (h.levs (i - 1) (by omega) (by omega)) (hno e)
  · repeat (first | (show rops _ _ _ _ (_ :: _) _ _; first | refine ra (next := ?_) | refine rk (next := ?_) | refine rku (next := ?_)) | refine st_end ?_ | refine thn_normal ?_ | refine r_seq ?_ | refine r_region rfl ?_ | refine thn_exit ?_ | refine thn_ret ?_ | refine inBlk_normal ?_ | refine inBlk_ret ?_ | refine inBlk_hit ?_ | refine inBlk_miss (by decide) ?_ | refine forQ_exit ?_ | refine forQ_ret ?_ | refine loopQ_exit ?_ | refine loopQ_ret ?_ | refine r_block ?_ | refine r_skip ?_ | refine r_exit ?_ | refine r_ret ?_ | (show rwp _ _ (.cond _ _ _) _ _ _; first | refine c_t (h := ?_) | refine c_f (h := ?_)))
    refine ret1 ⟨_, rfl, ?_, he1.trans he5⟩
    simp only [Bool.false_eq_true, false_iff]
    intro h
    have := hb5.2 h.valid
    rw [e5] at this; cases this
end Go.Proofs.Ytjcmdmjlhngjcaa

/-
  Walks: the program's sifting of an element by a sequence (newSequence, sift), and representatives of cosets (representative).
  Conditions: the tails at all levels are groups; stated at each theorem.
-/
namespace Go.Proofs.Ytjcmdmjlhngjcaa
open Go Go.Pc
theorem lead_tl {p : Pr} (x : El p) : Tl (lead x.v) x := fun k hk => lead_zero x.v k hk
theorem lead_of {p : Pr} {x : El p} {d : Nat} (h : Tl d x) (h0 : co x d ≠ 0) : lead x.v = d := lead_eq (fun i hi => h i hi) h0
theorem tl_lead {p : Pr} {x : El p} {d : Nat} (hd : d ≤ p.n) (h : Tl d x) : d ≤ lead x.v := by
  have hl := lead_le x.v
  have hxl := x.inr.len
  by_cases h1 : lead x.v < x.v.length
  · have := lead_ne x.v h1
    by_cases h2 : d ≤ lead x.v
    · exact h2
    · exact absurd (h _ (by omega)) this
  · omega
set_option maxHeartbeats 1000000 in
theorem newSequence_ok {p : Pr} {w : World} {vp : Value} {lo hi : Nat} [hp : PresP lo hi w vp p] (hn6 : p.n ≤ 6) :
    Calls Try.prog 47 #[vp] w (Ret fun v w' => ∃ b vb, v = .pointer (some ⟨b, 0, none⟩) ∧ Ext w w' ∧ Cell w' b 0 vp ∧ Cell w' b 1 vb ∧ w.heap.size < b ∧ vb.ownBlock = some w.heap.size ∧ Own 22 w.heap.size w' vb (List.replicate p.n nilv)) := by
  have hol : p.ord.length = p.n := rfl
  obtain ⟨g, vo, vpw, vc, ps, cs, css, rfl, hg1, hg2, hc0, hc1, hc2, h1, h2, h3⟩ := hp.ex
  refine enter (args := [.pointer (some ⟨g, 0, none⟩)]) (l := [.tmp 2]) Try.func47 rfl rfl Try.ntmps47 (by simp) ?_
  repeat (first | (show rops _ _ _ _ (_ :: _) _ _; first | refine ra (next := ?_) | refine rk (next := ?_) | refine rku (next := ?_)) | refine st_end ?_ | refine thn_normal ?_ | refine r_seq ?_ | refine r_region rfl ?_ | refine thn_exit ?_ | refine thn_ret ?_ | refine inBlk_normal ?_ | refine inBlk_ret ?_ | refine inBlk_hit ?_ | refine inBlk_miss (by decide) ?_ | refine forQ_exit ?_ | refine forQ_ret ?_ | refine loopQ_exit ?_ | refine loopQ_ret ?_ | refine r_block ?_ | refine r_skip ?_ | refine r_exit ?_ | refine r_ret ?_ | (show rwp _ _ (.cond _ _ _) _ _ _; first | refine c_t (h := ?_) | refine c_f (h := ?_)))
  refine st_make_nil (by ((try simp only [ev_tmp, ev_const, ev_func, get_put, get_args, get_putL, get_putL_nil, Nat.reduceEqDiff, reduceIte, List.getD_cons_zero, List.getD_cons_succ, List.getD_nil]); first | done | with_reducible rfl)) (by ((try simp only [ev_tmp, ev_const, ev_func, get_put, get_args, get_putL, get_putL_nil, Nat.reduceEqDiff, reduceIte, List.getD_cons_zero, List.getD_cons_succ, List.getD_nil]); first | done | with_reducible rfl)) (by omega) (by omega) (by first | exact True.intro | exact ⟨_, rfl, by ((try simp only [ev_tmp, ev_const, ev_func, get_put, get_args, get_putL, get_putL_nil, Nat.reduceEqDiff, reduceIte, List.getD_cons_zero, List.getD_cons_succ, List.getD_nil, Bool.not_true, Bool.not_false]); first | done | with_reducible rfl)⟩) fun w2 v2 he2 hs2 ho2 => ?_
  rw [hol] at ho2
  repeat (first | (show rops _ _ _ _ (_ :: _) _ _; first | refine ra (next := ?_) | refine rk (next := ?_) | refine rku (next := ?_)) | refine st_end ?_ | refine thn_normal ?_ | refine r_seq ?_ | refine r_region rfl ?_ | refine thn_exit ?_ | refine thn_ret ?_ | refine inBlk_normal ?_ | refine inBlk_ret ?_ | refine inBlk_hit ?_ | refine inBlk_miss (by decide) ?_ | refine forQ_exit ?_ | refine forQ_ret ?_ | refine loopQ_exit ?_ | refine loopQ_ret ?_ | refine r_block ?_ | refine r_skip ?_ | refine r_exit ?_ | refine r_ret ?_ | (show rwp _ _ (.cond _ _ _) _ _ _; first | refine c_t (h := ?_) | refine c_f (h := ?_)))
  refine ra (v := .agg #[.pointer (some ⟨g, 0, none⟩), v2]) (h := rd_build (by simp only [ev_tmp, ev_const, ev_func, get_put, get_args, get_putL, get_putL_nil, Nat.reduceEqDiff, reduceIte, List.getD_cons_zero, List.getD_cons_succ, List.getD_nil, List.map_toArray, List.map_cons, List.map_nil]; rfl) (fun _ => ?_)) (next := ?_)
  · obtain ⟨cap, cur, rfl, _⟩ := ho2.ex
    kernel_rfl
  refine st_box (vs := [.pointer (some ⟨g, 0, none⟩), v2]) (by ((try simp only [ev_tmp, ev_const, ev_func, get_put, get_args, get_putL, get_putL_nil, Nat.reduceEqDiff, reduceIte, List.getD_cons_zero, List.getD_cons_succ, List.getD_nil]); first | done | with_reducible rfl)) (by first | exact True.intro | exact ⟨_, rfl, by ((try simp only [ev_tmp, ev_const, ev_func, get_put, get_args, get_putL, get_putL_nil, Nat.reduceEqDiff, reduceIte, List.getD_cons_zero, List.getD_cons_succ, List.getD_nil, Bool.not_true, Bool.not_false]); first | done | with_reducible rfl)⟩) fun w3 b he3 hb3 hs3 hbk => ?_
  repeat (first | (show rops _ _ _ _ (_ :: _) _ _; first | refine ra (next := ?_) | refine rk (next := ?_) | refine rku (next := ?_)) | refine st_end ?_ | refine thn_normal ?_ | refine r_seq ?_ | refine r_region rfl ?_ | refine thn_exit ?_ | refine thn_ret ?_ | refine inBlk_normal ?_ | refine inBlk_ret ?_ | refine inBlk_hit ?_ | refine inBlk_miss (by decide) ?_ | refine forQ_exit ?_ | refine forQ_ret ?_ | refine loopQ_exit ?_ | refine loopQ_ret ?_ | refine r_block ?_ | refine r_skip ?_ | refine r_exit ?_ | refine r_ret ?_ | (show rwp _ _ (.cond _ _ _) _ _ _; first | refine c_t (h := ?_) | refine c_f (h := ?_)))
  refine ret1 ⟨b, v2, rfl, he2.trans he3, hbk.cell rfl, hbk.cell rfl, by omega, ho2.toN_block, Own.ext (h := ho2)⟩
set_option maxHeartbeats 2000000 in
theorem sift_ok {p : Pr} [hcon : ConAll p] {t : Tab p} (hT : TabOk t) {av : Nat → Prop} {w : World} {bs : Nat} {vp vb vx : Value} {us : List Value} {x : El p} {lo hi lo1 hi1 : Nat} [hp : PresP lo hi w vp p] [hs0 : Cell w bs 0 vp] [hs1 : Cell w bs 1 vb] [ht : Pc.Rows lo1 hi1 w vb us (tabL t)]
    (hnil : ∀ d, d < p.n → t d = none → us.getD d nilv = nilv) (hx : IntsAp av w vx x.v) (hbd : ∀ g, av g → g < w.heap.size) :
    Calls Try.prog 61 #[.pointer (some ⟨bs, 0, none⟩), vx] w (Ret fun v w' => Ext w w' ∧ ∃ r : El p, IntsAp av w' v r.v ∧ Left t x r (lead r.v)) := by
  have hv := hcon.valid
  have hn6 := hv.n6
  have hol : p.ord.length = p.n := rfl
  have htl := tabL_len t
  obtain ⟨g, vo, vpw, vc, ps, cs, css, rfl, hg1, hg2, hc0, hc1, hc2, h1, h2, h3⟩ := hp.ex
  have hxi := hx.ints
  have hxl := x.inr.len
  refine enter (args := [.pointer (some ⟨bs, 0, none⟩), vx]) (l := [.tmp 4]) Try.func61 rfl rfl Try.ntmps61 (by simp) ?_
  repeat (first | (show rops _ _ _ _ (_ :: _) _ _; first | refine ra (next := ?_) | refine rk (next := ?_) | refine rku (next := ?_)) | refine st_end ?_ | refine thn_normal ?_ | refine r_seq ?_ | refine r_region rfl ?_ | refine thn_exit ?_ | refine thn_ret ?_ | refine inBlk_normal ?_ | refine inBlk_ret ?_ | refine inBlk_hit ?_ | refine inBlk_miss (by decide) ?_ | refine forQ_exit ?_ | refine forQ_ret ?_ | refine loopQ_exit ?_ | refine loopQ_ret ?_ | refine r_block ?_ | refine r_skip ?_ | refine r_exit ?_ | refine r_ret ?_ | (show rwp _ _ (.cond _ _ _) _ _ _; first | refine c_t (h := ?_) | refine c_f (h := ?_)))
  refine rc (depthOf_ok (xs := x.v) ?_) (next := fun v1 w1 h4 => ?_)
  · omega
  obtain ⟨rfl, he1⟩ := h4
  repeat (first | (show rops _ _ _ _ (_ :: _) _ _; first | refine ra (next := ?_) | refine rk (next := ?_) | refine rku (next := ?_)) | refine st_end ?_ | refine thn_normal ?_ | refine r_seq ?_ | refine r_region rfl ?_ | refine thn_exit ?_ | refine thn_ret ?_ | refine inBlk_normal ?_ | refine inBlk_ret ?_ | refine inBlk_hit ?_ | refine inBlk_miss (by decide) ?_ | refine forQ_exit ?_ | refine forQ_ret ?_ | refine loopQ_exit ?_ | refine loopQ_ret ?_ | refine r_block ?_ | refine r_skip ?_ | refine r_exit ?_ | refine r_ret ?_ | (show rwp _ _ (.cond _ _ _) _ _ _; first | refine c_t (h := ?_) | refine c_f (h := ?_)))
  refine r_loop (fun m ρ w' => ∃ vx x', Has ρ [(0, .pointer (some ⟨bs, 0, none⟩)), (1, vx), (5, .int .i64 (lead (T.v (p := p) (i := 0) x')))] ∧ Ext w w' ∧ IntsAp av w' vx x'.v ∧ Stp t x x' ∧ m = p.n - lead x'.v) (p.n - lead x.v) ?_ ?_
  · refine ⟨vx, x, ?_, he1, hx.ext he1, .refl x, rfl⟩
    ((try simp only [Has, ev_tmp, ev_const, ev_func, get_put, get_args, get_putL, get_putL_nil, Nat.reduceEqDiff, reduceIte, List.getD_cons_zero, List.getD_cons_succ, List.getD_nil]); repeat' (first | exact True.intro | apply And.intro | with_reducible rfl | exact int_congr (by first | omega | rfl)))
  rintro m ρ w2 ⟨vx2, x2, hH, he2, hx2, hst, rfl⟩
  refine rwp_has hH fun ρ0 => ?_
  have hxi2 := hx2.ints
  have hxl2 := x2.inr.len
  have hll := lead_le x2.v
  have hlt2 := lead_tl x2
  generalize hd : lead x2.v = d at *
  repeat (first | (show rops _ _ _ _ (_ :: _) _ _; first | refine ra (next := ?_) | refine rk (next := ?_) | refine rku (next := ?_)) | refine st_end ?_ | refine thn_normal ?_ | refine r_seq ?_ | refine r_region rfl ?_ | refine thn_exit ?_ | refine thn_ret ?_ | refine inBlk_normal ?_ | refine inBlk_ret ?_ | refine inBlk_hit ?_ | refine inBlk_miss (by decide) ?_ | refine forQ_exit ?_ | refine forQ_ret ?_ | refine loopQ_exit ?_ | refine loopQ_ret ?_ | refine r_block ?_ | refine r_skip ?_ | refine r_exit ?_ | refine r_ret ?_ | (show rwp _ _ (.cond _ _ _) _ _ _; first | refine c_t (h := ?_) | refine c_f (h := ?_)))
  refine spd (fun h4 => ?_) (fun h4 => ?_)
  · have hdn : d < p.n := by omega
    have hne : co x2 d ≠ 0 := by have := lead_ne x2.v (by omega); rw [hd] at this; exact this
    have hxr := x2.inr.rng d hdn
    have hod := hv.opos hdn
    have hoe : p.ord.getD d 0 = p.o d := rfl
    cases htd : t d with
    | none =>
      have hn2 : Pc.rowAt vb us d = nilv := hnil d hdn htd
      have hnb : NilB (Pc.rowAt vb us d) true := by rw [hn2]; infer_instance
      repeat (first | (show rops _ _ _ _ (_ :: _) _ _; first | refine ra (next := ?_) | refine rk (next := ?_) | refine rku (next := ?_)) | refine st_end ?_ | refine thn_normal ?_ | refine r_seq ?_ | refine r_region rfl ?_ | refine thn_exit ?_ | refine thn_ret ?_ | refine inBlk_normal ?_ | refine inBlk_ret ?_ | refine inBlk_hit ?_ | refine inBlk_miss (by decide) ?_ | refine forQ_exit ?_ | refine forQ_ret ?_ | refine loopQ_exit ?_ | refine loopQ_ret ?_ | refine r_block ?_ | refine r_skip ?_ | refine r_exit ?_ | refine r_ret ?_ | (show rwp _ _ (.cond _ _ _) _ _ _; first | refine c_t (h := ?_) | refine c_f (h := ?_)))
      refine ret1 ⟨he2, x2, hx2, hst, ?_, ?_, ?_⟩
      · rw [hd]; exact hlt2
      · omega
      · rw [hd]; exact fun _ => ⟨htd, hne⟩
    | some y =>
      have hye : (tabL t).getD d [] = y.v := by rw [tabL_at t hdn, rowOf_some htd]
      have hyt := hT.tl d y htd
      have hyl := hT.lead d y htd
      have hnb : NilB (Pc.rowAt vb us d) false := by
        have hrow : Ints lo1 hi1 w (Pc.rowAt vb us d) ((tabL t).getD d []) := by infer_instance
        exact hrow.nn (by rw [hye, y.inr.len]; omega)
      repeat (first | (show rops _ _ _ _ (_ :: _) _ _; first | refine ra (next := ?_) | refine rk (next := ?_) | refine rku (next := ?_)) | refine st_end ?_ | refine thn_normal ?_ | refine r_seq ?_ | refine r_region rfl ?_ | refine thn_exit ?_ | refine thn_ret ?_ | refine inBlk_normal ?_ | refine inBlk_ret ?_ | refine inBlk_hit ?_ | refine inBlk_miss (by decide) ?_ | refine forQ_exit ?_ | refine forQ_ret ?_ | refine loopQ_exit ?_ | refine loopQ_ret ?_ | refine r_block ?_ | refine r_skip ?_ | refine r_exit ?_ | refine r_ret ?_ | (show rwp _ _ (.cond _ _ _) _ _ _; first | refine c_t (h := ?_) | refine c_f (h := ?_)))
      refine d_order [0, 1, 2, 3, 4, 5, 6, 7, 8, 9, 10, 11, 12, 13, 14, 15, 16, 17, 18, 19, 20, 21, 22, 23, 24, 25, 26, 27, 28, 29, 31, 30, 32, 33] (h := fun w3 he3 _ => ?_)
      repeat (first | refine da (next := ?_) | refine dsk (next := ?_) | refine dsku (next := ?_))
      refine dce (power_ok (p := p) (x := y) (Nat.zero_le _) hye ?_) (next := fun v4 w4 h5 => ?_)
      · omega
      obtain ⟨he4, hf4⟩ := h5
      refine dce (multiply_ok (p := p) (x := Grp.pw y (p.ord.getD d 0 - x2.v.getD d 0).toNat) (y := x2) (Nat.zero_le _) rfl rfl) (next := fun v5 w5 h6 => ?_)
      obtain ⟨he5, hf5⟩ := h6
      repeat (first | refine da (next := ?_) | refine dsk (next := ?_) | refine dsku (next := ?_))
      refine d_end (h := ?_)
      have hpw := hyt.pw (by omega) (p.ord.getD d 0 - x2.v.getD d 0).toNat
      have hco : co (Grp.pw y (p.ord.getD d 0 - x2.v.getD d 0).toNat * x2) d = 0 := by
        rw [co_at _ hdn hlt2, co_pw hdn hyt, hyl, Int.mul_one, Int.emod_add_emod, Int.toNat_of_nonneg (by omega)]
        rw [show p.ord.getD d 0 - x2.v.getD d 0 + co x2 d = p.o d by unfold co; omega, Int.emod_self]
      have htl6 : Tl (d + 1) (Grp.pw y (p.ord.getD d 0 - x2.v.getD d 0).toNat * x2) := (hpw.mul (by omega) hlt2).succ hco
      have hst6 : Stp t x (Grp.pw y (p.ord.getD d 0 - x2.v.getD d 0).toNat * x2) := by
        refine hst.trans ?_
        have e : Grp.pw y (p.ord.getD d 0 - x2.v.getD d 0).toNat = Grp.pwz y (p.ord.getD d 0 - x2.v.getD d 0) := (Grp.pwz_of y (by omega)).symm
        rw [e] at htl6 ⊢
        exact .left d y x2 _ _ htd hlt2 hne htl6 (.refl _)
      generalize Grp.pw y (p.ord.getD d 0 - x2.v.getD d 0).toNat * x2 = x6 at hf5 hco htl6 hst6
      have hxl6 := x6.inr.len
      have hfi := hf5.ints
      have hz : x6.v.getD d 0 = 0 := hco
      repeat (first | (show rops _ _ _ _ (_ :: _) _ _; first | refine ra (next := ?_) | refine rk (next := ?_) | refine rku (next := ?_)) | refine st_end ?_ | refine thn_normal ?_ | refine r_seq ?_ | refine r_region rfl ?_ | refine thn_exit ?_ | refine thn_ret ?_ | refine inBlk_normal ?_ | refine inBlk_ret ?_ | refine inBlk_hit ?_ | refine inBlk_miss (by decide) ?_ | refine forQ_exit ?_ | refine forQ_ret ?_ | refine loopQ_exit ?_ | refine loopQ_ret ?_ | refine r_block ?_ | refine r_skip ?_ | refine r_exit ?_ | refine r_ret ?_ | (show rwp _ _ (.cond _ _ _) _ _ _; first | refine c_t (h := ?_) | refine c_f (h := ?_)))
      refine c_if (fun h7 => ?_) (fun h7 => ?_)
      · exact absurd hz h7
      repeat (first | (show rops _ _ _ _ (_ :: _) _ _; first | refine ra (next := ?_) | refine rk (next := ?_) | refine rku (next := ?_)) | refine st_end ?_ | refine thn_normal ?_ | refine r_seq ?_ | refine r_region rfl ?_ | refine thn_exit ?_ | refine thn_ret ?_ | refine inBlk_normal ?_ | refine inBlk_ret ?_ | refine inBlk_hit ?_ | refine inBlk_miss (by decide) ?_ | refine forQ_exit ?_ | refine forQ_ret ?_ | refine loopQ_exit ?_ | refine loopQ_ret ?_ | refine r_block ?_ | refine r_skip ?_ | refine r_exit ?_ | refine r_ret ?_ | (show rwp _ _ (.cond _ _ _) _ _ _; first | refine c_t (h := ?_) | refine c_f (h := ?_)))
      refine rc (depthOf_ok (xs := x6.v) ?_) (next := fun v7 w7 h8 => ?_)
      · omega
      obtain ⟨rfl, he7⟩ := h8
      repeat (first | (show rops _ _ _ _ (_ :: _) _ _; first | refine ra (next := ?_) | refine rk (next := ?_) | refine rku (next := ?_)) | refine st_end ?_ | refine thn_normal ?_ | refine r_seq ?_ | refine r_region rfl ?_ | refine thn_exit ?_ | refine thn_ret ?_ | refine inBlk_normal ?_ | refine inBlk_ret ?_ | refine inBlk_hit ?_ | refine inBlk_miss (by decide) ?_ | refine forQ_exit ?_ | refine forQ_ret ?_ | refine loopQ_exit ?_ | refine loopQ_ret ?_ | refine r_block ?_ | refine r_skip ?_ | refine r_exit ?_ | refine r_ret ?_ | (show rwp _ _ (.cond _ _ _) _ _ _; first | refine c_t (h := ?_) | refine c_f (h := ?_)))
      have hE := (he3.trans he4)
      have hz2 := he2.size
      have hz4 := hE.size
      have hge := tl_lead (by omega) htl6
      refine loopQ_normal ?_ ⟨v5, x6, ?_, ((he2.trans hE).trans he5).trans he7, ?_, hst6, rfl⟩
      · omega
      · ((try simp only [Has, ev_tmp, ev_const, ev_func, get_put, get_args, get_putL, get_putL_nil, Nat.reduceEqDiff, reduceIte, List.getD_cons_zero, List.getD_cons_succ, List.getD_nil]); repeat' (first | exact True.intro | apply And.intro | with_reducible rfl | exact int_congr (by first | omega | rfl)))
      · exact (IntsAp.ofFr hf5 (fun g hg => by have := hbd g hg; omega)).ext he7
  · repeat (first | (show rops _ _ _ _ (_ :: _) _ _; first | refine ra (next := ?_) | refine rk (next := ?_) | refine rku (next := ?_)) | refine st_end ?_ | refine thn_normal ?_ | refine r_seq ?_ | refine r_region rfl ?_ | refine thn_exit ?_ | refine thn_ret ?_ | refine inBlk_normal ?_ | refine inBlk_ret ?_ | refine inBlk_hit ?_ | refine inBlk_miss (by decide) ?_ | refine forQ_exit ?_ | refine forQ_ret ?_ | refine loopQ_exit ?_ | refine loopQ_ret ?_ | refine r_block ?_ | refine r_skip ?_ | refine r_exit ?_ | refine r_ret ?_ | (show rwp _ _ (.cond _ _ _) _ _ _; first | refine c_t (h := ?_) | refine c_f (h := ?_)))
    refine ret1 ⟨he2, x2, hx2, hst, ?_, ?_, ?_⟩
    · rw [hd]; exact hlt2
    · omega
    · rw [hd]; intro h; omega
end Go.Proofs.Ytjcmdmjlhngjcaa

/-
  Walk: the program's addition of elements to a sequence (sequence.add).
  Conditions: the tails at all levels are groups; the sequence's table has no element waiting.
-/
namespace Go.Proofs.Ytjcmdmjlhngjcaa
open Go Go.Pc
/-- The table and the queue, side by side; one element more waits. -/
theorem tq_push {p : Pr} {e base s b0 : Nat} {av : Nat → Prop} {w w' : World} {vt vw vw' u : Value} {usT usW : List Value} {t : Tab p} {zs : List (El p)} {x : El p}
    (hT : Lst e base (fun g => av g ∨ vw.ownBlock = some g) w vt usT (tabL t)) (hW : QLst e s (fun g => g = b0) w vw usW (vecs zs))
    (hu : IntsAp (fun g => g = b0 ∨ vw.ownBlock = some g) w u x.v) (ho : OwnQ e s w' vw' (usW ++ [u])) (hg : w.grownBy w' vw.ownBlock) (hv : vw'.ownBlock = vw.ownBlock ∨ vw'.ownBlock = some w.heap.size) :
    Lst e base (fun g => av g ∨ vw'.ownBlock = some g) w' vt usT (tabL t) ∧ QLst e s (fun g => g = b0) w' vw' (usW ++ [u]) (vecs (zs ++ [x])) := by
  have hW' := hW.push hu ho hg hv
  refine ⟨hT.beside hg (fun g e => .inr e) fun g hg' => ?_, by unfold vecs; rw [List.map_append]; exact hW'⟩
  rcases hg' with hg' | hg'
  · exact .inl (.inl hg')
  · rcases hv with e | e
    · rw [e] at hg'; exact .inl (.inr hg')
    · have := (hW'.lt hg').2
      rw [e] at hg'; injection hg' with hg'
      exact .inr ⟨hg'.symm, by omega⟩
theorem b_push {A : Nat → Prop} {w w' : World} {v v' u : Value} {xs : List Int} (h : IntsAp (fun g => A g ∨ v.ownBlock = some g) w u xs) (hg : w.grownBy w' v.ownBlock) (hv : v'.ownBlock = v.ownBlock ∨ v'.ownBlock = some w.heap.size) : IntsAp (fun g => A g ∨ v'.ownBlock = some g) w' u xs :=
  h.beside hg (fun g e => .inr e) fun g hg' => by
    rcases hg' with hg' | hg'
    · exact .inl (.inl hg')
    · rcases hv with e | e
      · rw [e] at hg'; exact .inl (.inr hg')
      · rw [e] at hg'; injection hg' with hg'; exact .inr hg'.symm
/-- A sequence in memory: its struct and its table, of which the block b0 is written. -/
structure SeqAt {p : Pr} (bs b0 base : Nat) (av : Nat → Prop) (w : World) (vp vb : Value) (t : Tab p) : Prop where
  c0 : Cell w bs 0 vp
  c1 : Cell w bs 1 vb
  ne : bs ≠ b0
  own : vb.ownBlock = some b0
  lst : ∃ us, Lst 22 base av w vb us (tabL t) ∧ ∀ d, d < p.n → t d = none → us.getD d nilv = nilv
set_option maxHeartbeats 8000000 in
theorem add_ok {p : Pr} [hcon : ConAll p] {S : El p → Prop} {t0 : Tab p} {av : Nat → Prop} {base bs b0 : Nat} {w : World} {vp vb vl : Value} {us : List Value} {ys : List (El p)} {lo hi lo1 hi1 : Nat} [hp : PresP lo hi w vp p] (hhi : hi ≤ w.heap.size) [hap : Apart lo hi b0]
    (hq : SeqAt bs b0 base av w vp vb t0) (hw0 : Wk S t0 (fun _ => False)) [hsl : Sl lo1 hi1 w vl us] (hr : RowsAp (fun g => g = b0) w us (vecs ys)) (hn : ys.length ≤ 100000) :
    Calls Try.prog 48 #[.pointer (some ⟨bs, 0, none⟩), vl] w (Ret fun v w' => ∃ (bg : Bool) (t : Tab p), v = .bool bg ∧ Chg b0 w w' ∧ SeqAt bs b0 base av w' vp vb t ∧ Wk (fun a => S a ∨ a ∈ ys) t (fun _ => False) ∧ (bg = true ↔ ∃ a, a ∈ ys ∧ ¬ Gen S a)) := by
  have hv := hcon.valid
  have hn6 := hv.n6
  have hol : p.ord.length = p.n := rfl
  obtain ⟨c0, c1, hbsn, hvb, usT0, hT0, hnil0⟩ := hq
  have hb0l := (hT0.lt hvb).2
  have hbsl := c0.lt
  have hapb : Apart bs (bs + 1) b0 := ⟨by omega⟩
  obtain ⟨g, vo, vpw, vc, ps, cs, css, rfl, hg1, hg2, hc0, hc1, hc2, h1, h2, h3⟩ := hp.ex
  have hag : Apart g (g + 1) b0 := ⟨by have := hap.out; omega⟩
  have hul : us.length = ys.length := by rw [hr.len]; simp
  refine enter (args := [.pointer (some ⟨bs, 0, none⟩), vl]) (l := [.tmp 4]) Try.func48 rfl rfl Try.ntmps48 (by simp) ?_
  repeat (first | (show rops _ _ _ _ (_ :: _) _ _; first | refine ra (next := ?_) | refine rk (next := ?_) | refine rku (next := ?_)) | refine st_end ?_ | refine thn_normal ?_ | refine r_seq ?_ | refine r_region rfl ?_ | refine thn_exit ?_ | refine thn_ret ?_ | refine inBlk_normal ?_ | refine inBlk_ret ?_ | refine inBlk_hit ?_ | refine inBlk_miss (by decide) ?_ | refine forQ_exit ?_ | refine forQ_ret ?_ | refine loopQ_exit ?_ | refine loopQ_ret ?_ | refine r_block ?_ | refine r_skip ?_ | refine r_exit ?_ | refine r_ret ?_ | (show rwp _ _ (.cond _ _ _) _ _ _; first | refine c_t (h := ?_) | refine c_f (h := ?_)))
  refine rc (cloneR_ok (us := us) ?_ ?_) (next := fun v1 w1 h4 => ?_)
  · intro u hu
    obtain ⟨i, hi, rfl⟩ := List.getElem_of_mem hu
    have := (hr.at_ i).ints.sl.one
    rwa [show us.getD i nilv = us[i] by simp [hi]] at this
  · omega
  obtain ⟨he1, hO1⟩ := h4
  have hz1 := he1.size
  have hQ1 : QLst 22 w.heap.size (fun g => g = b0) w1 v1 us (vecs ys) := by
    refine ⟨hO1.toQ, (hr.weak fun g hg => ?_).ext he1, fun g hg e => ?_, fun g e => by omega⟩
    · rcases hg with hg | hg
      · exact .inl hg
      · exact .inr (hO1.lt g hg).1
    · have := (hO1.lt g hg).1; omega
  have hT1 : Lst 22 base (fun g => av g ∨ v1.ownBlock = some g) w1 vb usT0 (tabL t0) := by
    refine ⟨(hT0.ext he1).own, ((hT0.rows.weak (av' := fun g => (av g ∨ v1.ownBlock = some g) ∨ vb.ownBlock = some g) fun g hg => ?_).ext he1), fun g hg h' => ?_, fun g hg => ?_⟩
    · rcases hg with (hg | hg) | hg
      · exact .inl (.inl hg)
      · exact .inr (hO1.lt g hg).1
      · exact .inl (.inr hg)
    · rcases h' with h' | h'
      · exact hT0.free g hg h'
      · have := (hO1.lt g h').1; have := (hT0.lt hg).2; omega
    · rcases hg with hg | hg
      · have := hT0.bd g hg; omega
      · exact (hO1.lt g hg).2
  repeat (first | (show rops _ _ _ _ (_ :: _) _ _; first | refine ra (next := ?_) | refine rk (next := ?_) | refine rku (next := ?_)) | refine st_end ?_ | refine thn_normal ?_ | refine r_seq ?_ | refine r_region rfl ?_ | refine thn_exit ?_ | refine thn_ret ?_ | refine inBlk_normal ?_ | refine inBlk_ret ?_ | refine inBlk_hit ?_ | refine inBlk_miss (by decide) ?_ | refine forQ_exit ?_ | refine forQ_ret ?_ | refine loopQ_exit ?_ | refine loopQ_ret ?_ | refine r_block ?_ | refine r_skip ?_ | refine r_exit ?_ | refine r_ret ?_ | (show rwp _ _ (.cond _ _ _) _ _ _; first | refine c_t (h := ?_) | refine c_f (h := ?_)))
  refine r_loop (fun m ρ w' => ∃ (vq : Value) (usT usQ : List Value) (t : Tab p) (zs : List (El p)) (bg : Bool), Has ρ [(0, .pointer (some ⟨bs, 0, none⟩)), (5, .bool bg), (6, vq)] ∧ Chg b0 w w' ∧ Lst 22 base (fun g => av g ∨ vq.ownBlock = some g) w' vb usT (tabL t) ∧
    QLst 22 w.heap.size (fun g => g = b0) w' vq usQ (vecs zs) ∧ (∀ d, d < p.n → t d = none → usT.getD d nilv = nilv) ∧ Wk (fun a => S a ∨ a ∈ ys) t (fun a => a ∈ zs) ∧ (bg = true → ∃ d, t0 d = none ∧ t d ≠ none) ∧ (bg = false → t = t0) ∧ (∀ d, t d = none → t0 d = none) ∧
    m = 8 * empt t + zs.length ∧ m ≤ ys.length + 48) (8 * empt t0 + ys.length) ?_ ?_
  · refine ⟨v1, usT0, us, t0, ys, false, ?_, Chg.ofExt he1, hT1, hQ1, hnil0, hw0.more, fun h => (by cases h), fun _ => rfl, fun _ h => h, rfl, ?_⟩
    · ((try simp only [Has, ev_tmp, ev_const, ev_func, get_put, get_args, get_putL, get_putL_nil, Nat.reduceEqDiff, reduceIte, List.getD_cons_zero, List.getD_cons_succ, List.getD_nil]); repeat' (first | exact True.intro | apply And.intro | with_reducible rfl | exact int_congr (by first | omega | rfl)))
    · have := empt_le t0; omega
  clear hQ1 hT1 hO1 he1
  rintro m ρ w4 ⟨vq, usT, usQ, t, zs, bg, hH4, hch4, hT, hQ, hnil, hWk, hbt, hbf, hab, rfl, hm⟩
  refine rwp_has hH4 fun ρ0 => ?_
  have hTr := hT.toRows
  have hQr := hQ.toRows
  have htl := tabL_len t
  have hz4 := hch4.size
  have hcs0 : Cell w4 bs 0 (.pointer (some ⟨g, 0, none⟩)) := inferInstance
  have hcs1 : Cell w4 bs 1 vb := inferInstance
  repeat (first | (show rops _ _ _ _ (_ :: _) _ _; first | refine ra (next := ?_) | refine rk (next := ?_) | refine rku (next := ?_)) | refine st_end ?_ | refine thn_normal ?_ | refine r_seq ?_ | refine r_region rfl ?_ | refine thn_exit ?_ | refine thn_ret ?_ | refine inBlk_normal ?_ | refine inBlk_ret ?_ | refine inBlk_hit ?_ | refine inBlk_miss (by decide) ?_ | refine forQ_exit ?_ | refine forQ_ret ?_ | refine loopQ_exit ?_ | refine loopQ_ret ?_ | refine r_block ?_ | refine r_skip ?_ | refine r_exit ?_ | refine r_ret ?_ | (show rwp _ _ (.cond _ _ _) _ _ _; first | refine c_t (h := ?_) | refine c_f (h := ?_)))
  refine c_if (fun h4 => ?_) (fun h4 => ?_)
  · cases zs with
    | nil => simp at h4
    | cons x zs =>
    have hQl := hQ.len
    cases usQ with
    | nil => simp at hQl
    | cons u usQ =>
    have hql : usQ.length = zs.length := by simpa using hQl
    have hzl : (vecs (x :: zs)).length = usQ.length + 1 := by simp [hql]
    have hzl2 : (x :: zs).length = zs.length + 1 := rfl
    have hx4 : IntsAp (fun g => g = b0 ∨ vq.ownBlock = some g) w4 (Pc.rowAt vq (u :: usQ) 0) x.v := hQ.rows.at_ 0
    repeat (first | (show rops _ _ _ _ (_ :: _) _ _; first | refine ra (next := ?_) | refine rk (next := ?_) | refine rku (next := ?_)) | refine st_end ?_ | refine thn_normal ?_ | refine r_seq ?_ | refine r_region rfl ?_ | refine thn_exit ?_ | refine thn_ret ?_ | refine inBlk_normal ?_ | refine inBlk_ret ?_ | refine inBlk_hit ?_ | refine inBlk_miss (by decide) ?_ | refine forQ_exit ?_ | refine forQ_ret ?_ | refine loopQ_exit ?_ | refine loopQ_ret ?_ | refine r_block ?_ | refine r_skip ?_ | refine r_exit ?_ | refine r_ret ?_ | (show rwp _ _ (.cond _ _ _) _ _ _; first | refine c_t (h := ?_) | refine c_f (h := ?_)))
    refine rc (sift_ok hWk.ok (x := x) hnil hx4 ?_) (next := fun v5 w5 h5 => ?_)
    · rintro g (rfl | hg)
      · omega
      · exact (hQ.lt hg).2
    obtain ⟨he5, r, hr5, hL⟩ := h5
    have hri := hr5.ints
    have hrl := r.inr.len
    repeat (first | (show rops _ _ _ _ (_ :: _) _ _; first | refine ra (next := ?_) | refine rk (next := ?_) | refine rku (next := ?_)) | refine st_end ?_ | refine thn_normal ?_ | refine r_seq ?_ | refine r_region rfl ?_ | refine thn_exit ?_ | refine thn_ret ?_ | refine inBlk_normal ?_ | refine inBlk_ret ?_ | refine inBlk_hit ?_ | refine inBlk_miss (by decide) ?_ | refine forQ_exit ?_ | refine forQ_ret ?_ | refine loopQ_exit ?_ | refine loopQ_ret ?_ | refine r_block ?_ | refine r_skip ?_ | refine r_exit ?_ | refine r_ret ?_ | (show rwp _ _ (.cond _ _ _) _ _ _; first | refine c_t (h := ?_) | refine c_f (h := ?_)))
    rw [hzl]
    have hQ5 : QLst 22 w.heap.size (fun g => g = b0) w5 (cut vq 1 (usQ.length + 1)) usQ (vecs zs) := (hQ.ext he5).tail
    have hT5 : Lst 22 base (fun g => av g ∨ (cut vq 1 (usQ.length + 1)).ownBlock = some g) w5 vb usT (tabL t) := by rw [cut_block]; exact hT.ext he5
    rw [← cut_block vq 1 (usQ.length + 1)] at hr5
    have hqb := cut_block vq 1 (usQ.length + 1)
    generalize cut vq 1 (usQ.length + 1) = vq5 at hQ5 hT5 hr5 hqb
    refine rc (depthOf_ok (xs := r.v) ?_) (next := fun v6 w6 h6 => ?_)
    · omega
    obtain ⟨rfl, he6⟩ := h6
    obtain ⟨d, hd⟩ : ∃ d, lead r.v = d := ⟨_, rfl⟩
    rw [hd] at hL ⊢
    repeat (first | (show rops _ _ _ _ (_ :: _) _ _; first | refine ra (next := ?_) | refine rk (next := ?_) | refine rku (next := ?_)) | refine st_end ?_ | refine thn_normal ?_ | refine r_seq ?_ | refine r_region rfl ?_ | refine thn_exit ?_ | refine thn_ret ?_ | refine inBlk_normal ?_ | refine inBlk_ret ?_ | refine inBlk_hit ?_ | refine inBlk_miss (by decide) ?_ | refine forQ_exit ?_ | refine forQ_ret ?_ | refine loopQ_exit ?_ | refine loopQ_ret ?_ | refine r_block ?_ | refine r_skip ?_ | refine r_exit ?_ | refine r_ret ?_ | (show rwp _ _ (.cond _ _ _) _ _ _; first | refine c_t (h := ?_) | refine c_f (h := ?_)))
    have hch6 : Chg b0 w w6 := (hch4.grow he5).grow he6
    refine c_if (fun h5 => ?_) (fun h5 => ?_)
    · have hr1 : r = 1 := by
        have := hL.tl
        rw [show d = p.n by omega] at this
        exact this.end_
      subst hr1
      repeat (first | (show rops _ _ _ _ (_ :: _) _ _; first | refine ra (next := ?_) | refine rk (next := ?_) | refine rku (next := ?_)) | refine st_end ?_ | refine thn_normal ?_ | refine r_seq ?_ | refine r_region rfl ?_ | refine thn_exit ?_ | refine thn_ret ?_ | refine inBlk_normal ?_ | refine inBlk_ret ?_ | refine inBlk_hit ?_ | refine inBlk_miss (by decide) ?_ | refine forQ_exit ?_ | refine forQ_ret ?_ | refine loopQ_exit ?_ | refine loopQ_ret ?_ | refine r_block ?_ | refine r_skip ?_ | refine r_exit ?_ | refine r_ret ?_ | (show rwp _ _ (.cond _ _ _) _ _ _; first | refine c_t (h := ?_) | refine c_f (h := ?_)))
      refine loopQ_normal ?_ ⟨vq5, usT, usQ, t, zs, bg, ?_, hch6, hT5.ext he6, hQ5.ext he6, hnil, hWk.drop hL.stp ?_ ?_, hbt, hbf, hab, rfl, ?_⟩
      · omega
      · ((try simp only [Has, ev_tmp, ev_const, ev_func, get_put, get_args, get_putL, get_putL_nil, Nat.reduceEqDiff, reduceIte, List.getD_cons_zero, List.getD_cons_succ, List.getD_nil]); repeat' (first | exact True.intro | apply And.intro | with_reducible rfl | exact int_congr (by first | omega | rfl)))
      · intro a ha
        rcases List.mem_cons.1 ha with ha | ha
        · exact .inl ha
        · exact .inr ha
      · exact fun a ha => List.mem_cons_of_mem _ ha
      · omega
    · have hdn : d < p.n := by have := hL.le; omega
      obtain ⟨htd, hrd⟩ := hL.some hdn
      have hrr := r.inr.rng d hdn
      have hod := hv.opos hdn
      have hpr := hv.prime d hdn
      have hr0 : r.v.getD d 0 ≠ 0 := hrd
      repeat (first | (show rops _ _ _ _ (_ :: _) _ _; first | refine ra (next := ?_) | refine rk (next := ?_) | refine rku (next := ?_)) | refine st_end ?_ | refine thn_normal ?_ | refine r_seq ?_ | refine r_region rfl ?_ | refine thn_exit ?_ | refine thn_ret ?_ | refine inBlk_normal ?_ | refine inBlk_ret ?_ | refine inBlk_hit ?_ | refine inBlk_miss (by decide) ?_ | refine forQ_exit ?_ | refine forQ_ret ?_ | refine loopQ_exit ?_ | refine loopQ_ret ?_ | refine r_block ?_ | refine r_skip ?_ | refine r_exit ?_ | refine r_ret ?_ | (show rwp _ _ (.cond _ _ _) _ _ _; first | refine c_t (h := ?_) | refine c_f (h := ?_)))
      refine d_region fun w7 he7 _ => ?_
      repeat (first | refine da (next := ?_) | refine dsk (next := ?_) | refine dsku (next := ?_))
      refine dce (inverseMod_ok hpr ?_) (next := fun v8 w8 h8 => ?_)
      · exact ⟨by omega, hrr.2⟩
      obtain ⟨k, rfl, hk1, hk2, hk3, he8⟩ := h8
      repeat (first | refine da (next := ?_) | refine dsk (next := ?_) | refine dsku (next := ?_))
      refine d_end (h := ?_)
      have hE58 : Ext w5 w8 := he6.trans (he7.trans he8)
      have hT8 := hT5.ext hE58
      have hQ8 := hQ5.ext hE58
      have hr8 := hr5.ext hE58
      have hri8 := hr8.ints
      have hch8 := hch6.grow (he7.trans he8)
      repeat (first | (show rops _ _ _ _ (_ :: _) _ _; first | refine ra (next := ?_) | refine rk (next := ?_) | refine rku (next := ?_)) | refine st_end ?_ | refine thn_normal ?_ | refine r_seq ?_ | refine r_region rfl ?_ | refine thn_exit ?_ | refine thn_ret ?_ | refine inBlk_normal ?_ | refine inBlk_ret ?_ | refine inBlk_hit ?_ | refine inBlk_miss (by decide) ?_ | refine forQ_exit ?_ | refine forQ_ret ?_ | refine loopQ_exit ?_ | refine loopQ_ret ?_ | refine r_block ?_ | refine r_skip ?_ | refine r_exit ?_ | refine r_ret ?_ | (show rwp _ _ (.cond _ _ _) _ _ _; first | refine c_t (h := ?_) | refine c_f (h := ?_)))
      refine st_slice1 (u := v5) (by ((try simp only [ev_tmp, ev_const, ev_func, get_put, get_args, get_putL, get_putL_nil, Nat.reduceEqDiff, reduceIte, List.getD_cons_zero, List.getD_cons_succ, List.getD_nil]); first | done | with_reducible rfl)) ?_ ?_ (by first | exact True.intro | exact ⟨_, rfl, by ((try simp only [ev_tmp, ev_const, ev_func, get_put, get_args, get_putL, get_putL_nil, Nat.reduceEqDiff, reduceIte, List.getD_cons_zero, List.getD_cons_succ, List.getD_nil, Bool.not_true, Bool.not_false]); first | done | with_reducible rfl)⟩) fun w9 v9 he9 hs9 ho9 => ?_
      · exact hri8.sl.cells
      · rfl
      repeat (first | (show rops _ _ _ _ (_ :: _) _ _; first | refine ra (next := ?_) | refine rk (next := ?_) | refine rku (next := ?_)) | refine st_end ?_ | refine thn_normal ?_ | refine r_seq ?_ | refine r_region rfl ?_ | refine thn_exit ?_ | refine thn_ret ?_ | refine inBlk_normal ?_ | refine inBlk_ret ?_ | refine inBlk_hit ?_ | refine inBlk_miss (by decide) ?_ | refine forQ_exit ?_ | refine forQ_ret ?_ | refine loopQ_exit ?_ | refine loopQ_ret ?_ | refine r_block ?_ | refine r_skip ?_ | refine r_exit ?_ | refine r_ret ?_ | (show rwp _ _ (.cond _ _ _) _ _ _; first | refine c_t (h := ?_) | refine c_f (h := ?_)))
      have hT9 := hT8.ext he9
      have hQ9 := hQ8.ext he9
      have hr9 := hr8.ext he9
      have hO9 := hQ9.own
      have hz8 := hch8.size
      have hz9 := he9.size
      refine st_appendQ (hv := hO9) (hy := ho9) (by ((try simp only [ev_tmp, ev_const, ev_func, get_put, get_args, get_putL, get_putL_nil, Nat.reduceEqDiff, reduceIte, List.getD_cons_zero, List.getD_cons_succ, List.getD_nil]); first | done | with_reducible rfl)) (by ((try simp only [ev_tmp, ev_const, ev_func, get_put, get_args, get_putL, get_putL_nil, Nat.reduceEqDiff, reduceIte, List.getD_cons_zero, List.getD_cons_succ, List.getD_nil]); first | done | with_reducible rfl)) rfl ?_ ?_ ?_ ?_ (by first | exact True.intro | exact ⟨_, rfl, by ((try simp only [ev_tmp, ev_const, ev_func, get_put, get_args, get_putL, get_putL_nil, Nat.reduceEqDiff, reduceIte, List.getD_cons_zero, List.getD_cons_succ, List.getD_nil, Bool.not_true, Bool.not_false]); first | done | with_reducible rfl)⟩) fun v10 w10 ho10 hg10 ha10 => ?_
      · exact hri8.sl.one
      · omega
      · simp only [maxLen]; omega
      · omega
      obtain ⟨hT10, hQ10⟩ := tq_push hT9 hQ9 hr9 ho10 hg10 ha10
      have hr10 := b_push hr9 hg10 ha10
      have hch10 : Chg b0 w w10 := (hch8.grow he9).app hg10 (fun k hk => (hQ9.lt hk).1)
      have hri10 := hr10.ints
      have hz10 := hch10.size
      clear hT5 hQ5 hr5 hri hT8 hQ8 hr8 hri8 hch8 hT9 hQ9 hr9 hO9 hch6 ho9 hQr hTr hx4 hcs0 hcs1
      repeat (first | (show rops _ _ _ _ (_ :: _) _ _; first | refine ra (next := ?_) | refine rk (next := ?_) | refine rku (next := ?_)) | refine st_end ?_ | refine thn_normal ?_ | refine r_seq ?_ | refine r_region rfl ?_ | refine thn_exit ?_ | refine thn_ret ?_ | refine inBlk_normal ?_ | refine inBlk_ret ?_ | refine inBlk_hit ?_ | refine inBlk_miss (by decide) ?_ | refine forQ_exit ?_ | refine forQ_ret ?_ | refine loopQ_exit ?_ | refine loopQ_ret ?_ | refine r_block ?_ | refine r_skip ?_ | refine r_exit ?_ | refine r_ret ?_ | (show rwp _ _ (.cond _ _ _) _ _ _; first | refine c_t (h := ?_) | refine c_f (h := ?_)))
      refine rc (power_ok (p := p) (x := r) (Nat.zero_le _) rfl ?_) (next := fun v11 w11 h11 => ?_)
      · omega
      obtain ⟨he11, hf11⟩ := h11
      obtain ⟨y, hy⟩ : ∃ y, Grp.pw r k.toNat = y := ⟨_, rfl⟩
      rw [hy] at hf11
      have hT11 := hT10.ext he11
      have hQ11 := hQ10.ext he11
      have hch11 := hch10.grow he11
      have hy11 : IntsAp (fun g => g < w.heap.size ∨ v10.ownBlock = some g) w11 v11 y.v := IntsAp.ofFr hf11 (fun g hg => by
        rcases hg with hg | hg
        · omega
        · exact (hQ10.lt hg).2)
      have hyi := hy11.ints
      have hz11 := he11.size
      clear hT10 hQ10 hch10 hf11 hr10 hri10
      obtain ⟨b', hb', hvb'⟩ := own_some v10 w.heap.size w11.heap.size (by omega) (fun g h => (hQ11.lt h).1)
      have ap1 : Apart lo hi b' := ⟨.inr (by omega)⟩
      have ap2 : Apart bs (bs + 1) b' := ⟨.inr (by omega)⟩
      have ap3 : Apart g (g + 1) b' := ⟨.inr (by omega)⟩
      have hl11 := hQ11.len
      repeat (first | (show rops _ _ _ _ (_ :: _) _ _; first | refine ra (next := ?_) | refine rk (next := ?_) | refine rku (next := ?_)) | refine st_end ?_ | refine thn_normal ?_ | refine r_seq ?_ | refine r_region rfl ?_ | refine thn_exit ?_ | refine thn_ret ?_ | refine inBlk_normal ?_ | refine inBlk_ret ?_ | refine inBlk_hit ?_ | refine inBlk_miss (by decide) ?_ | refine forQ_exit ?_ | refine forQ_ret ?_ | refine loopQ_exit ?_ | refine loopQ_ret ?_ | refine r_block ?_ | refine r_skip ?_ | refine r_exit ?_ | refine r_ret ?_ | (show rwp _ _ (.cond _ _ _) _ _ _; first | refine c_t (h := ?_) | refine c_f (h := ?_)))
      refine z_order b' (List.range 20) (h := fun w12 he12 _ => ?_)
      repeat refine za (next := ?_)
      refine zc (power_ok (p := p) (x := y) (Nat.zero_le _) rfl ?_) (next := fun v13 w13 h13 => ?_)
      · have hoe : p.o d = p.ord.getD d 0 := rfl
        omega
      obtain ⟨he13, hf13⟩ := h13
      have hoe : p.o d = p.ord.getD d 0 := rfl
      rw [← hoe] at hf13
      refine z_slice1 (u := v13) (h := (by ((try simp only [ev_tmp, ev_const, ev_func, get_put, get_args, get_putL, get_putL_nil, Nat.reduceEqDiff, reduceIte, List.getD_cons_zero, List.getD_cons_succ, List.getD_nil]); first | done | with_reducible rfl))) (hu := ?_) (hz := ?_) (next := fun w14 v14 he14 hs14 ho14 => ?_)
      · exact hf13.ints.sl.cells
      · rfl
      have hE14 := (he12.trans he13).trans he14
      have hT14 := hT11.ext hE14
      have hQ14 := hQ11.ext hE14
      have hO14 := hQ14.own
      have hz14 := hE14.size
      have hz12 := he12.size
      have hz13 := he13.size
      have hl14 : (usQ ++ [v5]).length = zs.length + 1 := by simp [hql]
      refine z_appendQ (hv := hO14) (hy := ho14) (hs := (by ((try simp only [ev_tmp, ev_const, ev_func, get_put, get_args, get_putL, get_putL_nil, Nat.reduceEqDiff, reduceIte, List.getD_cons_zero, List.getD_cons_succ, List.getD_nil]); first | done | with_reducible rfl))) (hx := (by ((try simp only [ev_tmp, ev_const, ev_func, get_put, get_args, get_putL, get_putL_nil, Nat.reduceEqDiff, reduceIte, List.getD_cons_zero, List.getD_cons_succ, List.getD_nil]); first | done | with_reducible rfl))) (hz := rfl) (h1 := ?_) (hb := ?_) (hl := ?_) (hbase := ?_) (hvb := hvb') (next := fun v15 w15 ho15 hg15 ha15 => ?_)
      · exact hf13.ints.sl.one
      · omega
      · simp only [maxLen]; omega
      · omega
      have hp14 : IntsAp (fun g => g = b0 ∨ v10.ownBlock = some g) w14 v13 (Grp.pw y (p.o d).toNat).v :=
        (IntsAp.ofFr hf13 (fun g hg => by
          rcases hg with hg | hg
          · omega
          · have := (hQ11.lt hg).2; omega)).ext he14
      obtain ⟨hT15, hQ15⟩ := tq_push hT14 hQ14 hp14 ho15 hg15 ha15
      have hy15 := b_push (hy11.ext hE14) hg15 ha15
      have hch15 : Chg b0 w w15 := (hch11.grow hE14).app hg15 (fun k hk => (hQ14.lt hk).1)
      repeat refine za (next := ?_)
      refine z_end ?_
      clear hT11 hQ11 hch11 hy11 hyi hT14 hQ14 hO14 hp14 ap1 ap2 ap3 ho14 hvb'
      have hTr := hT15.toRows
      repeat (first | (show rops _ _ _ _ (_ :: _) _ _; first | refine ra (next := ?_) | refine rk (next := ?_) | refine rku (next := ?_)) | refine st_end ?_ | refine thn_normal ?_ | refine r_seq ?_ | refine r_region rfl ?_ | refine thn_exit ?_ | refine thn_ret ?_ | refine inBlk_normal ?_ | refine inBlk_ret ?_ | refine inBlk_hit ?_ | refine inBlk_miss (by decide) ?_ | refine forQ_exit ?_ | refine forQ_ret ?_ | refine loopQ_exit ?_ | refine loopQ_ret ?_ | refine r_block ?_ | refine r_skip ?_ | refine r_exit ?_ | refine r_ret ?_ | (show rwp _ _ (.cond _ _ _) _ _ _; first | refine c_t (h := ?_) | refine c_f (h := ?_)))
      refine r_for p.n (fun e ρ w' => ∃ (vq : Value) (usQ : List Value), Has ρ [(0, .pointer (some ⟨bs, 0, none⟩)), (5, .bool true), (6, vq), (7, v11), (8, .int .i64 d), (82, vb), (83, .int .i64 (tabL t).length), (84, .int .i64 e)] ∧ Chg b0 w w' ∧
        Lst 22 base (fun g => av g ∨ vq.ownBlock = some g) w' vb usT (tabL t) ∧
        QLst 22 w.heap.size (fun g => g = b0) w' vq usQ (vecs (zs ++ [r] ++ [Grp.pw y (p.o d).toNat] ++ commsL t y e)) ∧ IntsAp (fun g => g < w.heap.size ∨ vq.ownBlock = some g) w' v11 y.v) ?_ ?_
      · refine ⟨v15, usQ ++ [v5] ++ [v13], ?_, hch15, hT15, ?_, hy15⟩
        · ((try simp only [Has, ev_tmp, ev_const, ev_func, get_put, get_args, get_putL, get_putL_nil, Nat.reduceEqDiff, reduceIte, List.getD_cons_zero, List.getD_cons_succ, List.getD_nil]); repeat' (first | exact True.intro | apply And.intro | with_reducible rfl | exact int_congr (by first | omega | rfl)))
        · have : commsL t y 0 = [] := rfl
          rw [this, List.append_nil]
          exact hQ15
      clear hT15 hQ15 hch15 hy15 hTr
      rintro e ρ w16 he ⟨vq2, usQ2, hH16, hch16, hT16, hQ16, hy16⟩
      refine rwp_has hH16 fun ρ1 => ?_
      have hTr := hT16.toRows
      have hyi := hy16.ints
      have hz16 := hch16.size
      have hl16 : usQ2.length = zs.length + 2 + (commsL t y e).length := by rw [hQ16.len]; simp; omega
      have hcl := commsL_len (t := t) (y := y) (e := e)
      repeat (first | (show rops _ _ _ _ (_ :: _) _ _; first | refine ra (next := ?_) | refine rk (next := ?_) | refine rku (next := ?_)) | refine st_end ?_ | refine thn_normal ?_ | refine r_seq ?_ | refine r_region rfl ?_ | refine thn_exit ?_ | refine thn_ret ?_ | refine inBlk_normal ?_ | refine inBlk_ret ?_ | refine inBlk_hit ?_ | refine inBlk_miss (by decide) ?_ | refine forQ_exit ?_ | refine forQ_ret ?_ | refine loopQ_exit ?_ | refine loopQ_ret ?_ | refine r_block ?_ | refine r_skip ?_ | refine r_exit ?_ | refine r_ret ?_ | (show rwp _ _ (.cond _ _ _) _ _ _; first | refine c_t (h := ?_) | refine c_f (h := ?_)))
      refine c_if (fun h6 => ?_) (fun h6 => ?_)
      · have hen : e < p.n := by omega
        cases hte : t e with
        | none =>
          have hn2 : Pc.rowAt vb usT e = nilv := hnil e hen hte
          have hnb : NilB (Pc.rowAt vb usT e) true := by rw [hn2]; infer_instance
          repeat (first | (show rops _ _ _ _ (_ :: _) _ _; first | refine ra (next := ?_) | refine rk (next := ?_) | refine rku (next := ?_)) | refine st_end ?_ | refine thn_normal ?_ | refine r_seq ?_ | refine r_region rfl ?_ | refine thn_exit ?_ | refine thn_ret ?_ | refine inBlk_normal ?_ | refine inBlk_ret ?_ | refine inBlk_hit ?_ | refine inBlk_miss (by decide) ?_ | refine forQ_exit ?_ | refine forQ_ret ?_ | refine loopQ_exit ?_ | refine loopQ_ret ?_ | refine r_block ?_ | refine r_skip ?_ | refine r_exit ?_ | refine r_ret ?_ | (show rwp _ _ (.cond _ _ _) _ _ _; first | refine c_t (h := ?_) | refine c_f (h := ?_)))
          refine forQ_normal (by omega) ⟨vq2, usQ2, ?_, hch16, hT16, ?_, hy16⟩
          · ((try simp only [Has, ev_tmp, ev_const, ev_func, get_put, get_args, get_putL, get_putL_nil, Nat.reduceEqDiff, reduceIte, List.getD_cons_zero, List.getD_cons_succ, List.getD_nil]); repeat' (first | exact True.intro | apply And.intro | with_reducible rfl | exact int_congr (by first | omega | rfl)))
          · rw [commsL_skip hte]; exact hQ16
        | some z =>
          have hze : (tabL t).getD e [] = z.v := by rw [tabL_at t hen, rowOf_some hte]
          have hnb : NilB (Pc.rowAt vb usT e) false := by
            have hrow : Ints 0 w16.heap.size w16 (Pc.rowAt vb usT e) ((tabL t).getD e []) := by infer_instance
            exact hrow.nn (by rw [hze, z.inr.len]; omega)
          repeat (first | (show rops _ _ _ _ (_ :: _) _ _; first | refine ra (next := ?_) | refine rk (next := ?_) | refine rku (next := ?_)) | refine st_end ?_ | refine thn_normal ?_ | refine r_seq ?_ | refine r_region rfl ?_ | refine thn_exit ?_ | refine thn_ret ?_ | refine inBlk_normal ?_ | refine inBlk_ret ?_ | refine inBlk_hit ?_ | refine inBlk_miss (by decide) ?_ | refine forQ_exit ?_ | refine forQ_ret ?_ | refine loopQ_exit ?_ | refine loopQ_ret ?_ | refine r_block ?_ | refine r_skip ?_ | refine r_exit ?_ | refine r_ret ?_ | (show rwp _ _ (.cond _ _ _) _ _ _; first | refine c_t (h := ?_) | refine c_f (h := ?_)))
          refine rc (commutator_ok (p := p) (x := z) (y := y) (Nat.zero_le _) hze rfl) (next := fun v18 w18 h18 => ?_)
          obtain ⟨he18, hf18⟩ := h18
          repeat (first | (show rops _ _ _ _ (_ :: _) _ _; first | refine ra (next := ?_) | refine rk (next := ?_) | refine rku (next := ?_)) | refine st_end ?_ | refine thn_normal ?_ | refine r_seq ?_ | refine r_region rfl ?_ | refine thn_exit ?_ | refine thn_ret ?_ | refine inBlk_normal ?_ | refine inBlk_ret ?_ | refine inBlk_hit ?_ | refine inBlk_miss (by decide) ?_ | refine forQ_exit ?_ | refine forQ_ret ?_ | refine loopQ_exit ?_ | refine loopQ_ret ?_ | refine r_block ?_ | refine r_skip ?_ | refine r_exit ?_ | refine r_ret ?_ | (show rwp _ _ (.cond _ _ _) _ _ _; first | refine c_t (h := ?_) | refine c_f (h := ?_)))
          refine st_slice1 (u := v18) (by ((try simp only [ev_tmp, ev_const, ev_func, get_put, get_args, get_putL, get_putL_nil, Nat.reduceEqDiff, reduceIte, List.getD_cons_zero, List.getD_cons_succ, List.getD_nil]); first | done | with_reducible rfl)) ?_ ?_ (by first | exact True.intro | exact ⟨_, rfl, by ((try simp only [ev_tmp, ev_const, ev_func, get_put, get_args, get_putL, get_putL_nil, Nat.reduceEqDiff, reduceIte, List.getD_cons_zero, List.getD_cons_succ, List.getD_nil, Bool.not_true, Bool.not_false]); first | done | with_reducible rfl)⟩) fun w19 v19 he19 hs19 ho19 => ?_
          · exact hf18.ints.sl.cells
          · rfl
          have hE19 := he18.trans he19
          have hT19 := hT16.ext hE19
          have hQ19 := hQ16.ext hE19
          have hO19 := hQ19.own
          have hz19 := hE19.size
          repeat (first | (show rops _ _ _ _ (_ :: _) _ _; first | refine ra (next := ?_) | refine rk (next := ?_) | refine rku (next := ?_)) | refine st_end ?_ | refine thn_normal ?_ | refine r_seq ?_ | refine r_region rfl ?_ | refine thn_exit ?_ | refine thn_ret ?_ | refine inBlk_normal ?_ | refine inBlk_ret ?_ | refine inBlk_hit ?_ | refine inBlk_miss (by decide) ?_ | refine forQ_exit ?_ | refine forQ_ret ?_ | refine loopQ_exit ?_ | refine loopQ_ret ?_ | refine r_block ?_ | refine r_skip ?_ | refine r_exit ?_ | refine r_ret ?_ | (show rwp _ _ (.cond _ _ _) _ _ _; first | refine c_t (h := ?_) | refine c_f (h := ?_)))
          refine st_appendQ (hv := hO19) (hy := ho19) (by ((try simp only [ev_tmp, ev_const, ev_func, get_put, get_args, get_putL, get_putL_nil, Nat.reduceEqDiff, reduceIte, List.getD_cons_zero, List.getD_cons_succ, List.getD_nil]); first | done | with_reducible rfl)) (by ((try simp only [ev_tmp, ev_const, ev_func, get_put, get_args, get_putL, get_putL_nil, Nat.reduceEqDiff, reduceIte, List.getD_cons_zero, List.getD_cons_succ, List.getD_nil]); first | done | with_reducible rfl)) rfl ?_ ?_ ?_ ?_ (by first | exact True.intro | exact ⟨_, rfl, by ((try simp only [ev_tmp, ev_const, ev_func, get_put, get_args, get_putL, get_putL_nil, Nat.reduceEqDiff, reduceIte, List.getD_cons_zero, List.getD_cons_succ, List.getD_nil, Bool.not_true, Bool.not_false]); first | done | with_reducible rfl)⟩) fun v20 w20 ho20 hg20 ha20 => ?_
          · exact hf18.ints.sl.one
          · omega
          · simp only [maxLen]; omega
          · omega
          have hp19 : IntsAp (fun g => g = b0 ∨ vq2.ownBlock = some g) w19 v18 (Grp.cm z y).v :=
            (IntsAp.ofFr hf18 (fun g hg => by
              rcases hg with hg | hg
              · omega
              · exact (hQ16.lt hg).2)).ext he19
          obtain ⟨hT20, hQ20⟩ := tq_push hT19 hQ19 hp19 ho20 hg20 ha20
          repeat (first | (show rops _ _ _ _ (_ :: _) _ _; first | refine ra (next := ?_) | refine rk (next := ?_) | refine rku (next := ?_)) | refine st_end ?_ | refine thn_normal ?_ | refine r_seq ?_ | refine r_region rfl ?_ | refine thn_exit ?_ | refine thn_ret ?_ | refine inBlk_normal ?_ | refine inBlk_ret ?_ | refine inBlk_hit ?_ | refine inBlk_miss (by decide) ?_ | refine forQ_exit ?_ | refine forQ_ret ?_ | refine loopQ_exit ?_ | refine loopQ_ret ?_ | refine r_block ?_ | refine r_skip ?_ | refine r_exit ?_ | refine r_ret ?_ | (show rwp _ _ (.cond _ _ _) _ _ _; first | refine c_t (h := ?_) | refine c_f (h := ?_)))
          refine forQ_normal (by omega) ⟨v20, usQ2 ++ [v18], ?_, (hch16.grow hE19).app hg20 (fun k hk => (hQ19.lt hk).1), hT20, ?_, b_push (hy16.ext hE19) hg20 ha20⟩
          · ((try simp only [Has, ev_tmp, ev_const, ev_func, get_put, get_args, get_putL, get_putL_nil, Nat.reduceEqDiff, reduceIte, List.getD_cons_zero, List.getD_cons_succ, List.getD_nil]); repeat' (first | exact True.intro | apply And.intro | with_reducible rfl | exact int_congr (by first | omega | rfl)))
          · rw [commsL_some hte, ← List.append_assoc]; exact hQ20
      · obtain rfl : e = p.n := by omega
        have hes := empt_set (y := y) hdn htd
        have hyk : y = Grp.pw r k.toNat := hy.symm
        have hkk : ((k.toNat : Int) * co r d) % p.o d = 1 := by
          rw [Int.toNat_of_nonneg (by omega), Int.mul_comm]; exact hk3
        have hO16 := hT16.toOwn hvb
        have hulT : usT.length = p.n := by rw [hT16.len, htl]
        repeat (first | (show rops _ _ _ _ (_ :: _) _ _; first | refine ra (next := ?_) | refine rk (next := ?_) | refine rku (next := ?_)) | refine st_end ?_ | refine thn_normal ?_ | refine r_seq ?_ | refine r_region rfl ?_ | refine thn_exit ?_ | refine thn_ret ?_ | refine inBlk_normal ?_ | refine inBlk_ret ?_ | refine inBlk_hit ?_ | refine inBlk_miss (by decide) ?_ | refine forQ_exit ?_ | refine forQ_ret ?_ | refine loopQ_exit ?_ | refine loopQ_ret ?_ | refine r_block ?_ | refine r_skip ?_ | refine r_exit ?_ | refine r_ret ?_ | (show rwp _ _ (.cond _ _ _) _ _ _; first | refine c_t (h := ?_) | refine c_f (h := ?_)))
        refine st_store_val (h := hO16) (by ((try simp only [ev_tmp, ev_const, ev_func, get_put, get_args, get_putL, get_putL_nil, Nat.reduceEqDiff, reduceIte, List.getD_cons_zero, List.getD_cons_succ, List.getD_nil]); first | done | with_reducible rfl)) (by ((try simp only [ev_tmp, ev_const, ev_func, get_put, get_args, get_putL, get_putL_nil, Nat.reduceEqDiff, reduceIte, List.getD_cons_zero, List.getD_cons_succ, List.getD_nil]); first | done | with_reducible rfl)) ?_ ?_ (by first | exact True.intro | exact ⟨_, rfl, by ((try simp only [ev_tmp, ev_const, ev_func, get_put, get_args, get_putL, get_putL_nil, Nat.reduceEqDiff, reduceIte, List.getD_cons_zero, List.getD_cons_succ, List.getD_nil, Bool.not_true, Bool.not_false]); first | done | with_reducible rfl)⟩) fun w21 hc21 hs21 ho21 => ?_
        · exact hyi.sl.one
        · omega
        have hT21 : Lst 22 base (fun g => av g ∨ vq2.ownBlock = some g) w21 vb (usT.set d v11) (tabL (Tab.set t d y)) := by
          rw [tabL_set]
          refine hT16.set hvb (hy16.weak fun g hg => .inl ?_) hc21 ho21 (by omega)
          rcases hg with (hg | hg) | hg
          · exact .inl (hT0.bd g hg)
          · exact .inr hg
          · rw [hvb] at hg; injection hg with hg; exact .inl (by omega)
        have hQ21 := hQ16.chg hc21 rfl
        repeat (first | (show rops _ _ _ _ (_ :: _) _ _; first | refine ra (next := ?_) | refine rk (next := ?_) | refine rku (next := ?_)) | refine st_end ?_ | refine thn_normal ?_ | refine r_seq ?_ | refine r_region rfl ?_ | refine thn_exit ?_ | refine thn_ret ?_ | refine inBlk_normal ?_ | refine inBlk_ret ?_ | refine inBlk_hit ?_ | refine inBlk_miss (by decide) ?_ | refine forQ_exit ?_ | refine forQ_ret ?_ | refine loopQ_exit ?_ | refine loopQ_ret ?_ | refine r_block ?_ | refine r_skip ?_ | refine r_exit ?_ | refine r_ret ?_ | (show rwp _ _ (.cond _ _ _) _ _ _; first | refine c_t (h := ?_) | refine c_f (h := ?_)))
        refine loopQ_normal ?_ ⟨vq2, usT.set d v11, usQ2, Tab.set t d y, zs ++ [r] ++ [Grp.pw y (p.o d).toNat] ++ commsL t y p.n, true, ?_, hch16.trans hc21, hT21, hQ21, ?_, ?_, fun _ => ⟨d, ?_, ?_⟩, fun h => (by cases h), fun f hf => ?_, rfl, ?_⟩
        · simp only [List.length_append, List.length_singleton, List.length_cons, List.length_nil]; omega
        · ((try simp only [Has, ev_tmp, ev_const, ev_func, get_put, get_args, get_putL, get_putL_nil, Nat.reduceEqDiff, reduceIte, List.getD_cons_zero, List.getD_cons_succ, List.getD_nil]); repeat' (first | exact True.intro | apply And.intro | with_reducible rfl | exact int_congr (by first | omega | rfl)))
        · intro f hf hfn
          by_cases ef : d = f
          · subst ef; unfold Tab.set at hfn; rw [if_pos rfl] at hfn; cases hfn
          · have : t f = none := by unfold Tab.set at hfn; rw [if_neg (fun e => ef e.symm)] at hfn; exact hfn
            have h8 := hnil f hf this
            rw [List.getD_eq_getElem?_getD, List.getElem?_set_ne ef, ← List.getD_eq_getElem?_getD]
            exact h8
        · refine hWk.fill hdn hL.stp (List.mem_cons_self) hL.tl hrd htd hyk hkk ?_ ?_ ?_ ?_ ?_
          · intro a ha
            rcases List.mem_cons.1 ha with ha | ha
            · exact .inl ha
            · exact .inr (by simp [ha])
          · intro a ha
            rcases List.mem_append.1 ha with ha | ha
            · rcases List.mem_append.1 ha with ha | ha
              · rcases List.mem_append.1 ha with ha | ha
                · exact .inl (List.mem_cons_of_mem _ ha)
                · exact .inr (.inl (List.mem_singleton.1 ha))
              · exact .inr (.inr (.inl (List.mem_singleton.1 ha)))
            · obtain ⟨k, z, _, h8, h9⟩ := commsL_mem.1 ha
              exact .inr (.inr (.inr ⟨k, z, h8, .inr h9⟩))
          · simp
          · simp
          · intro e z hz
            exact .inr (List.mem_append_right _ (commsL_mem.2 ⟨e, z, hWk.ok.lt e z hz, hz, rfl⟩))
        · exact hab d htd
        · unfold Tab.set; rw [if_pos rfl]; simp
        · refine hab f ?_
          unfold Tab.set at hf
          split at hf
          · cases hf
          · exact hf
        · simp only [List.length_append, List.length_singleton, List.length_cons, List.length_nil]; omega
  · have hz0 : zs = [] := by
      cases zs with
      | nil => rfl
      | cons a l => exfalso; apply h4; simp
    subst hz0
    repeat (first | (show rops _ _ _ _ (_ :: _) _ _; first | refine ra (next := ?_) | refine rk (next := ?_) | refine rku (next := ?_)) | refine st_end ?_ | refine thn_normal ?_ | refine r_seq ?_ | refine r_region rfl ?_ | refine thn_exit ?_ | refine thn_ret ?_ | refine inBlk_normal ?_ | refine inBlk_ret ?_ | refine inBlk_hit ?_ | refine inBlk_miss (by decide) ?_ | refine forQ_exit ?_ | refine forQ_ret ?_ | refine loopQ_exit ?_ | refine loopQ_ret ?_ | refine r_block ?_ | refine r_skip ?_ | refine r_exit ?_ | refine r_ret ?_ | (show rwp _ _ (.cond _ _ _) _ _ _; first | refine c_t (h := ?_) | refine c_f (h := ?_)))
    have hWk' : Wk (fun a => S a ∨ a ∈ ys) t (fun _ => False) := hWk.congr (fun a => by simp)
    refine ret1 ⟨bg, t, rfl, hch4, ⟨hcs0, hcs1, hbsn, hvb, usT, hT.weak (fun g hg => .inl (.inl hg)) (fun g hg h => hT.free g hg (.inl h)) (fun g hg => hT.bd g (.inl hg)), hnil⟩, hWk', ?_⟩
    cases bg with
    | true =>
      obtain ⟨d, h5, h6⟩ := hbt rfl
      exact ⟨fun _ => hw0.grown hWk' h5 h6, fun _ => rfl⟩
    | false =>
      have := hbf rfl
      subst this
      have hs := hw0.same hWk'
      refine ⟨fun h => (by cases h), ?_⟩
      rintro ⟨a, ha, hna⟩
      exact absurd (hs a ha) hna
end Go.Proofs.Ytjcmdmjlhngjcaa

/-
  Walk: the program's representative of a coset (representative).
  Conditions: the tails at all levels are groups; the list has leading exponents 1 at ascending depths.
-/
namespace Go.Proofs.Ytjcmdmjlhngjcaa
open Go Go.Pc
/-- Elements with the leading exponent 1, their depths ascending. -/
structure SeqOk {p : Pr} (ys : List (El p)) : Prop where
  lead1 : ∀ y, y ∈ ys → lead y.v < p.n ∧ co y (lead y.v) = 1
  asc : ys.Pairwise fun a b => lead a.v < lead b.v
/-- What a representative is: it differs by a product of the list's elements, and is zero at their depths. -/
structure RepOf {p : Pr} [ConAll p] (ys : List (El p)) (x r : El p) : Prop where
  mem : ∀ H : El p → Prop, Pc.Sub H → (∀ y, y ∈ ys → H y) → H (x⁻¹ * r)
  zero : ∀ y, y ∈ ys → co r (lead y.v) = 0
  low : ∀ t, (∀ y, y ∈ ys → t < lead y.v) → co r t = co x t
theorem vecs_getD {p : Pr} (ys : List (El p)) {i : Nat} (h : i < ys.length) : (vecs ys).getD i [] = (ys[i]).v := by simp [vecs, h]
set_option maxHeartbeats 2000000 in
theorem representative_ok {p : Pr} [hcon : ConAll p] {ys : List (El p)} (hs : SeqOk ys) {w : World} {vp vu vx : Value} {us : List Value} {x : El p} {xs : List Int} {xss : List (List Int)} {lo hi lo1 hi1 lo2 hi2 : Nat} [hp : PresP lo hi w vp p] [hu : Pc.Rows lo1 hi1 w vu us xss] [hx : Ints lo2 hi2 w vx xs] (hus : xss = vecs ys) (hxs : xs = x.v) (hl : ys.length ≤ 100000) :
    Calls Try.prog 66 #[vp, vu, vx] w (Ret fun v w' => Ext w w' ∧ ∃ r : El p, Fr w.heap.size w' v r.v ∧ RepOf ys x r) := by
  subst hus hxs
  have hv := hcon.valid
  have hn6 := hv.n6
  have hxl := x.inr.len
  replace hp := hp.wide
  replace hu := hu.wide
  have hvl : (vecs ys).length = ys.length := by simp
  refine enter (args := [vp, vu, vx]) (l := [.tmp 6]) Try.func66 rfl rfl Try.ntmps66 (by simp) ?_
  repeat (first | (show rops _ _ _ _ (_ :: _) _ _; first | refine ra (next := ?_) | refine rk (next := ?_) | refine rku (next := ?_)) | refine st_end ?_ | refine thn_normal ?_ | refine r_seq ?_ | refine r_region rfl ?_ | refine thn_exit ?_ | refine thn_ret ?_ | refine inBlk_normal ?_ | refine inBlk_ret ?_ | refine inBlk_hit ?_ | refine inBlk_miss (by decide) ?_ | refine forQ_exit ?_ | refine forQ_ret ?_ | refine loopQ_exit ?_ | refine loopQ_ret ?_ | refine r_block ?_ | refine r_skip ?_ | refine r_exit ?_ | refine r_ret ?_ | (show rwp _ _ (.cond _ _ _) _ _ _; first | refine c_t (h := ?_) | refine c_f (h := ?_)))
  refine rc (cloneI_ok (xs := x.v) ?_) (next := fun v1 w1 h4 => ?_)
  · omega
  obtain ⟨he1, hf1⟩ := h4
  repeat (first | (show rops _ _ _ _ (_ :: _) _ _; first | refine ra (next := ?_) | refine rk (next := ?_) | refine rku (next := ?_)) | refine st_end ?_ | refine thn_normal ?_ | refine r_seq ?_ | refine r_region rfl ?_ | refine thn_exit ?_ | refine thn_ret ?_ | refine inBlk_normal ?_ | refine inBlk_ret ?_ | refine inBlk_hit ?_ | refine inBlk_miss (by decide) ?_ | refine forQ_exit ?_ | refine forQ_ret ?_ | refine loopQ_exit ?_ | refine loopQ_ret ?_ | refine r_block ?_ | refine r_skip ?_ | refine r_exit ?_ | refine r_ret ?_ | (show rwp _ _ (.cond _ _ _) _ _ _; first | refine c_t (h := ?_) | refine c_f (h := ?_)))
  refine rc (pivots_ok (xss := vecs ys) ?_ ?_) (next := fun v2 w2 h5 => ?_)
  · omega
  · intro i hi
    rw [vecs_getD ys (by omega), (ys[i]'(by omega)).inr.len]
    exact ⟨(hs.lead1 _ (List.getElem_mem _)).1, by omega⟩
  obtain ⟨he2, hf2⟩ := h5
  have hpi := hf2.ints
  have hpl : ((vecs ys).map fun x => (lead x : Int)).length = ys.length := by simp
  have hpg : ∀ i (h : i < ys.length), ((vecs ys).map fun x => (lead x : Int)).getD i 0 = (lead (ys[i]).v : Int) := fun i h => by simp [vecs, h]
  by_cases hn : p.n = 0
  · have hy0 : ys = [] := by
      cases ys with
      | nil => rfl
      | cons y l => have := (hs.lead1 y (List.mem_cons_self)).1; omega
    subst hy0
    repeat (first | (show rops _ _ _ _ (_ :: _) _ _; first | refine ra (next := ?_) | refine rk (next := ?_) | refine rku (next := ?_)) | refine st_end ?_ | refine thn_normal ?_ | refine r_seq ?_ | refine r_region rfl ?_ | refine thn_exit ?_ | refine thn_ret ?_ | refine inBlk_normal ?_ | refine inBlk_ret ?_ | refine inBlk_hit ?_ | refine inBlk_miss (by decide) ?_ | refine forQ_exit ?_ | refine forQ_ret ?_ | refine loopQ_exit ?_ | refine loopQ_ret ?_ | refine r_block ?_ | refine r_skip ?_ | refine r_exit ?_ | refine r_ret ?_ | (show rwp _ _ (.cond _ _ _) _ _ _; first | refine c_t (h := ?_) | refine c_f (h := ?_)))
    refine r_for 0 (fun k ρ w' => Has ρ [(7, v1), (14, .int .i64 ((vecs ([] : List (El p))).map fun x => (lead x : Int)).length), (15, .int .i64 k)] ∧ Ext w2 w') ?_ ?_
    · refine ⟨?_, Ext.refl _⟩
      ((try simp only [Has, ev_tmp, ev_const, ev_func, get_put, get_args, get_putL, get_putL_nil, Nat.reduceEqDiff, reduceIte, List.getD_cons_zero, List.getD_cons_succ, List.getD_nil]); repeat' (first | exact True.intro | apply And.intro | with_reducible rfl | exact int_congr (by first | omega | rfl)))
    rintro k ρ w3 hk ⟨hH, he3⟩
    refine rwp_has hH fun ρ0 => ?_
    repeat (first | (show rops _ _ _ _ (_ :: _) _ _; first | refine ra (next := ?_) | refine rk (next := ?_) | refine rku (next := ?_)) | refine st_end ?_ | refine thn_normal ?_ | refine r_seq ?_ | refine r_region rfl ?_ | refine thn_exit ?_ | refine thn_ret ?_ | refine inBlk_normal ?_ | refine inBlk_ret ?_ | refine inBlk_hit ?_ | refine inBlk_miss (by decide) ?_ | refine forQ_exit ?_ | refine forQ_ret ?_ | refine loopQ_exit ?_ | refine loopQ_ret ?_ | refine r_block ?_ | refine r_skip ?_ | refine r_exit ?_ | refine r_ret ?_ | (show rwp _ _ (.cond _ _ _) _ _ _; first | refine c_t (h := ?_) | refine c_f (h := ?_)))
    refine c_if (fun h4 => ?_) (fun h4 => ?_)
    · simp at h4; omega
    repeat (first | (show rops _ _ _ _ (_ :: _) _ _; first | refine ra (next := ?_) | refine rk (next := ?_) | refine rku (next := ?_)) | refine st_end ?_ | refine thn_normal ?_ | refine r_seq ?_ | refine r_region rfl ?_ | refine thn_exit ?_ | refine thn_ret ?_ | refine inBlk_normal ?_ | refine inBlk_ret ?_ | refine inBlk_hit ?_ | refine inBlk_miss (by decide) ?_ | refine forQ_exit ?_ | refine forQ_ret ?_ | refine loopQ_exit ?_ | refine loopQ_ret ?_ | refine r_block ?_ | refine r_skip ?_ | refine r_exit ?_ | refine r_ret ?_ | (show rwp _ _ (.cond _ _ _) _ _ _; first | refine c_t (h := ?_) | refine c_f (h := ?_)))
    refine ret1 ⟨(he1.trans he2).trans he3, x, hf1.ext' (he2.trans he3), fun H hH _ => by rw [Grp.inv_mul]; exact hH.one, fun y hy => (by cases hy), fun t _ => rfl⟩
  obtain ⟨te, b1, hb1, ho1⟩ := hf1.own (by intro e; rw [e] at hxl; simp at hxl; omega)
  have hbl := ho1.lt
  have ho2 : OwnI te b1 w2 v1 x.v := inferInstance
  have ap1 : Apart 0 w.heap.size b1 := ⟨.inr hb1⟩
  have ap2 : Apart w1.heap.size w2.heap.size b1 := ⟨.inl hbl⟩
  have hE2 := he1.trans he2
  clear hf1 ho1 hf2
  repeat (first | (show rops _ _ _ _ (_ :: _) _ _; first | refine ra (next := ?_) | refine rk (next := ?_) | refine rku (next := ?_)) | refine st_end ?_ | refine thn_normal ?_ | refine r_seq ?_ | refine r_region rfl ?_ | refine thn_exit ?_ | refine thn_ret ?_ | refine inBlk_normal ?_ | refine inBlk_ret ?_ | refine inBlk_hit ?_ | refine inBlk_miss (by decide) ?_ | refine forQ_exit ?_ | refine forQ_ret ?_ | refine loopQ_exit ?_ | refine loopQ_ret ?_ | refine r_block ?_ | refine r_skip ?_ | refine r_exit ?_ | refine r_ret ?_ | (show rwp _ _ (.cond _ _ _) _ _ _; first | refine c_t (h := ?_) | refine c_f (h := ?_)))
  refine r_for ys.length (fun k ρ w' => ∃ (r : El p) (xs : List Int), Has ρ [(0, vp), (1, vu), (7, v1), (13, v2), (14, .int .i64 ((vecs ys).map fun x => (lead x : Int)).length), (15, .int .i64 k)] ∧ Chg b1 w2 w' ∧ OwnI te b1 w' v1 xs ∧ xs = r.v ∧
    (∀ H : El p → Prop, Pc.Sub H → (∀ y, y ∈ ys → H y) → H (x⁻¹ * r)) ∧ (∀ i (h : i < ys.length), i < k → co r (lead (ys[i]).v) = 0) ∧ (∀ t, (∀ y, y ∈ ys → t < lead y.v) → co r t = co x t)) ?_ ?_
  · refine ⟨x, _, ?_, Chg.refl _ _, ho2, rfl, fun H hH _ => by rw [Grp.inv_mul]; exact hH.one, fun i h hi => by omega, fun t _ => rfl⟩
    ((try simp only [Has, ev_tmp, ev_const, ev_func, get_put, get_args, get_putL, get_putL_nil, Nat.reduceEqDiff, reduceIte, List.getD_cons_zero, List.getD_cons_succ, List.getD_nil]); repeat' (first | exact True.intro | apply And.intro | with_reducible rfl | exact int_congr (by first | omega | rfl)))
  clear ho2
  rintro k ρ w3 hk ⟨r, xs3, hH, hch3, ho3, hxs3, hm, hz, hlow⟩
  refine rwp_has hH fun ρ0 => ?_
  repeat (first | (show rops _ _ _ _ (_ :: _) _ _; first | refine ra (next := ?_) | refine rk (next := ?_) | refine rku (next := ?_)) | refine st_end ?_ | refine thn_normal ?_ | refine r_seq ?_ | refine r_region rfl ?_ | refine thn_exit ?_ | refine thn_ret ?_ | refine inBlk_normal ?_ | refine inBlk_ret ?_ | refine inBlk_hit ?_ | refine inBlk_miss (by decide) ?_ | refine forQ_exit ?_ | refine forQ_ret ?_ | refine loopQ_exit ?_ | refine loopQ_ret ?_ | refine r_block ?_ | refine r_skip ?_ | refine r_exit ?_ | refine r_ret ?_ | (show rwp _ _ (.cond _ _ _) _ _ _; first | refine c_t (h := ?_) | refine c_f (h := ?_)))
  refine c_if (fun h4 => ?_) (fun h4 => ?_)
  · have hkn : k < ys.length := by omega
    have hpk := hpg k hkn
    obtain ⟨d, hd⟩ : ∃ d, lead (ys[k]).v = d := ⟨_, rfl⟩
    obtain ⟨hdn, hy1⟩ := hs.lead1 _ (List.getElem_mem hkn)
    rw [hd] at hpk hdn hy1
    have hyt : Tl d (ys[k]) := by rw [← hd]; exact lead_tl _
    have hod := hv.opos hdn
    have hasc : ∀ i (h : i < ys.length), i < k → lead (ys[i]).v < d := fun i h hi => by
      rw [← hd]; exact List.pairwise_iff_getElem.1 hs.asc i k h hkn hi
    repeat (first | (show rops _ _ _ _ (_ :: _) _ _; first | refine ra (next := ?_) | refine rk (next := ?_) | refine rku (next := ?_)) | refine st_end ?_ | refine thn_normal ?_ | refine r_seq ?_ | refine r_region rfl ?_ | refine thn_exit ?_ | refine thn_ret ?_ | refine inBlk_normal ?_ | refine inBlk_ret ?_ | refine inBlk_hit ?_ | refine inBlk_miss (by decide) ?_ | refine forQ_exit ?_ | refine forQ_ret ?_ | refine loopQ_exit ?_ | refine loopQ_ret ?_ | refine r_block ?_ | refine r_skip ?_ | refine r_exit ?_ | refine r_ret ?_ | (show rwp _ _ (.cond _ _ _) _ _ _; first | refine c_t (h := ?_) | refine c_f (h := ?_)))
    rw [hpk]
    refine r_loop (fun m ρ w' => ∃ (r : El p) (xs : List Int), Has ρ [(0, vp), (1, vu), (7, v1), (8, .int .i64 k), (9, .int .i64 d), (13, v2), (14, .int .i64 ((vecs ys).map fun x => (lead x : Int)).length), (15, .int .i64 k)] ∧ Chg b1 w2 w' ∧ OwnI te b1 w' v1 xs ∧ xs = r.v ∧
      (∀ H : El p → Prop, Pc.Sub H → (∀ y, y ∈ ys → H y) → H (x⁻¹ * r)) ∧ (∀ i (h : i < ys.length), i < k → co r (lead (ys[i]).v) = 0) ∧ (∀ t, (∀ y, y ∈ ys → t < lead y.v) → co r t = co x t) ∧ m = if co r d = 0 then 0 else (p.o d - co r d).toNat) (if co r d = 0 then 0 else (p.o d - co r d).toNat) ?_ ?_
    · refine ⟨r, xs3, ?_, hch3, ho3, hxs3, hm, hz, hlow, rfl⟩
      ((try simp only [Has, ev_tmp, ev_const, ev_func, get_put, get_args, get_putL, get_putL_nil, Nat.reduceEqDiff, reduceIte, List.getD_cons_zero, List.getD_cons_succ, List.getD_nil]); repeat' (first | exact True.intro | apply And.intro | with_reducible rfl | exact int_congr (by first | omega | rfl)))
    clear ho3 hm hz hlow hch3
    rintro m ρ w4 ⟨r, xs4, hH4, hch4, ho4, hxs4, hm, hz, hlow, hme⟩
    refine rwp_has hH4 fun ρ1 => ?_
    have hrl : xs4.length = p.n := by rw [hxs4]; exact r.inr.len
    have hrr := co_rng r hdn
    have hco : xs4.getD d 0 = co r d := by rw [hxs4]; rfl
    repeat (first | (show rops _ _ _ _ (_ :: _) _ _; first | refine ra (next := ?_) | refine rk (next := ?_) | refine rku (next := ?_)) | refine st_end ?_ | refine thn_normal ?_ | refine r_seq ?_ | refine r_region rfl ?_ | refine thn_exit ?_ | refine thn_ret ?_ | refine inBlk_normal ?_ | refine inBlk_ret ?_ | refine inBlk_hit ?_ | refine inBlk_miss (by decide) ?_ | refine forQ_exit ?_ | refine forQ_ret ?_ | refine loopQ_exit ?_ | refine loopQ_ret ?_ | refine r_block ?_ | refine r_skip ?_ | refine r_exit ?_ | refine r_ret ?_ | (show rwp _ _ (.cond _ _ _) _ _ _; first | refine c_t (h := ?_) | refine c_f (h := ?_)))
    refine c_if (fun h5 => ?_) (fun h5 => ?_)
    · have h5' : co r d ≠ 0 := by rw [← hco]; exact h5
      rw [if_neg h5'] at hme
      repeat (first | (show rops _ _ _ _ (_ :: _) _ _; first | refine ra (next := ?_) | refine rk (next := ?_) | refine rku (next := ?_)) | refine st_end ?_ | refine thn_normal ?_ | refine r_seq ?_ | refine r_region rfl ?_ | refine thn_exit ?_ | refine thn_ret ?_ | refine inBlk_normal ?_ | refine inBlk_ret ?_ | refine inBlk_hit ?_ | refine inBlk_miss (by decide) ?_ | refine forQ_exit ?_ | refine forQ_ret ?_ | refine loopQ_exit ?_ | refine loopQ_ret ?_ | refine r_block ?_ | refine r_skip ?_ | refine r_exit ?_ | refine r_ret ?_ | (show rwp _ _ (.cond _ _ _) _ _ _; first | refine c_t (h := ?_) | refine c_f (h := ?_)))
      refine rc (timesVector_ok (p := p) 0 (x := r) (y := ys[k]) (Nat.zero_le _) hxs4 (vecs_getD ys hkn) (fun k hk => absurd hk (Nat.not_lt_zero _))) (next := fun v5 w5 h6 => ?_)
      obtain ⟨hch5, ho5⟩ := h6
      have hlo : ∀ t, t < d → co (r * ys[k]) t = co r t := fun t ht => co_low r hdn hyt ht
      have hat : co (r * ys[k]) d = (co r d + 1) % p.o d := by rw [co_at r hdn hyt, hy1]
      repeat (first | (show rops _ _ _ _ (_ :: _) _ _; first | refine ra (next := ?_) | refine rk (next := ?_) | refine rku (next := ?_)) | refine st_end ?_ | refine thn_normal ?_ | refine r_seq ?_ | refine r_region rfl ?_ | refine thn_exit ?_ | refine thn_ret ?_ | refine inBlk_normal ?_ | refine inBlk_ret ?_ | refine inBlk_hit ?_ | refine inBlk_miss (by decide) ?_ | refine forQ_exit ?_ | refine forQ_ret ?_ | refine loopQ_exit ?_ | refine loopQ_ret ?_ | refine r_block ?_ | refine r_skip ?_ | refine r_exit ?_ | refine r_ret ?_ | (show rwp _ _ (.cond _ _ _) _ _ _; first | refine c_t (h := ?_) | refine c_f (h := ?_)))
      refine loopQ_normal ?_ ⟨r * ys[k], _, ?_, hch4.trans hch5, ho5, rfl, fun H hH hy => ?_, fun i h hi => ?_, fun t ht => ?_, rfl⟩
      · rw [hat, hme]
        by_cases h8 : co r d + 1 = p.o d
        · rw [if_pos (by rw [h8, Int.emod_self])]; omega
        · rw [Int.emod_eq_of_lt (by omega) (by omega), if_neg (by omega)]; omega
      · ((try simp only [Has, ev_tmp, ev_const, ev_func, get_put, get_args, get_putL, get_putL_nil, Nat.reduceEqDiff, reduceIte, List.getD_cons_zero, List.getD_cons_succ, List.getD_nil]); repeat' (first | exact True.intro | apply And.intro | with_reducible rfl | exact int_congr (by first | omega | rfl)))
      · rw [← Grp.mul_assoc]
        exact hH.mul _ _ (hm H hH hy) (hy _ (List.getElem_mem hkn))
      · rw [hlo _ (hasc i h hi)]; exact hz i h hi
      · have h9 := ht _ (List.getElem_mem hkn)
        rw [hd] at h9
        rw [hlo t h9]; exact hlow t ht
    · have h5' : co r d = 0 := by rw [← hco]; exact Decidable.not_not.1 h5
      repeat (first | (show rops _ _ _ _ (_ :: _) _ _; first | refine ra (next := ?_) | refine rk (next := ?_) | refine rku (next := ?_)) | refine st_end ?_ | refine thn_normal ?_ | refine r_seq ?_ | refine r_region rfl ?_ | refine thn_exit ?_ | refine thn_ret ?_ | refine inBlk_normal ?_ | refine inBlk_ret ?_ | refine inBlk_hit ?_ | refine inBlk_miss (by decide) ?_ | refine forQ_exit ?_ | refine forQ_ret ?_ | refine loopQ_exit ?_ | refine loopQ_ret ?_ | refine r_block ?_ | refine r_skip ?_ | refine r_exit ?_ | refine r_ret ?_ | (show rwp _ _ (.cond _ _ _) _ _ _; first | refine c_t (h := ?_) | refine c_f (h := ?_)))
      refine forQ_normal (by omega) ⟨r, xs4, ?_, hch4, ho4, hxs4, hm, fun i h hi => ?_, hlow⟩
      · ((try simp only [Has, ev_tmp, ev_const, ev_func, get_put, get_args, get_putL, get_putL_nil, Nat.reduceEqDiff, reduceIte, List.getD_cons_zero, List.getD_cons_succ, List.getD_nil]); repeat' (first | exact True.intro | apply And.intro | with_reducible rfl | exact int_congr (by first | omega | rfl)))
      · by_cases e : i = k
        · subst e; rw [hd]; exact h5'
        · exact hz i h (by omega)
  · repeat (first | (show rops _ _ _ _ (_ :: _) _ _; first | refine ra (next := ?_) | refine rk (next := ?_) | refine rku (next := ?_)) | refine st_end ?_ | refine thn_normal ?_ | refine r_seq ?_ | refine r_region rfl ?_ | refine thn_exit ?_ | refine thn_ret ?_ | refine inBlk_normal ?_ | refine inBlk_ret ?_ | refine inBlk_hit ?_ | refine inBlk_miss (by decide) ?_ | refine forQ_exit ?_ | refine forQ_ret ?_ | refine loopQ_exit ?_ | refine loopQ_ret ?_ | refine r_block ?_ | refine r_skip ?_ | refine r_exit ?_ | refine r_ret ?_ | (show rwp _ _ (.cond _ _ _) _ _ _; first | refine c_t (h := ?_) | refine c_f (h := ?_)))
    refine ret1 ⟨hch3.ext hE2 hb1, r, ?_, hm, fun y hy => ?_, hlow⟩
    · rw [← hxs3]; exact ho3.toFr hb1
    · obtain ⟨i, hi, rfl⟩ := List.getElem_of_mem hy
      exact hz i hi (by omega)
end Go.Proofs.Ytjcmdmjlhngjcaa
