/-
  Texts of one proof, put together by program: W08, W08b, W08c, W08d, W10, W10b, W10c, W12, I12, More, W01b, W01c, W12b, W12c, I12b, I12c, OwnR, OwnM, I12d, Seq2, W12d, Ans, Ans2, Clo, W13, Mem6, Grow, W01d, W13b, W13c, W16, Ans3, Ans4, Dig, Enum, Rel, Iso, Con, Ans5, Ser, Prj, Spq, Quo, Aut, Cls.
  Conditions: those told at each part.
-/
import Derived.Test.YtjljbfcdpdckeaaB2
set_option linter.unusedVariables false
set_option linter.unusedSimpArgs false
set_option linter.unusedSectionVars false
set_option linter.constructorNameAsVariable false
set_option linter.unnecessarySimpa false
set_option linter.deprecated false
/-
  Walks: the reference's product by descent (l08Image, l08At).
  Conditions: the presentation is valid, the vectors are exponent vectors with zeros ahead of the level.
-/
namespace Go.Proofs.Ytjljbfcdpdckeaa
open Go Go.Pc
def AtSpec (p : Pr) (i : Nat) : Prop := ∀ {w : World} {vp va vb : Value} {k : Int} {x y : List Int} {lo hi lo1 hi1 lo2 hi2 : Nat} [Pres lo hi w vp p] [Ints lo1 hi1 w va x] [Ints lo2 hi2 w vb y],
  k = i → InR p x → InR p y → ZU i x → ZU i y →
  Calls Try.prog 145 #[vp, .int .i64 k, va, vb] w (Ret fun v w' => Ext w w' ∧ Fr w.heap.size w' v (atv p i x y))
def ImgSpec (p : Pr) (i : Nat) : Prop := ∀ {w : World} {vp va : Value} {k : Int} {x : List Int} {lo hi lo1 hi1 : Nat} [Pres lo hi w vp p] [Ints lo1 hi1 w va x],
  k = i → InR p x →
  Calls Try.prog 160 #[vp, .int .i64 k, va] w (Ret fun v w' => Ext w w' ∧ Fr w.heap.size w' v (img p i x))
set_option maxHeartbeats 1000000 in
theorem img_of_at {p : Pr} (hv : Valid p) {i : Nat} (hi : i < p.n) (hat : AtSpec p (i + 1)) : ImgSpec p i := by
  intro w vp va k0 x lo hi' lo1 hi1 hp hx hk0 hxr
  subst hk0
  have hn6 := hv.n6
  have hol : p.ord.length = p.n := rfl
  have hcl : p.cnj.length = p.n := hv.lenc
  have hci := hv.lenci i hi
  obtain ⟨vo, vpw, vc, ps, cs, css, rfl, h1, h2, h3⟩ := hp.ex
  refine enter (args := [.agg #[vo, vpw, vc], .int .i64 i, va]) (l := [.tmp 6]) Try.func160 rfl rfl Try.ntmps160 (by simp) ?_
  refine go ?_
  refine st_box3 (by ((try simp only [ev_tmp, ev_const, ev_func, get_put, get_args, get_putL, get_putL_nil, Nat.reduceEqDiff, reduceIte, List.getD_cons_zero, List.getD_cons_succ, List.getD_nil]); first | done | with_reducible rfl)) (by first | exact True.intro | exact ⟨_, rfl, by ((try simp only [ev_tmp, ev_const, ev_func, get_put, get_args, get_putL, get_putL_nil, Nat.reduceEqDiff, reduceIte, List.getD_cons_zero, List.getD_cons_succ, List.getD_nil, Bool.not_true, Bool.not_false]); first | done | with_reducible rfl)⟩) fun w1 b he1 hb1 hs1 hc0 hc1 hc2 => ?_
  refine go ?_
  refine st_make_int (by ((try simp only [ev_tmp, ev_const, ev_func, get_put, get_args, get_putL, get_putL_nil, Nat.reduceEqDiff, reduceIte, List.getD_cons_zero, List.getD_cons_succ, List.getD_nil]); first | done | with_reducible rfl)) (by ((try simp only [ev_tmp, ev_const, ev_func, get_put, get_args, get_putL, get_putL_nil, Nat.reduceEqDiff, reduceIte, List.getD_cons_zero, List.getD_cons_succ, List.getD_nil]); first | done | with_reducible rfl)) (by omega) (by omega) (by first | exact True.intro | exact ⟨_, rfl, by ((try simp only [ev_tmp, ev_const, ev_func, get_put, get_args, get_putL, get_putL_nil, Nat.reduceEqDiff, reduceIte, List.getD_cons_zero, List.getD_cons_succ, List.getD_nil, Bool.not_true, Bool.not_false]); first | done | with_reducible rfl)⟩) fun w2 v2 he2 hs2 ho2 => ?_
  have hz : Fr w.heap.size w2 v2 (zeros p.n) := ho2.toFr (by omega)
  refine go ?_
  refine r_for (p.n - (i + 1)) (fun k ρ w' => ∃ vo', Has ρ [(1, .int .i64 i), (2, va), (3, .pointer (some ⟨b, 0, none⟩)), (7, .int .i64 p.n), (8, vo'), (9, .int .i64 (i + 1 + k : Nat))] ∧ Ext w1 w' ∧ Fr w.heap.size w' vo' (imgTo p i x k)) ?_ ?_
  · refine ⟨v2, ?_, he2, hz⟩
    exact hasP
  · rintro k ρ w3 hk ⟨vo', hH, he3, hf3⟩
    refine rwp_has hH fun ρ0 => ?_
    refine go ?_
    refine c_if (fun h4 => ?_) (fun h4 => ?_)
    · refine go ?_
      have hxj := hxr.rng (i + 1 + k) (by omega)
      have hoj := hv.opos (i := i + 1 + k) (by omega)
      have hxl := hxr.len
      refine r_for (x.getD (i + 1 + k) 0).toNat (fun q ρ w' => ∃ vo', Has ρ [(1, .int .i64 i), (2, va), (3, .pointer (some ⟨b, 0, none⟩)), (7, .int .i64 p.n), (8, vo'), (9, .int .i64 (i + 1 + k : Nat)), (10, .int .i64 q)] ∧ Ext w1 w' ∧
        Fr w.heap.size w' vo' (rep q (fun o => atv p (i + 1) o (p.c i (i + 1 + k))) (imgTo p i x k))) ?_ ?_
      · refine ⟨vo', ?_, he3, hf3⟩
        exact hasP
      · rintro q ρ w4 hq ⟨vo2, hH2, he4, hf4⟩
        refine rwp_has hH2 fun ρ1 => ?_
        refine go ?_
        refine c_if (fun h5 => ?_) (fun h5 => ?_)
        · refine go ?_
          refine d_region fun w5 he5 _ => ?_
          refine dgo ?_
          have hin := rep_inv (fun v => InR p v ∧ ZU (i + 1) v) (f := fun o => atv p (i + 1) o (p.c i (i + 1 + k))) (fun o ho => atv_in hv _ _ rfl _ _ ho.1 (hv.c_in _ _ (by omega) (by omega)) ho.2 (hv.c_zu _ _ (by omega) (by omega))) (imgTo_in hv (atv_in hv _ (i + 1) rfl) x k hk) q
          have hcin : InR p (p.c i (i + 1 + k)) := hv.c_in _ _ (by omega) (by omega)
          have hczu : ZU (i + 1) (p.c i (i + 1 + k)) := hv.c_zu _ _ (by omega) (by omega)
          refine dc (hat ?_ hin.1 hcin hin.2 hczu) (next := fun v6 w6 ⟨he6, hf6⟩ => ⟨fun h => h.trans he6, ?_⟩)
          · omega
          refine dgo ?_
          refine d_end (h := ?_)
          refine go ?_
          refine forQ_normal (by omega) ⟨v6, ?_, (he4.trans he5).trans he6, hf6.mono ?_⟩
          · exact hasP
          · have := he4.size; have := he5.size; omega
        · refine go ?_
          refine forQ_normal (by omega) ⟨vo2, ?_, he4, ?_⟩
          · exact hasP
          · rw [imgTo_succ]
            have : q = (x.getD (i + 1 + k) 0).toNat := by omega
            rw [← this]; exact hf4
    · refine go ?_
      have : k = p.n - (i + 1) := by omega
      subst this
      exact ret1 ⟨he1.trans he3, hf3⟩
set_option maxHeartbeats 2000000 in
theorem at_of_img {p : Pr} (hv : Valid p) {i : Nat} (himg : i < p.n → ImgSpec p i) (hat : i < p.n → AtSpec p (i + 1)) : AtSpec p i := by
  intro w vp va vb k0 x y lo hi lo1 hi1 lo2 hi2 hp hx hy hk0 hxr hyr zx zy
  subst hk0
  have hn6 := hv.n6
  have hol : p.ord.length = p.n := rfl
  have hwl : p.pow.length = p.n := hv.lenw
  replace hp := hp.wide
  replace hx := hx.wide
  replace hy := hy.wide
  obtain ⟨vo, vpw, vc, ps, cs, css, rfl, h1, h2, h3⟩ := hp.ex
  refine enter (args := [.agg #[vo, vpw, vc], .int .i64 i, va, vb]) (l := [.tmp 8]) Try.func145 rfl rfl Try.ntmps145 (by simp) ?_
  refine go ?_
  refine st_box3 (by ((try simp only [ev_tmp, ev_const, ev_func, get_put, get_args, get_putL, get_putL_nil, Nat.reduceEqDiff, reduceIte, List.getD_cons_zero, List.getD_cons_succ, List.getD_nil]); first | done | with_reducible rfl)) (by first | exact True.intro | exact ⟨_, rfl, by ((try simp only [ev_tmp, ev_const, ev_func, get_put, get_args, get_putL, get_putL_nil, Nat.reduceEqDiff, reduceIte, List.getD_cons_zero, List.getD_cons_succ, List.getD_nil, Bool.not_true, Bool.not_false]); first | done | with_reducible rfl)⟩) fun w1 b he1 hb1 hs1 hc0 hc1 hc2 => ?_
  refine go ?_
  refine c_if (fun h4 => ?_) (fun h4 => ?_)
  · refine go ?_
    refine st_make_int (by ((try simp only [ev_tmp, ev_const, ev_func, get_put, get_args, get_putL, get_putL_nil, Nat.reduceEqDiff, reduceIte, List.getD_cons_zero, List.getD_cons_succ, List.getD_nil]); first | done | with_reducible rfl)) (by ((try simp only [ev_tmp, ev_const, ev_func, get_put, get_args, get_putL, get_putL_nil, Nat.reduceEqDiff, reduceIte, List.getD_cons_zero, List.getD_cons_succ, List.getD_nil]); first | done | with_reducible rfl)) (by omega) (by omega) (by first | exact True.intro | exact ⟨_, rfl, by ((try simp only [ev_tmp, ev_const, ev_func, get_put, get_args, get_putL, get_putL_nil, Nat.reduceEqDiff, reduceIte, List.getD_cons_zero, List.getD_cons_succ, List.getD_nil, Bool.not_true, Bool.not_false]); first | done | with_reducible rfl)⟩) fun w2 v2 he2 hs2 ho2 => ?_
    refine go ?_
    refine ret1 ⟨he1.trans he2, ?_⟩
    rw [atv_end _ _ _ _ (by omega)]
    exact ho2.toFr (by omega)
  · have hin : i < p.n := by omega
    have hxl := hxr.len
    have hyl := hyr.len
    have hxi := hxr.rng i hin
    have hyi := hyr.rng i hin
    have hoi := hv.opos hin
    refine go ?_
    refine rc (l01Own_ok (xs := x) (by omega)) (next := fun v2 w2 ⟨he2, hf2⟩ => ?_)
    refine go ?_
    refine rc (l01Own_ok (xs := y) (by omega)) (next := fun v3 w3 ⟨he3, hf3⟩ => ?_)
    refine go ?_
    obtain ⟨e2, b2, hb2, ho2⟩ := hf2.own (by intro e; rw [e] at hxl; simp at hxl; omega)
    obtain ⟨e3, b3, hb3, ho3⟩ := hf3.own (by intro e; rw [e] at hyl; simp at hyl; omega)
    have hl2 := ho2.lt
    have hl3 := ho3.lt
    have hz1 := he1.size
    have hz2 := he2.size
    have hz3 := he3.size
    have ap1 : Apart 0 w.heap.size b2 := ⟨.inr (by omega)⟩
    have ap2 : Apart 0 w.heap.size b3 := ⟨.inr (by omega)⟩
    have ap3 : Apart b (b + 1) b2 := ⟨.inr (by omega)⟩
    have ap4 : Apart b (b + 1) b3 := ⟨.inr (by omega)⟩
    have ho2' : OwnI e2 b2 w3 v2 x := OwnI.ext (h := ho2)
    clear hf2 hf3 ho2
    refine st_store_int (by ((try simp only [ev_tmp, ev_const, ev_func, get_put, get_args, get_putL, get_putL_nil, Nat.reduceEqDiff, reduceIte, List.getD_cons_zero, List.getD_cons_succ, List.getD_nil]); first | done | with_reducible rfl)) (by ((try simp only [ev_tmp, ev_const, ev_func, get_put, get_args, get_putL, get_putL_nil, Nat.reduceEqDiff, reduceIte, List.getD_cons_zero, List.getD_cons_succ, List.getD_nil]); first | done | with_reducible rfl)) ?_ (by first | exact True.intro | exact ⟨_, rfl, by ((try simp only [ev_tmp, ev_const, ev_func, get_put, get_args, get_putL, get_putL_nil, Nat.reduceEqDiff, reduceIte, List.getD_cons_zero, List.getD_cons_succ, List.getD_nil, Bool.not_true, Bool.not_false]); first | done | with_reducible rfl)⟩) fun w4 hc4 hs4 ho4 => ?_
    · omega
    have ho3' := ho3.chg' hc4 (by omega)
    refine go ?_
    refine st_store_int (by ((try simp only [ev_tmp, ev_const, ev_func, get_put, get_args, get_putL, get_putL_nil, Nat.reduceEqDiff, reduceIte, List.getD_cons_zero, List.getD_cons_succ, List.getD_nil]); first | done | with_reducible rfl)) (by ((try simp only [ev_tmp, ev_const, ev_func, get_put, get_args, get_putL, get_putL_nil, Nat.reduceEqDiff, reduceIte, List.getD_cons_zero, List.getD_cons_succ, List.getD_nil]); first | done | with_reducible rfl)) ?_ (by first | exact True.intro | exact ⟨_, rfl, by ((try simp only [ev_tmp, ev_const, ev_func, get_put, get_args, get_putL, get_putL_nil, Nat.reduceEqDiff, reduceIte, List.getD_cons_zero, List.getD_cons_succ, List.getD_nil, Bool.not_true, Bool.not_false]); first | done | with_reducible rfl)⟩) fun w5 hc5 hs5 ho5 => ?_
    · omega
    have ho4' := ho4.chg' hc5 (by omega)
    have hE5 : Ext w w5 := hc5.ext (hc4.ext ((he1.trans he2).trans he3) (by omega)) (by omega)
    clear ho2' ho3' ho3 ho4
    refine go ?_
    have hx0 : InR p (x.set i 0) ∧ ZU (i + 1) (x.set i 0) := ⟨hxr.set (by omega) (fun _ => by omega), zx.set0⟩
    have hy0 : InR p (y.set i 0) ∧ ZU (i + 1) (y.set i 0) := ⟨hyr.set (by omega) (fun _ => by omega), zy.set0⟩
    have hrin : ∀ q, InR p (rep q (img p i) (x.set i 0)) ∧ ZU (i + 1) (rep q (img p i) (x.set i 0)) := fun q => rep_inv (fun v => InR p v ∧ ZU (i + 1) v) (fun u _ => img_in hv i u) hx0 q
    refine r_for (y.getD i 0).toNat (fun q ρ w' => ∃ vl lo hi, Has ρ [(1, .int .i64 i), (2, va), (3, vb), (4, .pointer (some ⟨b, 0, none⟩)), (9, .int .i64 p.n), (10, vl), (11, v3), (12, .int .i64 q)] ∧ Ext w5 w' ∧ Ints lo hi w' vl (rep q (img p i) (x.set i 0))) ?_ ?_
    · refine ⟨v2, _, _, ?_, Ext.refl _, inferInstance⟩
      exact hasP
    · rintro q ρ w6 hq ⟨vl, lo', hi', hH, he6, hl6⟩
      refine rwp_has hH fun ρ0 => ?_
      refine go ?_
      refine c_if (fun h7 => ?_) (fun h7 => ?_)
      · refine go ?_
        refine rc (himg hin ?_ (hrin q).1) (next := fun v7 w7 ⟨he7, hf7⟩ => ?_)
        · omega
        refine go ?_
        refine forQ_normal (by omega) ⟨v7, _, _, ?_, he6.trans he7, inferInstance⟩
        exact hasP
      · have hqe : q = (y.getD i 0).toNat := by omega
        refine go ?_
        have hrr := hrin q
        refine rc (hat hin ?_ hrr.1 hy0.1 hrr.2 hy0.2) (next := fun v7 w7 ⟨he7, hf7⟩ => ?_)
        · omega
        refine go ?_
        refine d_region fun w8 he8 _ => ?_
        refine dgo ?_
        refine d_end (h := ?_)
        have hE8 := (he6.trans he7).trans he8
        have hz8 := hE8.size
        have hor : p.ord.getD i 0 = p.o i := rfl
        have hat7 := atv_in hv _ (i + 1) rfl _ _ hrr.1 hy0.1 hrr.2 hy0.2
        have hwi := hv.w_in i hin
        have hwz := hv.w_zu i hin
        have hveq := atv_eq p i x y hin
        rw [← hqe] at hveq
        have hlen7 := hat7.1.len
        clear hl6 ho5 ho4'
        refine go ?_
        refine c_if (fun h9 => ?_) (fun h9 => ?_)
        · have h9' : p.o i ≤ x.getD i 0 + y.getD i 0 := h9
          rw [if_pos h9'] at hveq
          refine go ?_
          refine d_region fun w9 he9 _ => ?_
          refine dgo ?_
          refine dc (hat hin (x := p.w i) (y := atv p (i + 1) (rep q (img p i) (x.set i 0)) (y.set i 0)) ?_ hwi hat7.1 hwz hat7.2) (next := fun v10 w10 ⟨he10, hf10⟩ => ⟨fun h => h.trans he10, ?_⟩)
          · omega
          refine dgo ?_
          refine d_end (h := ?_)
          have hat10 := atv_in hv _ (i + 1) rfl _ _ hwi hat7.1 hwz hat7.2
          have hlen10 := hat10.1.len
          refine go ?_
          refine rc (l01Own_ok (xs := atv p (i + 1) (p.w i) (atv p (i + 1) (rep q (img p i) (x.set i 0)) (y.set i 0))) (by omega)) (next := fun v11 w11 ⟨he11, hf11⟩ => ?_)
          refine go ?_
          obtain ⟨e11, b11, hb11, ho11⟩ := hf11.own (by intro e; rw [e] at hlen10; simp at hlen10; omega)
          clear hf11
          refine st_store_int (by ((try simp only [ev_tmp, ev_const, ev_func, get_put, get_args, get_putL, get_putL_nil, Nat.reduceEqDiff, reduceIte, List.getD_cons_zero, List.getD_cons_succ, List.getD_nil]); first | done | with_reducible rfl)) (by ((try simp only [ev_tmp, ev_const, ev_func, get_put, get_args, get_putL, get_putL_nil, Nat.reduceEqDiff, reduceIte, List.getD_cons_zero, List.getD_cons_succ, List.getD_nil]); first | done | with_reducible rfl)) ?_ (by first | exact True.intro | exact ⟨_, rfl, by ((try simp only [ev_tmp, ev_const, ev_func, get_put, get_args, get_putL, get_putL_nil, Nat.reduceEqDiff, reduceIte, List.getD_cons_zero, List.getD_cons_succ, List.getD_nil, Bool.not_true, Bool.not_false]); first | done | with_reducible rfl)⟩) fun w12 hc12 hs12 ho12 => ?_
          · omega
          refine go ?_
          have h9s := he9.size
          have h10s := he10.size
          refine ret1 ⟨hc12.ext ((((hE5.trans hE8).trans he9).trans he10).trans he11) (by omega), ?_⟩
          rw [hveq]
          exact ho12.toFr (by omega)
        · have h9' : ¬ p.o i ≤ x.getD i 0 + y.getD i 0 := h9
          rw [if_neg h9'] at hveq
          refine go ?_
          refine rc (l01Own_ok (xs := atv p (i + 1) (rep q (img p i) (x.set i 0)) (y.set i 0)) (by omega)) (next := fun v11 w11 ⟨he11, hf11⟩ => ?_)
          refine go ?_
          obtain ⟨e11, b11, hb11, ho11⟩ := hf11.own (by intro e; rw [e] at hlen7; simp at hlen7; omega)
          clear hf11
          refine st_store_int (by ((try simp only [ev_tmp, ev_const, ev_func, get_put, get_args, get_putL, get_putL_nil, Nat.reduceEqDiff, reduceIte, List.getD_cons_zero, List.getD_cons_succ, List.getD_nil]); first | done | with_reducible rfl)) (by ((try simp only [ev_tmp, ev_const, ev_func, get_put, get_args, get_putL, get_putL_nil, Nat.reduceEqDiff, reduceIte, List.getD_cons_zero, List.getD_cons_succ, List.getD_nil]); first | done | with_reducible rfl)) ?_ (by first | exact True.intro | exact ⟨_, rfl, by ((try simp only [ev_tmp, ev_const, ev_func, get_put, get_args, get_putL, get_putL_nil, Nat.reduceEqDiff, reduceIte, List.getD_cons_zero, List.getD_cons_succ, List.getD_nil, Bool.not_true, Bool.not_false]); first | done | with_reducible rfl)⟩) fun w12 hc12 hs12 ho12 => ?_
          · omega
          refine go ?_
          refine ret1 ⟨hc12.ext ((hE5.trans hE8).trans he11) (by omega), ?_⟩
          rw [hveq]
          exact ho12.toFr (by omega)
theorem at_ok {p : Pr} (hv : Valid p) : ∀ (m i : Nat), p.n - i = m → AtSpec p i
  | 0, i, hm => at_of_img hv (fun h => by omega) (fun h => by omega)
  | m + 1, i, hm => at_of_img hv (fun h => img_of_at hv h (at_ok hv m (i + 1) (by omega))) (fun _ => at_ok hv m (i + 1) (by omega))
theorem l08At_ok {p : Pr} (hv : Valid p) (i : Nat) : AtSpec p i := at_ok hv _ i rfl
theorem l08Image_ok {p : Pr} (hv : Valid p) {i : Nat} (hi : i < p.n) : ImgSpec p i := img_of_at hv hi (l08At_ok hv (i + 1))
end Go.Proofs.Ytjljbfcdpdckeaa

/-
  Walks: the reference's powers and the conditions of a level (l08Repeat, l08Level).
  Conditions: the presentation is valid and its tail behind the level is a group.
-/
namespace Go.Proofs.Ytjljbfcdpdckeaa
open Go Go.Pc
/-- Of whatever footprint. -/
def IntsE (w : World) (v : Value) (xs : List Int) : Prop := ∃ lo hi, Ints lo hi w v xs
theorem IntsE.of {lo hi : Nat} {w : World} {v : Value} {xs : List Int} [h : Ints lo hi w v xs] : IntsE w v xs := ⟨lo, hi, h⟩
theorem l08AtT_ok {p : Pr} {i : Nat} [hc : Con p i] {w : World} {vp va vb : Value} {k : Int} {x y : T p i} {lo hi lo1 hi1 lo2 hi2 : Nat} [hp : Pres lo hi w vp p] [hx : Ints lo1 hi1 w va x.v] [hy : Ints lo2 hi2 w vb y.v] (hk : k = i) :
    Calls Try.prog 145 #[vp, .int .i64 k, va, vb] w (Ret fun v w' => Ext w w' ∧ Fr w.heap.size w' v (x * y).v) :=
  l08At_ok hc.valid i hk x.inr y.inr x.zu y.zu
set_option maxHeartbeats 1000000 in
theorem l08Repeat_ok {p : Pr} {i : Nat} [hc : Con p i] {w : World} {vp vx : Value} {ki k : Int} {x : T p i} {xs : List Int} {lo hi lo1 hi1 : Nat} [hp : Pres lo hi w vp p] [hx : Ints lo1 hi1 w vx xs] (hxe : xs = x.v) (hki : ki = i) (hk0 : 0 ≤ k) (hk1 : k ≤ 9223372036854775807) :
    Calls Try.prog 152 #[vp, .int .i64 ki, vx, .int .i64 k] w (Ret fun v w' => Ext w w' ∧ Fr w.heap.size w' v (Grp.pw x k.toNat).v) := by
  subst hki hxe
  have hv := hc.valid
  have hn6 := hv.n6
  have hol : p.ord.length = p.n := rfl
  obtain ⟨vo, vpw, vc, ps, cs, css, rfl, h1, h2, h3⟩ := hp.ex
  refine enter (args := [.agg #[vo, vpw, vc], .int .i64 i, vx, .int .i64 k]) (l := [.tmp 8]) Try.func152 rfl rfl Try.ntmps152 (by simp) ?_
  refine go ?_
  refine st_box3 (by ((try simp only [ev_tmp, ev_const, ev_func, get_put, get_args, get_putL, get_putL_nil, Nat.reduceEqDiff, reduceIte, List.getD_cons_zero, List.getD_cons_succ, List.getD_nil]); first | done | with_reducible rfl)) (by first | exact True.intro | exact ⟨_, rfl, by ((try simp only [ev_tmp, ev_const, ev_func, get_put, get_args, get_putL, get_putL_nil, Nat.reduceEqDiff, reduceIte, List.getD_cons_zero, List.getD_cons_succ, List.getD_nil, Bool.not_true, Bool.not_false]); first | done | with_reducible rfl)⟩) fun w1 b he1 hb1 hs1 hc0 hc1 hc2 => ?_
  refine go ?_
  refine st_make_int (by ((try simp only [ev_tmp, ev_const, ev_func, get_put, get_args, get_putL, get_putL_nil, Nat.reduceEqDiff, reduceIte, List.getD_cons_zero, List.getD_cons_succ, List.getD_nil]); first | done | with_reducible rfl)) (by ((try simp only [ev_tmp, ev_const, ev_func, get_put, get_args, get_putL, get_putL_nil, Nat.reduceEqDiff, reduceIte, List.getD_cons_zero, List.getD_cons_succ, List.getD_nil]); first | done | with_reducible rfl)) (by omega) (by omega) (by first | exact True.intro | exact ⟨_, rfl, by ((try simp only [ev_tmp, ev_const, ev_func, get_put, get_args, get_putL, get_putL_nil, Nat.reduceEqDiff, reduceIte, List.getD_cons_zero, List.getD_cons_succ, List.getD_nil, Bool.not_true, Bool.not_false]); first | done | with_reducible rfl)⟩) fun w2 v2 he2 hs2 ho2 => ?_
  refine go ?_
  refine r_loop (fun m ρ w' => ∃ (vo' vb' : Value) (a c : Nat), Has ρ [(1, .int .i64 i), (3, .int .i64 m), (4, .pointer (some ⟨b, 0, none⟩)), (9, vo'), (10, vb')] ∧ Ext w1 w' ∧ (m : Int) ≤ k ∧ a + c * m = k.toNat ∧
    Fr w.heap.size w' vo' (Grp.pw x a).v ∧ IntsE w' vb' (Grp.pw x c).v) k.toNat ?_ ?_
  · refine ⟨v2, vx, 0, 1, ?_, he2, by omega, by omega, ho2.toFr (by omega), ?_⟩
    · exact hasP
    · rw [Grp.pw_one]; exact IntsE.of
  · rintro m ρ w3 ⟨vo', vb', a, c, hH, he3, hm, hac, hf3, lo2, hi2, hi3⟩
    refine rwp_has hH fun ρ0 => ?_
    refine go ?_
    refine c_if (fun h4 => ?_) (fun h4 => ?_)
    · have hz := he1.size
      have hz3 := he3.size
      have hdiv : m = 2 * (m / 2) + m % 2 := by omega
      have hcm : c * m = (c + c) * (m / 2) + c * (m % 2) := by
        conv => lhs; rw [hdiv]
        rw [Nat.mul_add, ← Nat.mul_assoc, Nat.mul_two]
      refine go ?_
      refine c_if (fun h5 => ?_) (fun h5 => ?_)
      · refine go ?_
        refine rc (l08AtT_ok (x := Grp.pw x a) (y := Grp.pw x c) ?_) (next := fun v4 w4 h6 => ?_)
        · rfl
        obtain ⟨he4, hf4⟩ := h6
        refine go ?_
        refine rc (l08AtT_ok (x := Grp.pw x c) (y := Grp.pw x c) ?_) (next := fun v5 w5 h6 => ?_)
        · rfl
        obtain ⟨he5, hf5⟩ := h6
        refine go ?_
        have hm2 : m % 2 = 1 := by omega
        rw [hm2, Nat.mul_one] at hcm
        refine loopQ_normal (m := m / 2) (by omega) ⟨v4, v5, a + c, c + c, ?_, (he3.trans he4).trans he5, by omega, by omega, ?_, ?_⟩
        rotate_left
        · rw [Grp.pw_add]; exact (hf4.mono (by omega)).ext' he5
        · rw [Grp.pw_add]; exact IntsE.of (h := hf5.ints)
        · exact hasP
      · refine go ?_
        refine rc (l08AtT_ok (x := Grp.pw x c) (y := Grp.pw x c) ?_) (next := fun v5 w5 h6 => ?_)
        · rfl
        obtain ⟨he5, hf5⟩ := h6
        refine go ?_
        have hm2 : m % 2 = 0 := by omega
        rw [hm2, Nat.mul_zero] at hcm
        refine loopQ_normal (m := m / 2) (by omega) ⟨vo', v5, a, c + c, ?_, he3.trans he5, by omega, by omega, hf3.ext' he5, ?_⟩
        rotate_left
        · rw [Grp.pw_add]; exact IntsE.of (h := hf5.ints)
        · exact hasP
    · refine go ?_
      have hm0 : m = 0 := by omega
      subst hm0
      refine ret1 ⟨he1.trans he3, ?_⟩
      have : a = k.toNat := by omega
      rw [← this]; exact hf3
end Go.Proofs.Ytjljbfcdpdckeaa

/-
  Walk: the reference's look at one level (l08Level).
  Conditions: the presentation is valid, the tail behind the level is a group.
-/
namespace Go.Proofs.Ytjljbfcdpdckeaa
open Go Go.Pc
@[reducible] def faultV (k l f s : Int) : Value := .agg #[.int .i64 k, .int .i64 l, .int .i64 f, .int .i64 s]
/-- The conditions of a level, one generator (or pair) at a time. -/
def LP (p : Pr) (i : Nat) [h : Con p (i + 1)] (j : Nat) : Prop := ∀ hj : i < j ∧ j < p.n, (Grp.pw (Tc h.valid hj) (p.o j).toNat).v = img p i (p.w j)
def LC (p : Pr) (i : Nat) (j k : Nat) : Prop := i < j → j < k → k < p.n → atv p (i + 1) (p.c i k) (p.c i j) = atv p (i + 1) (p.c i j) (img p i (p.c j k))
def LI (p : Pr) (i : Nat) (j : Nat) : Prop := i + 1 ≤ j → j < p.n → atv p (i + 1) (p.w i) (rep (p.o i).toNat (img p i) (unitv p j 1)) = atv p (i + 1) (unitv p j 1) (p.w i)
theorem rep_Timg {p : Pr} {i : Nat} (hv : Valid p) (q : Nat) (u : T p (i + 1)) : (rep q (Timg hv) u).v = rep q (img p i) u.v := by
  induction q with
  | zero => rfl
  | succ q ih => rw [rep_succ, rep_succ, ← ih]; rfl
theorem chk_iff {p : Pr} {i : Nat} [h : Con p (i + 1)] (hi : i < p.n) : Chk p i hi ↔ (∀ j, LP p i j) ∧ (∀ j k, LC p i j k) ∧ img p i (p.w i) = p.w i ∧ ∀ j, LI p i j := by
  constructor
  · intro hc
    refine ⟨fun j hj => congrArg T.v (hc.P j hj), fun j k hj hjk hk => ?_, congrArg T.v hc.F, fun j hj hjn => ?_⟩
    · have h2 := congrArg (Tc h.valid (i := i) (j := j) ⟨hj, by omega⟩ * ·) (hc.C j k ⟨hj, by omega⟩ ⟨by omega, hk⟩ hjk)
      simp only [Grp.mul_cj] at h2
      exact congrArg T.v h2
    · have := hc.I j ⟨hj, hjn⟩
      have h2 : Tw h.valid hi * rep (p.o i).toNat (Timg h.valid) (gen h.valid (i + 1) j ⟨hj, hjn⟩) = gen h.valid (i + 1) j ⟨hj, hjn⟩ * Tw h.valid hi := by rw [this, Grp.mul_cj]
      have h3 := congrArg T.v h2
      rw [T.mul_val, rep_Timg, T.mul_val] at h3
      exact h3
  · rintro ⟨h1, h2, h3, h4⟩
    refine ⟨fun j hj => T.ext (h1 j hj), fun j k hj hk hjk => ?_, T.ext h3, fun j hj => ?_⟩
    · apply Grp.mul_left_cancel (a := Tc h.valid hj)
      rw [Grp.mul_cj]
      exact T.ext (h2 j k hj.1 hjk hk.2)
    · apply Grp.mul_left_cancel (a := Tw h.valid hi)
      rw [Grp.mul_cj]
      apply T.ext
      rw [T.mul_val, rep_Timg, T.mul_val]
      exact h4 j hj.1 hj.2
set_option maxHeartbeats 4000000 in
theorem l08Level_ok {p : Pr} {i : Nat} [hc : Con p (i + 1)] (hi : i < p.n) {w : World} {vp : Value} {ki : Int} {lo hi' : Nat} [hp : Pres lo hi' w vp p] (hki : ki = i) :
    Calls Try.prog 139 #[vp, .int .i64 ki] w (Ret fun v w' => ∃ k l f s : Int, v = faultV k l f s ∧ (k = 0 ↔ Chk p i hi) ∧ (k ≠ 0 → l = i) ∧ (k = 0 → l = 0 ∧ f = 0 ∧ s = 0) ∧ Ext w w') := by
  subst hki
  have hv := hc.valid
  have hn6 := hv.n6
  have hol : p.ord.length = p.n := rfl
  have hwl : p.pow.length = p.n := hv.lenw
  have hcl : p.cnj.length = p.n := hv.lenc
  have hci : (p.cnj.getD i []).length = p.n - 1 - i := hv.lenci i hi
  have hoi := hv.opos hi
  have hoe : p.o i = p.ord.getD i 0 := rfl
  obtain ⟨vo, vpw, vc, ps, cs, css, rfl, h1, h2, h3⟩ := hp.ex
  refine enter (args := [.agg #[vo, vpw, vc], .int .i64 i]) (l := [.cell 4 46]) Try.func139 rfl rfl Try.ntmps139 (by simp) ?_
  refine go ?_
  refine st_box3 (by ((try simp only [ev_tmp, ev_const, ev_func, get_put, get_args, get_putL, get_putL_nil, Nat.reduceEqDiff, reduceIte, List.getD_cons_zero, List.getD_cons_succ, List.getD_nil]); first | done | with_reducible rfl)) (by first | exact True.intro | exact ⟨_, rfl, by ((try simp only [ev_tmp, ev_const, ev_func, get_put, get_args, get_putL, get_putL_nil, Nat.reduceEqDiff, reduceIte, List.getD_cons_zero, List.getD_cons_succ, List.getD_nil, Bool.not_true, Bool.not_false]); first | done | with_reducible rfl)⟩) fun w1 b he1 hb1 hs1 hc0 hc1 hc2 => ?_
  refine go ?_
  refine st_alloc (by first | exact True.intro | exact ⟨_, rfl, by ((try simp only [ev_tmp, ev_const, ev_func, get_put, get_args, get_putL, get_putL_nil, Nat.reduceEqDiff, reduceIte, List.getD_cons_zero, List.getD_cons_succ, List.getD_nil, Bool.not_true, Bool.not_false]); first | done | with_reducible rfl)⟩) fun w2 bf he2 hbf hs2 hbk => ?_
  have hE2 : Ext w w2 := he1.trans he2
  have bad : ∀ {w3 : World} {k f s : Int}, Ext w w3 → k ≠ 0 → ¬ Chk p i hi → ∃ k' l' f' s' : Int, faultV k i f s = faultV k' l' f' s' ∧ (k' = 0 ↔ Chk p i hi) ∧ (k' ≠ 0 → l' = i) ∧ (k' = 0 → l' = 0 ∧ f' = 0 ∧ s' = 0) ∧ Ext w w3 :=
    fun he hk hn => ⟨_, _, _, _, rfl, ⟨fun h => absurd h hk, fun h => absurd h hn⟩, fun _ => rfl, fun h => absurd h hk, he⟩
  refine go ?_
  refine r_for (p.n - (i + 1)) (fun k ρ w' => Has ρ [(1, .int .i64 i), (2, .pointer (some ⟨b, 0, none⟩)), (4, .pointer (some ⟨bf, 0, none⟩)), (5, .int .i64 p.n), (6, .int .i64 i), (7, .int .i64 (i + 1 + k : Nat))] ∧ Ext w2 w' ∧ ∀ j, j < i + 1 + k → LP p i j) ?_ ?_
  · refine ⟨?_, Ext.refl _, fun j hj hj' => by omega⟩
    exact hasP
  · rintro k ρ w3 hk ⟨hH, he3, hP⟩
    refine rwp_has hH fun ρ0 => ?_
    refine go ?_
    refine c_if (fun hj => ?_) (fun hj => ?_)
    · have hjn : i < i + 1 + k ∧ i + 1 + k < p.n := ⟨by omega, by omega⟩
      have hoj : 2 ≤ p.ord.getD (i + 1 + k) 0 ∧ p.ord.getD (i + 1 + k) 0 ≤ 7 := hv.opos hjn.2
      refine go ?_
      refine d_region fun w4 he4 _ => ?_
      refine dgo ?_
      refine dc (l08Repeat_ok (x := Tc hv hjn) rfl ?_ ?_ ?_) (next := fun v5 w5 h5 => ?_)
      · omega
      · omega
      · omega
      obtain ⟨he5, hf5⟩ := h5
      refine ⟨fun h => h.trans he5, ?_⟩
      refine dgo ?_
      refine d_end (h := ?_)
      refine go ?_
      refine d_region fun w6 he6 _ => ?_
      refine dgo ?_
      refine dc (l08Image_ok hv hi (x := p.w (i + 1 + k)) ?_ (hv.w_in _ hjn.2)) (next := fun v7 w7 h7 => ?_)
      · rfl
      obtain ⟨he7, hf7⟩ := h7
      refine ⟨fun h => h.trans he7, ?_⟩
      have hlen := (Grp.pw (Tc hv hjn) (p.o (i + 1 + k)).toNat).inr.len
      refine dc (l01Same_ok (xs := (Grp.pw (Tc hv hjn) (p.o (i + 1 + k)).toNat).v) (ys := img p i (p.w (i + 1 + k))) ?_) (next := fun v8 w8 h8 => ?_)
      · omega
      obtain ⟨b8, rfl, hb8, he8⟩ := h8
      refine ⟨fun h => h.trans he8, ?_⟩
      have hE8 : Ext w2 w8 := ((((he3.trans he4).trans he5).trans he6).trans he7).trans he8
      refine dgo ?_
      refine d_end (h := ?_)
      refine go ?_
      refine c_b (fun h9 => ?_) (fun h9 => ?_)
      · refine go ?_
        refine ra (v := faultV 1 i (i + 1 + k : Nat) 0) (h := rd_build (by simp only [ev_tmp, ev_const, ev_func, get_put, get_args, get_putL, get_putL_nil, Nat.reduceEqDiff, reduceIte, List.getD_cons_zero, List.getD_cons_succ, List.getD_nil, List.map_toArray, List.map_cons, List.map_nil]; rfl) (fun _ => by kernel_rfl)) (next := ?_)
        refine st_store_agg (vs := [.int .i64 1, .int .i64 i, .int .i64 (i + 1 + k : Nat), .int .i64 0]) (cs := _) (by ((try simp only [ev_tmp, ev_const, ev_func, get_put, get_args, get_putL, get_putL_nil, Nat.reduceEqDiff, reduceIte, List.getD_cons_zero, List.getD_cons_succ, List.getD_nil]); first | done | with_reducible rfl)) (by ((try simp only [ev_tmp, ev_const, ev_func, get_put, get_args, get_putL, get_putL_nil, Nat.reduceEqDiff, reduceIte, List.getD_cons_zero, List.getD_cons_succ, List.getD_nil]); first | done | with_reducible rfl)) rfl ?_ rfl (by first | exact True.intro | exact ⟨_, rfl, by ((try simp only [ev_tmp, ev_const, ev_func, get_put, get_args, get_putL, get_putL_nil, Nat.reduceEqDiff, reduceIte, List.getD_cons_zero, List.getD_cons_succ, List.getD_nil, Bool.not_true, Bool.not_false]); first | done | with_reducible rfl)⟩) fun w9 hc9 hs9 hb9 => ?_
        · rfl
        refine go ?_
        refine retc (bad (k := 1) (f := (i + 1 + k : Nat)) (s := 0) (hc9.ext (hE2.trans hE8) ?_) (by decide) fun h => ?_) rfl
        · have := hE2.size; have := he1.size; omega
        · have := hb8.2 (((chk_iff hi).1 h).1 _ hjn)
          rw [this] at h9; cases h9
      · have h10 := hb8.1 (by simpa using h9)
        refine go ?_
        refine forQ_normal (by omega) ⟨?_, hE8, fun j hj => ?_⟩
        · exact hasP
        · by_cases e : j = i + 1 + k
          · subst e; exact fun _ => h10
          · exact hP j (by omega)
    · refine go ?_
      have hP' : ∀ j, LP p i j := fun j => by
        by_cases e : j < i + 1 + k
        · exact hP j e
        · exact fun h => by omega
      have hE3 := hE2.trans he3
      clear hP hH hk
      refine r_for (p.n - (i + 1)) (fun k ρ w' => Has ρ [(1, .int .i64 i), (2, .pointer (some ⟨b, 0, none⟩)), (4, .pointer (some ⟨bf, 0, none⟩)), (5, .int .i64 p.n), (6, .int .i64 i), (9, .int .i64 (i + 1 + k : Nat))] ∧ Ext w2 w' ∧ ∀ j k', j < i + 1 + k → LC p i j k') ?_ ?_
      · refine ⟨?_, he3, fun j k' hj hj' => by omega⟩
        exact hasP
      rintro k ρ w4 hk ⟨hH, he4, hC⟩
      refine rwp_has hH fun ρ1 => ?_
      refine go ?_
      refine c_if (fun hj => ?_) (fun hj => ?_)
      · have hjn : i < i + 1 + k ∧ i + 1 + k < p.n := ⟨by omega, by omega⟩
        refine go ?_
        refine r_for (p.n - (i + 1 + k + 1)) (fun l ρ w' => Has ρ [(1, .int .i64 i), (2, .pointer (some ⟨b, 0, none⟩)), (4, .pointer (some ⟨bf, 0, none⟩)), (5, .int .i64 p.n), (6, .int .i64 i), (9, .int .i64 (i + 1 + k : Nat)), (10, .int .i64 (i + 1 + k + 1 + l : Nat))] ∧ Ext w2 w' ∧ ∀ k', k' < i + 1 + k + 1 + l → LC p i (i + 1 + k) k') ?_ ?_
        · refine ⟨?_, he4, fun k' hk' _ h' _ => by omega⟩
          exact hasP
        rintro l ρ w5 hl ⟨hH, he5, hC2⟩
        refine rwp_has hH fun ρ2 => ?_
        refine go ?_
        refine c_if (fun hkk => ?_) (fun hkk => ?_)
        · have hkn : i < i + 1 + k + 1 + l ∧ i + 1 + k + 1 + l < p.n := ⟨by omega, by omega⟩
          have hcj := hv.lenci (i + 1 + k) hjn.2
          refine go ?_
          refine d_region fun w6 he6 _ => ?_
          refine dgo ?_
          refine d_end (h := ?_)
          refine go ?_
          refine d_region fun w7 he7 _ => ?_
          refine dgo ?_
          refine dc (l08Image_ok hv hi (x := p.c (i + 1 + k) (i + 1 + k + 1 + l)) ?_ (hv.c_in _ _ (by omega) hkn.2)) (next := fun v8 w8 h8 => ?_)
          · rfl
          obtain ⟨he8, hf8⟩ := h8
          refine ⟨fun h => h.trans he8, ?_⟩
          refine dgo ?_
          refine d_end (h := ?_)
          refine go ?_
          refine d_order [0, 1, 2, 3, 4, 6, 7, 8, 9, 10, 5, 11, 12, 13] (h := fun w9 he9 _ => ?_)
          refine dgo ?_
          refine dc (l08At_ok hv (i + 1) (x := p.c i (i + 1 + k + 1 + l)) (y := p.c i (i + 1 + k)) ?_ (hv.c_in _ _ hkn.1 hkn.2) (hv.c_in _ _ hjn.1 hjn.2) (hv.c_zu _ _ hkn.1 hkn.2) (hv.c_zu _ _ hjn.1 hjn.2)) (next := fun v10 w10 h10 => ?_)
          · rfl
          obtain ⟨he10, hf10⟩ := h10
          refine ⟨fun h => h.trans he10, ?_⟩
          refine dgo ?_
          refine dc (l08At_ok hv (i + 1) (x := p.c i (i + 1 + k)) (y := img p i (p.c (i + 1 + k) (i + 1 + k + 1 + l))) ?_ (hv.c_in _ _ hjn.1 hjn.2) (img_in hv _ _).1 (hv.c_zu _ _ hjn.1 hjn.2) (img_in hv _ _).2) (next := fun v11 w11 h11 => ?_)
          · rfl
          obtain ⟨he11, hf11⟩ := h11
          refine ⟨fun h => h.trans he11, ?_⟩
          have hlen := (atv_in hv _ (i + 1) rfl _ _ (hv.c_in _ _ hkn.1 hkn.2) (hv.c_in _ _ hjn.1 hjn.2) (hv.c_zu _ _ hkn.1 hkn.2) (hv.c_zu _ _ hjn.1 hjn.2)).1.len
          refine dgo ?_
          refine dc (l01Same_ok (xs := atv p (i + 1) (p.c i (i + 1 + k + 1 + l)) (p.c i (i + 1 + k))) (ys := atv p (i + 1) (p.c i (i + 1 + k)) (img p i (p.c (i + 1 + k) (i + 1 + k + 1 + l)))) ?_) (next := fun v12 w12 h12 => ?_)
          · omega
          obtain ⟨b12, rfl, hb12, he12⟩ := h12
          refine ⟨fun h => h.trans he12, ?_⟩
          have hE12 : Ext w2 w12 := ((((((he5.trans he6).trans he7).trans he8).trans he9).trans he10).trans he11).trans he12
          refine dgo ?_
          refine d_end (h := ?_)
          refine go ?_
          refine c_b (fun h13 => ?_) (fun h13 => ?_)
          · refine go ?_
            refine ra (v := faultV 2 i (i + 1 + k : Nat) (i + 1 + k + 1 + l : Nat)) (h := rd_build (by simp only [ev_tmp, ev_const, ev_func, get_put, get_args, get_putL, get_putL_nil, Nat.reduceEqDiff, reduceIte, List.getD_cons_zero, List.getD_cons_succ, List.getD_nil, List.map_toArray, List.map_cons, List.map_nil]; rfl) (fun _ => by kernel_rfl)) (next := ?_)
            refine st_store_agg (vs := [.int .i64 2, .int .i64 i, .int .i64 (i + 1 + k : Nat), .int .i64 (i + 1 + k + 1 + l : Nat)]) (cs := _) (by ((try simp only [ev_tmp, ev_const, ev_func, get_put, get_args, get_putL, get_putL_nil, Nat.reduceEqDiff, reduceIte, List.getD_cons_zero, List.getD_cons_succ, List.getD_nil]); first | done | with_reducible rfl)) (by ((try simp only [ev_tmp, ev_const, ev_func, get_put, get_args, get_putL, get_putL_nil, Nat.reduceEqDiff, reduceIte, List.getD_cons_zero, List.getD_cons_succ, List.getD_nil]); first | done | with_reducible rfl)) rfl ?_ rfl (by first | exact True.intro | exact ⟨_, rfl, by ((try simp only [ev_tmp, ev_const, ev_func, get_put, get_args, get_putL, get_putL_nil, Nat.reduceEqDiff, reduceIte, List.getD_cons_zero, List.getD_cons_succ, List.getD_nil, Bool.not_true, Bool.not_false]); first | done | with_reducible rfl)⟩) fun w13 hc13 hs13 hb13 => ?_
            · rfl
            refine go ?_
            refine retc (bad (k := 2) (f := (i + 1 + k : Nat)) (s := (i + 1 + k + 1 + l : Nat)) (hc13.ext (hE2.trans hE12) ?_) (by decide) fun h => ?_) rfl
            · have := hE2.size; have := he1.size; omega
            · have := hb12.2 (((chk_iff hi).1 h).2.1 _ _ hjn.1 (by omega) hkn.2)
              rw [this] at h13; cases h13
          · have h14 := hb12.1 (by simpa using h13)
            refine go ?_
            refine forQ_normal (by omega) ⟨?_, hE12, fun k' hk' => ?_⟩
            · exact hasP
            · by_cases e : k' = i + 1 + k + 1 + l
              · subst e; exact fun _ _ _ => h14
              · exact hC2 k' (by omega)
        · refine go ?_
          refine forQ_normal (by omega) ⟨?_, he5, fun j k' hj' => ?_⟩
          · exact hasP
          · by_cases e : j = i + 1 + k
            · subst e
              exact fun h1 h2 h3 => hC2 k' (by omega) h1 h2 h3
            · exact hC j k' (by omega)
      · refine go ?_
        have hC' : ∀ j k', LC p i j k' := fun j k' h1 h2 h3 => hC j k' (by omega) h1 h2 h3
        clear hC hk
        refine rc (l08Image_ok hv hi (x := p.w i) ?_ (hv.w_in _ hi)) (next := fun v6 w6 h6 => ?_)
        · rfl
        obtain ⟨he6, hf6⟩ := h6
        have hlen := (img_in hv i (p.w i)).1.len
        refine go ?_
        refine rc (l01Same_ok (xs := img p i (p.w i)) (ys := p.w i) ?_) (next := fun v7 w7 h7 => ?_)
        · omega
        obtain ⟨b7, rfl, hb7, he7⟩ := h7
        have hE7 : Ext w2 w7 := (he4.trans he6).trans he7
        refine go ?_
        refine c_b (fun h8 => ?_) (fun h8 => ?_)
        · refine go ?_
          refine ra (v := faultV 3 i 0 0) (h := rd_build (by simp only [ev_tmp, ev_const, ev_func, get_put, get_args, get_putL, get_putL_nil, Nat.reduceEqDiff, reduceIte, List.getD_cons_zero, List.getD_cons_succ, List.getD_nil, List.map_toArray, List.map_cons, List.map_nil]; rfl) (fun _ => by kernel_rfl)) (next := ?_)
          refine st_store_agg (vs := [.int .i64 3, .int .i64 i, .int .i64 0, .int .i64 0]) (cs := _) (by ((try simp only [ev_tmp, ev_const, ev_func, get_put, get_args, get_putL, get_putL_nil, Nat.reduceEqDiff, reduceIte, List.getD_cons_zero, List.getD_cons_succ, List.getD_nil]); first | done | with_reducible rfl)) (by ((try simp only [ev_tmp, ev_const, ev_func, get_put, get_args, get_putL, get_putL_nil, Nat.reduceEqDiff, reduceIte, List.getD_cons_zero, List.getD_cons_succ, List.getD_nil]); first | done | with_reducible rfl)) rfl ?_ rfl (by first | exact True.intro | exact ⟨_, rfl, by ((try simp only [ev_tmp, ev_const, ev_func, get_put, get_args, get_putL, get_putL_nil, Nat.reduceEqDiff, reduceIte, List.getD_cons_zero, List.getD_cons_succ, List.getD_nil, Bool.not_true, Bool.not_false]); first | done | with_reducible rfl)⟩) fun w9 hc9 hs9 hb9 => ?_
          · rfl
          refine go ?_
          refine retc (bad (k := 3) (f := 0) (s := 0) (hc9.ext (hE2.trans hE7) ?_) (by decide) fun h => ?_) rfl
          · have := hE2.size; have := he1.size; omega
          · have := hb7.2 ((chk_iff hi).1 h).2.2.1
            rw [this] at h8; cases h8
        · have hF := hb7.1 (by simpa using h8)
          refine go ?_
          clear h8
          refine r_for (p.n - (i + 1)) (fun k ρ w' => Has ρ [(1, .int .i64 i), (2, .pointer (some ⟨b, 0, none⟩)), (4, .pointer (some ⟨bf, 0, none⟩)), (5, .int .i64 p.n), (6, .int .i64 i), (14, Pc.rowAt vpw ps i), (15, .int .i64 (i + 1 + k : Nat))] ∧ Ext w2 w' ∧ ∀ j, j < i + 1 + k → LI p i j) ?_ ?_
          · refine ⟨?_, hE7, fun j hj h1 h2 => by omega⟩
            exact hasP
          rintro k ρ w8 hk ⟨hH, he8, hI⟩
          refine rwp_has hH fun ρ2 => ?_
          refine go ?_
          refine c_if (fun hj => ?_) (fun hj => ?_)
          · have hjn : i + 1 ≤ i + 1 + k ∧ i + 1 + k < p.n := ⟨by omega, by omega⟩
            refine go ?_
            refine rc (l07Unit_ok (n := p.n) (i := i + 1 + k) ?_ ?_ ?_ hjn.2) (next := fun v9 w9 h9 => ?_)
            · rfl
            · rfl
            · omega
            obtain ⟨he9, hf9⟩ := h9
            have hg0 : (zeros p.n).set (i + 1 + k) 1 = unitv p (i + 1 + k) 1 := rfl
            rw [hg0] at hf9
            have hsz8 := he8.size
            have hsz1 := hE2.size
            refine go ?_
            refine r_for (p.o i).toNat (fun q ρ w' => ∃ vx, Has ρ [(1, .int .i64 i), (2, .pointer (some ⟨b, 0, none⟩)), (4, .pointer (some ⟨bf, 0, none⟩)), (5, .int .i64 p.n), (6, .int .i64 i), (14, Pc.rowAt vpw ps i), (15, .int .i64 (i + 1 + k : Nat)), (16, v9), (17, vx), (18, .int .i64 q)] ∧ Ext w9 w' ∧ Fr w.heap.size w' vx (rep q (img p i) (unitv p (i + 1 + k) 1))) ?_ ?_
            · refine ⟨v9, ?_, Ext.refl _, hf9.mono (by omega)⟩
              exact hasP
            rintro q ρ w10 hq ⟨vx, hH, he10, hf10⟩
            refine rwp_has hH fun ρ3 => ?_
            have hin : InR p (rep q (img p i) (unitv p (i + 1 + k) 1)) ∧ ZU (i + 1) (rep q (img p i) (unitv p (i + 1 + k) 1)) := by
              refine rep_inv (fun v => InR p v ∧ ZU (i + 1) v) (fun x _ => img_in hv i x) ⟨?_, unitv_zu p hjn.1 1⟩ q
              exact unitv_in hv (by omega) (fun h => by have := hv.opos h; omega)
            refine go ?_
            refine c_if (fun hq2 => ?_) (fun hq2 => ?_)
            · refine go ?_
              refine rc (l08Image_ok hv hi (x := rep q (img p i) (unitv p (i + 1 + k) 1)) ?_ hin.1) (next := fun v11 w11 h11 => ?_)
              · rfl
              obtain ⟨he11, hf11⟩ := h11
              have hsz10 := he10.size
              have hsz9 := he9.size
              refine go ?_
              refine forQ_normal (by omega) ⟨v11, ?_, he10.trans he11, hf11.mono (by omega)⟩
              exact hasP
            · have hqe : (p.o i).toNat = q := by omega
              have hu9 : InR p (unitv p (i + 1 + k) 1) := unitv_in hv (by omega) (fun h => by have := hv.opos h; omega)
              refine go ?_
              refine d_order [0, 1, 2, 3, 4, 6, 7, 8, 9, 10, 5, 11, 12, 13] (h := fun w11 he11 _ => ?_)
              refine dgo ?_
              refine dc (l08At_ok hv (i + 1) (x := p.w i) (y := rep q (img p i) (unitv p (i + 1 + k) 1)) ?_ (hv.w_in _ hi) hin.1 (hv.w_zu _ hi) hin.2) (next := fun v12 w12 h12 => ?_)
              · rfl
              obtain ⟨he12, hf12⟩ := h12
              refine ⟨fun h => h.trans he12, ?_⟩
              refine dgo ?_
              refine dc (l08At_ok hv (i + 1) (x := unitv p (i + 1 + k) 1) (y := p.w i) ?_ hu9 (hv.w_in _ hi) (unitv_zu p hjn.1 1) (hv.w_zu _ hi)) (next := fun v13 w13 h13 => ?_)
              · rfl
              obtain ⟨he13, hf13⟩ := h13
              refine ⟨fun h => h.trans he13, ?_⟩
              have hlen2 := (atv_in hv _ (i + 1) rfl _ _ (hv.w_in _ hi) hin.1 (hv.w_zu _ hi) hin.2).1.len
              refine dgo ?_
              refine dc (l01Same_ok (xs := atv p (i + 1) (p.w i) (rep q (img p i) (unitv p (i + 1 + k) 1))) (ys := atv p (i + 1) (unitv p (i + 1 + k) 1) (p.w i)) ?_) (next := fun v14 w14 h14 => ?_)
              · omega
              obtain ⟨b14, rfl, hb14, he14⟩ := h14
              refine ⟨fun h => h.trans he14, ?_⟩
              have hE14 : Ext w2 w14 := ((((((he8.trans he9).trans he10).trans he11).trans he12).trans he13)).trans he14
              refine dgo ?_
              refine d_end (h := ?_)
              refine go ?_
              refine c_b (fun h15 => ?_) (fun h15 => ?_)
              · refine go ?_
                refine ra (v := faultV 4 i (i + 1 + k : Nat) 0) (h := rd_build (by simp only [ev_tmp, ev_const, ev_func, get_put, get_args, get_putL, get_putL_nil, Nat.reduceEqDiff, reduceIte, List.getD_cons_zero, List.getD_cons_succ, List.getD_nil, List.map_toArray, List.map_cons, List.map_nil]; rfl) (fun _ => by kernel_rfl)) (next := ?_)
                refine st_store_agg (vs := [.int .i64 4, .int .i64 i, .int .i64 (i + 1 + k : Nat), .int .i64 0]) (cs := _) (by ((try simp only [ev_tmp, ev_const, ev_func, get_put, get_args, get_putL, get_putL_nil, Nat.reduceEqDiff, reduceIte, List.getD_cons_zero, List.getD_cons_succ, List.getD_nil]); first | done | with_reducible rfl)) (by ((try simp only [ev_tmp, ev_const, ev_func, get_put, get_args, get_putL, get_putL_nil, Nat.reduceEqDiff, reduceIte, List.getD_cons_zero, List.getD_cons_succ, List.getD_nil]); first | done | with_reducible rfl)) rfl ?_ rfl (by first | exact True.intro | exact ⟨_, rfl, by ((try simp only [ev_tmp, ev_const, ev_func, get_put, get_args, get_putL, get_putL_nil, Nat.reduceEqDiff, reduceIte, List.getD_cons_zero, List.getD_cons_succ, List.getD_nil, Bool.not_true, Bool.not_false]); first | done | with_reducible rfl)⟩) fun w15 hc15 hs15 hb15 => ?_
                · rfl
                refine go ?_
                refine retc (bad (k := 4) (f := (i + 1 + k : Nat)) (s := 0) (hc15.ext (hE2.trans hE14) ?_) (by decide) fun h => ?_) rfl
                · have := hE2.size; have := he1.size; omega
                · have := ((chk_iff hi).1 h).2.2.2 (i + 1 + k) hjn.1 hjn.2
                  rw [hqe] at this
                  have := hb14.2 this
                  rw [this] at h15; cases h15
              · have h16 := hb14.1 (by simpa using h15)
                refine go ?_
                refine forQ_normal (by omega) ⟨?_, hE14, fun j hj2 => ?_⟩
                · exact hasP
                · by_cases e : j = i + 1 + k
                  · subst e
                    intro _ _
                    rw [hqe]
                    exact h16
                  · exact hI j (by omega)
          · refine go ?_
            refine ra (v := faultV 0 0 0 0) (h := rd_build (by rfl) (fun _ => by kernel_rfl)) (next := ?_)
            refine st_store_agg (vs := [.int .i64 0, .int .i64 0, .int .i64 0, .int .i64 0]) (cs := _) (by ((try simp only [ev_tmp, ev_const, ev_func, get_put, get_args, get_putL, get_putL_nil, Nat.reduceEqDiff, reduceIte, List.getD_cons_zero, List.getD_cons_succ, List.getD_nil]); first | done | with_reducible rfl)) (by ((try simp only [ev_tmp, ev_const, ev_func, get_put, get_args, get_putL, get_putL_nil, Nat.reduceEqDiff, reduceIte, List.getD_cons_zero, List.getD_cons_succ, List.getD_nil]); first | done | with_reducible rfl)) rfl ?_ rfl (by first | exact True.intro | exact ⟨_, rfl, by ((try simp only [ev_tmp, ev_const, ev_func, get_put, get_args, get_putL, get_putL_nil, Nat.reduceEqDiff, reduceIte, List.getD_cons_zero, List.getD_cons_succ, List.getD_nil, Bool.not_true, Bool.not_false]); first | done | with_reducible rfl)⟩) fun w15 hc15 hs15 hb15 => ?_
            · rfl
            refine go ?_
            refine retc ⟨0, 0, 0, 0, rfl, ⟨fun _ => (chk_iff hi).2 ⟨hP', hC', hF, fun j h1 h2 => hI j (by omega) h1 h2⟩, fun _ => rfl⟩, fun h => absurd rfl h, fun _ => ⟨rfl, rfl, rfl⟩, hc15.ext (hE2.trans he8) ?_⟩ rfl
            have := hE2.size; have := he1.size; omega
end Go.Proofs.Ytjljbfcdpdckeaa

/-
  Walks: the reference's fault, its consistency and its question whether a presentation is a group's (l08Fault, l08Consistent, l08Group).
  Conditions: the presentation is valid (l08Group: its list of orders is short).
-/
namespace Go.Proofs.Ytjljbfcdpdckeaa
open Go Go.Pc
/-- The level i of a presentation passes, the tail behind it being a group. -/
def Lev (p : Pr) (i : Nat) : Prop := ∃ (_ : Con p (i + 1)) (hi : i < p.n), Chk p i hi
/-- All levels from i on pass. -/
def Levs (p : Pr) (i : Nat) : Prop := ∀ j, i ≤ j → j < p.n → Lev p j
/-- The presentation is a group's. -/
structure IsGrp (p : Pr) : Prop where
  valid : Valid p
  levs : Levs p 0
theorem Levs.con {p : Pr} (hv : Valid p) {i : Nat} (h : Levs p i) : Con p i := by
  by_cases hi : p.n ≤ i
  · exact con_end hv hi
  · obtain ⟨h1, h2, h3⟩ := h i (Nat.le_refl _) (by omega)
    exact con_step h2 h3
theorem IsGrp.con {p : Pr} (h : IsGrp p) (i : Nat) : Con p i := Levs.con h.valid fun j _ hj => h.levs j (Nat.zero_le _) hj
/-- What a fault says. -/
def FaultIs (p : Pr) (v : Value) : Prop := (v = faultV 0 0 0 0 ∧ Levs p 0) ∨ ∃ (k f s : Int) (i : Nat) (_ : Con p (i + 1)) (hi : i < p.n), k ≠ 0 ∧ v = faultV k i f s ∧ ¬ Chk p i hi ∧ Levs p (i + 1)
set_option maxHeartbeats 1000000 in
theorem l08Fault_ok {p : Pr} (hv : Valid p) {w : World} {vp : Value} {lo hi' : Nat} [hp : Pres lo hi' w vp p] :
    Calls Try.prog 86 #[vp] w (Ret fun v w' => FaultIs p v ∧ Ext w w') := by
  have hn6 := hv.n6
  have hol : p.ord.length = p.n := rfl
  obtain ⟨vo, vpw, vc, ps, cs, css, rfl, h1, h2, h3⟩ := hp.ex
  refine enter (args := [.agg #[vo, vpw, vc]]) (l := [.cell 2 46]) Try.func86 rfl rfl Try.ntmps86 (by simp) ?_
  refine go ?_
  refine st_box3 (by ((try simp only [ev_tmp, ev_const, ev_func, get_put, get_args, get_putL, get_putL_nil, Nat.reduceEqDiff, reduceIte, List.getD_cons_zero, List.getD_cons_succ, List.getD_nil]); first | done | with_reducible rfl)) (by first | exact True.intro | exact ⟨_, rfl, by ((try simp only [ev_tmp, ev_const, ev_func, get_put, get_args, get_putL, get_putL_nil, Nat.reduceEqDiff, reduceIte, List.getD_cons_zero, List.getD_cons_succ, List.getD_nil, Bool.not_true, Bool.not_false]); first | done | with_reducible rfl)⟩) fun w1 b he1 hb1 hs1 hc0 hc1 hc2 => ?_
  refine go ?_
  refine st_alloc (by first | exact True.intro | exact ⟨_, rfl, by ((try simp only [ev_tmp, ev_const, ev_func, get_put, get_args, get_putL, get_putL_nil, Nat.reduceEqDiff, reduceIte, List.getD_cons_zero, List.getD_cons_succ, List.getD_nil, Bool.not_true, Bool.not_false]); first | done | with_reducible rfl)⟩) fun w2 bf he2 hbf hs2 hbk => ?_
  have hE2 : Ext w w2 := he1.trans he2
  refine go ?_
  refine r_for p.n (fun k ρ w' => Has ρ [(1, .pointer (some ⟨b, 0, none⟩)), (2, .pointer (some ⟨bf, 0, none⟩)), (3, .int .i64 ((p.n : Int) - 1 - k))] ∧ Ext w2 w' ∧ Levs p (p.n - k)) ?_ ?_
  · refine ⟨?_, Ext.refl _, fun j h h' => by omega⟩
    exact hasP
  rintro k ρ w3 hk ⟨hH, he3, hL⟩
  refine rwp_has hH fun ρ0 => ?_
  refine go ?_
  refine c_if (fun h4 => ?_) (fun h4 => ?_)
  · obtain ⟨i, hie⟩ : ∃ i : Nat, (p.n : Int) - 1 - k = i := ⟨p.n - 1 - k, by omega⟩
    have hi : i < p.n := by omega
    rw [show p.n - k = i + 1 by omega] at hL
    have hc : Con p (i + 1) := Levs.con hv hL
    refine go ?_
    refine rc (l08Level_ok (p := p) (i := i) hi hie) (next := fun v5 w5 h5 => ?_)
    obtain ⟨k5, l5, f5, s5, rfl, hz, hl5, h05, he5⟩ := h5
    refine go ?_
    refine st_alloc (by first | exact True.intro | exact ⟨_, rfl, by ((try simp only [ev_tmp, ev_const, ev_func, get_put, get_args, get_putL, get_putL_nil, Nat.reduceEqDiff, reduceIte, List.getD_cons_zero, List.getD_cons_succ, List.getD_nil, Bool.not_true, Bool.not_false]); first | done | with_reducible rfl)⟩) fun w6 b6 he6 hb6 hs6 hbk6 => ?_
    refine go ?_
    refine st_store_agg (vs := [.int .i64 k5, .int .i64 l5, .int .i64 f5, .int .i64 s5]) (cs := _) (by ((try simp only [ev_tmp, ev_const, ev_func, get_put, get_args, get_putL, get_putL_nil, Nat.reduceEqDiff, reduceIte, List.getD_cons_zero, List.getD_cons_succ, List.getD_nil]); first | done | with_reducible rfl)) (by ((try simp only [ev_tmp, ev_const, ev_func, get_put, get_args, get_putL, get_putL_nil, Nat.reduceEqDiff, reduceIte, List.getD_cons_zero, List.getD_cons_succ, List.getD_nil]); first | done | with_reducible rfl)) rfl ?_ rfl (by first | exact True.intro | exact ⟨_, rfl, by ((try simp only [ev_tmp, ev_const, ev_func, get_put, get_args, get_putL, get_putL_nil, Nat.reduceEqDiff, reduceIte, List.getD_cons_zero, List.getD_cons_succ, List.getD_nil, Bool.not_true, Bool.not_false]); first | done | with_reducible rfl)⟩) fun w7 hc7 hs7 hb7 => ?_
    · rfl
    have hs2 := he2.size
    have hs3 := he3.size
    have hs5 := he5.size
    have hE7 : Ext w2 w7 := hc7.ext ((he3.trans he5).trans he6) (by omega)
    have hcell : Cell w7 b6 0 (.int .i64 k5) := hb7.cell rfl
    refine go ?_
    refine c_if (fun h8 => ?_) (fun h8 => ?_)
    · refine go ?_
      refine ra (v := faultV k5 l5 f5 s5) (h := rd_load_blk (hb := hb7) (by ((try simp only [ev_tmp, ev_const, ev_func, get_put, get_args, get_putL, get_putL_nil, Nat.reduceEqDiff, reduceIte, List.getD_cons_zero, List.getD_cons_succ, List.getD_nil]); first | done | with_reducible rfl)) rfl) (next := ?_)
      refine st_store_agg (vs := [.int .i64 k5, .int .i64 l5, .int .i64 f5, .int .i64 s5]) (cs := _) (hb := Blk.ext (x := hE7) (h := hbk)) (by ((try simp only [ev_tmp, ev_const, ev_func, get_put, get_args, get_putL, get_putL_nil, Nat.reduceEqDiff, reduceIte, List.getD_cons_zero, List.getD_cons_succ, List.getD_nil]); first | done | with_reducible rfl)) (by ((try simp only [ev_tmp, ev_const, ev_func, get_put, get_args, get_putL, get_putL_nil, Nat.reduceEqDiff, reduceIte, List.getD_cons_zero, List.getD_cons_succ, List.getD_nil]); first | done | with_reducible rfl)) rfl ?_ rfl (by first | exact True.intro | exact ⟨_, rfl, by ((try simp only [ev_tmp, ev_const, ev_func, get_put, get_args, get_putL, get_putL_nil, Nat.reduceEqDiff, reduceIte, List.getD_cons_zero, List.getD_cons_succ, List.getD_nil, Bool.not_true, Bool.not_false]); first | done | with_reducible rfl)⟩) fun w9 hc9 hs9 hb9 => ?_
      · rfl
      refine go ?_
      refine retc (b := bf) ⟨.inr ⟨k5, f5, s5, i, hc, hi, by simpa using h8, ?_, fun h => absurd (hz.2 h) (by simpa using h8), hL⟩, hc9.ext (hE2.trans hE7) (by omega)⟩ rfl
      rw [hl5 (by simpa using h8)]
    · have hk5 : k5 = 0 := by simpa using h8
      refine go ?_
      refine forQ_normal (by omega) ⟨?_, hE7, fun j hj hjn => ?_⟩
      · exact hasP
      · by_cases e : j = i
        · subst e; exact ⟨hc, hi, hz.1 hk5⟩
        · exact hL j (by omega) hjn
  · refine go ?_
    refine ra (v := faultV 0 0 0 0) (h := rd_build (by rfl) (fun _ => by kernel_rfl)) (next := ?_)
    refine st_store_agg (vs := [.int .i64 0, .int .i64 0, .int .i64 0, .int .i64 0]) (cs := _) (by ((try simp only [ev_tmp, ev_const, ev_func, get_put, get_args, get_putL, get_putL_nil, Nat.reduceEqDiff, reduceIte, List.getD_cons_zero, List.getD_cons_succ, List.getD_nil]); first | done | with_reducible rfl)) (by ((try simp only [ev_tmp, ev_const, ev_func, get_put, get_args, get_putL, get_putL_nil, Nat.reduceEqDiff, reduceIte, List.getD_cons_zero, List.getD_cons_succ, List.getD_nil]); first | done | with_reducible rfl)) rfl ?_ rfl (by first | exact True.intro | exact ⟨_, rfl, by ((try simp only [ev_tmp, ev_const, ev_func, get_put, get_args, get_putL, get_putL_nil, Nat.reduceEqDiff, reduceIte, List.getD_cons_zero, List.getD_cons_succ, List.getD_nil, Bool.not_true, Bool.not_false]); first | done | with_reducible rfl)⟩) fun w9 hc9 hs9 hb9 => ?_
    · rfl
    have hs2 := he2.size
    refine go ?_
    refine retc ⟨.inl ⟨rfl, fun j _ hj => hL j (by omega) hj⟩, hc9.ext (hE2.trans he3) (by omega)⟩ rfl
set_option maxHeartbeats 1000000 in
theorem l08Consistent_ok {p : Pr} (hv : Valid p) {w : World} {vp : Value} {lo hi' : Nat} [hp : Pres lo hi' w vp p] :
    Calls Try.prog 132 #[vp] w (Ret fun v w' => ∃ b, v = .bool b ∧ (b = true ↔ Levs p 0) ∧ Ext w w') := by
  obtain ⟨vo, vpw, vc, ps, cs, css, rfl, h1, h2, h3⟩ := hp.ex
  refine enter (args := [.agg #[vo, vpw, vc]]) (l := [.tmp 2]) Try.func132 rfl rfl Try.ntmps132 (by simp) ?_
  refine go ?_
  refine st_box3 (by ((try simp only [ev_tmp, ev_const, ev_func, get_put, get_args, get_putL, get_putL_nil, Nat.reduceEqDiff, reduceIte, List.getD_cons_zero, List.getD_cons_succ, List.getD_nil]); first | done | with_reducible rfl)) (by first | exact True.intro | exact ⟨_, rfl, by ((try simp only [ev_tmp, ev_const, ev_func, get_put, get_args, get_putL, get_putL_nil, Nat.reduceEqDiff, reduceIte, List.getD_cons_zero, List.getD_cons_succ, List.getD_nil, Bool.not_true, Bool.not_false]); first | done | with_reducible rfl)⟩) fun w1 b he1 hb1 hs1 hc0 hc1 hc2 => ?_
  refine go ?_
  refine rc (l08Fault_ok hv) (next := fun v5 w5 h5 => ?_)
  obtain ⟨h5, he5⟩ := h5
  rcases h5 with ⟨rfl, hL⟩ | ⟨k, f, s, i, hc, hi, hk, rfl, hn, hL⟩
  · refine go ?_
    refine ra (v := .int .i64 0) (h := rd_fieldv (by ((try simp only [ev_tmp, ev_const, ev_func, get_put, get_args, get_putL, get_putL_nil, Nat.reduceEqDiff, reduceIte, List.getD_cons_zero, List.getD_cons_succ, List.getD_nil]); first | done | with_reducible rfl)) (fun _ => by kernel_rfl)) (next := ?_)
    refine go ?_
    refine ret1 ⟨_, rfl, ?_, he1.trans he5⟩
    simpa using hL
  · refine go ?_
    refine ra (v := .int .i64 k) (h := rd_fieldv (by ((try simp only [ev_tmp, ev_const, ev_func, get_put, get_args, get_putL, get_putL_nil, Nat.reduceEqDiff, reduceIte, List.getD_cons_zero, List.getD_cons_succ, List.getD_nil]); first | done | with_reducible rfl)) (fun _ => by kernel_rfl)) (next := ?_)
    refine go ?_
    refine ret1 ⟨_, rfl, ?_, he1.trans he5⟩
    simp only [decide_eq_true_eq]
    refine ⟨fun h => absurd h hk, fun h => absurd ?_ hn⟩
    exact (h i (Nat.zero_le _) hi).2.2
set_option maxHeartbeats 1000000 in
theorem l08Group_ok {w : World} {vp : Value} {p : Pr} {lo hi' : Nat} [hp : Pres lo hi' w vp p] (hl : p.ord.length ≤ 2000000) :
    Calls Try.prog 81 #[vp] w (Ret fun v w' => ∃ b, v = .bool b ∧ (b = true ↔ IsGrp p) ∧ Ext w w') := by
  obtain ⟨vo, vpw, vc, ps, cs, css, rfl, h1, h2, h3⟩ := hp.ex
  refine enter (args := [.agg #[vo, vpw, vc]]) (l := [.tmp 2]) Try.func81 rfl rfl Try.ntmps81 (by simp) ?_
  refine go ?_
  refine st_box3 (by ((try simp only [ev_tmp, ev_const, ev_func, get_put, get_args, get_putL, get_putL_nil, Nat.reduceEqDiff, reduceIte, List.getD_cons_zero, List.getD_cons_succ, List.getD_nil]); first | done | with_reducible rfl)) (by first | exact True.intro | exact ⟨_, rfl, by ((try simp only [ev_tmp, ev_const, ev_func, get_put, get_args, get_putL, get_putL_nil, Nat.reduceEqDiff, reduceIte, List.getD_cons_zero, List.getD_cons_succ, List.getD_nil, Bool.not_true, Bool.not_false]); first | done | with_reducible rfl)⟩) fun w1 b he1 hb1 hs1 hc0 hc1 hc2 => ?_
  refine go ?_
  refine rc (spec_IsPresentation_ok hl) (next := fun v5 w5 h5 => ?_)
  obtain ⟨b5, rfl, hb5, he5⟩ := h5
  refine go ?_
  refine sp (fun e5 => ?_) (fun e5 => ?_)
  · have hv := hb5.1 e5
    refine go ?_
    refine rc (l08Consistent_ok hv) (next := fun v6 w6 h6 => ?_)
    obtain ⟨b6, rfl, hb6, he6⟩ := h6
    refine go ?_
    exact ret1 ⟨_, rfl, hb6.trans ⟨fun h => ⟨hv, h⟩, fun h => h.levs⟩, (he1.trans he5).trans he6⟩
  · refine go ?_
    refine ret1 ⟨_, rfl, ?_, he1.trans he5⟩
    simp only [Bool.false_eq_true, false_iff]
    intro h
    have := hb5.2 h.valid
    rw [e5] at this; cases this
end Go.Proofs.Ytjljbfcdpdckeaa

/-
  Walks: the reference's elements and products (l10Element, l10Elements, l08Mul).
  Conditions: stated at each theorem.
-/
namespace Go.Proofs.Ytjljbfcdpdckeaa
open Go Go.Pc
/-- Readings of a list of integers as an element. -/
theorem el_iff {p : Pr} {v : List Int} : ExpP p.ord v (-1) ↔ InR p v := by
  constructor
  · rintro ⟨h1, h2⟩
    refine ⟨h1, fun i hi => ?_⟩
    have := (h2 i (by rw [h1]; exact hi)).1
    exact ⟨this.1, by show v.getD i 0 < p.ord.getD i 0; omega⟩
  · intro h
    refine ⟨h.len, fun i hi => ?_⟩
    have := h.rng i (by have := h.len; omega)
    have h2 : v.getD i 0 < p.ord.getD i 0 := this.2
    exact ⟨⟨this.1, by omega⟩, fun h => by omega⟩
set_option maxHeartbeats 1000000 in
theorem l10Element_ok {p : Pr} (hv : Valid p) {w : World} {vp vx : Value} {xs : List Int} {lo hi lo1 hi1 : Nat} [hp : Pres lo hi w vp p] [hx : Ints lo1 hi1 w vx xs] :
    Calls Try.prog 92 #[vp, vx] w (Ret fun v w' => ∃ b, v = .bool b ∧ (b = true ↔ InR p xs) ∧ Ext w w') := by
  have hn6 := hv.n6
  have hol : p.ord.length = p.n := rfl
  obtain ⟨vo, vpw, vc, ps, cs, css, rfl, h1, h2, h3⟩ := hp.ex
  refine enter (args := [.agg #[vo, vpw, vc], vx]) (l := [.tmp 4]) Try.func92 rfl rfl Try.ntmps92 (by simp) ?_
  refine go ?_
  refine st_box3 (by ((try simp only [ev_tmp, ev_const, ev_func, get_put, get_args, get_putL, get_putL_nil, Nat.reduceEqDiff, reduceIte, List.getD_cons_zero, List.getD_cons_succ, List.getD_nil]); first | done | with_reducible rfl)) (by first | exact True.intro | exact ⟨_, rfl, by ((try simp only [ev_tmp, ev_const, ev_func, get_put, get_args, get_putL, get_putL_nil, Nat.reduceEqDiff, reduceIte, List.getD_cons_zero, List.getD_cons_succ, List.getD_nil, Bool.not_true, Bool.not_false]); first | done | with_reducible rfl)⟩) fun w1 b he1 hb1 hs1 hc0 hc1 hc2 => ?_
  refine go ?_
  refine rc (l07Exponents_ok (os := p.ord) (xs := xs) (z := -1) (fun i hi => ?_) ?_) (next := fun v2 w2 h2 => ?_)
  · have : 2 ≤ p.ord.getD i 0 ∧ p.ord.getD i 0 ≤ 7 := hv.opos hi
    omega
  · omega
  obtain ⟨b2, rfl, hb2, he2⟩ := h2
  refine go ?_
  exact ret1 ⟨_, rfl, hb2.trans el_iff, he1.trans he2⟩
set_option maxHeartbeats 1000000 in
theorem l08Mul_ok {p : Pr} [hc : ConAll p] {w : World} {vp va vb : Value} {x y : El p} {xs ys : List Int} {lo hi lo1 hi1 lo2 hi2 : Nat} [hp : Pres lo hi w vp p] [hx : Ints lo1 hi1 w va xs] [hy : Ints lo2 hi2 w vb ys] (hxe : xs = x.v) (hye : ys = y.v) :
    Calls Try.prog 100 #[vp, va, vb] w (Ret fun v w' => Ext w w' ∧ Fr w.heap.size w' v (x * y).v) := by
  subst hxe hye
  obtain ⟨vo, vpw, vc, ps, cs, css, rfl, h1, h2, h3⟩ := hp.ex
  refine enter (args := [.agg #[vo, vpw, vc], va, vb]) (l := [.tmp 6]) Try.func100 rfl rfl Try.ntmps100 (by simp) ?_
  refine go ?_
  refine st_box3 (by ((try simp only [ev_tmp, ev_const, ev_func, get_put, get_args, get_putL, get_putL_nil, Nat.reduceEqDiff, reduceIte, List.getD_cons_zero, List.getD_cons_succ, List.getD_nil]); first | done | with_reducible rfl)) (by first | exact True.intro | exact ⟨_, rfl, by ((try simp only [ev_tmp, ev_const, ev_func, get_put, get_args, get_putL, get_putL_nil, Nat.reduceEqDiff, reduceIte, List.getD_cons_zero, List.getD_cons_succ, List.getD_nil, Bool.not_true, Bool.not_false]); first | done | with_reducible rfl)⟩) fun w1 b he1 hb1 hs1 hc0 hc1 hc2 => ?_
  refine go ?_
  refine rc (l08AtT_ok (p := p) (i := 0) (x := x) (y := y) rfl) (next := fun v2 w2 h2 => ?_)
  obtain ⟨he2, hf2⟩ := h2
  refine go ?_
  exact ret1 ⟨he1.trans he2, hf2.mono he1.size⟩
end Go.Proofs.Ytjljbfcdpdckeaa

/-
  Walks: the reference's inverse and power (l10From, l10Inv, l10Pow) and its commutator (l10Comm).
  Conditions: the tails at all levels are groups.
-/
namespace Go.Proofs.Ytjljbfcdpdckeaa
open Go Go.Pc
def FromSpec (p : Pr) [ConAll p] (i : Nat) : Prop := ∀ {w : World} {vp vx : Value} {ki : Int} {x : T p i} {xs : List Int} {lo hi lo1 hi1 : Nat} [Pres lo hi w vp p] [Ints lo1 hi1 w vx xs],
  ki = i → xs = x.v → Calls Try.prog 163 #[vp, .int .i64 ki, vx] w (Ret fun v w' => Ext w w' ∧ Fr w.heap.size w' v (x⁻¹).v)
set_option maxHeartbeats 2000000 in
theorem from_step {p : Pr} [hc : ConAll p] {i : Nat} (ih : i < p.n → FromSpec p (i + 1)) : FromSpec p i := by
  intro w vp vx ki x xs lo hi lo1 hi1 hp hx hki hxe
  subst hki hxe
  have hv := hc.valid
  have hn6 := hv.n6
  have hol : p.ord.length = p.n := rfl
  have hwl : p.pow.length = p.n := hv.lenw
  replace hp := hp.wide
  replace hx := hx.wide
  obtain ⟨vo, vpw, vc, ps, cs, css, rfl, h1, h2, h3⟩ := hp.ex
  refine enter (args := [.agg #[vo, vpw, vc], .int .i64 i, vx]) (l := [.tmp 6]) Try.func163 rfl rfl Try.ntmps163 (by simp) ?_
  refine go ?_
  refine st_box3 (by ((try simp only [ev_tmp, ev_const, ev_func, get_put, get_args, get_putL, get_putL_nil, Nat.reduceEqDiff, reduceIte, List.getD_cons_zero, List.getD_cons_succ, List.getD_nil]); first | done | with_reducible rfl)) (by first | exact True.intro | exact ⟨_, rfl, by ((try simp only [ev_tmp, ev_const, ev_func, get_put, get_args, get_putL, get_putL_nil, Nat.reduceEqDiff, reduceIte, List.getD_cons_zero, List.getD_cons_succ, List.getD_nil, Bool.not_true, Bool.not_false]); first | done | with_reducible rfl)⟩) fun w1 b he1 hb1 hs1 hc0 hc1 hc2 => ?_
  refine go ?_
  refine c_if (fun h4 => ?_) (fun h4 => ?_)
  · refine go ?_
    refine st_make_int (by ((try simp only [ev_tmp, ev_const, ev_func, get_put, get_args, get_putL, get_putL_nil, Nat.reduceEqDiff, reduceIte, List.getD_cons_zero, List.getD_cons_succ, List.getD_nil]); first | done | with_reducible rfl)) (by ((try simp only [ev_tmp, ev_const, ev_func, get_put, get_args, get_putL, get_putL_nil, Nat.reduceEqDiff, reduceIte, List.getD_cons_zero, List.getD_cons_succ, List.getD_nil]); first | done | with_reducible rfl)) (by omega) (by omega) (by first | exact True.intro | exact ⟨_, rfl, by ((try simp only [ev_tmp, ev_const, ev_func, get_put, get_args, get_putL, get_putL_nil, Nat.reduceEqDiff, reduceIte, List.getD_cons_zero, List.getD_cons_succ, List.getD_nil, Bool.not_true, Bool.not_false]); first | done | with_reducible rfl)⟩) fun w2 v2 he2 hs2 ho2 => ?_
    refine go ?_
    refine ret1 ⟨he1.trans he2, ?_⟩
    have hz : ∀ y : T p i, y.v = zeros p.n := fun y => inr_ext y.inr hv.zeros_in fun k hk => by rw [y.zu k (by omega), zeros_getD]
    rw [hz]
    exact ho2.toFr (by omega)
  · have hin : i < p.n := by omega
    have ih1 : FromSpec p (i + 1) := ih hin
    have hxl := x.inr.len
    have hxi := x.inr.rng i hin
    have hoi := hv.opos hin
    have hoe : p.o i = p.ord.getD i 0 := rfl
    refine go ?_
    refine rc (l01Own_ok (xs := x.v) ?_) (next := fun v2 w2 h2 => ?_)
    · omega
    obtain ⟨he2, hf2⟩ := h2
    refine go ?_
    obtain ⟨e2, b2, hb2, ho2⟩ := hf2.own (by intro e; rw [e] at hxl; simp at hxl; omega)
    have hl2 := ho2.lt
    have hz1 := he1.size
    have hz2 := he2.size
    have ap1 : Apart 0 w.heap.size b2 := ⟨.inr (by omega)⟩
    have ap3 : Apart b (b + 1) b2 := ⟨.inr (by omega)⟩
    clear hf2
    refine st_store_int (by ((try simp only [ev_tmp, ev_const, ev_func, get_put, get_args, get_putL, get_putL_nil, Nat.reduceEqDiff, reduceIte, List.getD_cons_zero, List.getD_cons_succ, List.getD_nil]); first | done | with_reducible rfl)) (by ((try simp only [ev_tmp, ev_const, ev_func, get_put, get_args, get_putL, get_putL_nil, Nat.reduceEqDiff, reduceIte, List.getD_cons_zero, List.getD_cons_succ, List.getD_nil]); first | done | with_reducible rfl)) ?_ (by first | exact True.intro | exact ⟨_, rfl, by ((try simp only [ev_tmp, ev_const, ev_func, get_put, get_args, get_putL, get_putL_nil, Nat.reduceEqDiff, reduceIte, List.getD_cons_zero, List.getD_cons_succ, List.getD_nil, Bool.not_true, Bool.not_false]); first | done | with_reducible rfl)⟩) fun w3 hc3 hs3 ho3 => ?_
    · omega
    have hE3 : Ext w w3 := hc3.ext (he1.trans he2) (by omega)
    have hE13 : Ext w1 w3 := hc3.ext he2 (by omega)
    clear ho2
    refine go ?_
    have hr : (tl hv x).v = x.v.set i 0 := rfl
    refine rc (ih1 (x := tl hv x) (xs := x.v.set i 0) ?_ ?_) (next := fun v4 w4 h4 => ?_)
    · rfl
    · rfl
    obtain ⟨he4, hf4⟩ := h4
    have hz3 := hE13.size
    have hz4 := he4.size
    refine go ?_
    refine c_if (fun h5 => ?_) (fun h5 => ?_)
    · refine go ?_
      refine ret1 ⟨hE3.trans he4, ?_⟩
      rw [inv_zero hin x h5 (tl hv x) hr]
      exact hf4.mono (by omega)
    · refine go ?_
      refine st_make_int (by ((try simp only [ev_tmp, ev_const, ev_func, get_put, get_args, get_putL, get_putL_nil, Nat.reduceEqDiff, reduceIte, List.getD_cons_zero, List.getD_cons_succ, List.getD_nil]); first | done | with_reducible rfl)) (by ((try simp only [ev_tmp, ev_const, ev_func, get_put, get_args, get_putL, get_putL_nil, Nat.reduceEqDiff, reduceIte, List.getD_cons_zero, List.getD_cons_succ, List.getD_nil]); first | done | with_reducible rfl)) (by omega) (by omega) (by first | exact True.intro | exact ⟨_, rfl, by ((try simp only [ev_tmp, ev_const, ev_func, get_put, get_args, get_putL, get_putL_nil, Nat.reduceEqDiff, reduceIte, List.getD_cons_zero, List.getD_cons_succ, List.getD_nil, Bool.not_true, Bool.not_false]); first | done | with_reducible rfl)⟩) fun w5 v5 he5 hs5 ho5 => ?_
      have hb5 : ∃ e5 b5, w4.heap.size ≤ b5 ∧ OwnI e5 b5 w5 v5 (zeros p.n) := ⟨_, _, Nat.le_refl _, ho5⟩
      clear ho5
      obtain ⟨e5, b5, hb5, ho5⟩ := hb5
      have hlz := zeros_len p.n
      have ap5 : Apart 0 w.heap.size b5 := ⟨.inr (by omega)⟩
      have ap6 : Apart b (b + 1) b5 := ⟨.inr (by omega)⟩
      refine go ?_
      refine z_order b5 (List.range 14) (h := fun w6 he6 _ => ?_)
      refine zgo ?_
      have ho6 : OwnI e5 b5 w6 v5 (zeros p.n) := OwnI.ext (h := ho5)
      refine z_store_int (h := ho6) (hx := (by ((try simp only [ev_tmp, ev_const, ev_func, get_put, get_args, get_putL, get_putL_nil, Nat.reduceEqDiff, reduceIte, List.getD_cons_zero, List.getD_cons_succ, List.getD_nil]); first | done | with_reducible rfl))) (hy := (by ((try simp only [ev_tmp, ev_const, ev_func, get_put, get_args, get_putL, get_putL_nil, Nat.reduceEqDiff, reduceIte, List.getD_cons_zero, List.getD_cons_succ, List.getD_nil]); first | done | with_reducible rfl))) (hm := ?_) (next := fun w7 hc7 hs7 ho7 => ?_)
      · omega
      refine z_end ?_
      have hE47 : Ext w4 w7 := hc7.ext (he5.trans he6) hb5
      have hE7 : Ext w w7 := (hE3.trans he4).trans hE47
      have ho7' : OwnI e5 b5 w7 v5 (unitv p i (p.o i - x.v.getD i 0)) := ho7
      clear ho5 ho6 ho7 ap5 ap6 hc7 hc3
      have hu := unitv_in hv (j := i) (k := p.o i - x.v.getD i 0) (by omega) (fun _ => by omega)
      have hr1 := (tl hv x)⁻¹.inr
      have hr2 : ZU i (tl hv x)⁻¹.v := (tl hv x)⁻¹.zu.mono (by omega)
      have hw1 := (Tw hv hin)⁻¹.inr
      have hw2 : ZU i (Tw hv hin)⁻¹.v := (Tw hv hin)⁻¹.zu.mono (by omega)
      have ha := atv_in hv _ i rfl _ _ hr1 hu hr2 (unitv_zu p (Nat.le_refl _) _)
      refine go ?_
      refine d_order [0, 1, 2, 3, 4, 5, 7, 8, 9, 10, 11, 12, 13, 14, 6, 15, 16, 17] (h := fun w8 he8 _ => ?_)
      refine dgo ?_
      refine dc (l08At_ok hv i (x := (tl hv x)⁻¹.v) (y := unitv p i (p.o i - x.v.getD i 0)) ?_ hr1 hu hr2 (unitv_zu p (Nat.le_refl _) _)) (next := fun v9 w9 h9 => ?_)
      · rfl
      obtain ⟨he9, hf9⟩ := h9
      refine ⟨fun h => h.trans he9, ?_⟩
      refine dc (ih1 (x := Tw hv hin) (xs := p.w i) ?_ ?_) (next := fun v10 w10 h10 => ?_)
      · rfl
      · rfl
      obtain ⟨he10, hf10⟩ := h10
      refine ⟨fun h => h.trans he10, ?_⟩
      refine dc (l08At_ok hv i (x := atv p i (tl hv x)⁻¹.v (unitv p i (p.o i - x.v.getD i 0))) (y := (Tw hv hin)⁻¹.v) ?_ ha.1 hw1 ha.2 hw2) (next := fun v11 w11 h11 => ?_)
      · rfl
      obtain ⟨he11, hf11⟩ := h11
      refine ⟨fun h => h.trans he11, ?_⟩
      refine dgo ?_
      refine d_end (h := ?_)
      have hE11 := (((hE7.trans he8).trans he9).trans he10)
      refine go ?_
      refine ret1 ⟨hE11.trans he11, ?_⟩
      rw [inv_split hin x h5 (tl hv x) (Tw hv hin) hr rfl]
      exact hf11.mono hE11.size
theorem l10From_ok {p : Pr} [hc : ConAll p] : ∀ (m i : Nat), p.n - i = m → FromSpec p i
  | 0, i, hm => from_step fun h => absurd h (by omega)
  | m + 1, i, hm => from_step fun h => l10From_ok m (i + 1) (by omega)
set_option maxHeartbeats 1000000 in
theorem l10Inv_ok {p : Pr} [hc : ConAll p] {w : World} {vp vx : Value} {x : El p} {xs : List Int} {lo hi lo1 hi1 : Nat} [hp : Pres lo hi w vp p] [hx : Ints lo1 hi1 w vx xs] (hxe : xs = x.v) :
    Calls Try.prog 143 #[vp, vx] w (Ret fun v w' => Ext w w' ∧ Fr w.heap.size w' v (x⁻¹).v) := by
  obtain ⟨vo, vpw, vc, ps, cs, css, rfl, h1, h2, h3⟩ := hp.ex
  refine enter (args := [.agg #[vo, vpw, vc], vx]) (l := [.tmp 4]) Try.func143 rfl rfl Try.ntmps143 (by simp) ?_
  refine go ?_
  refine st_box3 (by ((try simp only [ev_tmp, ev_const, ev_func, get_put, get_args, get_putL, get_putL_nil, Nat.reduceEqDiff, reduceIte, List.getD_cons_zero, List.getD_cons_succ, List.getD_nil]); first | done | with_reducible rfl)) (by first | exact True.intro | exact ⟨_, rfl, by ((try simp only [ev_tmp, ev_const, ev_func, get_put, get_args, get_putL, get_putL_nil, Nat.reduceEqDiff, reduceIte, List.getD_cons_zero, List.getD_cons_succ, List.getD_nil, Bool.not_true, Bool.not_false]); first | done | with_reducible rfl)⟩) fun w1 b he1 hb1 hs1 hc0 hc1 hc2 => ?_
  refine go ?_
  refine rc (l10From_ok (p := p) _ 0 rfl (x := x) rfl hxe) (next := fun v2 w2 h2 => ?_)
  obtain ⟨he2, hf2⟩ := h2
  refine go ?_
  exact ret1 ⟨he1.trans he2, hf2.mono he1.size⟩
end Go.Proofs.Ytjljbfcdpdckeaa

/-
  Walks: the reference's power (l10Pow) and commutator (l10Comm).
  Conditions: the tails at all levels are groups.
-/
namespace Go.Proofs.Ytjljbfcdpdckeaa
open Go Go.Pc
end Go.Proofs.Ytjljbfcdpdckeaa

/-
  Walk: the reference's strip of an element by a table (l12Strip).
  Conditions: the tails at all levels are groups, the table holds elements with the leading exponent 1.
-/
namespace Go.Proofs.Ytjljbfcdpdckeaa
open Go Go.Pc
/-- What a strip leaves. -/
structure Left {p : Pr} [ConAll p] (t : Tab p) (x r : El p) (d : Nat) : Prop where
  stp : Stp t x r
  tl : Tl d r
  le : d ≤ p.n
  some : d < p.n → t d = none ∧ co r d ≠ 0
end Go.Proofs.Ytjljbfcdpdckeaa

/-
  Walks: the program's sifting of an element by a sequence (newSequence, sift), and representatives of cosets (representative).
  Conditions: the tails at all levels are groups; stated at each theorem.
-/
namespace Go.Proofs.Ytjljbfcdpdckeaa
open Go Go.Pc
theorem lead_tl {p : Pr} (x : El p) : Tl (lead x.v) x := fun k hk => lead_zero x.v k hk
theorem lead_of {p : Pr} {x : El p} {d : Nat} (h : Tl d x) (h0 : co x d ≠ 0) : lead x.v = d := lead_eq (fun i hi => h i hi) h0
end Go.Proofs.Ytjljbfcdpdckeaa

/-
  The work on a sequence that grows by several additions; commutators with the entries of a table.
  Conditions: the tails at all levels are groups; nothing of the program stands here.
-/
namespace Go.Pc
open Grp
section
variable {p : Pr} [hc : ConAll p] {S S' W W' : El p → Prop} {t : Tab p}
theorem Gen.mono {G : Type} [Grp G] {A B : G → Prop} (h : ∀ a, A a → B a) : ∀ a, Gen A a → Gen B a := Gen.le (Gen.sub B) fun a ha => .of a (h a ha)
theorem Cov.mono {x : El p} (h : Cov t W x) (hw : ∀ a, W a → W' a) : Cov t W' x := by
  obtain ⟨r, hr, h⟩ := h
  exact ⟨r, hr.imp id (hw r), h⟩
/-- More elements are given, and wait. -/
theorem Wk.more (h : Wk S t (fun _ => False)) : Wk (fun a => S a ∨ W a) t W where
  ok := h.ok
  tmem d y e := Gen.mono (fun _ h => .inl h) _ (h.tmem d y e)
  wmem x hx := .of x (.inr hx)
  need x hx := by
    rcases hx with hx | hx
    · exact (h.need x hx).mono (fun _ h => h.elim)
    · exact ⟨x, .inr hx, fun _ _ h => h⟩
  top d y e := (h.top d y e).mono (fun _ h => h.elim)
  pair d e y z h1 h2 h3 := (h.pair d e y z h1 h2 h3).imp (·.mono (fun _ h => h.elim)) (·.mono (fun _ h => h.elim))
theorem Wk.none : Wk (fun _ : El p => False) (fun _ => none) (fun _ => False) := (Wk.start (S := fun _ : El p => False))
/-- Whether the subgroup has grown. -/
theorem Wk.grown {t0 : Tab p} (h0 : Wk S t0 (fun _ => False)) (h : Wk (fun a => S a ∨ W a) t (fun _ => False)) {d : Nat} (hd : t0 d = Option.none) (hd' : t d ≠ Option.none) : ∃ a, W a ∧ ¬ Gen S a := by
  apply Classical.byContradiction
  intro hn
  have hs : ∀ a, W a → Gen S a := fun a ha => Classical.byContradiction fun hg => hn ⟨a, ha, hg⟩
  have hle : ∀ a, Gen (fun a => S a ∨ W a) a → Gen S a := Gen.le (Gen.sub S) fun a ha => ha.elim (.of a) (hs a)
  have f0 := h0.full (fun _ h => h)
  have f := h.full (fun _ h => h)
  have g0 := h0.gen (fun _ h => h)
  have g := h.gen (fun _ h => h)
  obtain ⟨x, h1, h2, h3⟩ := f.dep.2 hd'
  rw [g] at h1
  have h4 := hle x h1
  rw [← g0] at h4
  exact f0.dep.1 ⟨x, h4, h2, h3⟩ hd
theorem Wk.same (h0 : Wk S t (fun _ => False)) (h : Wk (fun a => S a ∨ W a) t (fun _ => False)) : ∀ a, W a → Gen S a := by
  intro a ha
  have g0 := h0.gen (fun _ h => h)
  have g := h.gen (fun _ h => h)
  rw [← g0, g]
  exact .of a (.inr ha)
variable {y z : El p} {e : Nat}
end
end Go.Pc

/-
  Walks: the reference's remainder and inverse of numbers (l01Mod, l01Inv) and the comparison of two lists of lists (l01Same2).
  Conditions: stated at each theorem.
-/
namespace Go.Proofs.Ytjljbfcdpdckeaa
open Go Go.Pc
theorem inv_ex {a q : Int} (hq : q = 2 ∨ q = 3 ∨ q = 5 ∨ q = 7) (ha : 1 ≤ a ∧ a < q) : ∃ x, 1 ≤ x ∧ x < q ∧ (a * x) % q = 1 := by
  have h : a = 1 ∨ a = 2 ∨ a = 3 ∨ a = 4 ∨ a = 5 ∨ a = 6 := by omega
  rcases hq with rfl | rfl | rfl | rfl <;> rcases h with rfl | rfl | rfl | rfl | rfl | rfl <;>
    first
      | omega
      | exact ⟨1, by decide⟩
      | exact ⟨2, by decide⟩
      | exact ⟨3, by decide⟩
      | exact ⟨4, by decide⟩
      | exact ⟨5, by decide⟩
      | exact ⟨6, by decide⟩
set_option maxHeartbeats 1000000 in
theorem eqInt64SS_ok {w : World} {va vb : Value} {us vs : List Value} {xss yss : List (List Int)} {lo hi lo1 hi1 : Nat} [hx : Pc.Rows lo hi w va us xss] [hy : Pc.Rows lo1 hi1 w vb vs yss] (hm : ∀ i, (xss.getD i []).length ≤ 2000000) (hl : xss.length ≤ 10000000) :
    Calls Try.prog 54 #[va, vb] w (Ret fun v w' => ∃ b, v = .bool b ∧ (b = true ↔ xss = yss) ∧ Ext w w') := by
  have hul := hx.vals.len
  have hvl := hy.vals.len
  refine enter (args := [va, vb]) (l := [.tmp 4]) Try.func54 rfl rfl Try.ntmps54 (by simp) ?_
  refine go ?_
  refine c_if (fun h1 => ?_) (fun h1 => ?_)
  · refine go ?_
    refine ret1 ⟨_, rfl, ?_, Ext.refl _⟩
    simp only [Bool.false_eq_true, false_iff]
    rintro rfl
    omega
  · have hxy : xss.length = yss.length := by omega
    refine go ?_
    refine r_for xss.length (fun k ρ w' => Has ρ [(0, va), (1, vb), (5, .int .i64 k)] ∧ Ext w w' ∧ ∀ i, i < k → xss.getD i [] = yss.getD i []) ?_ ?_
    · refine ⟨?_, Ext.refl _, fun i hi => by omega⟩
      exact hasP
    rintro k ρ w1 hk ⟨hH, he1, hI⟩
    refine rwp_has hH fun ρ0 => ?_
    refine go ?_
    refine c_if (fun h4 => ?_) (fun h4 => ?_)
    · refine go ?_
      refine d_region fun w2 he2 _ => ?_
      refine dgo ?_
      refine dc (eqInt64S_ok (xs := xss.getD k []) (ys := yss.getD k []) (hm k)) (next := fun v3 w3 h3 => ?_)
      obtain ⟨b3, rfl, hb3, he3⟩ := h3
      refine ⟨fun h => h.trans he3, ?_⟩
      refine dgo ?_
      refine d_end (h := ?_)
      refine go ?_
      refine c_b (fun h5 => ?_) (fun h5 => ?_)
      · refine go ?_
        refine ret1 ⟨_, rfl, ?_, (he1.trans he2).trans he3⟩
        simp only [Bool.false_eq_true, false_iff]
        rintro rfl
        have := hb3.2 rfl
        rw [this] at h5; cases h5
      · have h6 := hb3.1 (by simpa using h5)
        refine go ?_
        refine forQ_normal (by omega) ⟨?_, (he1.trans he2).trans he3, fun i hi => ?_⟩
        · exact hasP
        · by_cases e : i = k
          · subst e; exact h6
          · exact hI i (by omega)
    · refine go ?_
      refine ret1 ⟨_, rfl, ?_, he1⟩
      simp only [true_iff]
      apply List.ext_getElem hxy
      intro i h1 h2
      have := hI i (by omega)
      simpa [h1, h2] using this
end Go.Proofs.Ytjljbfcdpdckeaa

/-
  Walk: the reference's copy of a list of lists (l01Own2).
  Conditions: the lists are short.
-/
namespace Go.Proofs.Ytjljbfcdpdckeaa
open Go Go.Pc
end Go.Proofs.Ytjljbfcdpdckeaa

/-
  Walk: the reference's canonical sequence out of a full table (l12Full).
  Conditions: the tails at all levels are groups, the table is full.
-/
namespace Go.Proofs.Ytjljbfcdpdckeaa
open Go Go.Pc
end Go.Proofs.Ytjljbfcdpdckeaa

/-
  Walk: the reference's subgroup generated by a list (l12Close).
  Conditions: the tails at all levels are groups, the list's members are elements.
-/
namespace Go.Proofs.Ytjljbfcdpdckeaa
open Go Go.Pc
section
variable {p : Pr} [hc : ConAll p] {t : Tab p} {d e : Nat} {y z : El p}
end
end Go.Proofs.Ytjljbfcdpdckeaa

/-
  Walk: the program's addition of elements to a sequence (sequence.add).
  Conditions: the tails at all levels are groups; the sequence's table has no element waiting.
-/
namespace Go.Proofs.Ytjljbfcdpdckeaa
open Go Go.Pc
/-- A sequence in memory: its struct and its table, of which the block b0 is written. -/
structure SeqAt {p : Pr} (bs b0 base : Nat) (av : Nat → Prop) (w : World) (vp vb : Value) (t : Tab p) : Prop where
  c0 : Cell w bs 0 vp
  c1 : Cell w bs 1 vb
  ne : bs ≠ b0
  own : vb.ownBlock = some b0
  lst : ∃ us, Lst 22 base av w vb us (tabL t) ∧ ∀ d, d < p.n → t d = none → us.getD d nilv = nilv
end Go.Proofs.Ytjljbfcdpdckeaa

/-
  Walk: the program's representative of a coset (representative).
  Conditions: the tails at all levels are groups; the list has leading exponents 1 at ascending depths.
-/
namespace Go.Proofs.Ytjljbfcdpdckeaa
open Go Go.Pc
/-- Elements with the leading exponent 1, their depths ascending. -/
structure SeqOk {p : Pr} (ys : List (El p)) : Prop where
  lead1 : ∀ y, y ∈ ys → lead y.v < p.n ∧ co y (lead y.v) = 1
  asc : ys.Pairwise fun a b => lead a.v < lead b.v
/-- What a representative is: it differs by a product of the list's elements, and is zero at their depths. -/
structure RepOf {p : Pr} [ConAll p] (ys : List (El p)) (x r : El p) : Prop where
  mem : ∀ H : El p → Prop, Pc.Sub H → (∀ y, y ∈ ys → H y) → H (x⁻¹ * r)
  zero : ∀ y, y ∈ ys → co r (lead y.v) = 0
  low : ∀ t, (∀ y, y ∈ ys → t < lead y.v) → co r t = co x t
theorem vecs_getD {p : Pr} (ys : List (El p)) {i : Nat} (h : i < ys.length) : (vecs ys).getD i [] = (ys[i]).v := by simp [vecs, h]
end Go.Proofs.Ytjljbfcdpdckeaa

/-
  Lists of integers that are the call's own, each in a block of its own; what may be written without touching the rest; marks.
  Conditions: none; nothing of the program stands here.
-/
namespace Go.Pc
open Go Go.RowKit
/-- Only blocks of B (and what is new) have turned. -/
inductive Wrt (B : Nat → Prop) : World → World → Prop where
  | refl (w : World) : Wrt B w w
  | step {w w1 w2 : World} {b : Nat} : Wrt B w w1 → B b → Chg b w1 w2 → Wrt B w w2
  | grow {w w1 w2 : World} : Wrt B w w1 → Ext w1 w2 → Wrt B w w2
section
variable {B B' : Nat → Prop} {w w' w0 w1 w2 : World} {b lo hi s : Nat} {v : Value} {xs : List Int}
theorem Wrt.one (hb : B b) (c : Chg b w w') : Wrt B w w' := .step (.refl w) hb c
theorem Wrt.ofExt (x : Ext w w') : Wrt B w w' := .grow (.refl w) x
theorem Wrt.trans (h : Wrt B w w1) (k : Wrt B w1 w2) : Wrt B w w2 := by
  induction k with
  | refl => exact h
  | step _ hb c ih => exact .step ih hb c
  | grow _ x ih => exact .grow ih x
theorem Wrt.mono (h : Wrt B w w1) (hb : ∀ b, B b → B' b) : Wrt B' w w1 := by
  induction h with
  | refl => exact .refl _
  | step _ hB c ih => exact .step ih (hb _ hB) c
  | grow _ x ih => exact .grow ih x
theorem Wrt.size (h : Wrt B w w1) : w.heap.size ≤ w1.heap.size := by
  induction h with
  | refl => exact Nat.le_refl _
  | step _ _ c ih => exact Nat.le_trans ih c.size
  | grow _ x ih => exact Nat.le_trans ih x.size
theorem Wrt.block (h : Wrt B w w1) {k : Nat} (hk : k < w.heap.size) (hn : ¬ B k) : w1.heap[k]? = w.heap[k]? := by
  induction h with
  | refl => rfl
  | @step w1 w2 b h1 hB c ih => rw [← ih]; exact c.by_.block k (Nat.lt_of_lt_of_le hk h1.size) (fun e => by injection e with e; subst e; exact hn hB)
  | @grow w1 w2 h1 x ih => rw [← ih]; exact x.below.block k (Nat.lt_of_lt_of_le hk h1.size)
theorem Wrt.same (h : Wrt B w w1) (hb : ∀ b, B b → b < lo ∨ hi ≤ b) : Same lo hi w w1 := fun k h1 h2 h3 => h.block h3 fun hk => by have := hb k hk; omega
theorem Wrt.ext (h : Wrt B w1 w2) (x : Ext w0 w1) (hb : ∀ b, B b → w0.heap.size ≤ b) : Ext w0 w2 := by
  induction h with
  | refl => exact x
  | step _ hB c ih => exact c.ext ih (hb _ hB)
  | grow _ y ih => exact ih.trans y
theorem OwnI.block (h : OwnI s b w v xs) : v.ownBlock = some b := by obtain ⟨cap, cur, rfl, _⟩ := h.own.ex; rfl
theorem Fr.block (h : Fr s w v xs) (hn : xs ≠ []) : ∃ b, v.ownBlock = some b ∧ s ≤ b ∧ b < w.heap.size := by
  obtain ⟨e, b, hb, ho⟩ := h.own hn
  exact ⟨b, ho.block, hb, ho.lt⟩
theorem Fr.nil_same (h : Fr s w v []) (hs : w.heap.size ≤ w'.heap.size) : Fr s w' v [] := by
  obtain ⟨A, c, hv, hc, hm, hcell⟩ := h.ints.sl.ex
  exact ⟨⟨⟨A, c, hv, hc, hm, fun k u hu => by simp at hu⟩⟩, fun hn => absurd rfl hn⟩
theorem Fr.chg (h : Fr s w v xs) (c : Chg b w w') (hb : xs ≠ [] → v.ownBlock ≠ some b) : Fr s w' v xs := by
  by_cases hn : xs = []
  · subst hn; exact h.nil_same c.size
  · obtain ⟨e, g, hg, ho⟩ := h.own hn
    exact (ho.chg' c (fun e => hb hn (by rw [ho.block, e]))).toFr hg
theorem Fr.wr (h : Fr s w v xs) (k : Wrt B w w') (hb : xs ≠ [] → ∀ b, v.ownBlock = some b → ¬ B b) : Fr s w' v xs := by
  induction k with
  | refl => exact h
  | step _ hB c ih => exact ih.chg c fun hn e => hb hn _ e hB
  | grow _ x ih => exact ih.ext' x
end
/-- Rows that are the call's own, from s on, no two in one block. -/
structure RowsO (s : Nat) (w : World) (rs : List (Value × List Int)) : Prop where
  fr : ∀ r, r ∈ rs → Fr s w r.1 r.2
  sep : rs.Pairwise fun a b => a.2 ≠ [] → b.2 ≠ [] → a.1.ownBlock ≠ b.1.ownBlock
/-- A block of one of the rows. -/
def BlkOf (rs : List (Value × List Int)) (b : Nat) : Prop := ∃ r, r ∈ rs ∧ r.2 ≠ [] ∧ r.1.ownBlock = some b
section
variable {B : Nat → Prop} {w w' : World} {b lo hi s s' : Nat} {u v : Value} {xs : List Int} {rs rs' : List (Value × List Int)}
theorem RowsO.nil (s : Nat) (w : World) : RowsO s w [] := ⟨fun r h => (by cases h), List.Pairwise.nil⟩
theorem RowsO.ext (h : RowsO s w rs) (x : Ext w w') : RowsO s w' rs := ⟨fun r hr => (h.fr r hr).ext' x, h.sep⟩
theorem RowsO.mono (h : RowsO s w rs) (hs : s' ≤ s) : RowsO s' w rs := ⟨fun r hr => (h.fr r hr).mono hs, h.sep⟩
theorem RowsO.wr (h : RowsO s w rs) (k : Wrt B w w') (hb : ∀ b, BlkOf rs b → ¬ B b) : RowsO s w' rs :=
  ⟨fun r hr => (h.fr r hr).wr k fun hn b e => hb b ⟨r, hr, hn, e⟩, h.sep⟩
theorem RowsO.blk (h : RowsO s w rs) (hb : BlkOf rs b) : s ≤ b ∧ b < w.heap.size := by
  obtain ⟨r, hr, hn, e⟩ := hb
  obtain ⟨g, h1, h2, h3⟩ := (h.fr r hr).block hn
  rw [e] at h1; injection h1 with h1; subst h1
  exact ⟨h2, h3⟩
theorem RowsO.cons (h : RowsO s w rs) (x : Ext w w') (hs : s ≤ w.heap.size) (hu : Fr w.heap.size w' u xs) : RowsO s w' ((u, xs) :: rs) := by
  refine ⟨fun r hr => ?_, List.Pairwise.cons (fun r hr h1 h2 e => ?_) h.sep⟩
  · rcases List.mem_cons.1 hr with rfl | hr
    · exact hu.mono hs
    · exact (h.fr r hr).ext' x
  · obtain ⟨g, e1, g1, _⟩ := hu.block h1
    obtain ⟨k, e2, _, k1⟩ := (h.fr r hr).block h2
    rw [e1, e2] at e; injection e with e; omega
theorem RowsO.push (h : RowsO s w rs) (x : Ext w w') (hs : s ≤ w.heap.size) (hu : Fr w.heap.size w' u xs) : RowsO s w' (rs ++ [(u, xs)]) := by
  refine ⟨fun r hr => ?_, List.pairwise_append.2 ⟨h.sep, List.pairwise_singleton _ _, fun r hr q hq h1 h2 e => ?_⟩⟩
  · rcases List.mem_append.1 hr with hr | hr
    · exact (h.fr r hr).ext' x
    · rw [List.mem_singleton.1 hr]; exact hu.mono hs
  · rw [List.mem_singleton.1 hq] at h2 e
    obtain ⟨g, e1, g1, _⟩ := hu.block h2
    obtain ⟨k, e2, _, k1⟩ := (h.fr r hr).block h1
    rw [e1, e2] at e; injection e with e; omega
theorem RowsO.append (h : RowsO s w rs) (x : Ext w w') (hs : s ≤ w.heap.size) (hu : RowsO w.heap.size w' rs') : RowsO s w' (rs ++ rs') := by
  refine ⟨fun r hr => ?_, List.pairwise_append.2 ⟨h.sep, hu.sep, fun r hr q hq h1 h2 e => ?_⟩⟩
  · rcases List.mem_append.1 hr with hr | hr
    · exact (h.fr r hr).ext' x
    · exact (hu.fr r hr).mono hs
  · obtain ⟨g, e1, g1, _⟩ := (hu.fr q hq).block h2
    obtain ⟨k, e2, _, k1⟩ := (h.fr r hr).block h1
    rw [e1, e2] at e; injection e with e; omega
theorem RowsO.left (h : RowsO s w (rs ++ rs')) : RowsO s w rs := ⟨fun r hr => h.fr r (List.mem_append_left _ hr), (List.pairwise_append.1 h.sep).1⟩
theorem RowsO.right (h : RowsO s w (rs ++ rs')) : RowsO s w rs' := ⟨fun r hr => h.fr r (List.mem_append_right _ hr), (List.pairwise_append.1 h.sep).2.1⟩
end
/-! ### marks -/
/-- n numbers from k on. -/
def marks (k : Int) (n : Nat) : List Int := (List.range n).map fun i : Nat => k + (i : Int)
theorem marks_len (k : Int) (n : Nat) : (marks k n).length = n := by simp [marks]
theorem marks_getD (k : Int) {n i : Nat} (h : i < n) : (marks k n).getD i 0 = k + i := by simp [marks, h]
theorem marks_ne {k : Int} {xs : List Int} : marks k xs.length ≠ [] ↔ xs ≠ [] := by
  constructor
  · intro h e; subst e; exact h rfl
  · intro h e
    have := marks_len k xs.length
    rw [e] at this
    exact h (List.eq_nil_of_length_eq_zero this.symm)
/-- All numbers of the rows. -/
def tot : List (List Int) → Nat
  | [] => 0
  | xs :: l => xs.length + tot l
def markL (k : Int) : List (List Int) → List (List Int)
  | [] => []
  | xs :: l => marks k xs.length :: markL (k + xs.length) l
def mkR (k : Int) : List (Value × List Int) → List (Value × List Int)
  | [] => []
  | r :: l => (r.1, marks k r.2.length) :: mkR (k + r.2.length) l
theorem mkR_fst : ∀ (rs : List (Value × List Int)) (k : Int), (mkR k rs).map (·.1) = rs.map (·.1)
  | [], _ => rfl
  | r :: l, k => by simp [mkR, mkR_fst l]
theorem mkR_snd : ∀ (rs : List (Value × List Int)) (k : Int), (mkR k rs).map (·.2) = markL k (rs.map (·.2))
  | [], _ => rfl
  | r :: l, k => by simp [mkR, markL, mkR_snd l]
theorem mkR_append : ∀ (rs qs : List (Value × List Int)) (k : Int), mkR k (rs ++ qs) = mkR k rs ++ mkR (k + tot (rs.map (·.2))) qs
  | [], qs, k => by simp [mkR, tot]
  | r :: l, qs, k => by simp [mkR, tot, mkR_append l, Int.add_assoc]
theorem tot_append : ∀ (l m : List (List Int)), tot (l ++ m) = tot l + tot m
  | [], m => by simp [tot]
  | x :: l, m => by simp [tot, tot_append l, Nat.add_assoc]
theorem tot_le {n : Nat} : ∀ (l : List (List Int)), (∀ x, x ∈ l → x.length ≤ n) → tot l ≤ l.length * n
  | [], _ => by simp [tot]
  | x :: l, h => by
    have h1 := h x (List.mem_cons_self)
    have h2 := tot_le l fun y hy => h y (List.mem_cons_of_mem _ hy)
    simp only [tot, List.length_cons, Nat.add_mul, Nat.one_mul]
    omega
theorem tot_take_le : ∀ (l : List (List Int)) (k : Nat), tot (l.take k) ≤ tot l
  | [], k => by simp [tot]
  | x :: l, 0 => by simp [tot]
  | x :: l, k + 1 => by have := tot_take_le l k; simp only [List.take_succ_cons, tot]; omega
theorem tot_take_succ (l : List (List Int)) {k : Nat} (hk : k < l.length) : tot (l.take (k + 1)) = tot (l.take k) + (l.getD k []).length := by
  rw [List.take_succ_eq_append_getElem hk, tot_append]
  simp [tot, hk]
theorem markL_len : ∀ (l : List (List Int)) (k : Int), (markL k l).length = l.length
  | [], _ => rfl
  | x :: l, k => by simp [markL, markL_len l]
theorem markL_getD : ∀ (l : List (List Int)) (k : Int) (i : Nat), i < l.length → (markL k l).getD i [] = marks (k + tot (l.take i)) (l.getD i []).length
  | [], _, _, h => by simp at h
  | x :: l, k, 0, _ => by simp [markL, tot]
  | x :: l, k, i + 1, h => by
    have := markL_getD l (k + x.length) i (by simpa using h)
    simp only [markL, List.getD_cons_succ, this, List.take_succ_cons, tot]
    rw [Int.add_assoc]; simp
section
variable {s b : Nat} {w : World} {rs : List (Value × List Int)}
end
/-! ### writing one row; spines -/
/-- The cells of v hold us, in blocks apart from A. -/
def SpA (A : Nat → Prop) (w : World) (v : Value) (us : List Value) : Prop := ∃ lo hi, Sl lo hi w v us ∧ ∀ b, A b → b < lo ∨ hi ≤ b
section
variable {A B : Nat → Prop} {s b lo hi : Nat} {w w' : World} {v : Value} {us : List Value} {xss : List (List Int)} {ys : List Int} {rs pre post : List (Value × List Int)} {r : Value × List Int}
theorem SpA.wr (h : SpA A w v us) (k : Wrt B w w') (hb : ∀ b, B b → A b) : SpA A w' v us := by
  obtain ⟨lo, hi, h1, h2⟩ := h
  exact ⟨lo, hi, h1.same (k.same fun b hB => h2 b (hb b hB)), h2⟩
theorem SpA.weak {A' : Nat → Prop} (h : SpA A w v us) (hb : ∀ b, A' b → A b) : SpA A' w v us := by
  obtain ⟨lo, hi, h1, h2⟩ := h
  exact ⟨lo, hi, h1, fun b hB => h2 b (hb b hB)⟩
theorem SpA.sl (h : SpA A w v us) : Sl 0 w.heap.size w v us := by
  obtain ⟨lo, hi, h1, h2⟩ := h
  exact h1.wide
theorem nil_val {α : Type} (l : List (α × List Int)) (i : Nat) (f : α) : i < l.length ∨ ((l.map (·.1)).getD i f = f ∧ (l.map (·.2)).getD i [] = []) := by
  by_cases h : i < l.length
  · exact .inl h
  · right
    constructor
    · rw [List.getD_eq_getElem?_getD, List.getElem?_eq_none (by simp; omega)]; rfl
    · rw [List.getD_eq_getElem?_getD, List.getElem?_eq_none (by simp; omega)]; rfl
theorem RowsO.vals (h : RowsO s w rs) (hs : s ≤ w.heap.size) : RowVals s w.heap.size w (rs.map (·.1)) (rs.map (·.2)) := by
  refine ⟨by simp, fun i => ?_⟩
  rcases nil_val rs i nilv with hi | ⟨e1, e2⟩
  · have := (h.fr rs[i] (List.getElem_mem hi)).ints
    simpa [hi] using this
  · rw [e1, e2]
    exact ⟨⟨none, 0, rfl, Nat.le_refl _, by omega, fun k u hu => by simp at hu⟩⟩
theorem RowsO.rows (h : RowsO s w rs) (hs : Sl 0 w.heap.size w v (rs.map (·.1))) : Rows 0 w.heap.size w v (rs.map (·.1)) (rs.map (·.2)) := by
  refine ⟨hs, by simp, fun i => ?_⟩
  rcases nil_val rs i nilv with hi | ⟨e1, e2⟩
  · have := (h.fr rs[i] (List.getElem_mem hi)).ints.wide
    simpa [hi] using this
  · rw [e1, e2]
    exact ⟨⟨none, 0, rfl, Nat.le_refl _, by omega, fun k u hu => by simp at hu⟩⟩
/-- One row is written. -/
theorem RowsO.upd (h : RowsO s w (pre ++ r :: post)) (k : Wrt (fun b => r.2 ≠ [] ∧ r.1.ownBlock = some b) w w') (hu : Fr s w' r.1 ys) (hn : ys ≠ [] → r.2 ≠ []) : RowsO s w' (pre ++ (r.1, ys) :: post) := by
  obtain ⟨h1, h2, h3⟩ := List.pairwise_append.1 h.sep
  obtain ⟨h4, h5⟩ := List.pairwise_cons.1 h2
  refine ⟨fun q hq => ?_, List.pairwise_append.2 ⟨h1, List.pairwise_cons.2 ⟨fun q hq hy hq2 => ?_, h5⟩, fun q hq t ht hq2 ht2 => ?_⟩⟩
  · rcases List.mem_append.1 hq with hq | hq
    · exact (h.fr q (List.mem_append_left _ hq)).wr k fun hq2 b e ⟨e1, e2⟩ => h3 q hq r List.mem_cons_self hq2 e1 (by rw [e, e2])
    · rcases List.mem_cons.1 hq with rfl | hq
      · exact hu
      · exact (h.fr q (List.mem_append_right _ (List.mem_cons_of_mem _ hq))).wr k fun hq2 b e ⟨e1, e2⟩ => h4 q hq e1 hq2 (by rw [e, e2])
  · exact h4 q hq (hn hy) hq2
  · rcases List.mem_cons.1 ht with rfl | ht
    · exact h3 q hq r List.mem_cons_self hq2 (hn ht2)
    · exact h3 q hq t (List.mem_cons_of_mem _ ht) hq2 ht2
theorem blkOf_append {b : Nat} : BlkOf (pre ++ post) b ↔ BlkOf pre b ∨ BlkOf post b := by
  constructor
  · rintro ⟨q, hq, h1, h2⟩
    rcases List.mem_append.1 hq with hq | hq
    · exact .inl ⟨q, hq, h1, h2⟩
    · exact .inr ⟨q, hq, h1, h2⟩
  · rintro (⟨q, hq, h1, h2⟩ | ⟨q, hq, h1, h2⟩)
    · exact ⟨q, List.mem_append_left _ hq, h1, h2⟩
    · exact ⟨q, List.mem_append_right _ hq, h1, h2⟩
end
end Go.Pc

/-
  Lists of lists, lists of lists of lists and presentations that are the call's own, within a range of blocks.
  Conditions: none; nothing of the program stands here.
-/
namespace Go.Pc
open Go Go.RowKit
/-- A list of the call's own, in the blocks from s on, below t. -/
structure VecO (s t : Nat) (w : World) (v : Value) (xs : List Int) : Prop where
  ints : Ints s t w v xs
  fr : Fr s w v xs
  lt : xs ≠ [] → ∀ b, v.ownBlock = some b → b < t
structure MatO (s t : Nat) (w : World) (v : Value) (rs : List (Value × List Int)) : Prop where
  rows : Rows s t w v (rs.map (·.1)) (rs.map (·.2))
  own : RowsO s w rs
  lt : ∀ b, BlkOf rs b → b < t
  sp : SpA (fun b => BlkOf rs b ∨ b < s) w v (rs.map (·.1))
/-- All rows of the groups. -/
def flat (gs : List (Value × List (Value × List Int))) : List (Value × List Int) := (gs.map (·.2)).flatten
structure CubO (A : Nat → Prop) (w : World) (v : Value) (gs : List (Value × List (Value × List Int))) : Prop where
  sp0 : SpA A w v (gs.map (·.1))
  sp : ∀ q, q ∈ gs → SpA A w q.1 (q.2.map (·.1))
structure PresO (s t : Nat) (w : World) (v : Value) (p : Pr) : Prop where
  ex : ∃ vo vp vc rp gs, v = .agg #[vo, vp, vc] ∧ RowsO s w ((vo, p.ord) :: (rp ++ flat gs)) ∧ (∀ b, BlkOf ((vo, p.ord) :: (rp ++ flat gs)) b → b < t) ∧
    SpA (BlkOf ((vo, p.ord) :: (rp ++ flat gs))) w vp (rp.map (·.1)) ∧ CubO (BlkOf ((vo, p.ord) :: (rp ++ flat gs))) w vc gs ∧ p.pow = rp.map (·.2) ∧ (p.cnj = gs.map fun q => q.2.map (·.2)) ∧
    Ints s t w vo p.ord ∧ Rows s t w vp (rp.map (·.1)) (rp.map (·.2)) ∧ Rowss s t w vc (gs.map (·.1)) (gs.map fun q => q.2.map (·.1)) (gs.map fun q => q.2.map (·.2))
section
variable {A A' B : Nat → Prop} {e s t s' : Nat} {w w' : World} {v : Value} {us : List Value} {xs : List Int} {rs : List (Value × List Int)} {gs : List (Value × List (Value × List Int))} {p : Pr}
theorem VecO.ofFr (h : Fr s w v xs) : VecO s w.heap.size w v xs := ⟨h.ints, h, fun hn b e => by
  obtain ⟨g, h1, _, h3⟩ := h.block hn
  rw [e] at h1; injection h1 with h1; omega⟩
theorem VecO.wr (h : VecO s t w v xs) (k : Wrt B w w') (hb : ∀ b, B b → b < s ∨ t ≤ b) : VecO s t w' v xs :=
  ⟨h.ints.same (k.same hb), h.fr.wr k (fun hn b e hB => by
    have h1 := h.lt hn b e
    obtain ⟨g, h2, h3, _⟩ := h.fr.block hn
    rw [e] at h2; injection h2 with h2
    have := hb b hB; omega), h.lt⟩
theorem SpA.wr' (h : SpA A w v us) (k : Wrt B w w') (hs : Sl s t w v us) (hb : ∀ b, B b → b < s ∨ t ≤ b) : SpA A w' v us := by
  obtain ⟨lo, hi, h1, h2⟩ := h
  obtain ⟨X, c, rfl, hc, hm, hcell⟩ := h1.ex
  obtain ⟨X', c', hv, _, _, hcell'⟩ := hs.ex
  refine ⟨lo, hi, ⟨⟨X, c, rfl, hc, hm, fun i u hu => ?_⟩⟩, h2⟩
  obtain ⟨a, hA, e1, e2, e3⟩ := hcell i u hu
  obtain ⟨a', hA', g1, g2, g3⟩ := hcell' i u hu
  injection hv with hv _ _
  rw [hA, hA'] at hv; injection hv with hv; subst hv
  have hlt := block_lt e3
  rw [add_block] at hlt
  refine ⟨a, hA, e1, e2, ?_⟩
  rw [World.cell?_of_block (w := w) (w' := w') (by rw [add_block]; exact k.block hlt (fun hB => by have := hb _ hB; omega))]
  exact e3
theorem MatO.wr (h : MatO s t w v rs) (k : Wrt B w w') (hb : ∀ b, B b → b < s ∨ t ≤ b) : MatO s t w' v rs :=
  ⟨h.rows.same (k.same hb), h.own.wr k (fun b hR hB => by
    have h1 := h.lt b hR
    have h2 := (h.own.blk hR).1
    have := hb b hB; omega), h.lt, h.sp.wr' k h.rows.sl hb⟩
theorem MatO.lower (h : MatO s t w v rs) (hs : s' ≤ s) : MatO s' t w v rs := by
  refine ⟨h.rows.mono hs (Nat.le_refl _), h.own.mono hs, h.lt, h.sp.weak fun b hb => hb.imp id fun hb => by omega⟩
theorem MatO.sub (h : MatO s t w v rs) (hs : s' ≤ s) {t' : Nat} (ht : t ≤ t') : MatO s' t' w v rs := by
  refine ⟨h.rows.mono hs ht, h.own.mono hs, fun b hb => Nat.lt_of_lt_of_le (h.lt b hb) ht, h.sp.weak fun b hb => hb.imp id fun hb => by omega⟩
/-- Older spines, when memory has grown and more rows are there. -/
theorem SpA.grow (h : SpA A w v us) (x : Ext w w') (hA : ∀ b, A' b → A b ∨ w.heap.size ≤ b) : SpA A' w' v us := by
  obtain ⟨lo, hi, h1, h2⟩ := h
  obtain ⟨X, c, rfl, hc, hm, hcell⟩ := h1.ex
  have h3 : Sl lo (min hi w.heap.size) w (.slice X us.length c) us := ⟨⟨X, c, rfl, hc, hm, fun i u hu => by
    obtain ⟨a, hX, e1, e2, e3⟩ := hcell i u hu
    have hlt := block_lt e3
    rw [add_block] at hlt
    exact ⟨a, hX, e1, by omega, e3⟩⟩⟩
  refine ⟨lo, _, h3.same (x.same _ _), fun b hb => ?_⟩
  rcases hA b hb with hb | hb
  · have := h2 b hb; omega
  · exact .inr (by omega)
theorem OwnI.sl_in {e b lo hi : Nat} (h : OwnI e b w v xs) (hn : xs ≠ []) (k : Ints lo hi w v xs) : lo ≤ b ∧ b < hi := by
  obtain ⟨cap, cur, hv, _⟩ := h.own.ex
  obtain ⟨X, c, hv', _, _, hcell⟩ := k.sl.ex
  obtain ⟨x, l, rfl⟩ : ∃ x l, xs = x :: l := by cases xs with | nil => exact absurd rfl hn | cons x l => exact ⟨x, l, rfl⟩
  obtain ⟨a, hX, e1, e2, _⟩ := hcell 0 (.int .i64 x) (by simp)
  rw [hv] at hv'
  injection hv' with h1 _ _
  rw [hX] at h1; injection h1 with h1; subst h1
  exact ⟨e1, e2⟩
theorem MatO.ofLst {av : Nat → Prop} (h : Lst e s av w v (rs.map (·.1)) (rs.map (·.2))) (hO : RowsO s w rs) (hr : Rows s w.heap.size w v (rs.map (·.1)) (rs.map (·.2))) : MatO s w.heap.size w v rs := by
  refine ⟨hr, hO, fun b hb => (hO.blk hb).2, ?_⟩
  cases hv : v.ownBlock with
  | none =>
    rcases h.own.own.2 with ⟨rfl, h0⟩ | ⟨g, cap, cur, rfl, _⟩
    · have e0 : rs.map (·.1) = [] := List.eq_nil_of_length_eq_zero h0
      rw [e0]
      exact ⟨0, 0, ⟨⟨none, 0, rfl, Nat.le_refl _, by omega, fun k u hu => by simp at hu⟩⟩, fun b _ => .inr (Nat.zero_le _)⟩
    · cases hv
  | some k =>
    have hk := h.lt hv
    refine ⟨k, k + 1, h.own.toSlAt hv, fun b hb => ?_⟩
    rcases hb with ⟨r, hr1, hn, eb⟩ | hb
    · obtain ⟨i, hi, rfl⟩ := List.getElem_of_mem hr1
      obtain ⟨te, g, _, ho⟩ := (hO.fr _ hr1).own hn
      have hg := ho.block
      rw [eb] at hg; injection hg with hg; subst hg
      obtain ⟨lo, hi', h1, h2, h3⟩ := h.rows.at_ i
      have e1 : (rs.map (·.1)).getD i nilv = rs[i].1 := by simp [hi]
      have e2 : (rs.map (·.2)).getD i [] = rs[i].2 := by simp [hi]
      rw [e1, e2] at h1
      have h4 := ho.sl_in hn h1
      have h5 := h3 k (.inr hv)
      omega
    · omega
theorem CubO.wr (h : CubO A w v gs) (k : Wrt B w w') (hb : ∀ b, B b → A b) : CubO A w' v gs := ⟨h.sp0.wr k hb, fun q hq => (h.sp q hq).wr k hb⟩
theorem PresO.pres (h : PresO s t w v p) : Pres s t w v p := by
  obtain ⟨vo, vp, vc, rp, gs, rfl, _, _, _, _, h1, h2, h3, h4, h5⟩ := h.ex
  rw [← h1] at h4; rw [← h2] at h5
  exact ⟨⟨vo, vp, vc, _, _, _, rfl, h3, h4, h5⟩⟩
theorem PresO.wr (h : PresO s t w v p) (k : Wrt B w w') (hb : ∀ b, B b → b < s ∨ t ≤ b) : PresO s t w' v p := by
  obtain ⟨vo, vp, vc, rp, gs, rfl, hO, hl, hs, hc, h1, h2, h3, h4, h5⟩ := h.ex
  refine ⟨vo, vp, vc, rp, gs, rfl, hO.wr k (fun b hR hB => ?_), hl, hs.wr' k h4.sl hb, ⟨hc.sp0.wr' k h5.sl hb, fun q hq => ?_⟩, h1, h2, h3.same (k.same hb), h4.same (k.same hb), h5.same (k.same hb)⟩
  · have e1 := hl b hR
    have e2 := (hO.blk hR).1
    have := hb b hB; omega
  · obtain ⟨i, hi, rfl⟩ := List.getElem_of_mem hq
    have h6 := (h5.vals.at_ i).sl
    have e1 : (gs.map (·.1)).getD i nilv = gs[i].1 := by simp [hi]
    have e2 : (gs.map fun q => q.2.map (·.1)).getD i [] = gs[i].2.map (·.1) := by simp [hi]
    rw [e1, e2] at h6
    exact (hc.sp _ hq).wr' k h6 hb
theorem Blk.wr {b : Nat} {cs : List Value} (h : Blk w b cs) (k : Wrt B w w') (hb : ¬ B b) : Blk w' b cs := by
  obtain ⟨t, ht⟩ := h.ex
  exact ⟨t, by rw [k.block h.lt hb]; exact ht⟩
theorem flat_append (gs hs : List (Value × List (Value × List Int))) : flat (gs ++ hs) = flat gs ++ flat hs := by simp [flat]
theorem flat_one (q : Value × List (Value × List Int)) : flat [q] = q.2 := by simp [flat]
theorem blkOf_nil (b : Nat) : ¬ BlkOf [] b := by rintro ⟨r, hr, _⟩; cases hr
theorem blkOf_append' {rs qs : List (Value × List Int)} {b : Nat} : BlkOf (rs ++ qs) b ↔ BlkOf rs b ∨ BlkOf qs b := blkOf_append
/-- The number of a presentation's integers. -/
def totP (p : Pr) : Nat := p.ord.length + (tot p.pow + tot p.cnj.flatten)
theorem tot_flatten {n : Nat} : ∀ (l : List (List (List Int))), (∀ x, x ∈ l → x.length ≤ n ∧ ∀ y, y ∈ x → y.length ≤ n) → tot l.flatten ≤ l.length * (n * n)
  | [], _ => by simp [tot]
  | x :: l, h => by
    have h1 := h x List.mem_cons_self
    have h2 := tot_flatten l fun y hy => h y (List.mem_cons_of_mem _ hy)
    have h3 := tot_le x h1.2
    have h4 : x.length * n ≤ n * n := Nat.mul_le_mul_right _ h1.1
    simp only [List.flatten_cons, tot_append, List.length_cons, Nat.add_mul, Nat.one_mul]
    omega
end
end Go.Pc

/-
  Walks: the program's canonical sequence, and its subgroup generated by a list (canonical, generated).
  Conditions: the tails at all levels are groups.
-/
namespace Go.Proofs.Ytjljbfcdpdckeaa
open Go Go.Pc
theorem canElsF_ok {p : Pr} [hcon : ConAll p] (H : El p → Prop) (d : Nat) : SeqOk (canElsF H d) := by
  refine ⟨fun y hy => ?_, ?_⟩
  · obtain ⟨e, h1, h2, h3⟩ := canElsF_mem.1 hy
    have hc := canT_some h3
    have hl := lead_of hc.tl (by rw [hc.lead]; omega)
    rw [hl]
    exact ⟨h2, hc.lead⟩
  · unfold canElsF
    rw [List.pairwise_filterMap]
    refine List.Pairwise.imp ?_ (List.pairwise_lt_range' (s := d) (n := p.n - d))
    intro a b hab x hx y hy
    have ha := canT_some hx
    have hb := canT_some hy
    rw [lead_of ha.tl (by rw [ha.lead]; omega), lead_of hb.tl (by rw [hb.lead]; omega)]
    exact hab
end Go.Proofs.Ytjljbfcdpdckeaa

/-
  Canonical sequences: every depth of a subgroup has its element; representatives are unique; the order.
  Conditions: the tails at all levels are groups; nothing of the program stands here.
-/
namespace Go.Proofs.Ytjljbfcdpdckeaa
open Go Go.Pc
section
variable {p : Pr} [hc : ConAll p] {H : El p → Prop} {d : Nat}
theorem dep_one (hH : Pc.Sub H) (h : Dep H d) : ∃ z, H z ∧ Tl d z ∧ co z d = 1 := by
  have hd := h.lt
  obtain ⟨x, h1, h2, h3⟩ := h
  have hr := co_rng x hd
  obtain ⟨k, _, _, hk⟩ := inv_ex (hc.valid.prime d hd) ⟨by omega, hr.2⟩
  exact ⟨Grp.pwz x k, hH.pwz h1 k, h2.pwz (by omega) k, by rw [co_pwz hd h2, Int.mul_comm]; exact hk⟩
theorem can_ex (hH : Pc.Sub H) (h : Dep H d) : ∃ x, CanAt H d x := by
  have key : ∀ m e, e ≤ p.n → p.n - e = m → d < e → (∃ x, CanTo H d e x) → ∃ x, CanTo H d p.n x := by
    intro m
    induction m with
    | zero =>
      intro e h1 h2 _ h4
      obtain rfl : e = p.n := by omega
      exact h4
    | succ m ih =>
      intro e h1 h2 h3 ⟨x, h4⟩
      refine ih (e + 1) (by omega) (by omega) (by omega) ?_
      by_cases hD : Dep H e
      · obtain ⟨z, hz, hzt, hz1⟩ := dep_one hH hD
        exact ⟨_, h4.step hH h3 hD.lt hz hzt hz1⟩
      · exact ⟨x, h4.skip (.inr hD)⟩
  have hd := h.lt
  obtain ⟨z, hz, hzt, hz1⟩ := dep_one hH h
  obtain ⟨x, hx⟩ := key (p.n - (d + 1)) (d + 1) (by omega) rfl (by omega) ⟨z, hz, hzt, hz1, fun k h1 h2 _ => by omega⟩
  exact ⟨x, hx.can⟩
theorem canT_ex (hH : Pc.Sub H) (h : Dep H d) : ∃ x, canT H d = some x := by
  obtain ⟨x, hx⟩ := can_ex hH h
  exact ⟨x, canT_eq hH hx⟩
/-- The elements of a canonical sequence. -/
structure SeqEl (ys : List (El p)) : Prop where
  can : canon (Gen (fun a : El p => a ∈ ys)) = vecs ys
theorem SeqEl.eq {ys : List (El p)} (h : SeqEl ys) : ys = canElsF (Gen (fun a : El p => a ∈ ys)) 0 := by
  have := vecs_inj (h.can.symm.trans (canon_vecs _))
  rw [canElsF_zero]; exact this
theorem SeqEl.ok {ys : List (El p)} (h : SeqEl ys) : SeqOk ys := by
  have := canElsF_ok (Gen (fun a : El p => a ∈ ys)) 0
  rwa [← h.eq] at this
theorem SeqEl.len {ys : List (El p)} (h : SeqEl ys) : ys.length ≤ p.n := by
  have := canElsF_len (Gen (fun a : El p => a ∈ ys)) 0
  rwa [← h.eq] at this
theorem SeqEl.dep {ys : List (El p)} (h : SeqEl ys) {d : Nat} (hd : Dep (Gen (fun a : El p => a ∈ ys)) d) : ∃ y, y ∈ ys ∧ lead y.v = d := by
  obtain ⟨x, hx⟩ := canT_ex (Gen.sub _) hd
  have hm := canElsF_mem.2 ⟨d, Nat.zero_le _, hd.lt, hx⟩
  rw [← h.eq] at hm
  have hca := canT_some hx
  exact ⟨x, hm, lead_of hca.tl (by rw [hca.lead]; omega)⟩
theorem isSeq_iff {xss : List (List Int)} : IsSeq p xss ↔ ∃ ys : List (El p), xss = vecs ys ∧ SeqEl ys :=
  ⟨fun ⟨ys, h1, h2⟩ => ⟨ys, h1, ⟨h2.trans h1⟩⟩, fun ⟨ys, h1, h2⟩ => ⟨ys, h1, h2.can.trans h1.symm⟩⟩
variable {ys : List (El p)} {x r s : El p}
theorem RepOf.gen (h : RepOf ys x r) : Gen (fun a : El p => a ∈ ys) (x⁻¹ * r) := h.mem _ (Gen.sub _) fun y hy => .of y hy
theorem RepOf.unique (hs : SeqEl ys) (h : RepOf ys x r) (k : RepOf ys x s) : r = s := by
  refine rep_unique (Gen.sub (fun a : El p => a ∈ ys)) ?_ fun d hd => ?_
  · have h1 := (Gen.sub (fun a : El p => a ∈ ys)).mul _ _ ((Gen.sub _).inv _ h.gen) k.gen
    rwa [Grp.mul_inv_rev, Grp.inv_inv, Grp.mul_assoc, Grp.mul_inv_cancel_left] at h1
  · obtain ⟨y, hy, rfl⟩ := hs.dep hd
    rw [h.zero y hy, k.zero y hy]
/-- The order that a sequence tells. -/
def ordOf (p : Pr) (ys : List (El p)) : Int := ys.foldl (fun a y => a * p.o (lead y.v)) 1
theorem ordOf_take (ys : List (El p)) {k : Nat} (hk : k < ys.length) : ordOf p (ys.take (k + 1)) = ordOf p (ys.take k) * p.o (lead (ys[k]).v) := by
  unfold ordOf
  rw [List.take_succ_eq_append_getElem hk, List.foldl_append]; rfl
theorem ordOf_bd : ∀ k : Nat, k ≤ ys.length → (∀ y, y ∈ ys → lead y.v < p.n) → 1 ≤ ordOf p (ys.take k) ∧ ordOf p (ys.take k) ≤ (7 ^ k : Nat)
  | 0, _, _ => by simp [ordOf]
  | k + 1, hk, h => by
    have ih := ordOf_bd k (by omega) h
    have ho := hc.valid.opos (h _ (List.getElem_mem (show k < ys.length by omega)))
    rw [ordOf_take ys (by omega)]
    refine ⟨?_, ?_⟩
    · have := Int.mul_le_mul ih.1 (show (1 : Int) ≤ p.o (lead (ys[k]).v) by omega) (by omega) (by omega)
      simpa using this
    · have := Int.mul_le_mul ih.2 ho.2 (by omega) (by omega)
      rw [Nat.pow_succ]
      push_cast
      push_cast at this
      exact this
theorem ordOf_rng {k : Nat} (h6 : ys.length ≤ 6) (hk : k ≤ ys.length) (h : ∀ y, y ∈ ys → lead y.v < p.n) : 1 ≤ ordOf p (ys.take k) ∧ ordOf p (ys.take k) ≤ 117649 := by
  have h1 := ordOf_bd k hk h
  have h2 : 7 ^ k ≤ 7 ^ 6 := Nat.pow_le_pow_right (by omega) (by omega)
  refine ⟨h1.1, ?_⟩
  have h3 : ((7 ^ k : Nat) : Int) ≤ (117649 : Nat) := Int.ofNat_le.2 h2
  omega
end
end Go.Proofs.Ytjljbfcdpdckeaa

/-
  Walks: the reference's test of subgroups (l12Is, IsSubgroup).
  Conditions: stated at each theorem.
-/
namespace Go.Proofs.Ytjljbfcdpdckeaa
open Go Go.Pc
/-- The presentation is a group, and the list is the canonical sequence of a subgroup of it. -/
def IsSubP (p : Pr) (xss : List (List Int)) : Prop := ∃ h : IsGrp p, @IsSeq p ⟨h.con⟩ xss
end Go.Proofs.Ytjljbfcdpdckeaa

/-
  Answers that the program and the reference give: what they have to be, and that they are the same.
  Conditions: none.
-/
namespace Go.Proofs.Ytjljbfcdpdckeaa
open Go Go.Pc
/-- An answer with a code: under A the pair meets V, else it is z with the code 1. -/
def Ans {α : Type} (A : Prop) (V : α → Int → Prop) (z k : α) (e : Int) : Prop := (A ∧ V k e) ∨ (¬ A ∧ k = z ∧ e = 1)
theorem Ans.same {α : Type} {A : Prop} {V : α → Int → Prop} {z k k' : α} {e e' : Int} (h : Ans A V z k e) (h' : Ans A V z k' e') (hu : A → ∀ a b c d, V a c → V b d → a = b ∧ c = d) : k = k' ∧ e = e' := by
  rcases h with ⟨h1, h2⟩ | ⟨h1, h2, h3⟩ <;> rcases h' with ⟨k1, k2⟩ | ⟨k1, k2, k3⟩
  · exact hu h1 _ _ _ _ h2 k2
  · exact absurd h1 k1
  · exact absurd k1 h1
  · exact ⟨by rw [h2, k2], by rw [h3, k3]⟩
theorem bool_eq {b c : Bool} {P : Prop} (h : b = true ↔ P) (k : c = true ↔ P) : b = c := by
  have e : b = true ↔ c = true := h.trans k.symm
  cases b <;> cases c <;> simp_all
/-- The list is an element of the subgroup that the sequence tells. -/
def MemP (p : Pr) (xss : List (List Int)) (xs : List Int) : Prop := ∃ (_ : ConAll p) (ys : List (El p)) (x : El p), xss = vecs ys ∧ xs = x.v ∧ Gen (fun a : El p => a ∈ ys) x
def MemV (p : Pr) (xss : List (List Int)) (xs : List Int) (b : Bool) (e : Int) : Prop := (b = true ↔ MemP p xss xs) ∧ e = 0
theorem MemV.uniq {p : Pr} {xss : List (List Int)} {xs : List Int} (a b : Bool) (c d : Int) (h : MemV p xss xs a c) (k : MemV p xss xs b d) : a = b ∧ c = d := ⟨bool_eq h.1 k.1, by rw [h.2, k.2]⟩
def SubV (p : Pr) (xss yss : List (List Int)) (b : Bool) (e : Int) : Prop := (b = true ↔ ∀ x, x ∈ xss → MemP p yss x) ∧ e = 0
theorem SubV.uniq {p : Pr} {xss yss : List (List Int)} (a b : Bool) (c d : Int) (h : SubV p xss yss a c) (k : SubV p xss yss b d) : a = b ∧ c = d := ⟨bool_eq h.1 k.1, by rw [h.2, k.2]⟩
end Go.Proofs.Ytjljbfcdpdckeaa

/-
  Answers that are lists: representatives, subgroups.
  Conditions: none.
-/
namespace Go.Proofs.Ytjljbfcdpdckeaa
open Go Go.Pc
def RepV (p : Pr) (xss : List (List Int)) (xs r : List Int) (e : Int) : Prop := (∃ (_ : ConAll p) (ys : List (El p)) (x y : El p), xss = vecs ys ∧ xs = x.v ∧ r = y.v ∧ RepOf ys x y) ∧ e = 0
theorem RepV.uniq {p : Pr} {xss : List (List Int)} {xs : List Int} (hS : IsSubP p xss) (a b : List Int) (c d : Int) (h : RepV p xss xs a c) (k : RepV p xss xs b d) : a = b ∧ c = d := by
  obtain ⟨⟨hc, ys, x, y, h1, h2, h3, h4⟩, h5⟩ := h
  obtain ⟨⟨hc', ys', x', y', k1, k2, k3, k4⟩, k5⟩ := k
  obtain ⟨hG, hq⟩ := hS
  haveI : ConAll p := ⟨hG.con⟩
  obtain ⟨zs, hzs, hse⟩ := isSeq_iff.1 hq
  obtain rfl : ys = zs := vecs_inj (h1.symm.trans hzs)
  obtain rfl : ys' = ys := vecs_inj (k1.symm.trans hzs)
  obtain rfl : x = x' := T.ext (h2.symm.trans k2)
  exact ⟨by rw [h3, k3, RepOf.unique hse h4 k4], by rw [h5, k5]⟩
end Go.Proofs.Ytjljbfcdpdckeaa

/-
  Canonical sequences of subgroups: they generate the subgroup, their lengths tell the subgroups apart; closures under conjugation.
  Conditions: the tails at all levels are groups.
-/
namespace Go.Proofs.Ytjljbfcdpdckeaa
open Go Go.Pc Grp
section
variable {p : Pr} [hc : ConAll p] {H K : El p → Prop} {d : Nat}
theorem sub_le_of_dep (hH : Pc.Sub H) (hK : Pc.Sub K) (hle : ∀ a, H a → K a) (hd : ∀ d, Dep K d → Dep H d) : ∀ a, K a → H a := by
  have key : ∀ m d, d ≤ p.n → p.n - d = m → ∀ x, K x → Tl d x → H x := by
    intro m
    induction m with
    | zero =>
      intro d h1 h2 x hx ht
      obtain rfl : d = p.n := by omega
      rw [ht.end_]; exact hH.one
    | succ m ih =>
      intro d h1 h2 x hx ht
      by_cases h0 : co x d = 0
      · exact ih (d + 1) (by omega) (by omega) x hx (ht.succ h0)
      · have hdn : d < p.n := by omega
        obtain ⟨z, hz, hzt, hz1⟩ := dep_one hH (hd d ⟨x, hx, ht, h0⟩)
        have h3 := ih (d + 1) (by omega) (by omega) (x * Grp.pwz z (-(co x d))) (hK.mul _ _ hx (hK.pwz (hle z hz) _)) (strip_step hdn ht hzt hz1)
        exact (hH.right (hH.pwz hz _)).1 h3
  exact fun a ha => key p.n 0 (Nat.zero_le _) (by omega) a ha (Tl.zero a)
theorem canEls_mem {x : El p} : x ∈ canEls H ↔ ∃ d, d < p.n ∧ canT H d = some x := by
  rw [← canElsF_zero, canElsF_mem]
  exact ⟨fun ⟨e, _, h2, h3⟩ => ⟨e, h2, h3⟩, fun ⟨e, h2, h3⟩ => ⟨e, Nat.zero_le _, h2, h3⟩⟩
theorem gen_can (hH : Pc.Sub H) (a : El p) : Gen (fun a : El p => a ∈ canEls H) a ↔ H a := by
  have h1 : ∀ a, Gen (fun a : El p => a ∈ canEls H) a → H a := Gen.le hH fun a ha => by
    obtain ⟨d, _, h⟩ := canEls_mem.1 ha
    exact (canT_some h).mem
  refine ⟨h1 a, sub_le_of_dep (Gen.sub _) hH h1 (fun d hd => ?_) a⟩
  obtain ⟨x, hx⟩ := canT_ex hH hd
  have hca := canT_some hx
  exact ⟨x, .of _ (canEls_mem.2 ⟨d, hd.lt, hx⟩), hca.tl, by rw [hca.lead]; omega⟩
theorem gen_can_eq (hH : Pc.Sub H) : Gen (fun a : El p => a ∈ canEls H) = H := by
  funext a; exact propext (gen_can hH a)
theorem seqEl_can (hH : Pc.Sub H) : SeqEl (canEls H) := ⟨by rw [gen_can_eq hH, canon_vecs]⟩
theorem SeqEl.els {ys : List (El p)} (h : SeqEl ys) : canEls (Gen (fun a : El p => a ∈ ys)) = ys := by
  have := h.eq
  rw [canElsF_zero] at this
  exact this.symm
theorem canT_isSome (hH : Pc.Sub H) : (canT H d).isSome = true ↔ Dep H d := by
  constructor
  · intro h
    cases e : canT H d with
    | none => rw [e] at h; cases h
    | some x => exact (canT_some e).dep
  · intro h
    obtain ⟨x, hx⟩ := canT_ex hH h
    rw [hx]; rfl
theorem canEls_len : (canEls H).length = (List.range p.n).countP fun d => (canT H d).isSome := by
  unfold canEls
  rw [List.length_filterMap_eq_countP]
theorem countP_le_of {α : Type} {f g : α → Bool} : ∀ l : List α, (∀ x, x ∈ l → f x = true → g x = true) → l.countP f ≤ l.countP g
  | [], _ => Nat.le_refl _
  | x :: l, h => by
    have ih := countP_le_of l fun y hy => h y (List.mem_cons_of_mem _ hy)
    have h0 := h x List.mem_cons_self
    simp only [List.countP_cons]
    by_cases hf : f x = true
    · rw [if_pos hf, if_pos (h0 hf)]; omega
    · rw [if_neg hf]; omega
theorem countP_lt_of {α : Type} {f g : α → Bool} : ∀ l : List α, (∀ x, x ∈ l → f x = true → g x = true) → (∃ x, x ∈ l ∧ g x = true ∧ f x = false) → l.countP f < l.countP g
  | [], _, ⟨x, hx, _⟩ => by cases hx
  | x :: l, h, ⟨y, hy, hg, hf⟩ => by
    have hr : ∀ y, y ∈ l → f y = true → g y = true := fun y hy => h y (List.mem_cons_of_mem _ hy)
    have h0 := h x List.mem_cons_self
    simp only [List.countP_cons]
    rcases List.mem_cons.1 hy with rfl | hy
    · have := countP_le_of l hr
      rw [hg, hf]; simp; omega
    · have ih := countP_lt_of l hr ⟨y, hy, hg, hf⟩
      by_cases hfx : f x = true
      · rw [if_pos hfx, if_pos (h0 hfx)]; omega
      · rw [if_neg hfx]; omega
theorem can_len_le (hH : Pc.Sub H) (hK : Pc.Sub K) (hle : ∀ a, H a → K a) : (canEls H).length ≤ (canEls K).length := by
  rw [canEls_len, canEls_len]
  refine countP_le_of _ fun d _ h => ?_
  obtain ⟨x, h1, h2, h3⟩ := (canT_isSome hH).1 h
  exact (canT_isSome hK).2 ⟨x, hle x h1, h2, h3⟩
theorem same_of_len (hH : Pc.Sub H) (hK : Pc.Sub K) (hle : ∀ a, H a → K a) (hl : (canEls K).length ≤ (canEls H).length) : ∀ a, K a → H a := by
  refine sub_le_of_dep hH hK hle fun d hd => ?_
  by_cases hn : Dep H d
  · exact hn
  exfalso
  rw [canEls_len, canEls_len] at hl
  have := countP_lt_of (f := fun d => (canT H d).isSome) (g := fun d => (canT K d).isSome) (List.range p.n) (fun e _ h => by
    obtain ⟨x, h1, h2, h3⟩ := (canT_isSome hH).1 h
    exact (canT_isSome hK).2 ⟨x, hle x h1, h2, h3⟩) ⟨d, List.mem_range.2 hd.lt, (canT_isSome hK).2 hd, by
      cases e : (canT H d).isSome with
      | false => rfl
      | true => exact absurd ((canT_isSome hH).1 e) hn⟩
  omega
/-- The smallest subgroup that contains S and is closed under conjugation by the elements of B. -/
inductive Clo {G : Type} [Grp G] (S B : G → Prop) : G → Prop
  | of (a : G) : S a → Clo S B a
  | one : Clo S B 1
  | mul (a b : G) : Clo S B a → Clo S B b → Clo S B (a * b)
  | inv (a : G) : Clo S B a → Clo S B a⁻¹
  | cj (a b : G) : Clo S B a → B b → Clo S B (Grp.cj a b)
theorem Clo.sub {G : Type} [Grp G] (S B : G → Prop) : Pc.Sub (Clo S B) := ⟨.one, fun _ _ => .mul _ _, fun _ => .inv _⟩
theorem Clo.le {G : Type} [Grp G] {S B K : G → Prop} (hK : Pc.Sub K) (h : ∀ a, S a → K a) (hcj : ∀ a b, K a → B b → K (Grp.cj a b)) : ∀ a, Clo S B a → K a := by
  intro a ha
  induction ha with
  | of a ha => exact h a ha
  | one => exact hK.one
  | mul a b _ _ i1 i2 => exact hK.mul _ _ i1 i2
  | inv a _ i1 => exact hK.inv _ i1
  | cj a b _ hb i1 => exact hcj _ _ i1 hb
/-- The commutators of two lists. -/
noncomputable def commsL2 (ys zs : List (El p)) : List (El p) := ys.flatMap fun y => zs.map (Grp.cm y)
noncomputable def CommC (ys zs : List (El p)) : El p → Prop := Clo (fun a : El p => a ∈ commsL2 ys zs) (fun a : El p => a ∈ ys ++ zs)
end
end Go.Proofs.Ytjljbfcdpdckeaa

/-
  Walks: the reference's depth, order, table, reduction, representative and membership (l02Lead, l12Depth, l12Order).
  Conditions: stated at each theorem.
-/
namespace Go.Proofs.Ytjljbfcdpdckeaa
open Go Go.Pc
/-- The order of a list that is a sequence. -/
def ordOfL (p : Pr) (xss : List (List Int)) : Int := xss.foldl (fun a x => a * p.o (lead x)) 1
/-- The answer of SubgroupOrder. -/
def OrdAns (p : Pr) (xss : List (List Int)) (k e : Int) : Prop := (IsSubP p xss ∧ k = ordOfL p xss ∧ e = 0) ∨ (¬ IsSubP p xss ∧ k = 0 ∧ e = 1)
theorem OrdAns.same {p : Pr} {xss : List (List Int)} {k e k' e' : Int} (h : OrdAns p xss k e) (h' : OrdAns p xss k' e') : k' = k ∧ e' = e := by
  rcases h with ⟨h1, h2, h3⟩ | ⟨h1, h2, h3⟩ <;> rcases h' with ⟨k1, k2, k3⟩ | ⟨k1, k2, k3⟩
  · exact ⟨by rw [h2, k2], by rw [h3, k3]⟩
  · exact absurd h1 k1
  · exact absurd k1 h1
  · exact ⟨by rw [h2, k2], by rw [h3, k3]⟩
end Go.Proofs.Ytjljbfcdpdckeaa

/-
  More rules: a slice value stored in a drawn region; a slice of two values.
  Conditions: none; nothing of the program stands here.
-/
namespace Go.Pc
open Go Go.RowKit
theorem Ints.nilR (lo hi : Nat) (w : World) : Ints lo hi w nilv [] := ⟨⟨none, 0, rfl, Nat.le_refl _, by omega, fun k u hu => by simp at hu⟩⟩
theorem Fr.nilR (s : Nat) (w : World) : Fr s w nilv [] := ⟨Ints.nilR _ _ _, fun h => absurd rfl h⟩
theorem Rows.nilR (lo hi : Nat) (w : World) : Rows lo hi w nilv [] [] := ⟨⟨none, 0, rfl, Nat.le_refl _, by omega, fun k u hu => by simp at hu⟩, rfl, fun j => by simpa using Ints.nilR lo hi w⟩
theorem MatO.nilR (s t : Nat) (w : World) : MatO s t w nilv [] := ⟨Rows.nilR _ _ _, RowsO.nil _ _, fun b hb => absurd hb (blkOf_nil b), ⟨0, 0, ⟨none, 0, rfl, Nat.le_refl _, by omega, fun k u hu => by simp at hu⟩, fun b _ => .inr (Nat.zero_le _)⟩⟩
section
variable {P : Program} {N : Nat} {ops : Array Oper} {π : List Nat} {K : Env → World → Prop} {ρ : Env} {w w0 : World} {l : List Oper}
variable {i : Nat} {ty : TypeId} {pos : String} {after : Array Edge} {g : Option (Nat × Bool)} {d : Nat}
theorem z_store_val {e b t m bytes : Nat} {x y : Operand} {v u z : Value} {us : List Value} [he : ElT P t 1 bytes z] [h : Own e b w v us] (hi : opAt ops π i = some ⟨none, .store t x y, ty, pos, after, g⟩ := by exact rfl) (hx : ev ρ x = eptr v m) (hy : ev ρ y = u) (hu : u.oneCell' = true) (hm : m < us.length)
    (next : ∀ w', Chg b w w' → w'.heap.size = w.heap.size → Own e b w' v (us.set m u) → dops P N ops π (Chg b w0) K (i + 1) ρ w')
    (hn : nextOk ops π i = true := by decide +kernel) (hg : Wants ops ρ g := by first | exact True.intro | exact ⟨_, rfl, by ((try simp only [ev_tmp, ev_const, ev_func, get_put, get_args, get_putL, get_putL_nil, Nat.reduceEqDiff, reduceIte, List.getD_cons_zero, List.getD_cons_succ, List.getD_nil, Bool.not_true, Bool.not_false]); first | done | with_reducible rfl)⟩) : dops P N ops π (Chg b w0) K i ρ w := by
  have hs := setCell_own h (m := m) u
  exact z_wr hi hn hg (wr_store (P := P) (ρ := ρ) (ty := ty) (t := t) (h := h) hx hy hu hm) (fun h => h.trans hs.2.1) (next _ hs.2.1 hs.2.2 hs.1)
end
end Go.Pc

/-
  Lists that grow by one row, or by one number, at a time: 'out = append(out, x)'.
  Conditions: none; nothing of the program stands here.
-/
namespace Go.Pc
open Go Go.RowKit
/-- What one append has done. -/
structure GStep (w w' : World) (v v' : Value) : Prop where
  ex : ∃ w2, Ext w w2 ∧ w2.grownBy w' v.ownBlock ∧ (v'.ownBlock = v.ownBlock ∨ v'.ownBlock = some w2.heap.size)
theorem IntsAp.gstep {w w' : World} {v v' u : Value} {xs : List Int} (h : IntsAp (fun g => v.ownBlock = some g) w u xs) (k : GStep w w' v v') : IntsAp (fun g => v'.ownBlock = some g) w' u xs := by
  obtain ⟨w2, x, hg, hv⟩ := k.ex
  exact (h.ext x).beside hg (fun g e => e) fun g hg' => by
    rcases hv with e | e
    · rw [e] at hg'; exact .inl hg'
    · rw [e] at hg'; injection hg' with hg'; exact .inr hg'.symm
structure GrowL (e s : Nat) (w : World) (v : Value) (rs : List (Value × List Int)) : Prop where
  lst : Lst e s (· < s) w v (rs.map (·.1)) (rs.map (·.2))
  own : RowsO s w rs
class GrowI (e s : outParam Nat) (w : World) (v : Value) (xs : outParam (List Int)) : Prop where
  own : OwnN e s w v (xs.map (Value.int .i64))
section
variable {av : Nat → Prop} {e s : Nat} {w w' w0 w1 w2 w3 : World} {v v' u : Value} {xs : List Int} {rs : List (Value × List Int)}
theorem Lst.off (h : Lst e s av w v (rs.map (·.1)) (rs.map (·.2))) (hO : RowsO s w rs) {b : Nat} (hb : BlkOf rs b) : v.ownBlock ≠ some b := by
  intro hv
  obtain ⟨r, hr1, hn, eb⟩ := hb
  obtain ⟨i, hi, rfl⟩ := List.getElem_of_mem hr1
  obtain ⟨te, g, _, ho⟩ := (hO.fr _ hr1).own hn
  have hg := ho.block
  rw [eb] at hg; injection hg with hg; subst hg
  obtain ⟨lo, hi', h1, h2, h3⟩ := h.rows.at_ i
  have e1 : (rs.map (·.1)).getD i nilv = rs[i].1 := by simp [hi]
  have e2 : (rs.map (·.2)).getD i [] = rs[i].2 := by simp [hi]
  rw [e1, e2] at h1
  have h4 := ho.sl_in hn h1
  have h5 := h3 b (.inr hv)
  omega
theorem Wrt.grown {ob : Option Nat} (h : w.grownBy w' ob) : Wrt (fun b => ob = some b) w w' := by
  cases ob with
  | none =>
    exact .ofExt ⟨(Below.refl _ _).grown h (Nat.le_refl _) (fun k hk => by cases hk)⟩
  | some b => exact .one rfl ⟨h⟩
theorem GrowL.nil (e s : Nat) (w : World) (hs : s ≤ w.heap.size) : GrowL e s w nilv [] := ⟨Lst.nil _ _ _ (fun g hg => by omega), RowsO.nil _ _⟩
theorem GrowL.start {b : Nat} (h : Own e b w v []) (hb : s ≤ b) : GrowL e s w v [] := ⟨Lst.start h hb (by omega) (fun g hg => by have := h.lt; omega), RowsO.nil _ _⟩
theorem GrowL.ext (h : GrowL e s w v rs) (x : Ext w w') : GrowL e s w' v rs := ⟨h.lst.ext x, h.own.ext x⟩
theorem GrowL.rows (h : GrowL e s w v rs) : Rows s w.heap.size w v (rs.map (·.1)) (rs.map (·.2)) := h.lst.newRows
theorem GrowL.mat (h : GrowL e s w v rs) : MatO s w.heap.size w v rs := MatO.ofLst h.lst h.own h.lst.newRows
theorem GrowL.push (h : GrowL e s w0 v rs) (x01 : Ext w0 w1) (hu : Fr w0.heap.size w1 u xs) (hs : s ≤ w0.heap.size) (x12 : Ext w1 w2)
    (ho : OwnN e s w3 v' (rs.map (·.1) ++ [u])) (hg : w2.grownBy w3 v.ownBlock) (hv : v'.ownBlock = v.ownBlock ∨ v'.ownBlock = some w2.heap.size) : GrowL e s w3 v' (rs ++ [(u, xs)]) := by
  have h1 := (h.lst.ext (x01.trans x12)).push (IntsAp.ofFr (hu.ext' x12) (fun g hg => by
    rcases hg with hg | hg
    · omega
    · exact (h.lst.lt hg).2)) ho hg hv
  have h2 := (h.own.push x01 hs hu).ext x12
  refine ⟨by simpa using h1, h2.wr (Wrt.grown hg) fun b hb hB => ?_⟩
  rcases blkOf_append'.1 hb with hb | ⟨r, hr, hn, eb⟩
  · exact h.lst.off h.own hb hB
  · obtain rfl := List.mem_singleton.1 hr
    obtain ⟨g, e1, e2, _⟩ := hu.block hn
    rw [eb] at e1; injection e1 with e1
    have := (h.lst.lt hB).2
    omega
theorem GrowI.nil (e s : Nat) (w : World) : GrowI e s w nilv [] := ⟨OwnN.nil _ _ _⟩
theorem GrowI.start {b : Nat} (h : Own e b w v []) (hb : s ≤ b) : GrowI e s w v [] := ⟨h.toN.mono hb⟩
instance (priority := low) GrowI.ext [x : Ext w w'] [h : GrowI e s w v xs] : GrowI e s w' v xs := ⟨@OwnN.ext _ _ _ _ _ _ x h.own⟩
theorem GrowI.fr (h : GrowI e s w v xs) : Fr s w v xs := h.own.toFr
end
section
variable {P : Program} {N : Nat} {ops : Array Oper} {π : List Nat} {K : Env → World → Prop} {ρ : Env} {w w0 w1 w00 : World} {l : List Oper}
variable {i : Nat} {ty ty2 : TypeId} {pos pos2 : String} {after after2 : Array Edge} {g g2 : Option (Nat × Bool)} {d d2 : Nat}
theorem st_grow {s x : Operand} {t e bytes sb : Nat} {z v u : Value} {xs : List Int} {rs : List (Value × List Int)} [ht : SlT P t e] [he : ElT P e 1 bytes z] (hG : GrowL e sb w0 v rs) (x01 : Ext w0 w1) (hu : Fr w0.heap.size w1 u xs) (hs0 : sb ≤ w0.heap.size)
    (hn : rs.length ≤ 1000000) (next : ∀ v1 v' w', GrowL e sb w' v' (rs ++ [(u, xs)]) → (∀ wb, Ext wb w1 → wb.heap.size ≤ sb → Ext wb w') → w1.heap.size ≤ w'.heap.size → GStep w1 w' v v' → rops P N ops K l (put (put ρ d v1) d2 v') w')
    (hx : ev ρ x = u := by ((try simp only [ev_tmp, ev_const, ev_func, get_put, get_args, get_putL, get_putL_nil, Nat.reduceEqDiff, reduceIte, List.getD_cons_zero, List.getD_cons_succ, List.getD_nil]); first | done | with_reducible rfl)) (hs : ∀ v1, ev (put ρ d v1) s = v := by intro v1; ((try simp only [ev_tmp, ev_const, ev_func, get_put, get_args, get_putL, get_putL_nil, Nat.reduceEqDiff, reduceIte, List.getD_cons_zero, List.getD_cons_succ, List.getD_nil]); first | done | with_reducible rfl)) (hd : ∀ v1, ev (put ρ d v1) (.tmp d) = v1 := by intro v1; ((try simp only [ev_tmp, ev_const, ev_func, get_put, get_args, get_putL, get_putL_nil, Nat.reduceEqDiff, reduceIte, List.getD_cons_zero, List.getD_cons_succ, List.getD_nil]); first | done | with_reducible rfl)) (hz : z.cells = #[z] := by rfl) (hby : bytes ≤ 100 := by decide) (hg1 : Wants ops ρ g := by first | exact True.intro | exact ⟨_, rfl, by ((try simp only [ev_tmp, ev_const, ev_func, get_put, get_args, get_putL, get_putL_nil, Nat.reduceEqDiff, reduceIte, List.getD_cons_zero, List.getD_cons_succ, List.getD_nil, Bool.not_true, Bool.not_false]); first | done | with_reducible rfl)⟩) (hg2 : ∀ v1, Wants ops (put ρ d v1) g2 := by intro v1; first | exact True.intro | exact ⟨_, rfl, by ((try simp only [ev_tmp, ev_const, ev_func, get_put, get_args, get_putL, get_putL_nil, Nat.reduceEqDiff, reduceIte, List.getD_cons_zero, List.getD_cons_succ, List.getD_nil, Bool.not_true, Bool.not_false]); first | done | with_reducible rfl)⟩) :
    rops P N ops K (⟨some d, .buildSlice t 1 #[(0, x)], ty, pos, after, g⟩ :: ⟨some d2, .call { callee := .builtin .append, args := #[s, .tmp d], argTypes := #[t, t] }, ty2, pos2, after2, g2⟩ :: l) ρ w1 := by
  refine st_slice1 (u := u) hx hu.ints.sl.cells hz hg1 fun w2 v2 he2 hs2 ho2 => ?_
  have hO := (hG.lst.ext (x01.trans he2)).own
  have hz1 := x01.size
  have hz2 := he2.size
  have hb : (rs.length + 1) * bytes ≤ 1000001 * 100 := Nat.mul_le_mul (by omega) hby
  refine st_append (hv := hO) (hy := ho2) (hs v2) (hd v2) (by rw [hz]; rfl) ?_ ?_ ?_ ?_ (hg2 v2) fun v3 w3 ho3 hg3 ha3 => ?_
  · intro a ha
    rw [List.mem_singleton.1 ha]; exact hu.ints.sl.one
  · simp only [List.length_map, List.length_singleton]; omega
  · simp only [List.length_map, List.length_singleton, maxLen]; omega
  · omega
  · exact next v2 v3 w3 (hG.push x01 hu hs0 he2 ho3 hg3 ha3) (fun wb hb1 hb2 => (hb1.trans he2).app hg3 (fun k hk => by have := (hG.lst.lt hk).1; omega)) (Nat.le_trans hz2 hg3.size) ⟨w2, he2, hg3, ha3⟩
end
end Go.Pc

/-
  Walk: the reference's copy of a list of lists, as the call's own (l01Own2).
  Conditions: stated at the theorem.
-/
namespace Go.Proofs.Ytjljbfcdpdckeaa
open Go Go.Pc
end Go.Proofs.Ytjljbfcdpdckeaa

/-
  Walks: the reference's table, reduction, representative and membership (l12Table, l12Reduce, l12Sift, l12Has).
  Conditions: the tails at all levels are groups; the list is a sequence.
-/
namespace Go.Proofs.Ytjljbfcdpdckeaa
open Go Go.Pc
end Go.Proofs.Ytjljbfcdpdckeaa

/-
  Walks: the reference's table, representative and membership (l12Table, l12Sift, l12Has, l12Within).
  Conditions: the tails at all levels are groups; the list is a sequence.
-/
namespace Go.Proofs.Ytjljbfcdpdckeaa
open Go Go.Pc
end Go.Proofs.Ytjljbfcdpdckeaa

/-
  Walks: the reference's conjugates, conjugate subgroups, closures under conjugation, normality (l10Conj, l13Conj, l12Whole, l13Stable, l13Normal).
  Conditions: the tails at all levels are groups; the lists are those told.
-/
namespace Go.Proofs.Ytjljbfcdpdckeaa
open Go Go.Pc
set_option maxHeartbeats 1000000 in
theorem l10Conj_ok {p : Pr} [hc : ConAll p] {w : World} {vp vx vy : Value} {x y : El p} {xs ys : List Int} {lo hi lo1 hi1 lo2 hi2 : Nat} [hp : Pres lo hi w vp p] [hx : Ints lo1 hi1 w vx xs] [hy : Ints lo2 hi2 w vy ys] (hxe : xs = x.v) (hye : ys = y.v) :
    Calls Try.prog 93 #[vp, vx, vy] w (Ret fun v w' => Ext w w' ∧ Fr w.heap.size w' v (Grp.cj x y).v) := by
  obtain ⟨vo, vpw, vc, ps, cs, css, rfl, h1, h2, h3⟩ := hp.ex
  refine enter (args := [.agg #[vo, vpw, vc], vx, vy]) (l := [.tmp 6]) Try.func93 rfl rfl Try.ntmps93 (by simp) ?_
  refine go ?_
  refine st_box3 (by ((try simp only [ev_tmp, ev_const, ev_func, get_put, get_args, get_putL, get_putL_nil, Nat.reduceEqDiff, reduceIte, List.getD_cons_zero, List.getD_cons_succ, List.getD_nil]); first | done | with_reducible rfl)) (by first | exact True.intro | exact ⟨_, rfl, by ((try simp only [ev_tmp, ev_const, ev_func, get_put, get_args, get_putL, get_putL_nil, Nat.reduceEqDiff, reduceIte, List.getD_cons_zero, List.getD_cons_succ, List.getD_nil, Bool.not_true, Bool.not_false]); first | done | with_reducible rfl)⟩) fun w1 b he1 hb1 hs1 hc0 hc1 hc2 => ?_
  refine go ?_
  refine d_order [0, 1, 2, 4, 5, 6, 3, 7, 8, 9] (h := fun w2 he2 _ => ?_)
  refine dgo ?_
  refine dce (l10Inv_ok (p := p) hye) (next := fun v4 w4 h4 => ?_)
  obtain ⟨he4, hf4⟩ := h4
  refine dce (l08Mul_ok (p := p) hxe hye) (next := fun v5 w5 h5 => ?_)
  obtain ⟨he5, hf5⟩ := h5
  refine dce (l08Mul_ok (p := p) (x := y⁻¹) (y := x * y) (xs := (y⁻¹).v) (ys := (x * y).v) rfl rfl) (next := fun v6 w6 h6 => ?_)
  obtain ⟨he6, hf6⟩ := h6
  refine dgo ?_
  refine d_end (h := ?_)
  refine go ?_
  have hE := ((he1.trans he2).trans he4).trans he5
  exact ret1 ⟨hE.trans he6, hf6.mono hE.size⟩
/-- The generators. -/
noncomputable def gensL (p : Pr) [ConAll p] : List (El p) := (List.range p.n).map (gOf p 0)
theorem gOf_val {p : Pr} [hc : ConAll p] {i : Nat} (hi : i < p.n) : (gOf p 0 i : El p).v = unitv p i 1 := by
  rw [gOf_eq (h := hc.con 0) ⟨Nat.zero_le _, hi⟩]; rfl
theorem gensL_len (p : Pr) [ConAll p] : (gensL p).length = p.n := by simp [gensL]
end Go.Proofs.Ytjljbfcdpdckeaa

/-
  Answers: generated subgroups, conjugate subgroups, normality, indices, depths.
  Conditions: none.
-/
namespace Go.Proofs.Ytjljbfcdpdckeaa
open Go Go.Pc
def GrpL (p : Pr) (xss : List (List Int)) : Prop := IsGrp p ∧ ∀ i, i < xss.length → InR p (xss.getD i [])
def GenV (p : Pr) (xss r : List (List Int)) (e : Int) : Prop := (24 < xss.length ∧ r = [] ∧ e = 3) ∨ (xss.length ≤ 24 ∧ (∃ (_ : ConAll p) (ys : List (El p)), xss = vecs ys ∧ r = canon (Gen (fun a : El p => a ∈ ys))) ∧ e = 0)
theorem GenV.uniq {p : Pr} {xss : List (List Int)} (a b : List (List Int)) (c d : Int) (h : GenV p xss a c) (k : GenV p xss b d) : a = b ∧ c = d := by
  rcases h with ⟨h1, h2, h3⟩ | ⟨h1, ⟨hc, ys, h2, h3⟩, h4⟩ <;> rcases k with ⟨k1, k2, k3⟩ | ⟨k1, ⟨hc', ys', k2, k3⟩, k4⟩
  · exact ⟨by rw [h2, k2], by rw [h3, k3]⟩
  · omega
  · omega
  · obtain rfl := vecs_inj (h2.symm.trans k2)
    exact ⟨by rw [h3, k3], by rw [h4, k4]⟩
def ConjV (p : Pr) (xss : List (List Int)) (xs : List Int) (r : List (List Int)) (e : Int) : Prop := (∃ (_ : ConAll p) (ys : List (El p)) (x : El p), xss = vecs ys ∧ xs = x.v ∧ r = canon (Gen (fun a : El p => a ∈ ys.map (Grp.cj · x)))) ∧ e = 0
theorem ConjV.uniq {p : Pr} {xss : List (List Int)} {xs : List Int} (a b : List (List Int)) (c d : Int) (h : ConjV p xss xs a c) (k : ConjV p xss xs b d) : a = b ∧ c = d := by
  obtain ⟨⟨hc, ys, x, h2, h3, h4⟩, h5⟩ := h
  obtain ⟨⟨hc', ys', x', k2, k3, k4⟩, k5⟩ := k
  obtain rfl := vecs_inj (h2.symm.trans k2)
  obtain rfl : x = x' := T.ext (h3.symm.trans k3)
  exact ⟨by rw [h4, k4], by rw [h5, k5]⟩
/-- The subgroup is normal. -/
def NormP (p : Pr) (xss : List (List Int)) : Prop := ∃ (_ : ConAll p) (ys : List (El p)), xss = vecs ys ∧ ∀ y, y ∈ ys → ∀ g, g ∈ gensL p → Gen (fun a : El p => a ∈ ys) (Grp.cj y g)
def NormV (p : Pr) (xss : List (List Int)) (b : Bool) (e : Int) : Prop := (b = true ↔ NormP p xss) ∧ e = 0
theorem NormV.uniq {p : Pr} {xss : List (List Int)} (a b : Bool) (c d : Int) (h : NormV p xss a c) (k : NormV p xss b d) : a = b ∧ c = d := ⟨bool_eq h.1 k.1, by rw [h.2, k.2]⟩
/-- The index of a subgroup. -/
def IdxV (p : Pr) (xss yss : List (List Int)) (k e : Int) : Prop := ((∀ x, x ∈ yss → MemP p xss x) ∧ k = ordOfL p xss / ordOfL p yss ∧ e = 0) ∨ (¬ (∀ x, x ∈ yss → MemP p xss x) ∧ k = 0 ∧ e = 5)
theorem IdxV.uniq {p : Pr} {xss yss : List (List Int)} (a b c d : Int) (h : IdxV p xss yss a c) (k : IdxV p xss yss b d) : a = b ∧ c = d := by
  rcases h with ⟨h1, h2, h3⟩ | ⟨h1, h2, h3⟩ <;> rcases k with ⟨k1, k2, k3⟩ | ⟨k1, k2, k3⟩
  · exact ⟨by rw [h2, k2], by rw [h3, k3]⟩
  · exact absurd h1 k1
  · exact absurd k1 h1
  · exact ⟨by rw [h2, k2], by rw [h3, k3]⟩
def DepV (xss : List (List Int)) (r : List Int) (e : Int) : Prop := r = xss.map (fun x => (lead x : Int)) ∧ e = 0
theorem DepV.uniq {xss : List (List Int)} (a b : List Int) (c d : Int) (h : DepV xss a c) (k : DepV xss b d) : a = b ∧ c = d := ⟨by rw [h.1, k.1], by rw [h.2, k.2]⟩
end Go.Proofs.Ytjljbfcdpdckeaa

/-
  Answers: coset numbers, elements and exponents of subgroups.
  Conditions: none.
-/
namespace Go.Proofs.Ytjljbfcdpdckeaa
open Go Go.Pc
section
variable {p : Pr}
/-- The places that are no depths of the elements. -/
def freeL (p : Pr) (ys : List (El p)) (k : Nat) : List Nat := (List.range k).filter fun d => ys.all fun y => decide (lead y.v ≠ d)
abbrev ints (l : List Nat) : List Int := l.map fun d : Nat => (d : Int)
theorem freeL_lt {ys : List (El p)} {k d : Nat} (h : d ∈ freeL p ys k) : d < k := List.mem_range.1 (List.mem_filter.1 h).1
theorem freeL_yes {ys : List (El p)} {k : Nat} (h : ∀ y, y ∈ ys → lead y.v ≠ k) : freeL p ys (k + 1) = freeL p ys k ++ [k] := by
  unfold freeL
  rw [List.range_succ, List.filter_append]
  congr 1
  rw [List.filter_cons_of_pos, List.filter_nil]
  simpa using h
theorem freeL_no {ys : List (El p)} {k : Nat} {y : El p} (hy : y ∈ ys) (h : lead y.v = k) : freeL p ys (k + 1) = freeL p ys k := by
  unfold freeL
  rw [List.range_succ, List.filter_append, List.filter_cons_of_neg, List.filter_nil, List.append_nil]
  simp only [List.all_eq_true, decide_eq_true_eq]
  exact fun h' => h' y hy h
/-- The number that the free places of an element tell. -/
def numF (p : Pr) (l : List Nat) (r : El p) : Int := l.foldl (fun a d => a * p.o d + co r d) 0
theorem numF_take (l : List Nat) (r : El p) {k : Nat} (hk : k < l.length) : numF p (l.take (k + 1)) r = numF p (l.take k) r * p.o l[k] + co r l[k] := by
  unfold numF
  rw [List.take_succ_eq_append_getElem hk, List.foldl_append]; rfl
theorem numF_bd (hv : Valid p) (l : List Nat) (r : El p) (hl : ∀ d, d ∈ l → d < p.n) : ∀ k, k ≤ l.length → 0 ≤ numF p (l.take k) r ∧ numF p (l.take k) r + 1 ≤ (7 ^ k : Nat)
  | 0, _ => by simp [numF]
  | k + 1, h => by
    have ih := numF_bd hv l r hl k (by omega)
    rw [numF_take l r (by omega)]
    have hd := hl _ (List.getElem_mem (show k < l.length by omega))
    have ho := hv.opos hd
    have hc := r.inr.rng _ hd
    have hc' : 0 ≤ co r l[k] ∧ co r l[k] < p.o l[k] := hc
    generalize numF p (l.take k) r = a at ih ⊢
    generalize co r l[k] = c at hc' ⊢
    generalize p.o l[k] = o at ho hc' ⊢
    have e : ((7 ^ (k + 1) : Nat) : Int) = (7 ^ k : Nat) * 7 := by rw [Nat.pow_succ]; simp
    rw [e]
    have h1 : 0 ≤ a * o := Int.mul_nonneg ih.1 (by omega)
    have h2 : a * o ≤ a * 7 := Int.mul_le_mul_of_nonneg_left ho.2 ih.1
    omega
theorem numF_rng (hv : Valid p) (l : List Nat) (r : El p) (hl : ∀ d, d ∈ l → d < p.n) (h6 : l.length ≤ 6) {k : Nat} (hk : k ≤ l.length) : 0 ≤ numF p (l.take k) r ∧ numF p (l.take k) r ≤ 117648 := by
  have h := numF_bd hv l r hl k hk
  have h2 : (7 ^ k : Nat) ≤ 7 ^ 6 := Nat.pow_le_pow_right (by omega) (by omega)
  have h3 : (7 : Nat) ^ 6 = 117649 := by decide
  omega
def NumV (p : Pr) (xss : List (List Int)) (xs : List Int) (k e : Int) : Prop := (∃ (_ : ConAll p) (ys : List (El p)) (x r : El p), xss = vecs ys ∧ xs = x.v ∧ RepOf ys x r ∧ k = numF p (freeL p ys p.n) r) ∧ e = 0
theorem NumV.uniq {xss : List (List Int)} {xs : List Int} (hS : IsSubP p xss) (a b c d : Int) (h : NumV p xss xs a c) (k : NumV p xss xs b d) : a = b ∧ c = d := by
  obtain ⟨⟨hc, ys, x, y, h1, h2, h3, h4⟩, h5⟩ := h
  obtain ⟨⟨hc', ys', x', y', k1, k2, k3, k4⟩, k5⟩ := k
  obtain ⟨hG, hq⟩ := hS
  haveI : ConAll p := ⟨hG.con⟩
  obtain ⟨zs, hzs, hse⟩ := isSeq_iff.1 hq
  obtain rfl : ys = zs := vecs_inj (h1.symm.trans hzs)
  obtain rfl : ys' = ys := vecs_inj (k1.symm.trans hzs)
  obtain rfl : x = x' := T.ext (h2.symm.trans k2)
  exact ⟨by rw [h4, k4, RepOf.unique hse h3 k3], by rw [h5, k5]⟩
end
section
variable {p : Pr} [hc : ConAll p]
/-- The product of powers of elements. -/
noncomputable def prodTo (ys : List (El p)) (as_ : List Int) : Nat → El p
  | 0 => 1
  | k + 1 => prodTo ys as_ k * Grp.pwz (ys.getD k 1) (as_.getD k 0)
/-- What is left of an element behind its first exponents. -/
noncomputable def stE (ys : List (El p)) (x : El p) : Nat → El p
  | 0 => x
  | k + 1 => Grp.pwz (ys.getD k 1) (-(co (stE ys x k) (lead (ys.getD k 1).v))) * stE ys x k
noncomputable def expsL (ys : List (El p)) (x : El p) (k : Nat) : List Int := (List.range k).map fun i => co (stE ys x i) (lead (ys.getD i 1).v)
end
/-- The exponents lie in their ranges. -/
def RangeP (p : Pr) (xss : List (List Int)) (as_ : List Int) : Prop := as_.length = xss.length ∧ ∀ i, i < xss.length → 0 ≤ as_.getD i 0 ∧ as_.getD i 0 ≤ p.o (lead (xss.getD i [])) - 1
def MeV (p : Pr) (xss : List (List Int)) (as_ r : List Int) (e : Int) : Prop := (RangeP p xss as_ ∧ (∃ (_ : ConAll p) (ys : List (El p)), xss = vecs ys ∧ r = (prodTo ys as_ ys.length).v) ∧ e = 0) ∨ (¬ RangeP p xss as_ ∧ r = [] ∧ e = 2)
theorem MeV.uniq {p : Pr} {xss : List (List Int)} {as_ : List Int} (a b : List Int) (c d : Int) (h : MeV p xss as_ a c) (k : MeV p xss as_ b d) : a = b ∧ c = d := by
  rcases h with ⟨h1, ⟨_, ys, h2, h3⟩, h4⟩ | ⟨h1, h2, h3⟩ <;> rcases k with ⟨k1, ⟨_, ys', k2, k3⟩, k4⟩ | ⟨k1, k2, k3⟩
  · obtain rfl := vecs_inj (h2.symm.trans k2)
    exact ⟨by rw [h3, k3], by rw [h4, k4]⟩
  · exact absurd h1 k1
  · exact absurd k1 h1
  · exact ⟨by rw [h2, k2], by rw [h3, k3]⟩
def MxV (p : Pr) (xss : List (List Int)) (xs r : List Int) (e : Int) : Prop := (MemP p xss xs ∧ (∃ (_ : ConAll p) (ys : List (El p)) (x : El p), xss = vecs ys ∧ xs = x.v ∧ r = expsL ys x ys.length) ∧ e = 0) ∨ (¬ MemP p xss xs ∧ r = [] ∧ e = 4)
theorem MxV.uniq {p : Pr} {xss : List (List Int)} {xs : List Int} (a b : List Int) (c d : Int) (h : MxV p xss xs a c) (k : MxV p xss xs b d) : a = b ∧ c = d := by
  rcases h with ⟨h1, ⟨_, ys, x, h2, hx, h3⟩, h4⟩ | ⟨h1, h2, h3⟩ <;> rcases k with ⟨k1, ⟨_, ys', x', k2, kx, k3⟩, k4⟩ | ⟨k1, k2, k3⟩
  · obtain rfl := vecs_inj (h2.symm.trans k2)
    obtain rfl : x = x' := T.ext (hx.symm.trans kx)
    exact ⟨by rw [h3, k3], by rw [h4, k4]⟩
  · exact absurd h1 k1
  · exact absurd k1 h1
  · exact ⟨by rw [h2, k2], by rw [h3, k3]⟩
end Go.Proofs.Ytjljbfcdpdckeaa

/-
  Digits: the element with a number along a list of places; the products of the orders; lists of all such elements.
  Conditions: none.
-/
namespace Go.Proofs.Ytjljbfcdpdckeaa
open Go Go.Pc
section
variable {p : Pr} {l : List Nat}
def elTo (p : Pr) (l : List Nat) : Nat → Int → List Int
  | 0, _ => zeros p.n
  | k + 1, t => (elTo p l k (t / p.o (l.getD k 0))).set (l.getD k 0) (t % p.o (l.getD k 0))
theorem elTo_len : ∀ (k : Nat) (t : Int), (elTo p l k t).length = p.n
  | 0, _ => zeros_len _
  | k + 1, t => by simp [elTo, elTo_len k]
theorem getD_mem {k : Nat} (hk : k < l.length) : l.getD k 0 ∈ l := by simp [hk]
theorem elTo_in (hv : Valid p) (hl : ∀ d, d ∈ l → d < p.n) : ∀ k, k ≤ l.length → ∀ t : Int, 0 ≤ t → InR p (elTo p l k t)
  | 0, _, _, _ => hv.zeros_in
  | k + 1, h, t, ht => by
    have hd := hl _ (getD_mem (show k < l.length by omega))
    have ho := hv.opos hd
    exact (elTo_in hv hl k (by omega) _ (Int.ediv_nonneg ht (by omega))).set (Int.emod_nonneg _ (by omega)) (fun _ => Int.emod_lt_of_pos _ (by omega))
def elAtT (hv : Valid p) (l : List Nat) (hl : ∀ d, d ∈ l → d < p.n) (t : Int) (ht : 0 ≤ t) : El p := ⟨elTo p l l.length t, elTo_in hv hl _ (Nat.le_refl _) t ht, fun i hi => absurd hi (Nat.not_lt_zero i)⟩
/-- The same, filled from the last place on. -/
def fillTo (p : Pr) (l : List Nat) : Nat → Int → List Int → List Int
  | 0, _, v => v
  | k + 1, t, v => fillTo p l k (t / p.o (l.getD k 0)) (v.set (l.getD k 0) (t % p.o (l.getD k 0)))
theorem fillTo_len : ∀ (k : Nat) (t : Int) (v : List Int), (fillTo p l k t v).length = v.length
  | 0, _, _ => rfl
  | k + 1, t, v => by simp [fillTo, fillTo_len k]
theorem take_mem_succ {k : Nat} (hk : k < l.length) {d : Nat} : d ∈ l.take (k + 1) ↔ d ∈ l.take k ∨ d = l.getD k 0 := by
  rw [List.take_succ_eq_append_getElem hk, List.mem_append, List.mem_singleton]; simp [hk]
theorem not_take (hn : l.Nodup) {k : Nat} (hk : k < l.length) : l.getD k 0 ∉ l.take k := by
  intro h
  have h1 : l.Nodup := hn
  rw [← List.take_append_drop k l] at h1
  have e := List.getElem_cons_drop (h := hk)
  have e2 : l.getD k 0 = l[k] := by simp [hk]
  have h2 := (List.nodup_append.1 h1).2.2 _ h (l.getD k 0) (by rw [← e, e2]; exact List.mem_cons_self)
  exact h2 rfl
theorem fillTo_getD (hn : l.Nodup) (hl : ∀ d, d ∈ l → d < p.n) : ∀ k, k ≤ l.length → ∀ (t : Int) (v : List Int), v.length = p.n → ∀ d, (fillTo p l k t v).getD d 0 = if d ∈ l.take k then (elTo p l k t).getD d 0 else v.getD d 0
  | 0, _, _, _, _, _ => by simp [fillTo]
  | k + 1, h, t, v, hv, d => by
    have hk : k < l.length := by omega
    have hdn := hl _ (getD_mem hk)
    have ih := fillTo_getD hn hl k (by omega) (t / p.o (l.getD k 0)) (v.set (l.getD k 0) (t % p.o (l.getD k 0))) (by simpa using hv) d
    show (fillTo p l k _ _).getD d 0 = _
    rw [ih]
    by_cases h1 : d ∈ l.take k
    · have hne : l.getD k 0 ≠ d := fun e => not_take hn hk (by rw [e]; exact h1)
      rw [if_pos h1, if_pos ((take_mem_succ hk).2 (.inl h1))]
      show _ = ((elTo p l k _).set _ _).getD d 0
      rw [Pc.getD_set_ne _ _ _ _ hne]
    · rw [if_neg h1]
      by_cases h2 : d = l.getD k 0
      · rw [if_pos ((take_mem_succ hk).2 (.inr h2))]
        subst h2
        show _ = ((elTo p l k _).set _ _).getD _ 0
        rw [Pc.getD_set_eq _ _ _ (by rw [hv]; exact hdn), Pc.getD_set_eq _ _ _ (by rw [elTo_len]; exact hdn)]
      · rw [if_neg (fun h3 => ((take_mem_succ hk).1 h3).elim h1 h2), Pc.getD_set_ne _ _ _ _ (Ne.symm h2)]
theorem elTo_out : ∀ (k : Nat), k ≤ l.length → ∀ (t : Int) (d : Nat), d ∉ l.take k → (elTo p l k t).getD d 0 = 0
  | 0, _, _, d, _ => zeros_getD _ _
  | k + 1, h, t, d, hd => by
    have hk : k < l.length := by omega
    have h1 : d ∉ l.take k := fun h => hd ((take_mem_succ hk).2 (.inl h))
    have h2 : l.getD k 0 ≠ d := fun e => hd ((take_mem_succ hk).2 (.inr e.symm))
    show ((elTo p l k _).set _ _).getD d 0 = 0
    rw [Pc.getD_set_ne _ _ _ _ h2]
    exact elTo_out k (by omega) _ d h1
theorem fill_eq (hn : l.Nodup) (hl : ∀ d, d ∈ l → d < p.n) (t : Int) : fillTo p l l.length t (zeros p.n) = elTo p l l.length t := by
  refine list_ext0 (by rw [fillTo_len, elTo_len, zeros_len]) fun d _ => ?_
  rw [fillTo_getD hn hl _ (Nat.le_refl _) _ _ (zeros_len _)]
  split
  · rfl
  · rename_i h
    rw [zeros_getD, elTo_out _ (Nat.le_refl _) _ _ h]
/-- The product of the orders at places. -/
def ordL (p : Pr) (l : List Nat) : Int := l.foldl (fun a d => a * p.o d) 1
theorem ordL_app (l : List Nat) (d : Nat) : ordL p (l ++ [d]) = ordL p l * p.o d := by unfold ordL; rw [List.foldl_append]; rfl
theorem ordL_take (l : List Nat) {k : Nat} (hk : k < l.length) : ordL p (l.take (k + 1)) = ordL p (l.take k) * p.o (l.getD k 0) := by
  rw [List.take_succ_eq_append_getElem hk, ordL_app]; simp [hk]
theorem ordL_bd (hv : Valid p) (hl : ∀ d, d ∈ l → d < p.n) : ∀ k, k ≤ l.length → 1 ≤ ordL p (l.take k) ∧ ordL p (l.take k) ≤ (7 ^ k : Nat)
  | 0, _ => by simp [ordL]
  | k + 1, h => by
    have ih := ordL_bd hv hl k (by omega)
    have hk : k < l.length := by omega
    rw [ordL_take l hk]
    have ho := hv.opos (hl _ (getD_mem hk))
    generalize ordL p (l.take k) = a at ih ⊢
    generalize p.o (l.getD k 0) = o at ho ⊢
    have e : ((7 ^ (k + 1) : Nat) : Int) = (7 ^ k : Nat) * 7 := by rw [Nat.pow_succ]; simp
    rw [e]
    have h1 : a * 1 ≤ a * o := Int.mul_le_mul_of_nonneg_left (by omega) (by omega)
    have h2 : a * o ≤ a * 7 := Int.mul_le_mul_of_nonneg_left ho.2 (by omega)
    omega
theorem ordL_rng (hv : Valid p) (hl : ∀ d, d ∈ l → d < p.n) (h6 : l.length ≤ 6) {k : Nat} (hk : k ≤ l.length) : 1 ≤ ordL p (l.take k) ∧ ordL p (l.take k) ≤ 117649 := by
  have h := ordL_bd hv hl k hk
  have h2 : (7 ^ k : Nat) ≤ 7 ^ 6 := Nat.pow_le_pow_right (by omega) (by omega)
  have h3 : (7 : Nat) ^ 6 = 117649 := by decide
  omega
/-- All elements with digits at the first places. -/
def trTo (p : Pr) (l : List Nat) : Nat → List (List Int)
  | 0 => [zeros p.n]
  | k + 1 => (trTo p l k).flatMap fun x => (List.range (p.o (l.getD k 0)).toNat).map fun e : Nat => x.set (l.getD k 0) (e : Int)
end
section
variable {p : Pr}
/-- The order of the group is the index times the order of the subgroup. -/
theorem ord_split [hc : ConAll p] {ys : List (El p)} (hs : SeqOk ys) : ordL p (List.range p.n) = ordL p (freeL p ys p.n) * ordOf p ys := by
  have hasc : ∀ i j (hi : i < ys.length) (hj : j < ys.length), i < j → lead (ys[i]).v < lead (ys[j]).v := fun i j hi hj hij => List.pairwise_iff_getElem.1 hs.asc i j hi hj hij
  have key : ∀ k, k ≤ p.n → ∃ j, j ≤ ys.length ∧ (∀ i (h : i < ys.length), i < j → lead (ys[i]).v < k) ∧ (∀ i (h : i < ys.length), j ≤ i → k ≤ lead (ys[i]).v) ∧ ordL p (List.range k) = ordL p (freeL p ys k) * ordOf p (ys.take j) := by
    intro k
    induction k with
    | zero => exact fun _ => ⟨0, Nat.zero_le _, fun i h hi => absurd hi (Nat.not_lt_zero _), fun i h _ => Nat.zero_le _, by simp [ordL, freeL, ordOf]⟩
    | succ k ih =>
      intro hk
      obtain ⟨j, h1, h2, h3, h4⟩ := ih (by omega)
      have e0 : ordL p (List.range (k + 1)) = ordL p (List.range k) * p.o k := by rw [List.range_succ, ordL_app]
      by_cases hj : ∃ h : j < ys.length, lead (ys[j]).v = k
      · obtain ⟨hjl, hjk⟩ := hj
        refine ⟨j + 1, hjl, fun i h hi => ?_, fun i h hi => ?_, ?_⟩
        · by_cases e : i = j
          · subst e; omega
          · have := h2 i h (by omega); omega
        · have := hasc j i hjl h (by omega); omega
        · rw [e0, h4, freeL_no (List.getElem_mem hjl) hjk, ordOf_take ys hjl, hjk, Int.mul_assoc]
      · have hno : ∀ y, y ∈ ys → lead y.v ≠ k := fun y hy e => by
          obtain ⟨i, hi, rfl⟩ := List.getElem_of_mem hy
          by_cases h5 : i < j
          · have := h2 i hi h5; omega
          · by_cases h6 : i = j
            · subst h6; exact hj ⟨hi, e⟩
            · have h7 := h3 j (by omega) (Nat.le_refl _)
              have := hasc j i (by omega) hi (by omega)
              omega
        refine ⟨j, h1, fun i h hi => by have := h2 i h hi; omega, fun i h hi => ?_, ?_⟩
        · have h5 := h3 i h hi
          have h6 := hno _ (List.getElem_mem h)
          omega
        · rw [e0, h4, freeL_yes hno, ordL_app, Int.mul_assoc, Int.mul_assoc, Int.mul_comm (ordOf p (ys.take j))]
  obtain ⟨j, h1, h2, h3, h4⟩ := key p.n (Nat.le_refl _)
  have hj : j = ys.length := by
    by_cases h : j < ys.length
    · have h5 := h3 j h (Nat.le_refl _)
      have h6 := (hs.lead1 _ (List.getElem_mem h)).1
      omega
    · omega
  rw [h4, hj, List.take_length]
/-- The index of a subgroup in the group. -/
def idxOf (p : Pr) (ys : List (El p)) : Int := ordL p (freeL p ys p.n)
/-- The representatives of the cosets, in ascending order. -/
def transL (p : Pr) (ys : List (El p)) : List (List Int) := trTo p (freeL p ys p.n) (freeL p ys p.n).length
end
def TrV (p : Pr) (xss r : List (List Int)) (e : Int) : Prop := ∃ (_ : ConAll p) (ys : List (El p)), xss = vecs ys ∧ ((128 < idxOf p ys ∧ r = [] ∧ e = 3) ∨ (idxOf p ys ≤ 128 ∧ r = transL p ys ∧ e = 0))
theorem TrV.uniq {p : Pr} {xss : List (List Int)} (a b : List (List Int)) (c d : Int) (h : TrV p xss a c) (k : TrV p xss b d) : a = b ∧ c = d := by
  obtain ⟨_, ys, h1, h2⟩ := h
  obtain ⟨_, ys', k1, k2⟩ := k
  obtain rfl := vecs_inj (h1.symm.trans k1)
  rcases h2 with ⟨h3, h4, h5⟩ | ⟨h3, h4, h5⟩ <;> rcases k2 with ⟨k3, k4, k5⟩ | ⟨k3, k4, k5⟩
  · exact ⟨by rw [h4, k4], by rw [h5, k5]⟩
  · omega
  · omega
  · exact ⟨by rw [h4, k4], by rw [h5, k5]⟩
end Go.Proofs.Ytjljbfcdpdckeaa

/-
  All elements of a group, by their numbers; elements whose commutators with the generators lie in a subgroup.
  Conditions: the tails at all levels are groups.
-/
namespace Go.Proofs.Ytjljbfcdpdckeaa
open Go Go.Pc
section
variable {p : Pr}
theorem numF_lt (hv : Valid p) (l : List Nat) (hl : ∀ d, d ∈ l → d < p.n) (x : El p) : ∀ k, k ≤ l.length → 0 ≤ numF p (l.take k) x ∧ numF p (l.take k) x + 1 ≤ ordL p (l.take k)
  | 0, _ => by simp [numF, ordL]
  | k + 1, h => by
    have ih := numF_lt hv l hl x k (by omega)
    have hk : k < l.length := by omega
    have hd := hl _ (List.getElem_mem hk)
    have ho := hv.opos hd
    have hc : 0 ≤ co x l[k] ∧ co x l[k] < p.o l[k] := x.inr.rng _ hd
    rw [numF_take l x hk, ordL_take l hk, show l.getD k 0 = l[k] by simp [hk]]
    generalize numF p (l.take k) x = a at ih ⊢
    generalize ordL p (l.take k) = b at ih ⊢
    generalize co x l[k] = c at hc ⊢
    generalize p.o l[k] = o at ho hc ⊢
    have h1 : 0 ≤ a * o := Int.mul_nonneg ih.1 (by omega)
    have h2 : (a + 1) * o ≤ b * o := Int.mul_le_mul_of_nonneg_right ih.2 (by omega)
    rw [Int.add_mul, Int.one_mul] at h2
    omega
theorem elTo_num (hv : Valid p) (l : List Nat) (hn : l.Nodup) (hl : ∀ d, d ∈ l → d < p.n) (x : El p) : ∀ k, k ≤ l.length → ∀ d, d ∈ l.take k → (elTo p l k (numF p (l.take k) x)).getD d 0 = co x d
  | 0, _, d, hd => by simp at hd
  | k + 1, h, d, hd => by
    have hk : k < l.length := by omega
    have hdk := hl _ (List.getElem_mem hk)
    have ho := hv.opos hdk
    have hc : 0 ≤ co x l[k] ∧ co x l[k] < p.o l[k] := x.inr.rng _ hdk
    have hg : l.getD k 0 = l[k] := by simp [hk]
    show ((elTo p l k (numF p (l.take (k + 1)) x / p.o (l.getD k 0))).set (l.getD k 0) (numF p (l.take (k + 1)) x % p.o (l.getD k 0))).getD d 0 = co x d
    rw [numF_take l x hk, hg]
    have e1 : (numF p (l.take k) x * p.o l[k] + co x l[k]) / p.o l[k] = numF p (l.take k) x := by
      rw [Int.add_comm, Int.add_mul_ediv_right _ _ (by omega), Int.ediv_eq_zero_of_lt hc.1 hc.2, Int.zero_add]
    have e2 : (numF p (l.take k) x * p.o l[k] + co x l[k]) % p.o l[k] = co x l[k] := by
      rw [Int.add_comm, Int.add_mul_emod_self_right, Int.emod_eq_of_lt hc.1 hc.2]
    rw [e1, e2]
    by_cases h1 : l[k] = d
    · subst h1
      rw [Pc.getD_set_eq _ _ _ (by rw [elTo_len]; exact hdk)]
    · rw [Pc.getD_set_ne _ _ _ _ h1]
      have h2 : d ∈ l.take k := ((take_mem_succ hk).1 hd).resolve_right fun e => h1 (by rw [e, hg])
      exact elTo_num hv l hn hl x k (by omega) d h2
end
section
variable {p : Pr} [hc : ConAll p]
/-- The element with a number. -/
def allE (p : Pr) [hc : ConAll p] (i : Nat) : El p := elAtT hc.valid (List.range p.n) (fun _ hd => List.mem_range.1 hd) i (by omega)
theorem allE_val (i : Nat) : (allE p i).v = elTo p (List.range p.n) (List.range p.n).length (i : Int) := rfl
def ordN (p : Pr) : Nat := (ordL p (List.range p.n)).toNat
theorem allE_surj (x : El p) : ∃ i, i < ordN p ∧ x = allE p i := by
  have hv := hc.valid
  have hl : ∀ d, d ∈ List.range p.n → d < p.n := fun d hd => List.mem_range.1 hd
  have hb := numF_lt hv (List.range p.n) hl x (List.range p.n).length (Nat.le_refl _)
  have hn := elTo_num hv (List.range p.n) List.nodup_range hl x (List.range p.n).length (Nat.le_refl _)
  rw [List.take_length] at hb hn
  refine ⟨(numF p (List.range p.n) x).toNat, by unfold ordN; omega, T.ext ?_⟩
  rw [allE_val, Int.toNat_of_nonneg hb.1]
  have hxl := x.inr.len
  refine list_ext0 (by rw [elTo_len]; exact hxl) fun d hd => ?_
  rw [hn d (List.mem_range.2 (by omega))]; rfl
open Classical in
/-- The elements of a kind among the first ones. -/
noncomputable def selL (P : El p → Prop) (k : Nat) : List (El p) := ((List.range k).map (allE p)).filter fun x => decide (P x)
theorem selL_yes {P : El p → Prop} {k : Nat} (h : P (allE p k)) : selL P (k + 1) = selL P k ++ [allE p k] := by simp [selL, List.range_succ, h]
theorem selL_no {P : El p → Prop} {k : Nat} (h : ¬ P (allE p k)) : selL P (k + 1) = selL P k := by simp [selL, List.range_succ, h]
theorem selL_len (P : El p → Prop) (k : Nat) : (selL P k).length ≤ k := Nat.le_trans (List.length_filter_le _ _) (by simp)
theorem ordN_rng (p : Pr) [hc : ConAll p] : ordL p (List.range p.n) = (ordN p : Int) ∧ 1 ≤ ordN p ∧ ordN p ≤ 117649 := by
  have hv := hc.valid
  have hn6 := hv.n6
  have h := ordL_rng hv (l := List.range p.n) (fun d hd => List.mem_range.1 hd) (by simp; omega) (k := p.n) (by simp)
  rw [List.take_of_length_le (by simp)] at h
  unfold ordN
  omega
/-- The commutators with all generators lie in the subgroup. -/
def AbP (ys : List (El p)) (x : El p) : Prop := ∀ i (h : i < (gensL p).length), Gen (fun a : El p => a ∈ ys) (Grp.cm x (gensL p)[i])
end
def CtV (p : Pr) (r : List (List Int)) (e : Int) : Prop := (∃ (_ : ConAll p), r = canon (Gen (fun a : El p => AbP [] a))) ∧ e = 0
theorem CtV.uniq {p : Pr} (a b : List (List Int)) (c d : Int) (h : CtV p a c) (k : CtV p b d) : a = b ∧ c = d := by
  obtain ⟨⟨_, h1⟩, h2⟩ := h
  obtain ⟨⟨_, k1⟩, k2⟩ := k
  exact ⟨by rw [h1, k1], by rw [h2, k2]⟩
end Go.Proofs.Ytjljbfcdpdckeaa

/-
  Words over the generators, the relators of a presentation, the value of a word at some elements.
  Conditions: none.
-/
namespace Go.Proofs.Ytjljbfcdpdckeaa
open Go Go.Pc
/-- The word of the powers of the generators from i on. -/
def wordA (i : Nat) : List Int → List Int
  | [] => []
  | x :: l => List.replicate x.toNat ((i : Int) + 1) ++ wordA (i + 1) l
def wordV (e : List Int) : List Int := wordA 0 e
theorem wordA_snoc : ∀ (l : List Int) (i : Nat) (x : Int), wordA i (l ++ [x]) = wordA i l ++ List.replicate x.toNat (((i + l.length : Nat) : Int) + 1)
  | [], i, x => by simp [wordA]
  | y :: l, i, x => by
    simp only [List.cons_append, wordA, wordA_snoc l (i + 1) x, List.append_assoc, List.length_cons]
    rw [show i + 1 + l.length = i + (l.length + 1) by omega]
theorem wordV_take {e : List Int} {k : Nat} (hk : k < e.length) : wordV (e.take (k + 1)) = wordV (e.take k) ++ List.replicate (e.getD k 0).toNat ((k : Int) + 1) := by
  rw [List.take_succ_eq_append_getElem hk]
  unfold wordV
  rw [wordA_snoc]
  have e1 : e.getD k 0 = e[k] := by simp [hk]
  have e2 : 0 + (e.take k).length = k := by simp; omega
  rw [e1, e2]
def invW (w : List Int) : List Int := (w.map fun x => -x).reverse
theorem wordA_mem : ∀ (l : List Int) (i : Nat) (a : Int), a ∈ wordA i l → (i : Int) + 1 ≤ a ∧ a ≤ (i + l.length : Nat)
  | [], i, a, h => by simp [wordA] at h
  | x :: l, i, a, h => by
    simp only [wordA, List.mem_append, List.mem_replicate] at h
    simp only [List.length_cons]
    rcases h with ⟨_, rfl⟩ | h
    · omega
    · have := wordA_mem l (i + 1) a h
      omega
/-- All letters name one of n generators. -/
def LetW (n : Nat) (w : List Int) : Prop := ∀ a, a ∈ w → a ≠ 0 ∧ -(n : Int) ≤ a ∧ a ≤ n
theorem LetW.append {n : Nat} {w v : List Int} (h : LetW n w) (k : LetW n v) : LetW n (w ++ v) := fun a ha => (List.mem_append.1 ha).elim (h a) (k a)
theorem letW_word {n : Nat} {e : List Int} (he : e.length = n) : LetW n (wordV e) := fun a ha => by
  have := wordA_mem e 0 a ha
  omega
def relP (p : Pr) (i : Nat) : List Int := List.replicate (p.o i).toNat ((i : Int) + 1) ++ invW (wordV (p.pow.getD i []))
def relC (p : Pr) (i k : Nat) : List Int := [-(i : Int) - 1, ((i + 1 + k : Nat) : Int) + 1, (i : Int) + 1] ++ invW (wordV ((p.cnj.getD i []).getD k []))
def relCs (p : Pr) (i m : Nat) : List (List Int) := (List.range m).map (relC p i)
def relL (p : Pr) (m : Nat) : List (List Int) := (List.range p.n).map (relP p) ++ (List.range m).flatMap fun i => relCs p i (p.n - 1 - i)
/-- The relators of a presentation. -/
def rels (p : Pr) : List (List Int) := relL p p.n
section
variable {p : Pr}
end
section
variable {q : Pr} [hc : ConAll q]
/-- The value of one letter. -/
noncomputable def letV (ys : List (El q)) (a : Int) : El q := if 0 < a then ys.getD (a - 1).toNat 1 else (ys.getD (-a - 1).toNat 1)⁻¹
/-- The value of a word. -/
noncomputable def evalW (ys : List (El q)) (w : List Int) : El q := w.foldl (fun a l => a * letV ys l) 1
theorem evalW_snoc (ys : List (El q)) (w : List Int) (a : Int) : evalW ys (w ++ [a]) = evalW ys w * letV ys a := by
  unfold evalW; rw [List.foldl_append]; rfl
/-- The elements meet the relators. -/
def RelOk (p : Pr) (ys : List (El q)) : Prop := ∀ k, k < (rels p).length → evalW ys ((rels p).getD k []) = 1
end
end Go.Proofs.Ytjljbfcdpdckeaa

/-
  Homomorphisms by images: words as powers, sequences of the whole group, isomorphisms.
  Conditions: none.
-/
namespace Go.Proofs.Ytjljbfcdpdckeaa
open Go Go.Pc
section
variable {p : Pr} [hc : ConAll p]
theorem evalW_from (ys : List (El p)) : ∀ (w : List Int) (a : El p), w.foldl (fun a l => a * letV ys l) a = a * evalW ys w
  | [], a => by show a = a * 1; rw [Grp.mul_one]
  | l :: w, a => by
    show w.foldl (fun a l => a * letV ys l) (a * letV ys l) = a * w.foldl (fun a l => a * letV ys l) (1 * letV ys l)
    rw [evalW_from ys w (a * letV ys l), evalW_from ys w (1 * letV ys l), Grp.one_mul, Grp.mul_assoc]
theorem evalW_append (ys : List (El p)) (w v : List Int) : evalW ys (w ++ v) = evalW ys w * evalW ys v := by
  show (w ++ v).foldl (fun a l => a * letV ys l) 1 = _
  rw [List.foldl_append, evalW_from]
  rfl
theorem evalW_rep (ys : List (El p)) (k : Nat) : ∀ m, evalW ys (List.replicate m ((k : Int) + 1)) = Grp.pw (ys.getD k 1) m
  | 0 => rfl
  | m + 1 => by
    rw [List.replicate_succ', evalW_snoc, evalW_rep ys k m, Grp.pw_succ]
    unfold letV
    rw [if_pos (by omega), show ((k : Int) + 1 - 1).toNat = k by omega]
theorem evalW_word {ys : List (El p)} {x : List Int} (h : ∀ i, i < x.length → 0 ≤ x.getD i 0) : ∀ k, k ≤ x.length → evalW ys (wordV (x.take k)) = prodTo ys x k
  | 0, _ => rfl
  | k + 1, hk => by
    rw [wordV_take hk, evalW_append, evalW_word h k (by omega), evalW_rep]
    show _ = prodTo ys x k * Grp.pwz (ys.getD k 1) (x.getD k 0)
    rw [Grp.pwz_of _ (h k hk)]
/-- The image of an element. -/
noncomputable def imgE {q : Pr} [ConAll q] (ys : List (El q)) (x : List Int) : El q := prodTo ys x ys.length
theorem free_nil_iff (ys : List (El p)) : ∀ k, freeL p ys k = [] ↔ ∀ d, d < k → ∃ y, y ∈ ys ∧ lead y.v = d
  | 0 => by simp [freeL]
  | k + 1 => by
    have ih := free_nil_iff ys k
    by_cases h : ∃ y, y ∈ ys ∧ lead y.v = k
    · obtain ⟨y, hy, e⟩ := h
      rw [freeL_no hy e, ih]
      refine ⟨fun h d hd => ?_, fun h d hd => h d (by omega)⟩
      by_cases e2 : d = k
      · subst e2; exact ⟨y, hy, e⟩
      · exact h d (by omega)
    · rw [freeL_yes fun y hy e => h ⟨y, hy, e⟩]
      refine ⟨fun h2 => by simp at h2, fun h2 => absurd (h2 k (by omega)) h⟩
theorem foldl_ge (o : Nat → Int) : ∀ (l : List Nat) (a : Int), 1 ≤ a → (∀ d, d ∈ l → 2 ≤ o d) → a ≤ l.foldl (fun a d => a * o d) a ∧ (l ≠ [] → 2 * a ≤ l.foldl (fun a d => a * o d) a)
  | [], a, _, _ => ⟨Int.le_refl _, fun h => absurd rfl h⟩
  | d :: l, a, ha, h => by
    have hd := h d List.mem_cons_self
    have h1 : a * 2 ≤ a * o d := Int.mul_le_mul_of_nonneg_left hd (by omega)
    have h2 := (foldl_ge o l (a * o d) (by omega) fun e he => h e (List.mem_cons_of_mem _ he)).1
    simp only [List.foldl_cons]
    exact ⟨by omega, fun _ => by omega⟩
end
/-- The images are those of an isomorphism. -/
def IsoC (p q : Pr) [ConAll q] (xss : List (List Int)) : Prop := ∃ ys : List (El q), xss = vecs ys ∧ RelOk p ys ∧ ordOf q (canEls (Gen (fun a : El q => a ∈ ys))) = ordL q (List.range q.n)
def IsoP (p q : Pr) (xss : List (List Int)) : Prop := IsGrp p ∧ xss.length = p.n ∧ ordL p (List.range p.n) = ordL q (List.range q.n) ∧ ∃ hq : IsGrp q, (∀ i, i < xss.length → InR q (xss.getD i [])) ∧ @IsoC p q ⟨hq.con⟩ xss
theorem isoC_iff {p q : Pr} [ConAll q] {ys : List (El q)} : IsoC p q (vecs ys) ↔ RelOk p ys ∧ ordOf q (canEls (Gen (fun a : El q => a ∈ ys))) = ordL q (List.range q.n) := by
  constructor
  · rintro ⟨zs, h1, h2⟩
    obtain rfl := vecs_inj h1
    exact h2
  · exact fun h => ⟨ys, rfl, h⟩
/-- The answers of the functions on automorphisms. -/
def ApV (p : Pr) (xss : List (List Int)) (xs r : List Int) (e : Int) : Prop := (∃ (_ : ConAll p) (ys : List (El p)), xss = vecs ys ∧ r = (imgE ys xs).v) ∧ e = 0
theorem ApV.uniq {p : Pr} {xss : List (List Int)} {xs : List Int} (a b : List Int) (c d : Int) (h : ApV p xss xs a c) (k : ApV p xss xs b d) : a = b ∧ c = d := by
  obtain ⟨⟨_, ys, h1, h2⟩, h3⟩ := h
  obtain ⟨⟨_, zs, k1, k2⟩, k3⟩ := k
  obtain rfl := vecs_inj (h1.symm.trans k1)
  exact ⟨by rw [h2, k2], by rw [h3, k3]⟩
def CoV (p : Pr) (xss yss r : List (List Int)) (e : Int) : Prop := (∃ (_ : ConAll p) (ys zs : List (El p)), xss = vecs ys ∧ yss = vecs zs ∧ r = vecs (ys.map fun y => imgE zs y.v)) ∧ e = 0
theorem CoV.uniq {p : Pr} {xss yss : List (List Int)} (a b : List (List Int)) (c d : Int) (h : CoV p xss yss a c) (k : CoV p xss yss b d) : a = b ∧ c = d := by
  obtain ⟨⟨_, ys, zs, h1, h2, h3⟩, h4⟩ := h
  obtain ⟨⟨_, ys', zs', k1, k2, k3⟩, k4⟩ := k
  obtain rfl := vecs_inj (h1.symm.trans k1)
  obtain rfl := vecs_inj (h2.symm.trans k2)
  exact ⟨by rw [h3, k3], by rw [h4, k4]⟩
end Go.Proofs.Ytjljbfcdpdckeaa

/-
  Plain mathematics: a presentation whose normal forms are told apart in a group that respects its relations is a group's.
  Conditions: none; nothing of the program stands here.
-/
namespace Go.Proofs.Ytjljbfcdpdckeaa
open Go Go.Pc Go.Pc.Grp
/-- A group that holds the normal forms of a presentation. -/
structure Emb (q : Pr) {K : Type} [Grp K] (c : Nat → K) : Prop where
  valid : Valid q
  P : ∀ j, j < q.n → pw (c j) (q.o j).toNat = phi c (q.w j) (j + 1) (q.n - (j + 1))
  C : ∀ j k, j < k → k < q.n → cj (c k) (c j) = phi c (q.c j k) (j + 1) (q.n - (j + 1))
  inj : ∀ x y, InR q x → InR q y → phi c x 0 q.n = phi c y 0 q.n → x = y
  inv : ∀ i x, i ≤ q.n → InR q x → ZU i x → ∃ y, InR q y ∧ ZU i y ∧ phi c y 0 q.n * phi c x 0 q.n = 1
section
variable {q : Pr} {K : Type} [Grp K] {c : Nat → K}
theorem phi_zu (c : Nat → K) {x : List Int} {i n : Nat} (hi : i ≤ n) (hz : ZU i x) : phi c x 0 n = phi c x i (n - i) := by
  have e : n = i + (n - i) := by omega
  have h := phi_split c x i 0 (n - i)
  rw [← e, Nat.zero_add] at h
  rw [h, phi_none c i 0 (fun j _ hj => .inl (hz j (by omega))), Grp.one_mul]
theorem Emb.mul (h : Emb q c) {i : Nat} (hi : i ≤ q.n) {x y : List Int} (hx : InR q x) (hy : InR q y) (zx : ZU i x) (zy : ZU i y) : phi c (atv q i x y) 0 q.n = phi c x 0 q.n * phi c y 0 q.n := by
  have hin := atv_in h.valid _ i rfl _ _ hx hy zx zy
  rw [phi_zu c hi hin.2, phi_zu c hi zx, phi_zu c hi zy]
  exact dyck c h.valid i (fun j _ hj => h.P j hj) (fun j k _ hj hk => h.C j k hj hk) _ i (Nat.le_refl _) rfl x y hx hy zx zy
theorem Emb.con (h : Emb q c) {i : Nat} (hi : i ≤ q.n) : Con q i where
  valid := h.valid
  assoc := fun x y z => by
    have h1 := atv_in h.valid _ i rfl _ _ x.inr y.inr x.zu y.zu
    have h2 := atv_in h.valid _ i rfl _ _ y.inr z.inr y.zu z.zu
    have h3 := atv_in h.valid _ i rfl _ _ h1.1 z.inr h1.2 z.zu
    have h4 := atv_in h.valid _ i rfl _ _ x.inr h2.1 x.zu h2.2
    apply T.ext
    refine h.inj _ _ h3.1 h4.1 ?_
    show phi c (atv q i (atv q i x.v y.v) z.v) 0 q.n = phi c (atv q i x.v (atv q i y.v z.v)) 0 q.n
    rw [h.mul hi h1.1 z.inr h1.2 z.zu, h.mul hi x.inr y.inr x.zu y.zu, h.mul hi x.inr h2.1 x.zu h2.2, h.mul hi y.inr z.inr y.zu z.zu, Grp.mul_assoc]
  inv := fun x => by
    obtain ⟨y, hy, zy, e⟩ := h.inv i x.v hi x.inr x.zu
    have h1 := atv_in h.valid _ i rfl _ _ hy x.inr zy x.zu
    refine ⟨⟨y, hy, zy⟩, T.ext ?_⟩
    refine h.inj _ _ h1.1 h.valid.zeros_in ?_
    show phi c (atv q i y x.v) 0 q.n = phi c (zeros q.n) 0 q.n
    rw [h.mul hi hy x.inr zy x.zu, e, phi_zero c _ _ fun j _ => zeros_getD _ _]
theorem cj_cj' {G : Type} [Grp G] (a b g : G) : cj (cj a g) (cj b g) = cj (cj a b) g := by
  rw [cj_cj, cj_cj, mul_cj]
theorem cj_self {G : Type} [Grp G] (a : G) : cj a a = a := by unfold cj; rw [inv_mul_cancel_left]
/-- The level's conditions hold. -/
theorem Emb.lev (h : Emb q c) {i : Nat} (hi : i < q.n) : Lev q i := by
  have hcon : Con q (i + 1) := h.con hi
  let up : T q (i + 1) → K := fun x => phi c x.v 0 q.n
  have upv : ∀ x : T q (i + 1), up x = phi c x.v 0 q.n := fun _ => rfl
  have upi : ∀ x y : T q (i + 1), up x = up y → x = y := fun x y e => T.ext (h.inj _ _ x.inr y.inr e)
  have upm : ∀ x y : T q (i + 1), up (x * y) = up x * up y := fun x y => h.mul (i := i + 1) hi x.inr y.inr x.zu y.zu
  have up1 : up 1 = 1 := Grp.mul_left_cancel (a := up 1) (by rw [← upm, Grp.one_mul, Grp.mul_one])
  have upp : ∀ (x : T q (i + 1)) k, up (pw x k) = pw (up x) k := fun x k => by
    induction k with
    | zero => exact up1
    | succ k ih => rw [pw_succ, upm, ih, pw_succ]
  have upn : ∀ x : T q (i + 1), up x⁻¹ = (up x)⁻¹ := fun x => eq_inv_of_mul (by rw [← upm, Grp.inv_mul, up1])
  have upc : ∀ x y : T q (i + 1), up (cj x y) = cj (up x) (up y) := fun x y => by unfold cj; rw [upm, upm, upn]
  have hom : ∀ x y, InR q x → InR q y → ZU (i + 1) x → ZU (i + 1) y → phi c (atv q (i + 1) x y) (i + 1) (q.n - (i + 1)) = phi c x (i + 1) (q.n - (i + 1)) * phi c y (i + 1) (q.n - (i + 1)) := fun x y hx hy zx zy =>
    dyck c h.valid (i + 1) (fun j _ hj => h.P j hj) (fun j k _ hj hk => h.C j k hj hk) _ (i + 1) (Nat.le_refl _) rfl x y hx hy zx zy
  have upg : ∀ x : T q (i + 1), up (Timg h.valid x) = cj (up x) (c i) := fun x => by
    have e := phi_rep_img c h.valid hi hom (fun k h1 h2 => h.C i k h1 h2) x.v 1
    rw [rep_succ, rep_zero, pw_one] at e
    rw [upv, upv, phi_zu c hi (Timg h.valid x).zu, phi_zu c hi x.zu]
    exact e
  have upr : ∀ (x : T q (i + 1)) k, up (rep k (Timg h.valid) x) = cj (up x) (pw (c i) k) := fun x k => by
    induction k with
    | zero => rw [rep_zero, pw_zero, cj_by_one]
    | succ k ih => rw [rep_succ, upg, ih, cj_cj, pw_succ]
  have upC : ∀ j (hj : i < j ∧ j < q.n), up (Tc h.valid hj) = cj (c j) (c i) := fun j hj => by
    rw [upv, phi_zu c hi (Tc h.valid hj).zu]
    exact (h.C i j hj.1 hj.2).symm
  have upW : ∀ j (hj : i ≤ j) (hn : j < q.n) hin hz, up (⟨q.w j, hin, hz⟩ : T q (i + 1)) = pw (c j) (q.o j).toNat := fun j hj hn hin hz => by
    rw [upv, h.P j hn]
    exact phi_zu c (by omega) (h.valid.w_zu j hn)
  have upG : ∀ j (hj : i + 1 ≤ j ∧ j < q.n), up (gen h.valid (i + 1) j hj) = c j := fun j hj => by
    rw [upv]
    have e : (gen h.valid (i + 1) j hj).v = unitv q j 1 := rfl
    have z : ZU j (unitv q j 1) := unitv_zu q (Nat.le_refl _) 1
    rw [e, phi_zu c (by omega) z, show q.n - j = (q.n - (j + 1)) + 1 by omega, phi]
    have g : (unitv q j 1).getD j 0 = 1 := Pc.getD_set_eq _ _ _ (by rw [h.valid.zeros_in.len]; exact hj.2)
    rw [g, phi_zero c _ _ (fun k hk => by rw [unitv, Pc.getD_set_ne _ _ _ _ (by omega), zeros_getD]), Grp.mul_one]
    exact pw_one _
  refine ⟨hcon, hi, ⟨fun j hj => upi _ _ ?_, fun j k hj hk hjk => upi _ _ ?_, upi _ _ ?_, fun j hj => upi _ _ ?_⟩⟩
  · rw [upp, upg, upC, upW j (by omega) hj.2, cj_pw]
  · rw [upc, upg, upC, upC, cj_cj']
    congr 1
    rw [upv, phi_zu c (by omega) (h.valid.c_zu j k hjk hk.2)]
    exact h.C j k hjk hk.2
  · rw [upg, show up (Tw h.valid hi) = pw (c i) (q.o i).toNat from upW i (Nat.le_refl _) hi _ _, cj_pw, cj_self]
  · rw [upr, upc, upG, show up (Tw h.valid hi) = pw (c i) (q.o i).toNat from upW i (Nat.le_refl _) hi _ _]
theorem Emb.grp (h : Emb q c) : IsGrp q := ⟨h.valid, fun _ _ hj => h.lev hj⟩
end
/-! ### the quotient by a normal subgroup -/
structure NSub (G : Type) [Grp G] where
  N : G → Prop
  sub : Pc.Sub N
  nrm : ∀ a b, N a → N (cj a b)
section
variable {G : Type} [Grp G] (S : NSub G)
theorem NSub.comm {a b : G} (h : S.N (a * b)) : S.N (b * a) := by
  have := S.nrm _ a h
  unfold cj at this
  rwa [Grp.mul_assoc, inv_mul_cancel_left] at this
def NSub.setoid : Setoid G where
  r x y := S.N (x⁻¹ * y)
  iseqv := ⟨fun x => by rw [Grp.inv_mul]; exact S.sub.one, fun {x y} h => by
    have := S.sub.inv _ h
    rwa [mul_inv_rev, Grp.inv_inv] at this, fun {x y z} h k => by
    have := S.sub.mul _ _ h k
    rwa [Grp.mul_assoc, mul_inv_cancel_left] at this⟩
def NSub.Q : Type := Quotient S.setoid
def NSub.qk (x : G) : S.Q := Quotient.mk S.setoid x
theorem NSub.eq {x y : G} : S.qk x = S.qk y ↔ S.N (x⁻¹ * y) := ⟨fun h => Quotient.exact h, fun h => Quotient.sound h⟩
instance NSub.grp : Grp S.Q where
  mul a b := Quotient.liftOn₂ a b (fun x y => S.qk (x * y)) fun x y x' y' h k => S.eq.2 (by
    have h1 : S.N (x⁻¹ * x') := h
    have k1 : S.N (y⁻¹ * y') := k
    have h2 := S.sub.mul _ _ (S.nrm _ y h1) k1
    have e : cj (x⁻¹ * x') y * (y⁻¹ * y') = (x * y)⁻¹ * (x' * y') := by
      unfold cj
      rw [mul_inv_rev]
      simp only [Grp.mul_assoc]
      rw [mul_inv_cancel_left]
    rwa [e] at h2)
  one := S.qk 1
  inv a := Quotient.liftOn a (fun x => S.qk x⁻¹) fun x y h => S.eq.2 (by
    have h1 : S.N (x⁻¹ * y) := h
    have h2 := S.sub.inv _ h1
    rw [mul_inv_rev, Grp.inv_inv] at h2
    have h3 := S.comm h2
    rwa [Grp.inv_inv])
  mul_assoc a b c := by
    induction a using Quotient.ind; induction b using Quotient.ind; induction c using Quotient.ind
    exact congrArg S.qk (Grp.mul_assoc _ _ _)
  one_mul a := by
    induction a using Quotient.ind
    exact congrArg S.qk (Grp.one_mul _)
  inv_mul a := by
    induction a using Quotient.ind
    exact congrArg S.qk (Grp.inv_mul _)
end
end Go.Proofs.Ytjljbfcdpdckeaa

/-
  Answers: joins, normal closures, commutator subgroups.
  Conditions: none.
-/
namespace Go.Proofs.Ytjljbfcdpdckeaa
open Go Go.Pc
def JoinV (p : Pr) (xss yss r : List (List Int)) (e : Int) : Prop := (∃ (_ : ConAll p) (ys zs : List (El p)), xss = vecs ys ∧ yss = vecs zs ∧ r = canon (Gen (fun a : El p => a ∈ ys ++ zs))) ∧ e = 0
theorem JoinV.uniq {p : Pr} {xss yss : List (List Int)} (a b : List (List Int)) (c d : Int) (h : JoinV p xss yss a c) (k : JoinV p xss yss b d) : a = b ∧ c = d := by
  obtain ⟨⟨hc, ys, zs, h2, h3, h4⟩, h5⟩ := h
  obtain ⟨⟨hc', ys', zs', k2, k3, k4⟩, k5⟩ := k
  obtain rfl := vecs_inj (h2.symm.trans k2)
  obtain rfl := vecs_inj (h3.symm.trans k3)
  exact ⟨by rw [h4, k4], by rw [h5, k5]⟩
def CommV (p : Pr) (xss yss r : List (List Int)) (e : Int) : Prop := (∃ (_ : ConAll p) (ys zs : List (El p)), xss = vecs ys ∧ yss = vecs zs ∧ r = canon (CommC ys zs)) ∧ e = 0
theorem CommV.uniq {p : Pr} {xss yss : List (List Int)} (a b : List (List Int)) (c d : Int) (h : CommV p xss yss a c) (k : CommV p xss yss b d) : a = b ∧ c = d := by
  obtain ⟨⟨hc, ys, zs, h2, h3, h4⟩, h5⟩ := h
  obtain ⟨⟨hc', ys', zs', k2, k3, k4⟩, k5⟩ := k
  obtain rfl := vecs_inj (h2.symm.trans k2)
  obtain rfl := vecs_inj (h3.symm.trans k3)
  exact ⟨by rw [h4, k4], by rw [h5, k5]⟩
def NclV (p : Pr) (xss r : List (List Int)) (e : Int) : Prop := (∃ (_ : ConAll p) (ys : List (El p)), xss = vecs ys ∧ r = canon (Clo (fun a : El p => a ∈ ys) (fun a : El p => a ∈ gensL p))) ∧ e = 0
theorem NclV.uniq {p : Pr} {xss : List (List Int)} (a b : List (List Int)) (c d : Int) (h : NclV p xss a c) (k : NclV p xss b d) : a = b ∧ c = d := by
  obtain ⟨⟨hc, ys, h2, h4⟩, h5⟩ := h
  obtain ⟨⟨hc', ys', k2, k4⟩, k5⟩ := k
  obtain rfl := vecs_inj (h2.symm.trans k2)
  exact ⟨by rw [h4, k4], by rw [h5, k5]⟩
end Go.Proofs.Ytjljbfcdpdckeaa

/-
  Series of subgroups: steps until one stands still; the derived and the lower central series.
  Conditions: the tails at all levels are groups.
-/
namespace Go.Proofs.Ytjljbfcdpdckeaa
open Go Go.Pc
def itL {α : Type} (f : α → α) (y : α) : Nat → α
  | 0 => y
  | k + 1 => f (itL f y k)
def SerR {α : Type} (f : α → α) (y : α) (K : Nat) : Prop := itL f y (K + 1) = itL f y K ∧ ∀ j, j < K → itL f y (j + 1) ≠ itL f y j
theorem SerR.uniq {α : Type} {f : α → α} {y : α} {K J : Nat} (h : SerR f y K) (k : SerR f y J) : K = J := by
  rcases Nat.lt_trichotomy K J with e | e | e
  · exact absurd h.1 (k.2 K e)
  · exact e
  · exact absurd k.1 (h.2 J e)
section
variable {p : Pr} [hc : ConAll p] {ys zs : List (El p)}
theorem co_gOf {d e : Nat} (hd : d < p.n) : co (gOf p 0 d : El p) e = if e = d then 1 else 0 := by
  show (gOf p 0 d : El p).v.getD e 0 = _
  rw [gOf_val hd]
  show ((zeros p.n).set d 1).getD e 0 = _
  split
  · rename_i h
    subst h
    rw [Pc.getD_set_eq _ _ _ (by rw [zeros_len]; exact hd)]
  · rename_i h
    rw [Pc.getD_set_ne _ _ _ _ (Ne.symm h), zeros_getD]
theorem seq_len_le (hy : SeqEl ys) (hz : SeqEl zs) (hle : ∀ a, Gen (fun a : El p => a ∈ zs) a → Gen (fun a : El p => a ∈ ys) a) : zs.length ≤ ys.length := by
  have := can_len_le (Gen.sub _) (Gen.sub _) hle
  rwa [hy.els, hz.els] at this
theorem seq_len_iff (hy : SeqEl ys) (hz : SeqEl zs) (hle : ∀ a, Gen (fun a : El p => a ∈ zs) a → Gen (fun a : El p => a ∈ ys) a) : zs.length = ys.length ↔ zs = ys := by
  refine ⟨fun h => ?_, fun h => by rw [h]⟩
  have h2 := same_of_len (Gen.sub _) (Gen.sub _) hle (by rw [hy.els, hz.els]; omega)
  have e : Gen (fun a : El p => a ∈ zs) = Gen (fun a : El p => a ∈ ys) := by
    funext a; exact propext ⟨hle a, h2 a⟩
  rw [← hz.els, ← hy.els, e]
/-- What the walks need of a series. -/
structure SerOk (f : List (El p) → List (El p)) (y0 : List (El p)) : Prop where
  seq : ∀ k, SeqEl (itL f y0 k)
  eqv : ∀ k, (itL f y0 (k + 1)).length = (itL f y0 k).length ↔ itL f y0 (k + 1) = itL f y0 k
  bd : ∀ K, (∀ j, j < K → itL f y0 (j + 1) ≠ itL f y0 j) → K ≤ p.n
/-- A series that goes up. -/
theorem SerOk.up {f : List (El p) → List (El p)} {y0 : List (El p)} (Good : List (El p) → Prop) (h0 : Good y0) (hseq : ∀ ys, Good ys → SeqEl ys) (hf : ∀ ys, Good ys → Good (f ys))
    (hle : ∀ ys, Good ys → ∀ a, Gen (fun a : El p => a ∈ ys) a → Gen (fun a : El p => a ∈ f ys) a) : SerOk f y0 := by
  have hg : ∀ k, Good (itL f y0 k) := by
    intro k
    induction k with
    | zero => exact h0
    | succ k ih => exact hf _ ih
  have hs : ∀ k, SeqEl (itL f y0 k) := fun k => hseq _ (hg k)
  have he : ∀ k, (itL f y0 (k + 1)).length = (itL f y0 k).length ↔ itL f y0 (k + 1) = itL f y0 k := fun k => by
    have := seq_len_iff (hs (k + 1)) (hs k) (hle _ (hg k))
    exact ⟨fun h => (this.1 h.symm).symm, fun h => by rw [h]⟩
  refine ⟨hs, he, fun K hK => ?_⟩
  have key : ∀ k, k ≤ K → k ≤ (itL f y0 k).length := by
    intro k
    induction k with
    | zero => exact fun _ => Nat.zero_le _
    | succ k ih =>
      intro hk
      have h1 := ih (by omega)
      have h2 := seq_len_le (hs (k + 1)) (hs k) (hle _ (hg k))
      have h3 := hK k (by omega)
      rw [Ne, ← he k] at h3
      omega
  have h1 := key K (Nat.le_refl _)
  have h2 := (hs K).len
  omega
noncomputable def lowF (ys : List (El p)) : List (El p) := canEls (CommC ys (gensL p))
end
/-- What a series is, with its code. -/
def SrV (p : Pr) (C : ConAll p → (List (El p) → List (El p)) × List (El p)) (r : List (List (List Int))) (e : Int) : Prop := ∃ (c : ConAll p) (K : Nat), SerR (C c).1 (C c).2 K ∧ r = (List.range (K + 1)).map (fun j => vecs (itL (C c).1 (C c).2 j)) ∧ e = 0
theorem SrV.uniq {p : Pr} {C : ConAll p → (List (El p) → List (El p)) × List (El p)} (a b : List (List (List Int))) (c d : Int) (h : SrV p C a c) (g : SrV p C b d) : a = b ∧ c = d := by
  obtain ⟨_, K, h1, rfl, rfl⟩ := h
  obtain ⟨_, J, g1, rfl, rfl⟩ := g
  obtain rfl := h1.uniq g1
  exact ⟨rfl, rfl⟩
/-- The class of a nilpotent group, with its code. -/
def NcV (p : Pr) (r e : Int) : Prop := ∃ (c : ConAll p) (K : Nat), SerR (lowF (p := p)) (gensL p) K ∧ ((0 < (itL (lowF (p := p)) (gensL p) K).length ∧ r = 0 ∧ e = 4) ∨ ((itL (lowF (p := p)) (gensL p) K).length = 0 ∧ r = K ∧ e = 0))
theorem NcV.uniq {p : Pr} (a b c d : Int) (h : NcV p a c) (g : NcV p b d) : a = b ∧ c = d := by
  obtain ⟨_, K, h1, h2⟩ := h
  obtain ⟨_, J, g1, g2⟩ := g
  obtain rfl := h1.uniq g1
  rcases h2 with ⟨h3, rfl, rfl⟩ | ⟨h3, rfl, rfl⟩ <;> rcases g2 with ⟨g3, rfl, rfl⟩ | ⟨g3, rfl, rfl⟩
  · exact ⟨rfl, rfl⟩
  · omega
  · omega
  · exact ⟨rfl, rfl⟩
end Go.Proofs.Ytjljbfcdpdckeaa

/-
  Exponents of cosets: what ProjectElement answers.
  Conditions: none.
-/
namespace Go.Proofs.Ytjljbfcdpdckeaa
open Go Go.Pc
/-- The exponents of a coset, told by its representative. -/
def prjL (p : Pr) (ys : List (El p)) (y : El p) : List Int := (freeL p ys p.n).map fun d => co y d
def PjV (p : Pr) (xss : List (List Int)) (xs r : List Int) (e : Int) : Prop := (¬ NormP p xss ∧ r = [] ∧ e = 5) ∨ (NormP p xss ∧ (∃ (_ : ConAll p) (ys : List (El p)) (x y : El p), xss = vecs ys ∧ xs = x.v ∧ RepOf ys x y ∧ r = prjL p ys y) ∧ e = 0)
theorem PjV.uniq {p : Pr} {xss : List (List Int)} {xs : List Int} (hS : IsSubP p xss) (a b : List Int) (c d : Int) (h : PjV p xss xs a c) (k : PjV p xss xs b d) : a = b ∧ c = d := by
  rcases h with ⟨h1, rfl, rfl⟩ | ⟨h1, ⟨hc, ys, x, y, h2, h3, h4, rfl⟩, rfl⟩ <;> rcases k with ⟨k1, rfl, rfl⟩ | ⟨k1, ⟨kc, zs, x', y', k2, k3, k4, rfl⟩, rfl⟩
  · exact ⟨rfl, rfl⟩
  · exact absurd k1 h1
  · exact absurd h1 k1
  · obtain ⟨hG, hq⟩ := hS
    haveI : ConAll p := ⟨hG.con⟩
    obtain ⟨us, hus, hse⟩ := isSeq_iff.1 hq
    obtain rfl : ys = us := vecs_inj (h2.symm.trans hus)
    obtain rfl : zs = ys := vecs_inj (k2.symm.trans hus)
    obtain rfl : x = x' := T.ext (h3.symm.trans k3)
    rw [RepOf.unique hse h4 k4]
    exact ⟨rfl, rfl⟩
end Go.Proofs.Ytjljbfcdpdckeaa

/-
  The presentations of subgroups and quotients, as lists; what SubgroupPresentation, QuotientPresentation and LiftElement answer.
  Conditions: none.
-/
namespace Go.Proofs.Ytjljbfcdpdckeaa
open Go Go.Pc
/-- A presentation out of its entries. -/
def tabP (m : Nat) (o : Nat → Int) (f : Nat → List Int) (g : Nat → Nat → List Int) : Pr :=
  ⟨(List.range m).map o, (List.range m).map f, (List.range m).map fun i => (List.range (m - (i + 1))).map fun k => g i (i + 1 + k)⟩
section
variable {m : Nat} {o : Nat → Int} {f : Nat → List Int} {g : Nat → Nat → List Int}
end
section
variable {p : Pr} [hc : ConAll p]
noncomputable def subPow (ys : List (El p)) (i : Nat) : List Int := expsL ys (Grp.pwz (ys.getD i 1) (p.o (lead (ys.getD i 1).v))) ys.length
noncomputable def subCnj (ys : List (El p)) (i j : Nat) : List Int := expsL ys (Grp.cj (ys.getD j 1) (ys.getD i 1)) ys.length
/-- The presentation of a subgroup. -/
noncomputable def subPr (ys : List (El p)) : Pr := tabP ys.length (fun i => p.o (lead (ys.getD i 1).v)) (subPow ys) (subCnj ys)
/-- The representative of a coset. -/
noncomputable def repE (ys : List (El p)) (x : El p) : El p := open Classical in if h : ∃ r, RepOf ys x r then Classical.choose h else 1
noncomputable def prjE (ys : List (El p)) (x : El p) : List Int := prjL p ys (repE ys x)
/-- The place of a coset's generator. -/
def frA (p : Pr) (ys : List (El p)) (i : Nat) : Nat := (freeL p ys p.n).getD i 0
def frN (p : Pr) (ys : List (El p)) : Nat := (freeL p ys p.n).length
noncomputable def quoPow (ys : List (El p)) (i : Nat) : List Int := prjE ys (Grp.pwz (gOf p 0 (frA p ys i)) (p.o (frA p ys i)))
noncomputable def quoCnj (ys : List (El p)) (i j : Nat) : List Int := prjE ys (Grp.cj (gOf p 0 (frA p ys j)) (gOf p 0 (frA p ys i)))
/-- The presentation of a quotient. -/
noncomputable def quoPr (ys : List (El p)) : Pr := tabP (frN p ys) (fun i => p.o (frA p ys i)) (quoPow ys) (quoCnj ys)
end
def noP : Pr := ⟨[], [], []⟩
def SpV (p : Pr) (xss : List (List Int)) (r : Pr) (e : Int) : Prop := (∃ (_ : ConAll p) (ys : List (El p)), xss = vecs ys ∧ r = subPr ys) ∧ e = 0
theorem SpV.uniq {p : Pr} {xss : List (List Int)} (a b : Pr) (c d : Int) (h : SpV p xss a c) (k : SpV p xss b d) : a = b ∧ c = d := by
  obtain ⟨⟨hc, ys, h2, h3⟩, h5⟩ := h
  obtain ⟨⟨hc', ys', k2, k3⟩, k5⟩ := k
  obtain rfl := vecs_inj (h2.symm.trans k2)
  exact ⟨by rw [h3, k3], by rw [h5, k5]⟩
def QpV (p : Pr) (xss : List (List Int)) (r : Pr) (e : Int) : Prop := (¬ NormP p xss ∧ r = noP ∧ e = 5) ∨ (NormP p xss ∧ (∃ (_ : ConAll p) (ys : List (El p)), xss = vecs ys ∧ r = quoPr ys) ∧ e = 0)
theorem QpV.uniq {p : Pr} {xss : List (List Int)} (a b : Pr) (c d : Int) (h : QpV p xss a c) (k : QpV p xss b d) : a = b ∧ c = d := by
  rcases h with ⟨h1, rfl, rfl⟩ | ⟨h1, ⟨hc, ys, h2, rfl⟩, rfl⟩ <;> rcases k with ⟨k1, rfl, rfl⟩ | ⟨k1, ⟨kc, zs, k2, rfl⟩, rfl⟩
  · exact ⟨rfl, rfl⟩
  · exact absurd k1 h1
  · exact absurd h1 k1
  · obtain rfl := vecs_inj (h2.symm.trans k2)
    exact ⟨rfl, rfl⟩
end Go.Proofs.Ytjljbfcdpdckeaa

/-
  Plain mathematics: the presentation of a quotient is a group's.
  Conditions: none; nothing of the program stands here.
-/
namespace Go.Proofs.Ytjljbfcdpdckeaa
open Go Go.Pc Go.Pc.Grp
section
variable {p : Pr} [hc : ConAll p] {ys : List (El p)}
theorem repEx (hs : SeqOk ys) (x : El p) : ∃ r, RepOf ys x r := by
  have hasc : ∀ i j (hi : i < ys.length) (hj : j < ys.length), i < j → lead (ys[i]).v < lead (ys[j]).v := fun i j hi hj hij => List.pairwise_iff_getElem.1 hs.asc i j hi hj hij
  have key : ∀ k, k ≤ ys.length → ∃ r : El p, (∀ H : El p → Prop, Pc.Sub H → (∀ y, y ∈ ys → H y) → H (x⁻¹ * r)) ∧ (∀ i (hi : i < ys.length), i < k → co r (lead (ys[i]).v) = 0) ∧ (∀ t, (∀ y, y ∈ ys → t < lead y.v) → co r t = co x t) := by
    intro k
    induction k with
    | zero => exact fun _ => ⟨x, fun H hH _ => by rw [Grp.inv_mul]; exact hH.one, fun i _ h => by omega, fun _ _ => rfl⟩
    | succ k ih =>
      intro hk
      have hkn : k < ys.length := by omega
      obtain ⟨r, h1, h2, h3⟩ := ih (by omega)
      have hm := List.getElem_mem hkn
      obtain ⟨hd, hy1⟩ := hs.lead1 _ hm
      have ht : Tl (lead (ys[k]).v) (ys[k]) := lead_tl _
      have hrr := co_rng r hd
      have hpt := ht.pw (Nat.le_of_lt hd) (p.o (lead (ys[k]).v) - co r (lead (ys[k]).v)).toNat
      refine ⟨r * pw (ys[k]) (p.o (lead (ys[k]).v) - co r (lead (ys[k]).v)).toNat, fun H hH hy => ?_, fun i hi hik => ?_, fun t hq => ?_⟩
      · rw [← Grp.mul_assoc]
        exact hH.mul _ _ (h1 H hH hy) (hH.pw (hy _ hm) _)
      · by_cases e : i = k
        · subst e
          rw [co_at r hd hpt, co_pw hd ht, hy1, Int.mul_one]
          by_cases h0 : co r (lead (ys[i]).v) = 0
          · have e1 : ((p.o (lead (ys[i]).v) - co r (lead (ys[i]).v)).toNat : Int) = p.o (lead (ys[i]).v) := by omega
            rw [e1, h0, Int.emod_self]; rfl
          · have e1 : ((p.o (lead (ys[i]).v) - co r (lead (ys[i]).v)).toNat : Int) = p.o (lead (ys[i]).v) - co r (lead (ys[i]).v) := by omega
            have e2 : (p.o (lead (ys[i]).v) - co r (lead (ys[i]).v)) % p.o (lead (ys[i]).v) = p.o (lead (ys[i]).v) - co r (lead (ys[i]).v) := Int.emod_eq_of_lt (by omega) (by omega)
            rw [e1, e2, show co r (lead (ys[i]).v) + (p.o (lead (ys[i]).v) - co r (lead (ys[i]).v)) = p.o (lead (ys[i]).v) by omega, Int.emod_self]
        · have hlt := hasc i k hi hkn (by omega)
          rw [co_low r hd hpt hlt]
          exact h2 i hi (by omega)
      · rw [co_low r hd hpt (hq _ hm)]
        exact h3 t hq
  obtain ⟨r, h1, h2, h3⟩ := key ys.length (Nat.le_refl _)
  refine ⟨r, h1, fun y hy => ?_, h3⟩
  obtain ⟨i, hi, rfl⟩ := List.getElem_of_mem hy
  exact h2 i hi hi
/-! ### the element with some exponents -/
/-! ### the quotient -/
end
end Go.Proofs.Ytjljbfcdpdckeaa

/-
  Plain mathematics: homomorphisms by images; automorphisms are one to one, and each comes back.
  Conditions: none; nothing of the program stands here.
-/
namespace Go.Proofs.Ytjljbfcdpdckeaa
open Go Go.Pc Go.Pc.Grp
/-- Of n + 1 numbers below n two are the same. -/
theorem pigeon : ∀ (n : Nat) (g : Nat → Nat), (∀ i, i ≤ n → g i < n) → ∃ a b, a < b ∧ b ≤ n ∧ g a = g b
  | 0, g, h => absurd (h 0 (Nat.le_refl _)) (Nat.not_lt_zero _)
  | n + 1, g, h => by
    by_cases e : ∃ a, a ≤ n ∧ g a = g (n + 1)
    · obtain ⟨a, ha, e⟩ := e
      exact ⟨a, n + 1, by omega, Nat.le_refl _, e⟩
    · obtain ⟨a, b, h1, h2, h3⟩ := pigeon n (fun i => if g (n + 1) < g i then g i - 1 else g i) (fun i hi => by
        have h1 := h i (by omega)
        have h2 := h (n + 1) (Nat.le_refl _)
        have h3 : g i ≠ g (n + 1) := fun k => e ⟨i, hi, k⟩
        split <;> omega)
      have ha : g a ≠ g (n + 1) := fun k => e ⟨a, by omega, k⟩
      have hb : g b ≠ g (n + 1) := fun k => e ⟨b, h2, k⟩
      refine ⟨a, b, h1, by omega, ?_⟩
      split at h3 <;> split at h3 <;> omega
def itF {α : Type} (f : α → α) : Nat → α → α
  | 0, x => x
  | k + 1, x => f (itF f k x)
theorem itF_add {α : Type} (f : α → α) (b : Nat) (x : α) : ∀ a, itF f (a + b) x = itF f a (itF f b x)
  | 0 => by rw [Nat.zero_add]; rfl
  | a + 1 => by rw [Nat.add_right_comm]; exact congrArg f (itF_add f b x a)
theorem itF_comm {α : Type} (f : α → α) (x : α) (k : Nat) : itF f (k + 1) x = itF f k (f x) := itF_add f 1 x k
theorem itF_mul {α : Type} {f : α → α} {m : Nat} {x : α} (h : itF f m x = x) : ∀ k, itF f (m * k) x = x
  | 0 => rfl
  | k + 1 => by rw [Nat.mul_succ, itF_add, h]; exact itF_mul h k
/-- What is onto a finite set brings each element back. -/
theorem period {α : Type} {f : α → α} {num : α → Nat} {n : Nat} (hn : ∀ x, num x < n) (hi : ∀ x y, num x = num y → x = y) (hs : ∀ y, ∃ x, f x = y) (x : α) : ∃ m, 1 ≤ m ∧ itF f m x = x := by
  obtain ⟨g, hg⟩ : ∃ g : α → α, ∀ y, f (g y) = y := ⟨fun y => Classical.choose (hs y), fun y => Classical.choose_spec (hs y)⟩
  have hk : ∀ k y, itF f k (itF g k y) = y := by
    intro k
    induction k with
    | zero => exact fun y => rfl
    | succ k ih =>
      intro y
      rw [itF_comm]
      show itF f k (f (g (itF g k y))) = y
      rw [hg]
      exact ih y
  obtain ⟨a, b, hab, _, e⟩ := pigeon n (fun i => num (itF g i x)) (fun i _ => hn _)
  have e' : itF g a x = itF g b x := hi _ _ e
  refine ⟨b - a, by omega, ?_⟩
  have h1 : itF g (b - a) x = x := by
    have h2 := congrArg (itF f a) e'
    have h3 : itF g b x = itF g a (itF g (b - a) x) := by
      rw [← itF_add, show a + (b - a) = b by omega]
    rw [h3, hk, hk] at h2
    exact h2.symm
  have h3 := hk (b - a) x
  rwa [h1] at h3
theorem periods {α : Type} {f : α → α} (h : ∀ x : α, ∃ m, 1 ≤ m ∧ itF f m x = x) : ∀ l : List α, ∃ m, 1 ≤ m ∧ ∀ x, x ∈ l → itF f m x = x
  | [] => ⟨1, Nat.le_refl _, fun x hx => absurd hx List.not_mem_nil⟩
  | y :: l => by
    obtain ⟨m, hm, h1⟩ := periods h l
    obtain ⟨k, hk, h2⟩ := h y
    refine ⟨m * k, Nat.mul_pos hm hk, fun x hx => ?_⟩
    rcases List.mem_cons.1 hx with rfl | hx
    · rw [Nat.mul_comm]; exact itF_mul h2 m
    · exact itF_mul (h1 x hx) k
theorem period_inj {α : Type} {f : α → α} (h : ∀ x : α, ∃ m, 1 ≤ m ∧ itF f m x = x) {x y : α} (e : f x = f y) : x = y := by
  obtain ⟨m, hm, k⟩ := periods h [x, y]
  have h1 := k x (by simp)
  have h2 := k y (by simp)
  obtain ⟨j, rfl⟩ : ∃ j, m = j + 1 := ⟨m - 1, by omega⟩
  rw [itF_comm, e] at h1
  rw [itF_comm, h1] at h2
  exact h2
/-! ### homomorphisms by images -/
theorem inR_nonneg {p : Pr} {x : List Int} (h : InR p x) (i : Nat) : 0 ≤ x.getD i 0 := by
  by_cases hi : i < p.n
  · exact (h.rng i hi).1
  · rw [List.getD_eq_getElem?_getD, List.getElem?_eq_none (by rw [h.len]; omega)]
    exact Int.le_refl _
section
variable {q : Pr} [hq : ConAll q]
theorem prodTo_phi (ys : List (El q)) {x : List Int} (h : ∀ i, 0 ≤ x.getD i 0) : ∀ k, prodTo ys x k = phi (fun j => ys.getD j 1) x 0 k
  | 0 => rfl
  | k + 1 => by
    rw [phi_last, Nat.zero_add]
    show prodTo ys x k * pwz (ys.getD k 1) (x.getD k 0) = _
    rw [pwz_of _ (h k), prodTo_phi ys h k]
theorem letV_neg (ys : List (El q)) {a : Int} (ha : a ≠ 0) : letV ys (-a) = (letV ys a)⁻¹ := by
  unfold letV
  by_cases h : 0 < a
  · rw [if_neg (by omega), if_pos h, show - -a - 1 = a - 1 by omega]
  · rw [if_pos (by omega), if_neg h, Grp.inv_inv]
theorem evalW_one (ys : List (El q)) (a : Int) : evalW ys [a] = letV ys a := by
  show 1 * letV ys a = _
  rw [Grp.one_mul]
theorem evalW_inv (ys : List (El q)) : ∀ w : List Int, (∀ a, a ∈ w → a ≠ 0) → evalW ys (invW w) * evalW ys w = 1
  | [], _ => Grp.one_mul _
  | l :: w, h => by
    have e1 : invW (l :: w) = invW w ++ [-l] := by simp [invW]
    have e2 : evalW ys (l :: w) = letV ys l * evalW ys w := by rw [← evalW_one, ← evalW_append]; rfl
    rw [e1, evalW_append, evalW_one, letV_neg ys (h l List.mem_cons_self), e2, Grp.mul_assoc, ← Grp.mul_assoc (letV ys l)⁻¹, Grp.inv_mul, Grp.one_mul]
    exact evalW_inv ys w fun a ha => h a (List.mem_cons_of_mem _ ha)
theorem evalW_rel (ys : List (El q)) {u v : List Int} (hv : ∀ a, a ∈ v → a ≠ 0) (h : evalW ys (u ++ invW v) = 1) : evalW ys u = evalW ys v := by
  rw [evalW_append] at h
  have h1 := evalW_inv ys v hv
  calc evalW ys u = evalW ys u * (evalW ys (invW v) * evalW ys v) := by rw [h1, Grp.mul_one]
    _ = (evalW ys u * evalW ys (invW v)) * evalW ys v := by rw [Grp.mul_assoc]
    _ = evalW ys v := by rw [h, Grp.one_mul]
theorem evalW_full (ys : List (El q)) {x : List Int} (h : ∀ i, 0 ≤ x.getD i 0) : evalW ys (wordV x) = phi (fun j => ys.getD j 1) x 0 x.length := by
  have h1 := evalW_word (ys := ys) (x := x) (fun i _ => h i) x.length (Nat.le_refl _)
  rw [List.take_length, prodTo_phi ys h] at h1
  exact h1
variable {p : Pr}
theorem relOk_mem {ys : List (El q)} (h : RelOk p ys) {w : List Int} (hw : w ∈ rels p) : evalW ys w = 1 := by
  obtain ⟨i, hi, rfl⟩ := List.getElem_of_mem hw
  have := h i hi
  rwa [List.getD_eq_getElem?_getD, List.getElem?_eq_getElem hi] at this
theorem relP_mem {i : Nat} (hi : i < p.n) : relP p i ∈ rels p := List.mem_append.2 (.inl (List.mem_map.2 ⟨i, List.mem_range.2 hi, rfl⟩))
theorem relC_mem {i k : Nat} (hi : i < p.n) (hk : k < p.n - 1 - i) : relC p i k ∈ rels p :=
  List.mem_append.2 (.inr (List.mem_flatMap.2 ⟨i, List.mem_range.2 hi, List.mem_map.2 ⟨k, List.mem_range.2 hk, rfl⟩⟩))
theorem img_P {ys : List (El q)} (hv : Valid p) (h : RelOk p ys) {j : Nat} (hj : j < p.n) : pw (ys.getD j 1) (p.o j).toNat = phi (fun j => ys.getD j 1) (p.w j) (j + 1) (p.n - (j + 1)) := by
  have hi := hv.w_in j hj
  have h1 := relOk_mem h (relP_mem hj)
  have h2 := evalW_rel ys (u := List.replicate (p.o j).toNat ((j : Int) + 1)) (v := wordV (p.w j)) (fun a ha => (letW_word hi.len a ha).1) h1
  rw [evalW_rep, evalW_full ys (inR_nonneg hi), hi.len, phi_zu _ (by omega) (hv.w_zu j hj)] at h2
  exact h2
theorem img_C {ys : List (El q)} (hv : Valid p) (h : RelOk p ys) {j k : Nat} (hjk : j < k) (hk : k < p.n) : cj (ys.getD k 1) (ys.getD j 1) = phi (fun j => ys.getD j 1) (p.c j k) (j + 1) (p.n - (j + 1)) := by
  have hi := hv.c_in j k hjk hk
  obtain ⟨m, rfl⟩ : ∃ m, k = j + 1 + m := ⟨k - (j + 1), by omega⟩
  have ec : (p.cnj.getD j []).getD m [] = p.c j (j + 1 + m) := by
    unfold Pr.c
    congr 1
    omega
  have h1 := relOk_mem h (relC_mem (i := j) (k := m) (by omega) (by omega))
  unfold relC at h1
  rw [ec] at h1
  have h2 := evalW_rel ys (v := wordV (p.c j (j + 1 + m))) (fun a ha => (letW_word hi.len a ha).1) h1
  rw [evalW_full ys (inR_nonneg hi), hi.len, phi_zu _ (by omega) (hv.c_zu j _ hjk hk)] at h2
  rw [← h2]
  show _ = ((1 * letV ys (-(j : Int) - 1)) * letV ys (((j + 1 + m : Nat) : Int) + 1)) * letV ys ((j : Int) + 1)
  have e1 : letV ys (-(j : Int) - 1) = (ys.getD j 1)⁻¹ := by
    unfold letV
    rw [if_neg (by omega), show (-(-(j : Int) - 1) - 1).toNat = j by omega]
  have e2 : letV ys (((j + 1 + m : Nat) : Int) + 1) = ys.getD (j + 1 + m) 1 := by
    unfold letV
    rw [if_pos (by omega), show ((((j + 1 + m : Nat) : Int) + 1) - 1).toNat = j + 1 + m by omega]
  have e3 : letV ys ((j : Int) + 1) = ys.getD j 1 := by
    unfold letV
    rw [if_pos (by omega), show ((j : Int) + 1 - 1).toNat = j by omega]
  rw [e1, e2, e3, Grp.one_mul, Grp.mul_assoc]
  rfl
theorem imgE_phi {ys : List (El q)} (hl : ys.length = p.n) {x : List Int} (hx : InR p x) : imgE ys x = phi (fun j => ys.getD j 1) x 0 p.n := by
  unfold imgE
  rw [prodTo_phi ys (inR_nonneg hx), hl]
variable [hc : ConAll p]
theorem img_hom {ys : List (El q)} (hl : ys.length = p.n) (h : RelOk p ys) (x y : El p) : imgE ys (x * y).v = imgE ys x.v * imgE ys y.v := by
  have hv := hc.valid
  have h1 := dyck (fun j => ys.getD j 1) hv 0 (fun j _ hj => img_P hv h hj) (fun j k _ hjk hk => img_C hv h hjk hk) p.n 0 (Nat.le_refl _) (Nat.sub_zero _) x.v y.v x.inr y.inr x.zu y.zu
  rw [imgE_phi hl (x * y).inr, imgE_phi hl x.inr, imgE_phi hl y.inr]
  exact h1
theorem img_unit {ys : List (El q)} (hl : ys.length = p.n) {i : Nat} (hi : i < p.n) : imgE ys (gOf p 0 i : El p).v = ys.getD i 1 := by
  have key : ∀ k, k ≤ p.n → prodTo ys (gOf p 0 i : El p).v k = if i < k then ys.getD i 1 else 1 := by
    intro k
    induction k with
    | zero => exact fun _ => rfl
    | succ k ih =>
      intro hk
      show prodTo ys _ k * pwz (ys.getD k 1) ((gOf p 0 i : El p).v.getD k 0) = _
      have e : (gOf p 0 i : El p).v.getD k 0 = if k = i then 1 else 0 := by
        have := co_gOf (p := p) (e := k) hi
        rw [show (gOf p 0 i : El p).v.getD k 0 = co (gOf p 0 i) k from rfl, this]
      rw [ih (by omega), e]
      by_cases h1 : k = i
      · subst h1
        rw [if_neg (Nat.lt_irrefl _), if_pos rfl, if_pos (Nat.lt_succ_self _), Grp.one_mul]
        exact Grp.one_mul _
      · rw [if_neg h1]
        have e0 : pwz (ys.getD k 1) 0 = 1 := rfl
        rw [e0, Grp.mul_one]
        by_cases h2 : i < k
        · rw [if_pos h2, if_pos (by omega)]
        · rw [if_neg h2, if_neg (by omega)]
  unfold imgE
  rw [key _ (by omega), if_pos (by omega)]
end
/-! ### numbers -/
section
variable {p : Pr} {l : List Nat}
theorem elTo_off {d : Nat} : ∀ (k : Nat) (_ : k ≤ l.length) (t : Int), d ∉ l.take k → (elTo p l k t).getD d 0 = 0
  | 0, _, t, _ => zeros_getD _ _
  | k + 1, hk, t, h => by
    have h1 : d ∉ l.take k := fun h' => h ((take_mem_succ (by omega)).2 (.inl h'))
    have h2 : l.getD k 0 ≠ d := fun h' => h ((take_mem_succ (by omega)).2 (.inr h'.symm))
    show ((elTo p l k _).set _ _).getD d 0 = 0
    rw [Pc.getD_set_ne _ _ _ _ h2]
    exact elTo_off k (by omega) _ h1
theorem elTo_inj (hv : Valid p) (hn : l.Nodup) (hl : ∀ d, d ∈ l → d < p.n) : ∀ k, k ≤ l.length → ∀ s t : Int, 0 ≤ s → s < ordL p (l.take k) → 0 ≤ t → t < ordL p (l.take k) → elTo p l k s = elTo p l k t → s = t
  | 0, _, s, t, h1, h2, h3, h4, _ => by
    simp [ordL] at h2 h4
    omega
  | k + 1, hk, s, t, h1, h2, h3, h4, e => by
    have hkl : k < l.length := by omega
    have hdk := hl _ (getD_mem hkl)
    have ho := hv.opos hdk
    rw [ordL_take l hkl] at h2 h4
    have hnt := not_take hn hkl
    have es : elTo p l (k + 1) s = (elTo p l k (s / p.o (l.getD k 0))).set (l.getD k 0) (s % p.o (l.getD k 0)) := rfl
    have et : elTo p l (k + 1) t = (elTo p l k (t / p.o (l.getD k 0))).set (l.getD k 0) (t % p.o (l.getD k 0)) := rfl
    rw [es, et] at e
    have e1 : s % p.o (l.getD k 0) = t % p.o (l.getD k 0) := by
      have := congrArg (fun v : List Int => v.getD (l.getD k 0) 0) e
      rwa [Pc.getD_set_eq _ _ _ (by rw [elTo_len]; exact hdk), Pc.getD_set_eq _ _ _ (by rw [elTo_len]; exact hdk)] at this
    have e2 : elTo p l k (s / p.o (l.getD k 0)) = elTo p l k (t / p.o (l.getD k 0)) := by
      refine list_ext0 (by rw [elTo_len, elTo_len]) fun d _ => ?_
      by_cases h : l.getD k 0 = d
      · subst h; rw [elTo_off k (by omega) _ hnt, elTo_off k (by omega) _ hnt]
      · have := congrArg (fun v : List Int => v.getD d 0) e
        rwa [Pc.getD_set_ne _ _ _ _ h, Pc.getD_set_ne _ _ _ _ h] at this
    have e3 := elTo_inj hv hn hl k (by omega) _ _ (Int.ediv_nonneg h1 (by omega)) (Int.ediv_lt_of_lt_mul (by omega) h2) (Int.ediv_nonneg h3 (by omega)) (Int.ediv_lt_of_lt_mul (by omega) h4) e2
    rw [Int.emod_def, Int.emod_def, e3] at e1
    omega
theorem allE_inj [hc : ConAll p] {i j : Nat} (hi : i < ordN p) (hj : j < ordN p) (e : allE p i = allE p j) : i = j := by
  have h1 := congrArg (T.v (p := p) (i := 0)) e
  rw [allE_val, allE_val] at h1
  unfold ordN at hi hj
  have := elTo_inj hc.valid (l := List.range p.n) List.nodup_range (fun d hd => List.mem_range.1 hd) _ (Nat.le_refl _) (i : Int) (j : Int) (by omega) (by rw [List.take_length]; omega) (by omega) (by rw [List.take_length]; omega) h1
  omega
end
/-! ### automorphisms -/
section
variable {p : Pr} [hc : ConAll p]
theorem full_gen {ys : List (El p)} (hs : SeqEl ys) (h : ordOf p ys = ordL p (List.range p.n)) (x : El p) : Gen (fun a : El p => a ∈ ys) x := by
  have hv := hc.valid
  have hord := ordOf_rng (ys := ys) (k := ys.length) (by have := hs.len; have := hv.n6; omega) (Nat.le_refl _) fun y hy => (hs.ok.lead1 y hy).1
  rw [List.take_length] at hord
  have hsp := ord_split hs.ok
  have hone : ordL p (freeL p ys p.n) = 1 := by
    rw [← h] at hsp
    have h2 : 1 * ordOf p ys = ordL p (freeL p ys p.n) * ordOf p ys := by rw [Int.one_mul]; exact hsp
    exact (Int.eq_of_mul_eq_mul_right (by omega) h2).symm
  have hnil : freeL p ys p.n = [] := by
    by_cases e : freeL p ys p.n = []
    · exact e
    · have h2 := (foldl_ge p.o (freeL p ys p.n) 1 (Int.le_refl _) fun d hd => (hv.opos (freeL_lt hd)).1).2 e
      have h3 : ordL p (freeL p ys p.n) = (freeL p ys p.n).foldl (fun a d => a * p.o d) 1 := rfl
      omega
  have hcov := (free_nil_iff ys p.n).1 hnil
  obtain ⟨r, hr⟩ := repEx hs.ok x
  have hr1 : r = 1 := T.ext (list_ext0 (by rw [r.inr.len, (1 : El p).inr.len]) fun d hd => by
    rw [r.inr.len] at hd
    obtain ⟨y, hy, e⟩ := hcov d hd
    have h1 : r.v.getD d 0 = 0 := by rw [← e]; exact hr.zero y hy
    rw [h1]
    exact (co_one d).symm)
  have h2 := hr.mem _ (Gen.sub _) (fun y hy => Gen.of (S := fun a : El p => a ∈ ys) y hy)
  rw [hr1, Grp.mul_one] at h2
  have h3 := Gen.inv _ h2
  rwa [Grp.inv_inv] at h3
theorem aut_onto {ys : List (El p)} (hl : ys.length = p.n) (h : RelOk p ys) (hf : ordOf p (canEls (Gen (fun a : El p => a ∈ ys))) = ordL p (List.range p.n)) (z : El p) : ∃ x : El p, imgE ys x.v = z := by
  have h1 := full_gen (seqEl_can (Gen.sub (fun a : El p => a ∈ ys))) hf z
  have e1 : imgE ys (1 : El p).v = 1 := by
    have h2 := img_hom hl h (1 : El p) 1
    rw [Grp.one_mul] at h2
    have h3 := congrArg (fun a => (imgE ys (1 : El p).v)⁻¹ * a) h2
    simp only [← Grp.mul_assoc, Grp.inv_mul, Grp.one_mul] at h3
    exact h3.symm
  have hS : Pc.Sub (fun z : El p => ∃ x : El p, imgE ys x.v = z) := ⟨⟨1, e1⟩, fun a b ⟨x, hx⟩ ⟨y, hy⟩ => ⟨x * y, by rw [img_hom hl h, hx, hy]⟩, fun a ⟨x, hx⟩ => ⟨x⁻¹, by
    have h2 := img_hom hl h x⁻¹ x
    rw [Grp.inv_mul, e1, hx] at h2
    exact Grp.eq_inv_of_mul h2.symm⟩⟩
  have h2 := (gen_can (Gen.sub (fun a : El p => a ∈ ys)) z).1 h1
  refine Gen.le hS (fun a ha => ?_) z h2
  obtain ⟨i, hi, rfl⟩ := List.getElem_of_mem ha
  refine ⟨gOf p 0 i, ?_⟩
  rw [img_unit hl (by omega)]
  simp [hi]
theorem aut_period {ys : List (El p)} (hl : ys.length = p.n) (h : RelOk p ys) (hf : ordOf p (canEls (Gen (fun a : El p => a ∈ ys))) = ordL p (List.range p.n)) (x : El p) : ∃ m, 1 ≤ m ∧ itF (fun x : El p => imgE ys x.v) m x = x := by
  obtain ⟨num, hn⟩ : ∃ num : El p → Nat, ∀ x, num x < ordN p ∧ x = allE p (num x) := ⟨fun x => Classical.choose (allE_surj x), fun x => Classical.choose_spec (allE_surj x)⟩
  exact period (num := num) (fun x => (hn x).1) (fun x y e => by rw [(hn x).2, (hn y).2, e]) (aut_onto hl h hf) x
theorem aut_inj {ys : List (El p)} (hl : ys.length = p.n) (h : RelOk p ys) (hf : ordOf p (canEls (Gen (fun a : El p => a ∈ ys))) = ordL p (List.range p.n)) {x y : El p} (e : imgE ys x.v = imgE ys y.v) : x = y :=
  period_inj (f := fun x : El p => imgE ys x.v) (aut_period hl h hf) e
/-- The images that an inverse automorphism has. -/
def InV (p : Pr) (xss r : List (List Int)) (e : Int) : Prop := (∃ (_ : ConAll p) (ys zs : List (El p)), xss = vecs ys ∧ zs.length = p.n ∧ (∀ i, i < p.n → imgE ys (zs.getD i 1).v = gOf p 0 i) ∧ r = vecs zs) ∧ e = 0
end
theorem InV.uniq {p : Pr} {xss : List (List Int)} (hI : IsoP p p xss) (a b : List (List Int)) (c d : Int) (h : InV p xss a c) (k : InV p xss b d) : a = b ∧ c = d := by
  obtain ⟨⟨hc, ys, zs, h1, h2, h3, rfl⟩, rfl⟩ := h
  obtain ⟨⟨kc, ys', zs', k1, k2, k3, rfl⟩, rfl⟩ := k
  obtain rfl := vecs_inj (h1.symm.trans k1)
  obtain ⟨_, hlen, _, hq, _, hC⟩ := hI
  rw [h1] at hC hlen
  obtain ⟨hR, hf⟩ := isoC_iff.1 hC
  have hl : ys.length = p.n := by simpa using hlen
  have e : zs = zs' := by
    refine List.ext_getElem (by omega) fun i hi hi' => ?_
    have e1 := h3 i (by omega)
    have e2 := k3 i (by omega)
    have e3 := aut_inj hl hR hf (e1.trans e2.symm)
    simpa [hi, hi'] using e3
  exact ⟨by rw [e], rfl⟩
end Go.Proofs.Ytjljbfcdpdckeaa

/-
  Classes of conjugate elements; the order of lists of numbers is the order of the elements' numbers; a sorted list of distinct elements is determined by its members.
  Conditions: the tails at all levels are groups.
-/
namespace Go.Proofs.Ytjljbfcdpdckeaa
open Go Go.Pc
/-! ### comparison of lists -/
/-- What cmp.Compare gives. -/
def cmpI (a b : Int) : Int := if a < b then -1 else if b < a then 1 else 0
/-- What slices.Compare gives. -/
def cmpL : List Int → List Int → Int
  | [], [] => 0
  | [], _ :: _ => -1
  | _ :: _, [] => 1
  | a :: l, b :: m => if cmpI a b = 0 then cmpL l m else cmpI a b
theorem cmpI_zero {a b : Int} : cmpI a b = 0 ↔ a = b := by
  unfold cmpI
  split
  · constructor <;> intro h <;> omega
  · split
    · constructor <;> intro h <;> omega
    · constructor <;> intro h <;> omega
theorem cmpI_swap (a b : Int) : cmpI b a = - cmpI a b := by
  unfold cmpI
  repeat' split
  all_goals omega
theorem cmpL_self : ∀ l : List Int, cmpL l l = 0
  | [] => rfl
  | a :: l => by rw [cmpL, if_pos (cmpI_zero.2 rfl)]; exact cmpL_self l
theorem cmpL_zero : ∀ {l m : List Int}, cmpL l m = 0 → l = m
  | [], [], _ => rfl
  | [], _ :: _, h => by simp [cmpL] at h
  | _ :: _, [], h => by simp [cmpL] at h
  | a :: l, b :: m, h => by
    rw [cmpL] at h
    by_cases e : cmpI a b = 0
    · rw [if_pos e] at h
      rw [cmpI_zero.1 e, cmpL_zero h]
    · rw [if_neg e] at h; exact absurd h e
theorem cmpL_swap : ∀ l m : List Int, cmpL m l = - cmpL l m
  | [], [] => rfl
  | [], _ :: _ => rfl
  | _ :: _, [] => rfl
  | a :: l, b :: m => by
    rw [cmpL, cmpL, cmpI_swap a b]
    by_cases e : cmpI a b = 0
    · rw [if_pos (by omega), if_pos e]; exact cmpL_swap l m
    · rw [if_neg (by omega), if_neg e]
theorem cmpI_rng (a b : Int) : cmpI a b = -1 ∨ cmpI a b = 0 ∨ cmpI a b = 1 := by
  unfold cmpI
  repeat' split
  all_goals omega
theorem cmpL_rng : ∀ l m : List Int, cmpL l m = -1 ∨ cmpL l m = 0 ∨ cmpL l m = 1
  | [], [] => .inr (.inl rfl)
  | [], _ :: _ => .inl rfl
  | _ :: _, [] => .inr (.inr rfl)
  | a :: l, b :: m => by
    rw [cmpL]
    by_cases e : cmpI a b = 0
    · rw [if_pos e]; exact cmpL_rng l m
    · rw [if_neg e]; exact cmpI_rng a b
/-- Where two lists of one length part. -/
theorem cmpL_lt : ∀ {l m : List Int}, cmpL l m < 0 → l.length = m.length → ∃ d, d < l.length ∧ (∀ j, j < d → l.getD j 0 = m.getD j 0) ∧ l.getD d 0 < m.getD d 0
  | [], [], h, _ => by simp [cmpL] at h
  | [], _ :: _, _, h => by simp at h
  | _ :: _, [], _, h => by simp at h
  | a :: l, b :: m, h, hl => by
    rw [cmpL] at h
    by_cases e : cmpI a b = 0
    · rw [if_pos e] at h
      obtain ⟨d, h1, h2, h3⟩ := cmpL_lt h (by simpa using hl)
      refine ⟨d + 1, by simpa using h1, fun j hj => ?_, by simpa using h3⟩
      cases j with
      | zero => simpa using cmpI_zero.1 e
      | succ j => simpa using h2 j (by omega)
    · rw [if_neg e] at h
      refine ⟨0, by simp, fun j hj => by omega, ?_⟩
      simp only [List.getD_cons_zero]
      unfold cmpI at h
      split at h
      · assumption
      · split at h <;> omega
section
variable {p : Pr} [hc : ConAll p]
/-! ### numbers of elements -/
def numE (x : El p) : Nat := (numF p (List.range p.n) x).toNat
theorem numF_all (x : El p) : 0 ≤ numF p (List.range p.n) x ∧ numF p (List.range p.n) x + 1 ≤ ordL p (List.range p.n) := by
  have h := numF_lt hc.valid (List.range p.n) (fun d hd => List.mem_range.1 hd) x (List.range p.n).length (Nat.le_refl _)
  rwa [List.take_length] at h
theorem numE_cast (x : El p) : ((numE x : Nat) : Int) = numF p (List.range p.n) x := by
  have := numF_all x
  unfold numE
  omega
theorem numE_lt (x : El p) : numE x < ordN p := by
  have := numF_all x
  unfold numE ordN
  omega
theorem allE_numE (x : El p) : allE p (numE x) = x := by
  have hv := hc.valid
  have hl : ∀ d, d ∈ List.range p.n → d < p.n := fun d hd => List.mem_range.1 hd
  have hn := elTo_num hv (List.range p.n) List.nodup_range hl x (List.range p.n).length (Nat.le_refl _)
  rw [List.take_length] at hn
  refine T.ext ?_
  rw [allE_val, numE_cast]
  have hxl := x.inr.len
  refine list_ext0 (by rw [elTo_len]; exact hxl.symm) fun d hd => ?_
  rw [elTo_len] at hd
  rw [hn d (List.mem_range.2 (by omega))]; rfl
theorem numE_allE {i : Nat} (h : i < ordN p) : numE (allE p i) = i := allE_inj (numE_lt _) h (allE_numE _)
theorem numE_inj {x y : El p} (h : numE x = numE y) : x = y := by rw [← allE_numE x, h, allE_numE]
theorem numF_lex {x y : El p} {d : Nat} (hd : d < p.n) (he : ∀ j, j < d → co x j = co y j) (hl : co x d < co y d) : ∀ k, k ≤ p.n → (k ≤ d → numF p ((List.range p.n).take k) x = numF p ((List.range p.n).take k) y) ∧ (d < k → numF p ((List.range p.n).take k) x + 1 ≤ numF p ((List.range p.n).take k) y)
  | 0, _ => ⟨fun _ => by simp [numF], fun h => by omega⟩
  | k + 1, hk => by
    have ih := numF_lex hd he hl k (by omega)
    have hkl : k < (List.range p.n).length := by rw [List.length_range]; omega
    have hg : (List.range p.n)[k] = k := by simp
    have ho := hc.valid.opos (show k < p.n by omega)
    rw [numF_take _ x hkl, numF_take _ y hkl, hg]
    refine ⟨fun h => ?_, fun h => ?_⟩
    · rw [ih.1 (by omega), he k (by omega)]
    · by_cases e : k = d
      · subst e
        rw [ih.1 (Nat.le_refl _)]
        omega
      · have h1 := ih.2 (by omega)
        have h2 : co x k < p.o k := (x.inr.rng k (by omega)).2
        have h3 : 0 ≤ co y k := (y.inr.rng k (by omega)).1
        have h4 : (numF p ((List.range p.n).take k) x + 1) * p.o k ≤ numF p ((List.range p.n).take k) y * p.o k := Int.mul_le_mul_of_nonneg_right h1 (by omega)
        rw [Int.add_mul, Int.one_mul] at h4
        omega
theorem numE_of_lt {x y : El p} (h : cmpL x.v y.v < 0) : numE x < numE y := by
  have hx := x.inr.len
  have hy := y.inr.len
  obtain ⟨d, h1, h2, h3⟩ := cmpL_lt h (by omega)
  have h4 := (numF_lex (p := p) (x := x) (y := y) (d := d) (by omega) (fun j hj => h2 j hj) h3 p.n (Nat.le_refl _)).2 (by omega)
  rw [show (List.range p.n).take p.n = List.range p.n by rw [List.take_of_length_le]; simp] at h4
  have h5 := numE_cast x
  have h6 := numE_cast y
  omega
theorem numE_lt_iff {x y : El p} : cmpL x.v y.v < 0 ↔ numE x < numE y := by
  refine ⟨numE_of_lt, fun h => ?_⟩
  rcases cmpL_rng x.v y.v with e | e | e
  · omega
  · have : x = y := T.ext (cmpL_zero e)
    subst this; omega
  · have h1 : cmpL y.v x.v < 0 := by rw [cmpL_swap]; omega
    have := numE_of_lt h1
    omega
theorem cmpL_el {x y : El p} : cmpL x.v y.v = 0 ↔ x = y := ⟨fun h => T.ext (cmpL_zero h), fun h => by rw [h]; exact cmpL_self _⟩
/-! ### sorted lists -/
theorem sorted_eq : ∀ {l m : List (El p)}, l.Pairwise (fun a b => numE a < numE b) → m.Pairwise (fun a b => numE a < numE b) → (∀ x, x ∈ l ↔ x ∈ m) → l = m
  | [], [], _, _, _ => rfl
  | [], b :: m, _, _, h => absurd ((h b).2 List.mem_cons_self) (by simp)
  | a :: l, [], _, _, h => absurd ((h a).1 List.mem_cons_self) (by simp)
  | a :: l, b :: m, hl, hm, h => by
    obtain ⟨h1, h2⟩ := List.pairwise_cons.1 hl
    obtain ⟨k1, k2⟩ := List.pairwise_cons.1 hm
    have e : a = b := by
      rcases List.mem_cons.1 ((h a).1 List.mem_cons_self) with e | ha
      · exact e
      rcases List.mem_cons.1 ((h b).2 List.mem_cons_self) with e | hb
      · exact e.symm
      have := h1 b hb
      have := k1 a ha
      omega
    subst e
    have : l = m := sorted_eq h2 k2 fun x => ⟨fun hx => (List.mem_cons.1 ((h x).1 (List.mem_cons_of_mem _ hx))).resolve_left fun e => by
        subst e
        have := h1 x hx; omega, fun hx => (List.mem_cons.1 ((h x).2 (List.mem_cons_of_mem _ hx))).resolve_left fun e => by
        subst e
        have := k1 x hx; omega⟩
    rw [this]
theorem selL_mem {P : El p → Prop} {k : Nat} {x : El p} : x ∈ selL P k ↔ (∃ i, i < k ∧ x = allE p i) ∧ P x := by
  unfold selL
  rw [List.mem_filter, List.mem_map]
  constructor
  · rintro ⟨⟨i, h1, h2⟩, h3⟩
    exact ⟨⟨i, List.mem_range.1 h1, h2.symm⟩, by simpa using h3⟩
  · rintro ⟨⟨i, h1, h2⟩, h3⟩
    exact ⟨⟨i, List.mem_range.2 h1, h2.symm⟩, by simpa using h3⟩
theorem selL_ord {P : El p → Prop} {x : El p} : x ∈ selL P (ordN p) ↔ P x :=
  ⟨fun h => (selL_mem.1 h).2, fun h => selL_mem.2 ⟨⟨numE x, numE_lt x, (allE_numE x).symm⟩, h⟩⟩
theorem selL_sorted (P : El p → Prop) : ∀ {k : Nat}, k ≤ ordN p → (selL P k).Pairwise fun a b => numE a < numE b
  | 0, _ => by simp [selL]
  | k + 1, hk => by
    have ih := selL_sorted P (k := k) (by omega)
    by_cases h : P (allE p k)
    · rw [selL_yes h]
      refine List.pairwise_append.2 ⟨ih, List.pairwise_singleton _ _, fun a ha b hb => ?_⟩
      rw [List.mem_singleton.1 hb]
      obtain ⟨⟨i, h1, rfl⟩, _⟩ := selL_mem.1 ha
      rw [numE_allE (by omega), numE_allE (by omega)]
      exact h1
    · rw [selL_no h]; exact ih
/-! ### classes -/
def Cnj (x y : El p) : Prop := ∃ z, y = Grp.cj x z
theorem Cnj.refl (x : El p) : Cnj x x := ⟨1, (Grp.cj_by_one x).symm⟩
theorem Cnj.symm {x y : El p} (h : Cnj x y) : Cnj y x := by
  obtain ⟨z, rfl⟩ := h
  exact ⟨z⁻¹, by rw [Grp.cj_cj, Grp.mul_inv, Grp.cj_by_one]⟩
theorem Cnj.trans {x y z : El p} (h : Cnj x y) (k : Cnj y z) : Cnj x z := by
  obtain ⟨a, rfl⟩ := h
  obtain ⟨b, rfl⟩ := k
  exact ⟨a * b, Grp.cj_cj _ _ _⟩
/-- What is closed under conjugation by the generators is closed under conjugation. -/
theorem cj_all {K : El p → Prop} (h : ∀ y, K y → ∀ g, g ∈ gensL p → K (Grp.cj y g)) : ∀ y, K y → ∀ z, K (Grp.cj y z) := by
  have hg : ∀ j, ∀ y, K y → K (Grp.cj y (gOf p 0 j)) := fun j y hy => by
    by_cases hj : j < p.n
    · exact h y hy _ (List.mem_map.2 ⟨j, List.mem_range.2 hj, rfl⟩)
    · rw [show gOf p 0 j = 1 from dif_neg (by omega), Grp.cj_by_one]; exact hy
  have hpw : ∀ j k, ∀ y, K y → K (Grp.cj y (Grp.pw (gOf p 0 j) k)) := fun j k => by
    induction k with
    | zero => intro y hy; rw [Grp.pw_zero, Grp.cj_by_one]; exact hy
    | succ k ih => intro y hy; rw [Grp.pw_succ, ← Grp.cj_cj]; exact hg j _ (ih y hy)
  intro y hy z
  rw [norm_form p.n 0 (by omega) (Nat.le_refl _) (Nat.zero_le _) z (fun i hi => absurd hi (Nat.not_lt_zero i))]
  generalize z.v = x
  have : ∀ m, K (Grp.cj y (phi (gOf p 0) x 0 m)) := fun m => by
    induction m with
    | zero => exact (by rw [show phi (gOf p 0) x 0 0 = 1 from rfl, Grp.cj_by_one]; exact hy)
    | succ m ih =>
      rw [phi_last, ← Grp.cj_cj]
      exact hpw _ _ _ ih
  exact this p.n
/-- The class of an element, by ascending numbers. -/
noncomputable def clsL (x : El p) : List (El p) := selL (Cnj x) (ordN p)
theorem clsL_mem {x y : El p} : y ∈ clsL x ↔ Cnj x y := selL_ord
theorem clsL_sorted (x : El p) : (clsL x).Pairwise fun a b => numE a < numE b := selL_sorted _ (Nat.le_refl _)
theorem clsL_eq {x : El p} {l : List (El p)} (hl : l.Pairwise fun a b => numE a < numE b) (hx : x ∈ l) (hs : ∀ y, y ∈ l → Cnj x y) (hg : ∀ y, y ∈ l → ∀ g, g ∈ gensL p → Grp.cj y g ∈ l) : l = clsL x :=
  sorted_eq hl (clsL_sorted x) fun y => by
    rw [clsL_mem]
    refine ⟨hs y, fun ⟨z, e⟩ => ?_⟩
    rw [e]
    exact cj_all (K := fun a => a ∈ l) hg x hx z
theorem nodup_len {l : List (El p)} (h : (l.map numE).Nodup) : l.length ≤ ordN p := by
  refine Decidable.byContradiction fun hn => ?_
  obtain ⟨a, b, hab, hb, e⟩ := pigeon (ordN p) (fun i => numE (l.getD i 1)) fun i _ => numE_lt _
  have h2 := List.pairwise_iff_getElem.1 h a b (by rw [List.length_map]; omega) (by rw [List.length_map]; omega) hab
  have ea : l.getD a 1 = l[a]'(by omega) := by simp [show a < l.length by omega]
  have eb : l.getD b 1 = l[b]'(by omega) := by simp [show b < l.length by omega]
  simp only [ea, eb] at e
  simp only [List.getElem_map] at h2
  exact h2 e
end
end Go.Proofs.Ytjljbfcdpdckeaa
