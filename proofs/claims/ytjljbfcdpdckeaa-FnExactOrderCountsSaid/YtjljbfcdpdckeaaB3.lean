/-
  Texts of one proof, put together by program: W08, W08b, W08c, W08d, W10, W10b, W10c, W12, I12, More, W01b, W01c, W12b, W12c, I12b, I12c, OwnR, OwnM, I12d, Seq2, W12d, Ans, Ans2, Clo, W13, Mem6, Grow, W01d, W13b, W13c, W16, Ans3, Ans4, Dig, Enum, Rel, Iso, Con, Ans5, Ser, Prj, Spq, Quo, Aut, Cls, Cls2, Per, Ocp, Ctr, Cca, Grow3, Grow4, Fork, Grow2, HomV, Tri, Bld, Of3, Dal, Hom, L01.
  Conditions: those told at each part.
-/
import Derived.Test.YtjljbfcdpdckeaaB2
import Derived.Deep.MidRow
set_option linter.unusedVariables false
set_option linter.unusedSimpArgs false
set_option linter.unusedSectionVars false
set_option linter.constructorNameAsVariable false
set_option linter.unnecessarySimpa false
set_option linter.deprecated false
/-
  Walks: the reference's product by descent (l08Image, l08At).
  Conditions: the presentation is valid, the vectors are exponent vectors with zeros ahead of the level.
-/
namespace Go.Proofs.Ytjljbfcdpdckeaa
open Go Go.Pc
def AtSpec (p : Pr) (i : Nat) : Prop := ∀ {w : World} {vp va vb : Value} {k : Int} {x y : List Int} {lo hi lo1 hi1 lo2 hi2 : Nat} [Pres lo hi w vp p] [Ints lo1 hi1 w va x] [Ints lo2 hi2 w vb y],
  k = i → InR p x → InR p y → ZU i x → ZU i y →
  Calls Try.prog 145 #[vp, .int .i64 k, va, vb] w (Ret fun v w' => Ext w w' ∧ Fr w.heap.size w' v (atv p i x y))
def ImgSpec (p : Pr) (i : Nat) : Prop := ∀ {w : World} {vp va : Value} {k : Int} {x : List Int} {lo hi lo1 hi1 : Nat} [Pres lo hi w vp p] [Ints lo1 hi1 w va x],
  k = i → InR p x →
  Calls Try.prog 160 #[vp, .int .i64 k, va] w (Ret fun v w' => Ext w w' ∧ Fr w.heap.size w' v (img p i x))
set_option maxHeartbeats 1000000 in
theorem img_of_at {p : Pr} (hv : Valid p) {i : Nat} (hi : i < p.n) (hat : AtSpec p (i + 1)) : ImgSpec p i := by
  intro w vp va k0 x lo hi' lo1 hi1 hp hx hk0 hxr
  subst hk0
  have hn6 := hv.n6
  have hol : p.ord.length = p.n := rfl
  have hcl : p.cnj.length = p.n := hv.lenc
  have hci := hv.lenci i hi
  obtain ⟨vo, vpw, vc, ps, cs, css, rfl, h1, h2, h3⟩ := hp.ex
  refine enter (args := [.agg #[vo, vpw, vc], .int .i64 i, va]) (l := [.tmp 6]) Try.func160 rfl rfl Try.ntmps160 (by simp) ?_
  refine go ?_
  refine st_box3 (by ((try simp only [ev_tmp, ev_const, ev_func, get_put, get_args, get_putL, get_putL_nil, Nat.reduceEqDiff, reduceIte, List.getD_cons_zero, List.getD_cons_succ, List.getD_nil]); first | done | with_reducible rfl)) (by first | exact True.intro | exact ⟨_, rfl, by ((try simp only [ev_tmp, ev_const, ev_func, get_put, get_args, get_putL, get_putL_nil, Nat.reduceEqDiff, reduceIte, List.getD_cons_zero, List.getD_cons_succ, List.getD_nil, Bool.not_true, Bool.not_false]); first | done | with_reducible rfl)⟩) fun w1 b he1 hb1 hs1 hc0 hc1 hc2 => ?_
  refine go ?_
  refine st_make_int (by ((try simp only [ev_tmp, ev_const, ev_func, get_put, get_args, get_putL, get_putL_nil, Nat.reduceEqDiff, reduceIte, List.getD_cons_zero, List.getD_cons_succ, List.getD_nil]); first | done | with_reducible rfl)) (by ((try simp only [ev_tmp, ev_const, ev_func, get_put, get_args, get_putL, get_putL_nil, Nat.reduceEqDiff, reduceIte, List.getD_cons_zero, List.getD_cons_succ, List.getD_nil]); first | done | with_reducible rfl)) (by omega) (by omega) (by first | exact True.intro | exact ⟨_, rfl, by ((try simp only [ev_tmp, ev_const, ev_func, get_put, get_args, get_putL, get_putL_nil, Nat.reduceEqDiff, reduceIte, List.getD_cons_zero, List.getD_cons_succ, List.getD_nil, Bool.not_true, Bool.not_false]); first | done | with_reducible rfl)⟩) fun w2 v2 he2 hs2 ho2 => ?_
  have hz : Fr w.heap.size w2 v2 (zeros p.n) := ho2.toFr (by omega)
  refine go ?_
  refine r_for (p.n - (i + 1)) (fun k ρ w' => ∃ vo', Has ρ [(1, .int .i64 i), (2, va), (3, .pointer (some ⟨b, 0, none⟩)), (7, .int .i64 p.n), (8, vo'), (9, .int .i64 (i + 1 + k : Nat))] ∧ Ext w1 w' ∧ Fr w.heap.size w' vo' (imgTo p i x k)) ?_ ?_
  · refine ⟨v2, ?_, he2, hz⟩
    exact hasP
  · rintro k ρ w3 hk ⟨vo', hH, he3, hf3⟩
    refine rwp_has hH fun ρ0 => ?_
    refine go ?_
    refine c_if (fun h4 => ?_) (fun h4 => ?_)
    · refine go ?_
      have hxj := hxr.rng (i + 1 + k) (by omega)
      have hoj := hv.opos (i := i + 1 + k) (by omega)
      have hxl := hxr.len
      refine r_for (x.getD (i + 1 + k) 0).toNat (fun q ρ w' => ∃ vo', Has ρ [(1, .int .i64 i), (2, va), (3, .pointer (some ⟨b, 0, none⟩)), (7, .int .i64 p.n), (8, vo'), (9, .int .i64 (i + 1 + k : Nat)), (10, .int .i64 q)] ∧ Ext w1 w' ∧
        Fr w.heap.size w' vo' (rep q (fun o => atv p (i + 1) o (p.c i (i + 1 + k))) (imgTo p i x k))) ?_ ?_
      · refine ⟨vo', ?_, he3, hf3⟩
        exact hasP
      · rintro q ρ w4 hq ⟨vo2, hH2, he4, hf4⟩
        refine rwp_has hH2 fun ρ1 => ?_
        refine go ?_
        refine c_if (fun h5 => ?_) (fun h5 => ?_)
        · refine go ?_
          refine d_region fun w5 he5 _ => ?_
          refine dgo ?_
          have hin := rep_inv (fun v => InR p v ∧ ZU (i + 1) v) (f := fun o => atv p (i + 1) o (p.c i (i + 1 + k))) (fun o ho => atv_in hv _ _ rfl _ _ ho.1 (hv.c_in _ _ (by omega) (by omega)) ho.2 (hv.c_zu _ _ (by omega) (by omega))) (imgTo_in hv (atv_in hv _ (i + 1) rfl) x k hk) q
          have hcin : InR p (p.c i (i + 1 + k)) := hv.c_in _ _ (by omega) (by omega)
          have hczu : ZU (i + 1) (p.c i (i + 1 + k)) := hv.c_zu _ _ (by omega) (by omega)
          refine dc (hat ?_ hin.1 hcin hin.2 hczu) (next := fun v6 w6 ⟨he6, hf6⟩ => ⟨fun h => h.trans he6, ?_⟩)
          · omega
          refine dgo ?_
          refine d_end (h := ?_)
          refine go ?_
          refine forQ_normal (by omega) ⟨v6, ?_, (he4.trans he5).trans he6, hf6.mono ?_⟩
          · exact hasP
          · have := he4.size; have := he5.size; omega
        · refine go ?_
          refine forQ_normal (by omega) ⟨vo2, ?_, he4, ?_⟩
          · exact hasP
          · rw [imgTo_succ]
            have : q = (x.getD (i + 1 + k) 0).toNat := by omega
            rw [← this]; exact hf4
    · refine go ?_
      have : k = p.n - (i + 1) := by omega
      subst this
      exact ret1 ⟨he1.trans he3, hf3⟩
set_option maxHeartbeats 2000000 in
theorem at_of_img {p : Pr} (hv : Valid p) {i : Nat} (himg : i < p.n → ImgSpec p i) (hat : i < p.n → AtSpec p (i + 1)) : AtSpec p i := by
  intro w vp va vb k0 x y lo hi lo1 hi1 lo2 hi2 hp hx hy hk0 hxr hyr zx zy
  subst hk0
  have hn6 := hv.n6
  have hol : p.ord.length = p.n := rfl
  have hwl : p.pow.length = p.n := hv.lenw
  replace hp := hp.wide
  replace hx := hx.wide
  replace hy := hy.wide
  obtain ⟨vo, vpw, vc, ps, cs, css, rfl, h1, h2, h3⟩ := hp.ex
  refine enter (args := [.agg #[vo, vpw, vc], .int .i64 i, va, vb]) (l := [.tmp 8]) Try.func145 rfl rfl Try.ntmps145 (by simp) ?_
  refine go ?_
  refine st_box3 (by ((try simp only [ev_tmp, ev_const, ev_func, get_put, get_args, get_putL, get_putL_nil, Nat.reduceEqDiff, reduceIte, List.getD_cons_zero, List.getD_cons_succ, List.getD_nil]); first | done | with_reducible rfl)) (by first | exact True.intro | exact ⟨_, rfl, by ((try simp only [ev_tmp, ev_const, ev_func, get_put, get_args, get_putL, get_putL_nil, Nat.reduceEqDiff, reduceIte, List.getD_cons_zero, List.getD_cons_succ, List.getD_nil, Bool.not_true, Bool.not_false]); first | done | with_reducible rfl)⟩) fun w1 b he1 hb1 hs1 hc0 hc1 hc2 => ?_
  refine go ?_
  refine c_if (fun h4 => ?_) (fun h4 => ?_)
  · refine go ?_
    refine st_make_int (by ((try simp only [ev_tmp, ev_const, ev_func, get_put, get_args, get_putL, get_putL_nil, Nat.reduceEqDiff, reduceIte, List.getD_cons_zero, List.getD_cons_succ, List.getD_nil]); first | done | with_reducible rfl)) (by ((try simp only [ev_tmp, ev_const, ev_func, get_put, get_args, get_putL, get_putL_nil, Nat.reduceEqDiff, reduceIte, List.getD_cons_zero, List.getD_cons_succ, List.getD_nil]); first | done | with_reducible rfl)) (by omega) (by omega) (by first | exact True.intro | exact ⟨_, rfl, by ((try simp only [ev_tmp, ev_const, ev_func, get_put, get_args, get_putL, get_putL_nil, Nat.reduceEqDiff, reduceIte, List.getD_cons_zero, List.getD_cons_succ, List.getD_nil, Bool.not_true, Bool.not_false]); first | done | with_reducible rfl)⟩) fun w2 v2 he2 hs2 ho2 => ?_
    refine go ?_
    refine ret1 ⟨he1.trans he2, ?_⟩
    rw [atv_end _ _ _ _ (by omega)]
    exact ho2.toFr (by omega)
  · have hin : i < p.n := by omega
    have hxl := hxr.len
    have hyl := hyr.len
    have hxi := hxr.rng i hin
    have hyi := hyr.rng i hin
    have hoi := hv.opos hin
    refine go ?_
    refine rc (l01Own_ok (xs := x) (by omega)) (next := fun v2 w2 ⟨he2, hf2⟩ => ?_)
    refine go ?_
    refine rc (l01Own_ok (xs := y) (by omega)) (next := fun v3 w3 ⟨he3, hf3⟩ => ?_)
    refine go ?_
    obtain ⟨e2, b2, hb2, ho2⟩ := hf2.own (by intro e; rw [e] at hxl; simp at hxl; omega)
    obtain ⟨e3, b3, hb3, ho3⟩ := hf3.own (by intro e; rw [e] at hyl; simp at hyl; omega)
    have hl2 := ho2.lt
    have hl3 := ho3.lt
    have hz1 := he1.size
    have hz2 := he2.size
    have hz3 := he3.size
    have ap1 : Apart 0 w.heap.size b2 := ⟨.inr (by omega)⟩
    have ap2 : Apart 0 w.heap.size b3 := ⟨.inr (by omega)⟩
    have ap3 : Apart b (b + 1) b2 := ⟨.inr (by omega)⟩
    have ap4 : Apart b (b + 1) b3 := ⟨.inr (by omega)⟩
    have ho2' : OwnI e2 b2 w3 v2 x := OwnI.ext (h := ho2)
    clear hf2 hf3 ho2
    refine st_store_int (by ((try simp only [ev_tmp, ev_const, ev_func, get_put, get_args, get_putL, get_putL_nil, Nat.reduceEqDiff, reduceIte, List.getD_cons_zero, List.getD_cons_succ, List.getD_nil]); first | done | with_reducible rfl)) (by ((try simp only [ev_tmp, ev_const, ev_func, get_put, get_args, get_putL, get_putL_nil, Nat.reduceEqDiff, reduceIte, List.getD_cons_zero, List.getD_cons_succ, List.getD_nil]); first | done | with_reducible rfl)) ?_ (by first | exact True.intro | exact ⟨_, rfl, by ((try simp only [ev_tmp, ev_const, ev_func, get_put, get_args, get_putL, get_putL_nil, Nat.reduceEqDiff, reduceIte, List.getD_cons_zero, List.getD_cons_succ, List.getD_nil, Bool.not_true, Bool.not_false]); first | done | with_reducible rfl)⟩) fun w4 hc4 hs4 ho4 => ?_
    · omega
    have ho3' := ho3.chg' hc4 (by omega)
    refine go ?_
    refine st_store_int (by ((try simp only [ev_tmp, ev_const, ev_func, get_put, get_args, get_putL, get_putL_nil, Nat.reduceEqDiff, reduceIte, List.getD_cons_zero, List.getD_cons_succ, List.getD_nil]); first | done | with_reducible rfl)) (by ((try simp only [ev_tmp, ev_const, ev_func, get_put, get_args, get_putL, get_putL_nil, Nat.reduceEqDiff, reduceIte, List.getD_cons_zero, List.getD_cons_succ, List.getD_nil]); first | done | with_reducible rfl)) ?_ (by first | exact True.intro | exact ⟨_, rfl, by ((try simp only [ev_tmp, ev_const, ev_func, get_put, get_args, get_putL, get_putL_nil, Nat.reduceEqDiff, reduceIte, List.getD_cons_zero, List.getD_cons_succ, List.getD_nil, Bool.not_true, Bool.not_false]); first | done | with_reducible rfl)⟩) fun w5 hc5 hs5 ho5 => ?_
    · omega
    have ho4' := ho4.chg' hc5 (by omega)
    have hE5 : Ext w w5 := hc5.ext (hc4.ext ((he1.trans he2).trans he3) (by omega)) (by omega)
    clear ho2' ho3' ho3 ho4
    refine go ?_
    have hx0 : InR p (x.set i 0) ∧ ZU (i + 1) (x.set i 0) := ⟨hxr.set (by omega) (fun _ => by omega), zx.set0⟩
    have hy0 : InR p (y.set i 0) ∧ ZU (i + 1) (y.set i 0) := ⟨hyr.set (by omega) (fun _ => by omega), zy.set0⟩
    have hrin : ∀ q, InR p (rep q (img p i) (x.set i 0)) ∧ ZU (i + 1) (rep q (img p i) (x.set i 0)) := fun q => rep_inv (fun v => InR p v ∧ ZU (i + 1) v) (fun u _ => img_in hv i u) hx0 q
    refine r_for (y.getD i 0).toNat (fun q ρ w' => ∃ vl lo hi, Has ρ [(1, .int .i64 i), (2, va), (3, vb), (4, .pointer (some ⟨b, 0, none⟩)), (9, .int .i64 p.n), (10, vl), (11, v3), (12, .int .i64 q)] ∧ Ext w5 w' ∧ Ints lo hi w' vl (rep q (img p i) (x.set i 0))) ?_ ?_
    · refine ⟨v2, _, _, ?_, Ext.refl _, inferInstance⟩
      exact hasP
    · rintro q ρ w6 hq ⟨vl, lo', hi', hH, he6, hl6⟩
      refine rwp_has hH fun ρ0 => ?_
      refine go ?_
      refine c_if (fun h7 => ?_) (fun h7 => ?_)
      · refine go ?_
        refine rc (himg hin ?_ (hrin q).1) (next := fun v7 w7 ⟨he7, hf7⟩ => ?_)
        · omega
        refine go ?_
        refine forQ_normal (by omega) ⟨v7, _, _, ?_, he6.trans he7, inferInstance⟩
        exact hasP
      · have hqe : q = (y.getD i 0).toNat := by omega
        refine go ?_
        have hrr := hrin q
        refine rc (hat hin ?_ hrr.1 hy0.1 hrr.2 hy0.2) (next := fun v7 w7 ⟨he7, hf7⟩ => ?_)
        · omega
        refine go ?_
        refine d_region fun w8 he8 _ => ?_
        refine dgo ?_
        refine d_end (h := ?_)
        have hE8 := (he6.trans he7).trans he8
        have hz8 := hE8.size
        have hor : p.ord.getD i 0 = p.o i := rfl
        have hat7 := atv_in hv _ (i + 1) rfl _ _ hrr.1 hy0.1 hrr.2 hy0.2
        have hwi := hv.w_in i hin
        have hwz := hv.w_zu i hin
        have hveq := atv_eq p i x y hin
        rw [← hqe] at hveq
        have hlen7 := hat7.1.len
        clear hl6 ho5 ho4'
        refine go ?_
        refine c_if (fun h9 => ?_) (fun h9 => ?_)
        · have h9' : p.o i ≤ x.getD i 0 + y.getD i 0 := h9
          rw [if_pos h9'] at hveq
          refine go ?_
          refine d_region fun w9 he9 _ => ?_
          refine dgo ?_
          refine dc (hat hin (x := p.w i) (y := atv p (i + 1) (rep q (img p i) (x.set i 0)) (y.set i 0)) ?_ hwi hat7.1 hwz hat7.2) (next := fun v10 w10 ⟨he10, hf10⟩ => ⟨fun h => h.trans he10, ?_⟩)
          · omega
          refine dgo ?_
          refine d_end (h := ?_)
          have hat10 := atv_in hv _ (i + 1) rfl _ _ hwi hat7.1 hwz hat7.2
          have hlen10 := hat10.1.len
          refine go ?_
          refine rc (l01Own_ok (xs := atv p (i + 1) (p.w i) (atv p (i + 1) (rep q (img p i) (x.set i 0)) (y.set i 0))) (by omega)) (next := fun v11 w11 ⟨he11, hf11⟩ => ?_)
          refine go ?_
          obtain ⟨e11, b11, hb11, ho11⟩ := hf11.own (by intro e; rw [e] at hlen10; simp at hlen10; omega)
          clear hf11
          refine st_store_int (by ((try simp only [ev_tmp, ev_const, ev_func, get_put, get_args, get_putL, get_putL_nil, Nat.reduceEqDiff, reduceIte, List.getD_cons_zero, List.getD_cons_succ, List.getD_nil]); first | done | with_reducible rfl)) (by ((try simp only [ev_tmp, ev_const, ev_func, get_put, get_args, get_putL, get_putL_nil, Nat.reduceEqDiff, reduceIte, List.getD_cons_zero, List.getD_cons_succ, List.getD_nil]); first | done | with_reducible rfl)) ?_ (by first | exact True.intro | exact ⟨_, rfl, by ((try simp only [ev_tmp, ev_const, ev_func, get_put, get_args, get_putL, get_putL_nil, Nat.reduceEqDiff, reduceIte, List.getD_cons_zero, List.getD_cons_succ, List.getD_nil, Bool.not_true, Bool.not_false]); first | done | with_reducible rfl)⟩) fun w12 hc12 hs12 ho12 => ?_
          · omega
          refine go ?_
          have h9s := he9.size
          have h10s := he10.size
          refine ret1 ⟨hc12.ext ((((hE5.trans hE8).trans he9).trans he10).trans he11) (by omega), ?_⟩
          rw [hveq]
          exact ho12.toFr (by omega)
        · have h9' : ¬ p.o i ≤ x.getD i 0 + y.getD i 0 := h9
          rw [if_neg h9'] at hveq
          refine go ?_
          refine rc (l01Own_ok (xs := atv p (i + 1) (rep q (img p i) (x.set i 0)) (y.set i 0)) (by omega)) (next := fun v11 w11 ⟨he11, hf11⟩ => ?_)
          refine go ?_
          obtain ⟨e11, b11, hb11, ho11⟩ := hf11.own (by intro e; rw [e] at hlen7; simp at hlen7; omega)
          clear hf11
          refine st_store_int (by ((try simp only [ev_tmp, ev_const, ev_func, get_put, get_args, get_putL, get_putL_nil, Nat.reduceEqDiff, reduceIte, List.getD_cons_zero, List.getD_cons_succ, List.getD_nil]); first | done | with_reducible rfl)) (by ((try simp only [ev_tmp, ev_const, ev_func, get_put, get_args, get_putL, get_putL_nil, Nat.reduceEqDiff, reduceIte, List.getD_cons_zero, List.getD_cons_succ, List.getD_nil]); first | done | with_reducible rfl)) ?_ (by first | exact True.intro | exact ⟨_, rfl, by ((try simp only [ev_tmp, ev_const, ev_func, get_put, get_args, get_putL, get_putL_nil, Nat.reduceEqDiff, reduceIte, List.getD_cons_zero, List.getD_cons_succ, List.getD_nil, Bool.not_true, Bool.not_false]); first | done | with_reducible rfl)⟩) fun w12 hc12 hs12 ho12 => ?_
          · omega
          refine go ?_
          refine ret1 ⟨hc12.ext ((hE5.trans hE8).trans he11) (by omega), ?_⟩
          rw [hveq]
          exact ho12.toFr (by omega)
theorem at_ok {p : Pr} (hv : Valid p) : ∀ (m i : Nat), p.n - i = m → AtSpec p i
  | 0, i, hm => at_of_img hv (fun h => by omega) (fun h => by omega)
  | m + 1, i, hm => at_of_img hv (fun h => img_of_at hv h (at_ok hv m (i + 1) (by omega))) (fun _ => at_ok hv m (i + 1) (by omega))
theorem l08At_ok {p : Pr} (hv : Valid p) (i : Nat) : AtSpec p i := at_ok hv _ i rfl
theorem l08Image_ok {p : Pr} (hv : Valid p) {i : Nat} (hi : i < p.n) : ImgSpec p i := img_of_at hv hi (l08At_ok hv (i + 1))
end Go.Proofs.Ytjljbfcdpdckeaa

/-
  Walks: the reference's powers and the conditions of a level (l08Repeat, l08Level).
  Conditions: the presentation is valid and its tail behind the level is a group.
-/
namespace Go.Proofs.Ytjljbfcdpdckeaa
open Go Go.Pc
/-- Of whatever footprint. -/
def IntsE (w : World) (v : Value) (xs : List Int) : Prop := ∃ lo hi, Ints lo hi w v xs
theorem IntsE.of {lo hi : Nat} {w : World} {v : Value} {xs : List Int} [h : Ints lo hi w v xs] : IntsE w v xs := ⟨lo, hi, h⟩
theorem l08AtT_ok {p : Pr} {i : Nat} [hc : Con p i] {w : World} {vp va vb : Value} {k : Int} {x y : T p i} {lo hi lo1 hi1 lo2 hi2 : Nat} [hp : Pres lo hi w vp p] [hx : Ints lo1 hi1 w va x.v] [hy : Ints lo2 hi2 w vb y.v] (hk : k = i) :
    Calls Try.prog 145 #[vp, .int .i64 k, va, vb] w (Ret fun v w' => Ext w w' ∧ Fr w.heap.size w' v (x * y).v) :=
  l08At_ok hc.valid i hk x.inr y.inr x.zu y.zu
set_option maxHeartbeats 1000000 in
theorem l08Repeat_ok {p : Pr} {i : Nat} [hc : Con p i] {w : World} {vp vx : Value} {ki k : Int} {x : T p i} {xs : List Int} {lo hi lo1 hi1 : Nat} [hp : Pres lo hi w vp p] [hx : Ints lo1 hi1 w vx xs] (hxe : xs = x.v) (hki : ki = i) (hk0 : 0 ≤ k) (hk1 : k ≤ 9223372036854775807) :
    Calls Try.prog 152 #[vp, .int .i64 ki, vx, .int .i64 k] w (Ret fun v w' => Ext w w' ∧ Fr w.heap.size w' v (Grp.pw x k.toNat).v) := by
  subst hki hxe
  have hv := hc.valid
  have hn6 := hv.n6
  have hol : p.ord.length = p.n := rfl
  obtain ⟨vo, vpw, vc, ps, cs, css, rfl, h1, h2, h3⟩ := hp.ex
  refine enter (args := [.agg #[vo, vpw, vc], .int .i64 i, vx, .int .i64 k]) (l := [.tmp 8]) Try.func152 rfl rfl Try.ntmps152 (by simp) ?_
  refine go ?_
  refine st_box3 (by ((try simp only [ev_tmp, ev_const, ev_func, get_put, get_args, get_putL, get_putL_nil, Nat.reduceEqDiff, reduceIte, List.getD_cons_zero, List.getD_cons_succ, List.getD_nil]); first | done | with_reducible rfl)) (by first | exact True.intro | exact ⟨_, rfl, by ((try simp only [ev_tmp, ev_const, ev_func, get_put, get_args, get_putL, get_putL_nil, Nat.reduceEqDiff, reduceIte, List.getD_cons_zero, List.getD_cons_succ, List.getD_nil, Bool.not_true, Bool.not_false]); first | done | with_reducible rfl)⟩) fun w1 b he1 hb1 hs1 hc0 hc1 hc2 => ?_
  refine go ?_
  refine st_make_int (by ((try simp only [ev_tmp, ev_const, ev_func, get_put, get_args, get_putL, get_putL_nil, Nat.reduceEqDiff, reduceIte, List.getD_cons_zero, List.getD_cons_succ, List.getD_nil]); first | done | with_reducible rfl)) (by ((try simp only [ev_tmp, ev_const, ev_func, get_put, get_args, get_putL, get_putL_nil, Nat.reduceEqDiff, reduceIte, List.getD_cons_zero, List.getD_cons_succ, List.getD_nil]); first | done | with_reducible rfl)) (by omega) (by omega) (by first | exact True.intro | exact ⟨_, rfl, by ((try simp only [ev_tmp, ev_const, ev_func, get_put, get_args, get_putL, get_putL_nil, Nat.reduceEqDiff, reduceIte, List.getD_cons_zero, List.getD_cons_succ, List.getD_nil, Bool.not_true, Bool.not_false]); first | done | with_reducible rfl)⟩) fun w2 v2 he2 hs2 ho2 => ?_
  refine go ?_
  refine r_loop (fun m ρ w' => ∃ (vo' vb' : Value) (a c : Nat), Has ρ [(1, .int .i64 i), (3, .int .i64 m), (4, .pointer (some ⟨b, 0, none⟩)), (9, vo'), (10, vb')] ∧ Ext w1 w' ∧ (m : Int) ≤ k ∧ a + c * m = k.toNat ∧
    Fr w.heap.size w' vo' (Grp.pw x a).v ∧ IntsE w' vb' (Grp.pw x c).v) k.toNat ?_ ?_
  · refine ⟨v2, vx, 0, 1, ?_, he2, by omega, by omega, ho2.toFr (by omega), ?_⟩
    · exact hasP
    · rw [Grp.pw_one]; exact IntsE.of
  · rintro m ρ w3 ⟨vo', vb', a, c, hH, he3, hm, hac, hf3, lo2, hi2, hi3⟩
    refine rwp_has hH fun ρ0 => ?_
    refine go ?_
    refine c_if (fun h4 => ?_) (fun h4 => ?_)
    · have hz := he1.size
      have hz3 := he3.size
      have hdiv : m = 2 * (m / 2) + m % 2 := by omega
      have hcm : c * m = (c + c) * (m / 2) + c * (m % 2) := by
        conv => lhs; rw [hdiv]
        rw [Nat.mul_add, ← Nat.mul_assoc, Nat.mul_two]
      refine go ?_
      refine c_if (fun h5 => ?_) (fun h5 => ?_)
      · refine go ?_
        refine rc (l08AtT_ok (x := Grp.pw x a) (y := Grp.pw x c) ?_) (next := fun v4 w4 h6 => ?_)
        · rfl
        obtain ⟨he4, hf4⟩ := h6
        refine go ?_
        refine rc (l08AtT_ok (x := Grp.pw x c) (y := Grp.pw x c) ?_) (next := fun v5 w5 h6 => ?_)
        · rfl
        obtain ⟨he5, hf5⟩ := h6
        refine go ?_
        have hm2 : m % 2 = 1 := by omega
        rw [hm2, Nat.mul_one] at hcm
        refine loopQ_normal (m := m / 2) (by omega) ⟨v4, v5, a + c, c + c, ?_, (he3.trans he4).trans he5, by omega, by omega, ?_, ?_⟩
        rotate_left
        · rw [Grp.pw_add]; exact (hf4.mono (by omega)).ext' he5
        · rw [Grp.pw_add]; exact IntsE.of (h := hf5.ints)
        · exact hasP
      · refine go ?_
        refine rc (l08AtT_ok (x := Grp.pw x c) (y := Grp.pw x c) ?_) (next := fun v5 w5 h6 => ?_)
        · rfl
        obtain ⟨he5, hf5⟩ := h6
        refine go ?_
        have hm2 : m % 2 = 0 := by omega
        rw [hm2, Nat.mul_zero] at hcm
        refine loopQ_normal (m := m / 2) (by omega) ⟨vo', v5, a, c + c, ?_, he3.trans he5, by omega, by omega, hf3.ext' he5, ?_⟩
        rotate_left
        · rw [Grp.pw_add]; exact IntsE.of (h := hf5.ints)
        · exact hasP
    · refine go ?_
      have hm0 : m = 0 := by omega
      subst hm0
      refine ret1 ⟨he1.trans he3, ?_⟩
      have : a = k.toNat := by omega
      rw [← this]; exact hf3
end Go.Proofs.Ytjljbfcdpdckeaa

/-
  Walk: the reference's look at one level (l08Level).
  Conditions: the presentation is valid, the tail behind the level is a group.
-/
namespace Go.Proofs.Ytjljbfcdpdckeaa
open Go Go.Pc
@[reducible] def faultV (k l f s : Int) : Value := .agg #[.int .i64 k, .int .i64 l, .int .i64 f, .int .i64 s]
/-- The conditions of a level, one generator (or pair) at a time. -/
def LP (p : Pr) (i : Nat) [h : Con p (i + 1)] (j : Nat) : Prop := ∀ hj : i < j ∧ j < p.n, (Grp.pw (Tc h.valid hj) (p.o j).toNat).v = img p i (p.w j)
def LC (p : Pr) (i : Nat) (j k : Nat) : Prop := i < j → j < k → k < p.n → atv p (i + 1) (p.c i k) (p.c i j) = atv p (i + 1) (p.c i j) (img p i (p.c j k))
def LI (p : Pr) (i : Nat) (j : Nat) : Prop := i + 1 ≤ j → j < p.n → atv p (i + 1) (p.w i) (rep (p.o i).toNat (img p i) (unitv p j 1)) = atv p (i + 1) (unitv p j 1) (p.w i)
theorem rep_Timg {p : Pr} {i : Nat} (hv : Valid p) (q : Nat) (u : T p (i + 1)) : (rep q (Timg hv) u).v = rep q (img p i) u.v := by
  induction q with
  | zero => rfl
  | succ q ih => rw [rep_succ, rep_succ, ← ih]; rfl
theorem chk_iff {p : Pr} {i : Nat} [h : Con p (i + 1)] (hi : i < p.n) : Chk p i hi ↔ (∀ j, LP p i j) ∧ (∀ j k, LC p i j k) ∧ img p i (p.w i) = p.w i ∧ ∀ j, LI p i j := by
  constructor
  · intro hc
    refine ⟨fun j hj => congrArg T.v (hc.P j hj), fun j k hj hjk hk => ?_, congrArg T.v hc.F, fun j hj hjn => ?_⟩
    · have h2 := congrArg (Tc h.valid (i := i) (j := j) ⟨hj, by omega⟩ * ·) (hc.C j k ⟨hj, by omega⟩ ⟨by omega, hk⟩ hjk)
      simp only [Grp.mul_cj] at h2
      exact congrArg T.v h2
    · have := hc.I j ⟨hj, hjn⟩
      have h2 : Tw h.valid hi * rep (p.o i).toNat (Timg h.valid) (gen h.valid (i + 1) j ⟨hj, hjn⟩) = gen h.valid (i + 1) j ⟨hj, hjn⟩ * Tw h.valid hi := by rw [this, Grp.mul_cj]
      have h3 := congrArg T.v h2
      rw [T.mul_val, rep_Timg, T.mul_val] at h3
      exact h3
  · rintro ⟨h1, h2, h3, h4⟩
    refine ⟨fun j hj => T.ext (h1 j hj), fun j k hj hk hjk => ?_, T.ext h3, fun j hj => ?_⟩
    · apply Grp.mul_left_cancel (a := Tc h.valid hj)
      rw [Grp.mul_cj]
      exact T.ext (h2 j k hj.1 hjk hk.2)
    · apply Grp.mul_left_cancel (a := Tw h.valid hi)
      rw [Grp.mul_cj]
      apply T.ext
      rw [T.mul_val, rep_Timg, T.mul_val]
      exact h4 j hj.1 hj.2
set_option maxHeartbeats 4000000 in
theorem l08Level_ok {p : Pr} {i : Nat} [hc : Con p (i + 1)] (hi : i < p.n) {w : World} {vp : Value} {ki : Int} {lo hi' : Nat} [hp : Pres lo hi' w vp p] (hki : ki = i) :
    Calls Try.prog 139 #[vp, .int .i64 ki] w (Ret fun v w' => ∃ k l f s : Int, v = faultV k l f s ∧ (k = 0 ↔ Chk p i hi) ∧ (k ≠ 0 → l = i) ∧ (k = 0 → l = 0 ∧ f = 0 ∧ s = 0) ∧ Ext w w') := by
  subst hki
  have hv := hc.valid
  have hn6 := hv.n6
  have hol : p.ord.length = p.n := rfl
  have hwl : p.pow.length = p.n := hv.lenw
  have hcl : p.cnj.length = p.n := hv.lenc
  have hci : (p.cnj.getD i []).length = p.n - 1 - i := hv.lenci i hi
  have hoi := hv.opos hi
  have hoe : p.o i = p.ord.getD i 0 := rfl
  obtain ⟨vo, vpw, vc, ps, cs, css, rfl, h1, h2, h3⟩ := hp.ex
  refine enter (args := [.agg #[vo, vpw, vc], .int .i64 i]) (l := [.cell 4 46]) Try.func139 rfl rfl Try.ntmps139 (by simp) ?_
  refine go ?_
  refine st_box3 (by ((try simp only [ev_tmp, ev_const, ev_func, get_put, get_args, get_putL, get_putL_nil, Nat.reduceEqDiff, reduceIte, List.getD_cons_zero, List.getD_cons_succ, List.getD_nil]); first | done | with_reducible rfl)) (by first | exact True.intro | exact ⟨_, rfl, by ((try simp only [ev_tmp, ev_const, ev_func, get_put, get_args, get_putL, get_putL_nil, Nat.reduceEqDiff, reduceIte, List.getD_cons_zero, List.getD_cons_succ, List.getD_nil, Bool.not_true, Bool.not_false]); first | done | with_reducible rfl)⟩) fun w1 b he1 hb1 hs1 hc0 hc1 hc2 => ?_
  refine go ?_
  refine st_alloc (by first | exact True.intro | exact ⟨_, rfl, by ((try simp only [ev_tmp, ev_const, ev_func, get_put, get_args, get_putL, get_putL_nil, Nat.reduceEqDiff, reduceIte, List.getD_cons_zero, List.getD_cons_succ, List.getD_nil, Bool.not_true, Bool.not_false]); first | done | with_reducible rfl)⟩) fun w2 bf he2 hbf hs2 hbk => ?_
  have hE2 : Ext w w2 := he1.trans he2
  have bad : ∀ {w3 : World} {k f s : Int}, Ext w w3 → k ≠ 0 → ¬ Chk p i hi → ∃ k' l' f' s' : Int, faultV k i f s = faultV k' l' f' s' ∧ (k' = 0 ↔ Chk p i hi) ∧ (k' ≠ 0 → l' = i) ∧ (k' = 0 → l' = 0 ∧ f' = 0 ∧ s' = 0) ∧ Ext w w3 :=
    fun he hk hn => ⟨_, _, _, _, rfl, ⟨fun h => absurd h hk, fun h => absurd h hn⟩, fun _ => rfl, fun h => absurd h hk, he⟩
  refine go ?_
  refine r_for (p.n - (i + 1)) (fun k ρ w' => Has ρ [(1, .int .i64 i), (2, .pointer (some ⟨b, 0, none⟩)), (4, .pointer (some ⟨bf, 0, none⟩)), (5, .int .i64 p.n), (6, .int .i64 i), (7, .int .i64 (i + 1 + k : Nat))] ∧ Ext w2 w' ∧ ∀ j, j < i + 1 + k → LP p i j) ?_ ?_
  · refine ⟨?_, Ext.refl _, fun j hj hj' => by omega⟩
    exact hasP
  · rintro k ρ w3 hk ⟨hH, he3, hP⟩
    refine rwp_has hH fun ρ0 => ?_
    refine go ?_
    refine c_if (fun hj => ?_) (fun hj => ?_)
    · have hjn : i < i + 1 + k ∧ i + 1 + k < p.n := ⟨by omega, by omega⟩
      have hoj : 2 ≤ p.ord.getD (i + 1 + k) 0 ∧ p.ord.getD (i + 1 + k) 0 ≤ 7 := hv.opos hjn.2
      refine go ?_
      refine d_region fun w4 he4 _ => ?_
      refine dgo ?_
      refine dc (l08Repeat_ok (x := Tc hv hjn) rfl ?_ ?_ ?_) (next := fun v5 w5 h5 => ?_)
      · omega
      · omega
      · omega
      obtain ⟨he5, hf5⟩ := h5
      refine ⟨fun h => h.trans he5, ?_⟩
      refine dgo ?_
      refine d_end (h := ?_)
      refine go ?_
      refine d_region fun w6 he6 _ => ?_
      refine dgo ?_
      refine dc (l08Image_ok hv hi (x := p.w (i + 1 + k)) ?_ (hv.w_in _ hjn.2)) (next := fun v7 w7 h7 => ?_)
      · rfl
      obtain ⟨he7, hf7⟩ := h7
      refine ⟨fun h => h.trans he7, ?_⟩
      have hlen := (Grp.pw (Tc hv hjn) (p.o (i + 1 + k)).toNat).inr.len
      refine dc (l01Same_ok (xs := (Grp.pw (Tc hv hjn) (p.o (i + 1 + k)).toNat).v) (ys := img p i (p.w (i + 1 + k))) ?_) (next := fun v8 w8 h8 => ?_)
      · omega
      obtain ⟨b8, rfl, hb8, he8⟩ := h8
      refine ⟨fun h => h.trans he8, ?_⟩
      have hE8 : Ext w2 w8 := ((((he3.trans he4).trans he5).trans he6).trans he7).trans he8
      refine dgo ?_
      refine d_end (h := ?_)
      refine go ?_
      refine c_b (fun h9 => ?_) (fun h9 => ?_)
      · refine go ?_
        refine ra (v := faultV 1 i (i + 1 + k : Nat) 0) (h := rd_build (by simp only [ev_tmp, ev_const, ev_func, get_put, get_args, get_putL, get_putL_nil, Nat.reduceEqDiff, reduceIte, List.getD_cons_zero, List.getD_cons_succ, List.getD_nil, List.map_toArray, List.map_cons, List.map_nil]; rfl) (fun _ => by kernel_rfl)) (next := ?_)
        refine st_store_agg (vs := [.int .i64 1, .int .i64 i, .int .i64 (i + 1 + k : Nat), .int .i64 0]) (cs := _) (by ((try simp only [ev_tmp, ev_const, ev_func, get_put, get_args, get_putL, get_putL_nil, Nat.reduceEqDiff, reduceIte, List.getD_cons_zero, List.getD_cons_succ, List.getD_nil]); first | done | with_reducible rfl)) (by ((try simp only [ev_tmp, ev_const, ev_func, get_put, get_args, get_putL, get_putL_nil, Nat.reduceEqDiff, reduceIte, List.getD_cons_zero, List.getD_cons_succ, List.getD_nil]); first | done | with_reducible rfl)) rfl ?_ rfl (by first | exact True.intro | exact ⟨_, rfl, by ((try simp only [ev_tmp, ev_const, ev_func, get_put, get_args, get_putL, get_putL_nil, Nat.reduceEqDiff, reduceIte, List.getD_cons_zero, List.getD_cons_succ, List.getD_nil, Bool.not_true, Bool.not_false]); first | done | with_reducible rfl)⟩) fun w9 hc9 hs9 hb9 => ?_
        · rfl
        refine go ?_
        refine retc (bad (k := 1) (f := (i + 1 + k : Nat)) (s := 0) (hc9.ext (hE2.trans hE8) ?_) (by decide) fun h => ?_) rfl
        · have := hE2.size; have := he1.size; omega
        · have := hb8.2 (((chk_iff hi).1 h).1 _ hjn)
          rw [this] at h9; cases h9
      · have h10 := hb8.1 (by simpa using h9)
        refine go ?_
        refine forQ_normal (by omega) ⟨?_, hE8, fun j hj => ?_⟩
        · exact hasP
        · by_cases e : j = i + 1 + k
          · subst e; exact fun _ => h10
          · exact hP j (by omega)
    · refine go ?_
      have hP' : ∀ j, LP p i j := fun j => by
        by_cases e : j < i + 1 + k
        · exact hP j e
        · exact fun h => by omega
      have hE3 := hE2.trans he3
      clear hP hH hk
      refine r_for (p.n - (i + 1)) (fun k ρ w' => Has ρ [(1, .int .i64 i), (2, .pointer (some ⟨b, 0, none⟩)), (4, .pointer (some ⟨bf, 0, none⟩)), (5, .int .i64 p.n), (6, .int .i64 i), (9, .int .i64 (i + 1 + k : Nat))] ∧ Ext w2 w' ∧ ∀ j k', j < i + 1 + k → LC p i j k') ?_ ?_
      · refine ⟨?_, he3, fun j k' hj hj' => by omega⟩
        exact hasP
      rintro k ρ w4 hk ⟨hH, he4, hC⟩
      refine rwp_has hH fun ρ1 => ?_
      refine go ?_
      refine c_if (fun hj => ?_) (fun hj => ?_)
      · have hjn : i < i + 1 + k ∧ i + 1 + k < p.n := ⟨by omega, by omega⟩
        refine go ?_
        refine r_for (p.n - (i + 1 + k + 1)) (fun l ρ w' => Has ρ [(1, .int .i64 i), (2, .pointer (some ⟨b, 0, none⟩)), (4, .pointer (some ⟨bf, 0, none⟩)), (5, .int .i64 p.n), (6, .int .i64 i), (9, .int .i64 (i + 1 + k : Nat)), (10, .int .i64 (i + 1 + k + 1 + l : Nat))] ∧ Ext w2 w' ∧ ∀ k', k' < i + 1 + k + 1 + l → LC p i (i + 1 + k) k') ?_ ?_
        · refine ⟨?_, he4, fun k' hk' _ h' _ => by omega⟩
          exact hasP
        rintro l ρ w5 hl ⟨hH, he5, hC2⟩
        refine rwp_has hH fun ρ2 => ?_
        refine go ?_
        refine c_if (fun hkk => ?_) (fun hkk => ?_)
        · have hkn : i < i + 1 + k + 1 + l ∧ i + 1 + k + 1 + l < p.n := ⟨by omega, by omega⟩
          have hcj := hv.lenci (i + 1 + k) hjn.2
          refine go ?_
          refine d_region fun w6 he6 _ => ?_
          refine dgo ?_
          refine d_end (h := ?_)
          refine go ?_
          refine d_region fun w7 he7 _ => ?_
          refine dgo ?_
          refine dc (l08Image_ok hv hi (x := p.c (i + 1 + k) (i + 1 + k + 1 + l)) ?_ (hv.c_in _ _ (by omega) hkn.2)) (next := fun v8 w8 h8 => ?_)
          · rfl
          obtain ⟨he8, hf8⟩ := h8
          refine ⟨fun h => h.trans he8, ?_⟩
          refine dgo ?_
          refine d_end (h := ?_)
          refine go ?_
          refine d_order [0, 1, 2, 3, 4, 6, 7, 8, 9, 10, 5, 11, 12, 13] (h := fun w9 he9 _ => ?_)
          refine dgo ?_
          refine dc (l08At_ok hv (i + 1) (x := p.c i (i + 1 + k + 1 + l)) (y := p.c i (i + 1 + k)) ?_ (hv.c_in _ _ hkn.1 hkn.2) (hv.c_in _ _ hjn.1 hjn.2) (hv.c_zu _ _ hkn.1 hkn.2) (hv.c_zu _ _ hjn.1 hjn.2)) (next := fun v10 w10 h10 => ?_)
          · rfl
          obtain ⟨he10, hf10⟩ := h10
          refine ⟨fun h => h.trans he10, ?_⟩
          refine dgo ?_
          refine dc (l08At_ok hv (i + 1) (x := p.c i (i + 1 + k)) (y := img p i (p.c (i + 1 + k) (i + 1 + k + 1 + l))) ?_ (hv.c_in _ _ hjn.1 hjn.2) (img_in hv _ _).1 (hv.c_zu _ _ hjn.1 hjn.2) (img_in hv _ _).2) (next := fun v11 w11 h11 => ?_)
          · rfl
          obtain ⟨he11, hf11⟩ := h11
          refine ⟨fun h => h.trans he11, ?_⟩
          have hlen := (atv_in hv _ (i + 1) rfl _ _ (hv.c_in _ _ hkn.1 hkn.2) (hv.c_in _ _ hjn.1 hjn.2) (hv.c_zu _ _ hkn.1 hkn.2) (hv.c_zu _ _ hjn.1 hjn.2)).1.len
          refine dgo ?_
          refine dc (l01Same_ok (xs := atv p (i + 1) (p.c i (i + 1 + k + 1 + l)) (p.c i (i + 1 + k))) (ys := atv p (i + 1) (p.c i (i + 1 + k)) (img p i (p.c (i + 1 + k) (i + 1 + k + 1 + l)))) ?_) (next := fun v12 w12 h12 => ?_)
          · omega
          obtain ⟨b12, rfl, hb12, he12⟩ := h12
          refine ⟨fun h => h.trans he12, ?_⟩
          have hE12 : Ext w2 w12 := ((((((he5.trans he6).trans he7).trans he8).trans he9).trans he10).trans he11).trans he12
          refine dgo ?_
          refine d_end (h := ?_)
          refine go ?_
          refine c_b (fun h13 => ?_) (fun h13 => ?_)
          · refine go ?_
            refine ra (v := faultV 2 i (i + 1 + k : Nat) (i + 1 + k + 1 + l : Nat)) (h := rd_build (by simp only [ev_tmp, ev_const, ev_func, get_put, get_args, get_putL, get_putL_nil, Nat.reduceEqDiff, reduceIte, List.getD_cons_zero, List.getD_cons_succ, List.getD_nil, List.map_toArray, List.map_cons, List.map_nil]; rfl) (fun _ => by kernel_rfl)) (next := ?_)
            refine st_store_agg (vs := [.int .i64 2, .int .i64 i, .int .i64 (i + 1 + k : Nat), .int .i64 (i + 1 + k + 1 + l : Nat)]) (cs := _) (by ((try simp only [ev_tmp, ev_const, ev_func, get_put, get_args, get_putL, get_putL_nil, Nat.reduceEqDiff, reduceIte, List.getD_cons_zero, List.getD_cons_succ, List.getD_nil]); first | done | with_reducible rfl)) (by ((try simp only [ev_tmp, ev_const, ev_func, get_put, get_args, get_putL, get_putL_nil, Nat.reduceEqDiff, reduceIte, List.getD_cons_zero, List.getD_cons_succ, List.getD_nil]); first | done | with_reducible rfl)) rfl ?_ rfl (by first | exact True.intro | exact ⟨_, rfl, by ((try simp only [ev_tmp, ev_const, ev_func, get_put, get_args, get_putL, get_putL_nil, Nat.reduceEqDiff, reduceIte, List.getD_cons_zero, List.getD_cons_succ, List.getD_nil, Bool.not_true, Bool.not_false]); first | done | with_reducible rfl)⟩) fun w13 hc13 hs13 hb13 => ?_
            · rfl
            refine go ?_
            refine retc (bad (k := 2) (f := (i + 1 + k : Nat)) (s := (i + 1 + k + 1 + l : Nat)) (hc13.ext (hE2.trans hE12) ?_) (by decide) fun h => ?_) rfl
            · have := hE2.size; have := he1.size; omega
            · have := hb12.2 (((chk_iff hi).1 h).2.1 _ _ hjn.1 (by omega) hkn.2)
              rw [this] at h13; cases h13
          · have h14 := hb12.1 (by simpa using h13)
            refine go ?_
            refine forQ_normal (by omega) ⟨?_, hE12, fun k' hk' => ?_⟩
            · exact hasP
            · by_cases e : k' = i + 1 + k + 1 + l
              · subst e; exact fun _ _ _ => h14
              · exact hC2 k' (by omega)
        · refine go ?_
          refine forQ_normal (by omega) ⟨?_, he5, fun j k' hj' => ?_⟩
          · exact hasP
          · by_cases e : j = i + 1 + k
            · subst e
              exact fun h1 h2 h3 => hC2 k' (by omega) h1 h2 h3
            · exact hC j k' (by omega)
      · refine go ?_
        have hC' : ∀ j k', LC p i j k' := fun j k' h1 h2 h3 => hC j k' (by omega) h1 h2 h3
        clear hC hk
        refine rc (l08Image_ok hv hi (x := p.w i) ?_ (hv.w_in _ hi)) (next := fun v6 w6 h6 => ?_)
        · rfl
        obtain ⟨he6, hf6⟩ := h6
        have hlen := (img_in hv i (p.w i)).1.len
        refine go ?_
        refine rc (l01Same_ok (xs := img p i (p.w i)) (ys := p.w i) ?_) (next := fun v7 w7 h7 => ?_)
        · omega
        obtain ⟨b7, rfl, hb7, he7⟩ := h7
        have hE7 : Ext w2 w7 := (he4.trans he6).trans he7
        refine go ?_
        refine c_b (fun h8 => ?_) (fun h8 => ?_)
        · refine go ?_
          refine ra (v := faultV 3 i 0 0) (h := rd_build (by simp only [ev_tmp, ev_const, ev_func, get_put, get_args, get_putL, get_putL_nil, Nat.reduceEqDiff, reduceIte, List.getD_cons_zero, List.getD_cons_succ, List.getD_nil, List.map_toArray, List.map_cons, List.map_nil]; rfl) (fun _ => by kernel_rfl)) (next := ?_)
          refine st_store_agg (vs := [.int .i64 3, .int .i64 i, .int .i64 0, .int .i64 0]) (cs := _) (by ((try simp only [ev_tmp, ev_const, ev_func, get_put, get_args, get_putL, get_putL_nil, Nat.reduceEqDiff, reduceIte, List.getD_cons_zero, List.getD_cons_succ, List.getD_nil]); first | done | with_reducible rfl)) (by ((try simp only [ev_tmp, ev_const, ev_func, get_put, get_args, get_putL, get_putL_nil, Nat.reduceEqDiff, reduceIte, List.getD_cons_zero, List.getD_cons_succ, List.getD_nil]); first | done | with_reducible rfl)) rfl ?_ rfl (by first | exact True.intro | exact ⟨_, rfl, by ((try simp only [ev_tmp, ev_const, ev_func, get_put, get_args, get_putL, get_putL_nil, Nat.reduceEqDiff, reduceIte, List.getD_cons_zero, List.getD_cons_succ, List.getD_nil, Bool.not_true, Bool.not_false]); first | done | with_reducible rfl)⟩) fun w9 hc9 hs9 hb9 => ?_
          · rfl
          refine go ?_
          refine retc (bad (k := 3) (f := 0) (s := 0) (hc9.ext (hE2.trans hE7) ?_) (by decide) fun h => ?_) rfl
          · have := hE2.size; have := he1.size; omega
          · have := hb7.2 ((chk_iff hi).1 h).2.2.1
            rw [this] at h8; cases h8
        · have hF := hb7.1 (by simpa using h8)
          refine go ?_
          clear h8
          refine r_for (p.n - (i + 1)) (fun k ρ w' => Has ρ [(1, .int .i64 i), (2, .pointer (some ⟨b, 0, none⟩)), (4, .pointer (some ⟨bf, 0, none⟩)), (5, .int .i64 p.n), (6, .int .i64 i), (14, Pc.rowAt vpw ps i), (15, .int .i64 (i + 1 + k : Nat))] ∧ Ext w2 w' ∧ ∀ j, j < i + 1 + k → LI p i j) ?_ ?_
          · refine ⟨?_, hE7, fun j hj h1 h2 => by omega⟩
            exact hasP
          rintro k ρ w8 hk ⟨hH, he8, hI⟩
          refine rwp_has hH fun ρ2 => ?_
          refine go ?_
          refine c_if (fun hj => ?_) (fun hj => ?_)
          · have hjn : i + 1 ≤ i + 1 + k ∧ i + 1 + k < p.n := ⟨by omega, by omega⟩
            refine go ?_
            refine rc (l07Unit_ok (n := p.n) (i := i + 1 + k) ?_ ?_ ?_ hjn.2) (next := fun v9 w9 h9 => ?_)
            · rfl
            · rfl
            · omega
            obtain ⟨he9, hf9⟩ := h9
            have hg0 : (zeros p.n).set (i + 1 + k) 1 = unitv p (i + 1 + k) 1 := rfl
            rw [hg0] at hf9
            have hsz8 := he8.size
            have hsz1 := hE2.size
            refine go ?_
            refine r_for (p.o i).toNat (fun q ρ w' => ∃ vx, Has ρ [(1, .int .i64 i), (2, .pointer (some ⟨b, 0, none⟩)), (4, .pointer (some ⟨bf, 0, none⟩)), (5, .int .i64 p.n), (6, .int .i64 i), (14, Pc.rowAt vpw ps i), (15, .int .i64 (i + 1 + k : Nat)), (16, v9), (17, vx), (18, .int .i64 q)] ∧ Ext w9 w' ∧ Fr w.heap.size w' vx (rep q (img p i) (unitv p (i + 1 + k) 1))) ?_ ?_
            · refine ⟨v9, ?_, Ext.refl _, hf9.mono (by omega)⟩
              exact hasP
            rintro q ρ w10 hq ⟨vx, hH, he10, hf10⟩
            refine rwp_has hH fun ρ3 => ?_
            have hin : InR p (rep q (img p i) (unitv p (i + 1 + k) 1)) ∧ ZU (i + 1) (rep q (img p i) (unitv p (i + 1 + k) 1)) := by
              refine rep_inv (fun v => InR p v ∧ ZU (i + 1) v) (fun x _ => img_in hv i x) ⟨?_, unitv_zu p hjn.1 1⟩ q
              exact unitv_in hv (by omega) (fun h => by have := hv.opos h; omega)
            refine go ?_
            refine c_if (fun hq2 => ?_) (fun hq2 => ?_)
            · refine go ?_
              refine rc (l08Image_ok hv hi (x := rep q (img p i) (unitv p (i + 1 + k) 1)) ?_ hin.1) (next := fun v11 w11 h11 => ?_)
              · rfl
              obtain ⟨he11, hf11⟩ := h11
              have hsz10 := he10.size
              have hsz9 := he9.size
              refine go ?_
              refine forQ_normal (by omega) ⟨v11, ?_, he10.trans he11, hf11.mono (by omega)⟩
              exact hasP
            · have hqe : (p.o i).toNat = q := by omega
              have hu9 : InR p (unitv p (i + 1 + k) 1) := unitv_in hv (by omega) (fun h => by have := hv.opos h; omega)
              refine go ?_
              refine d_order [0, 1, 2, 3, 4, 6, 7, 8, 9, 10, 5, 11, 12, 13] (h := fun w11 he11 _ => ?_)
              refine dgo ?_
              refine dc (l08At_ok hv (i + 1) (x := p.w i) (y := rep q (img p i) (unitv p (i + 1 + k) 1)) ?_ (hv.w_in _ hi) hin.1 (hv.w_zu _ hi) hin.2) (next := fun v12 w12 h12 => ?_)
              · rfl
              obtain ⟨he12, hf12⟩ := h12
              refine ⟨fun h => h.trans he12, ?_⟩
              refine dgo ?_
              refine dc (l08At_ok hv (i + 1) (x := unitv p (i + 1 + k) 1) (y := p.w i) ?_ hu9 (hv.w_in _ hi) (unitv_zu p hjn.1 1) (hv.w_zu _ hi)) (next := fun v13 w13 h13 => ?_)
              · rfl
              obtain ⟨he13, hf13⟩ := h13
              refine ⟨fun h => h.trans he13, ?_⟩
              have hlen2 := (atv_in hv _ (i + 1) rfl _ _ (hv.w_in _ hi) hin.1 (hv.w_zu _ hi) hin.2).1.len
              refine dgo ?_
              refine dc (l01Same_ok (xs := atv p (i + 1) (p.w i) (rep q (img p i) (unitv p (i + 1 + k) 1))) (ys := atv p (i + 1) (unitv p (i + 1 + k) 1) (p.w i)) ?_) (next := fun v14 w14 h14 => ?_)
              · omega
              obtain ⟨b14, rfl, hb14, he14⟩ := h14
              refine ⟨fun h => h.trans he14, ?_⟩
              have hE14 : Ext w2 w14 := ((((((he8.trans he9).trans he10).trans he11).trans he12).trans he13)).trans he14
              refine dgo ?_
              refine d_end (h := ?_)
              refine go ?_
              refine c_b (fun h15 => ?_) (fun h15 => ?_)
              · refine go ?_
                refine ra (v := faultV 4 i (i + 1 + k : Nat) 0) (h := rd_build (by simp only [ev_tmp, ev_const, ev_func, get_put, get_args, get_putL, get_putL_nil, Nat.reduceEqDiff, reduceIte, List.getD_cons_zero, List.getD_cons_succ, List.getD_nil, List.map_toArray, List.map_cons, List.map_nil]; rfl) (fun _ => by kernel_rfl)) (next := ?_)
                refine st_store_agg (vs := [.int .i64 4, .int .i64 i, .int .i64 (i + 1 + k : Nat), .int .i64 0]) (cs := _) (by ((try simp only [ev_tmp, ev_const, ev_func, get_put, get_args, get_putL, get_putL_nil, Nat.reduceEqDiff, reduceIte, List.getD_cons_zero, List.getD_cons_succ, List.getD_nil]); first | done | with_reducible rfl)) (by ((try simp only [ev_tmp, ev_const, ev_func, get_put, get_args, get_putL, get_putL_nil, Nat.reduceEqDiff, reduceIte, List.getD_cons_zero, List.getD_cons_succ, List.getD_nil]); first | done | with_reducible rfl)) rfl ?_ rfl (by first | exact True.intro | exact ⟨_, rfl, by ((try simp only [ev_tmp, ev_const, ev_func, get_put, get_args, get_putL, get_putL_nil, Nat.reduceEqDiff, reduceIte, List.getD_cons_zero, List.getD_cons_succ, List.getD_nil, Bool.not_true, Bool.not_false]); first | done | with_reducible rfl)⟩) fun w15 hc15 hs15 hb15 => ?_
                · rfl
                refine go ?_
                refine retc (bad (k := 4) (f := (i + 1 + k : Nat)) (s := 0) (hc15.ext (hE2.trans hE14) ?_) (by decide) fun h => ?_) rfl
                · have := hE2.size; have := he1.size; omega
                · have := ((chk_iff hi).1 h).2.2.2 (i + 1 + k) hjn.1 hjn.2
                  rw [hqe] at this
                  have := hb14.2 this
                  rw [this] at h15; cases h15
              · have h16 := hb14.1 (by simpa using h15)
                refine go ?_
                refine forQ_normal (by omega) ⟨?_, hE14, fun j hj2 => ?_⟩
                · exact hasP
                · by_cases e : j = i + 1 + k
                  · subst e
                    intro _ _
                    rw [hqe]
                    exact h16
                  · exact hI j (by omega)
          · refine go ?_
            refine ra (v := faultV 0 0 0 0) (h := rd_build (by rfl) (fun _ => by kernel_rfl)) (next := ?_)
            refine st_store_agg (vs := [.int .i64 0, .int .i64 0, .int .i64 0, .int .i64 0]) (cs := _) (by ((try simp only [ev_tmp, ev_const, ev_func, get_put, get_args, get_putL, get_putL_nil, Nat.reduceEqDiff, reduceIte, List.getD_cons_zero, List.getD_cons_succ, List.getD_nil]); first | done | with_reducible rfl)) (by ((try simp only [ev_tmp, ev_const, ev_func, get_put, get_args, get_putL, get_putL_nil, Nat.reduceEqDiff, reduceIte, List.getD_cons_zero, List.getD_cons_succ, List.getD_nil]); first | done | with_reducible rfl)) rfl ?_ rfl (by first | exact True.intro | exact ⟨_, rfl, by ((try simp only [ev_tmp, ev_const, ev_func, get_put, get_args, get_putL, get_putL_nil, Nat.reduceEqDiff, reduceIte, List.getD_cons_zero, List.getD_cons_succ, List.getD_nil, Bool.not_true, Bool.not_false]); first | done | with_reducible rfl)⟩) fun w15 hc15 hs15 hb15 => ?_
            · rfl
            refine go ?_
            refine retc ⟨0, 0, 0, 0, rfl, ⟨fun _ => (chk_iff hi).2 ⟨hP', hC', hF, fun j h1 h2 => hI j (by omega) h1 h2⟩, fun _ => rfl⟩, fun h => absurd rfl h, fun _ => ⟨rfl, rfl, rfl⟩, hc15.ext (hE2.trans he8) ?_⟩ rfl
            have := hE2.size; have := he1.size; omega
end Go.Proofs.Ytjljbfcdpdckeaa

/-
  Walks: the reference's fault, its consistency and its question whether a presentation is a group's (l08Fault, l08Consistent, l08Group).
  Conditions: the presentation is valid (l08Group: its list of orders is short).
-/
namespace Go.Proofs.Ytjljbfcdpdckeaa
open Go Go.Pc
/-- The level i of a presentation passes, the tail behind it being a group. -/
def Lev (p : Pr) (i : Nat) : Prop := ∃ (_ : Con p (i + 1)) (hi : i < p.n), Chk p i hi
/-- All levels from i on pass. -/
def Levs (p : Pr) (i : Nat) : Prop := ∀ j, i ≤ j → j < p.n → Lev p j
/-- The presentation is a group's. -/
structure IsGrp (p : Pr) : Prop where
  valid : Valid p
  levs : Levs p 0
theorem Levs.con {p : Pr} (hv : Valid p) {i : Nat} (h : Levs p i) : Con p i := by
  by_cases hi : p.n ≤ i
  · exact con_end hv hi
  · obtain ⟨h1, h2, h3⟩ := h i (Nat.le_refl _) (by omega)
    exact con_step h2 h3
theorem IsGrp.con {p : Pr} (h : IsGrp p) (i : Nat) : Con p i := Levs.con h.valid fun j _ hj => h.levs j (Nat.zero_le _) hj
/-- What a fault says. -/
def FaultIs (p : Pr) (v : Value) : Prop := (v = faultV 0 0 0 0 ∧ Levs p 0) ∨ ∃ (k f s : Int) (i : Nat) (_ : Con p (i + 1)) (hi : i < p.n), k ≠ 0 ∧ v = faultV k i f s ∧ ¬ Chk p i hi ∧ Levs p (i + 1)
set_option maxHeartbeats 1000000 in
theorem l08Fault_ok {p : Pr} (hv : Valid p) {w : World} {vp : Value} {lo hi' : Nat} [hp : Pres lo hi' w vp p] :
    Calls Try.prog 86 #[vp] w (Ret fun v w' => FaultIs p v ∧ Ext w w') := by
  have hn6 := hv.n6
  have hol : p.ord.length = p.n := rfl
  obtain ⟨vo, vpw, vc, ps, cs, css, rfl, h1, h2, h3⟩ := hp.ex
  refine enter (args := [.agg #[vo, vpw, vc]]) (l := [.cell 2 46]) Try.func86 rfl rfl Try.ntmps86 (by simp) ?_
  refine go ?_
  refine st_box3 (by ((try simp only [ev_tmp, ev_const, ev_func, get_put, get_args, get_putL, get_putL_nil, Nat.reduceEqDiff, reduceIte, List.getD_cons_zero, List.getD_cons_succ, List.getD_nil]); first | done | with_reducible rfl)) (by first | exact True.intro | exact ⟨_, rfl, by ((try simp only [ev_tmp, ev_const, ev_func, get_put, get_args, get_putL, get_putL_nil, Nat.reduceEqDiff, reduceIte, List.getD_cons_zero, List.getD_cons_succ, List.getD_nil, Bool.not_true, Bool.not_false]); first | done | with_reducible rfl)⟩) fun w1 b he1 hb1 hs1 hc0 hc1 hc2 => ?_
  refine go ?_
  refine st_alloc (by first | exact True.intro | exact ⟨_, rfl, by ((try simp only [ev_tmp, ev_const, ev_func, get_put, get_args, get_putL, get_putL_nil, Nat.reduceEqDiff, reduceIte, List.getD_cons_zero, List.getD_cons_succ, List.getD_nil, Bool.not_true, Bool.not_false]); first | done | with_reducible rfl)⟩) fun w2 bf he2 hbf hs2 hbk => ?_
  have hE2 : Ext w w2 := he1.trans he2
  refine go ?_
  refine r_for p.n (fun k ρ w' => Has ρ [(1, .pointer (some ⟨b, 0, none⟩)), (2, .pointer (some ⟨bf, 0, none⟩)), (3, .int .i64 ((p.n : Int) - 1 - k))] ∧ Ext w2 w' ∧ Levs p (p.n - k)) ?_ ?_
  · refine ⟨?_, Ext.refl _, fun j h h' => by omega⟩
    exact hasP
  rintro k ρ w3 hk ⟨hH, he3, hL⟩
  refine rwp_has hH fun ρ0 => ?_
  refine go ?_
  refine c_if (fun h4 => ?_) (fun h4 => ?_)
  · obtain ⟨i, hie⟩ : ∃ i : Nat, (p.n : Int) - 1 - k = i := ⟨p.n - 1 - k, by omega⟩
    have hi : i < p.n := by omega
    rw [show p.n - k = i + 1 by omega] at hL
    have hc : Con p (i + 1) := Levs.con hv hL
    refine go ?_
    refine rc (l08Level_ok (p := p) (i := i) hi hie) (next := fun v5 w5 h5 => ?_)
    obtain ⟨k5, l5, f5, s5, rfl, hz, hl5, h05, he5⟩ := h5
    refine go ?_
    refine st_alloc (by first | exact True.intro | exact ⟨_, rfl, by ((try simp only [ev_tmp, ev_const, ev_func, get_put, get_args, get_putL, get_putL_nil, Nat.reduceEqDiff, reduceIte, List.getD_cons_zero, List.getD_cons_succ, List.getD_nil, Bool.not_true, Bool.not_false]); first | done | with_reducible rfl)⟩) fun w6 b6 he6 hb6 hs6 hbk6 => ?_
    refine go ?_
    refine st_store_agg (vs := [.int .i64 k5, .int .i64 l5, .int .i64 f5, .int .i64 s5]) (cs := _) (by ((try simp only [ev_tmp, ev_const, ev_func, get_put, get_args, get_putL, get_putL_nil, Nat.reduceEqDiff, reduceIte, List.getD_cons_zero, List.getD_cons_succ, List.getD_nil]); first | done | with_reducible rfl)) (by ((try simp only [ev_tmp, ev_const, ev_func, get_put, get_args, get_putL, get_putL_nil, Nat.reduceEqDiff, reduceIte, List.getD_cons_zero, List.getD_cons_succ, List.getD_nil]); first | done | with_reducible rfl)) rfl ?_ rfl (by first | exact True.intro | exact ⟨_, rfl, by ((try simp only [ev_tmp, ev_const, ev_func, get_put, get_args, get_putL, get_putL_nil, Nat.reduceEqDiff, reduceIte, List.getD_cons_zero, List.getD_cons_succ, List.getD_nil, Bool.not_true, Bool.not_false]); first | done | with_reducible rfl)⟩) fun w7 hc7 hs7 hb7 => ?_
    · rfl
    have hs2 := he2.size
    have hs3 := he3.size
    have hs5 := he5.size
    have hE7 : Ext w2 w7 := hc7.ext ((he3.trans he5).trans he6) (by omega)
    have hcell : Cell w7 b6 0 (.int .i64 k5) := hb7.cell rfl
    refine go ?_
    refine c_if (fun h8 => ?_) (fun h8 => ?_)
    · refine go ?_
      refine ra (v := faultV k5 l5 f5 s5) (h := rd_load_blk (hb := hb7) (by ((try simp only [ev_tmp, ev_const, ev_func, get_put, get_args, get_putL, get_putL_nil, Nat.reduceEqDiff, reduceIte, List.getD_cons_zero, List.getD_cons_succ, List.getD_nil]); first | done | with_reducible rfl)) rfl) (next := ?_)
      refine st_store_agg (vs := [.int .i64 k5, .int .i64 l5, .int .i64 f5, .int .i64 s5]) (cs := _) (hb := Blk.ext (x := hE7) (h := hbk)) (by ((try simp only [ev_tmp, ev_const, ev_func, get_put, get_args, get_putL, get_putL_nil, Nat.reduceEqDiff, reduceIte, List.getD_cons_zero, List.getD_cons_succ, List.getD_nil]); first | done | with_reducible rfl)) (by ((try simp only [ev_tmp, ev_const, ev_func, get_put, get_args, get_putL, get_putL_nil, Nat.reduceEqDiff, reduceIte, List.getD_cons_zero, List.getD_cons_succ, List.getD_nil]); first | done | with_reducible rfl)) rfl ?_ rfl (by first | exact True.intro | exact ⟨_, rfl, by ((try simp only [ev_tmp, ev_const, ev_func, get_put, get_args, get_putL, get_putL_nil, Nat.reduceEqDiff, reduceIte, List.getD_cons_zero, List.getD_cons_succ, List.getD_nil, Bool.not_true, Bool.not_false]); first | done | with_reducible rfl)⟩) fun w9 hc9 hs9 hb9 => ?_
      · rfl
      refine go ?_
      refine retc (b := bf) ⟨.inr ⟨k5, f5, s5, i, hc, hi, by simpa using h8, ?_, fun h => absurd (hz.2 h) (by simpa using h8), hL⟩, hc9.ext (hE2.trans hE7) (by omega)⟩ rfl
      rw [hl5 (by simpa using h8)]
    · have hk5 : k5 = 0 := by simpa using h8
      refine go ?_
      refine forQ_normal (by omega) ⟨?_, hE7, fun j hj hjn => ?_⟩
      · exact hasP
      · by_cases e : j = i
        · subst e; exact ⟨hc, hi, hz.1 hk5⟩
        · exact hL j (by omega) hjn
  · refine go ?_
    refine ra (v := faultV 0 0 0 0) (h := rd_build (by rfl) (fun _ => by kernel_rfl)) (next := ?_)
    refine st_store_agg (vs := [.int .i64 0, .int .i64 0, .int .i64 0, .int .i64 0]) (cs := _) (by ((try simp only [ev_tmp, ev_const, ev_func, get_put, get_args, get_putL, get_putL_nil, Nat.reduceEqDiff, reduceIte, List.getD_cons_zero, List.getD_cons_succ, List.getD_nil]); first | done | with_reducible rfl)) (by ((try simp only [ev_tmp, ev_const, ev_func, get_put, get_args, get_putL, get_putL_nil, Nat.reduceEqDiff, reduceIte, List.getD_cons_zero, List.getD_cons_succ, List.getD_nil]); first | done | with_reducible rfl)) rfl ?_ rfl (by first | exact True.intro | exact ⟨_, rfl, by ((try simp only [ev_tmp, ev_const, ev_func, get_put, get_args, get_putL, get_putL_nil, Nat.reduceEqDiff, reduceIte, List.getD_cons_zero, List.getD_cons_succ, List.getD_nil, Bool.not_true, Bool.not_false]); first | done | with_reducible rfl)⟩) fun w9 hc9 hs9 hb9 => ?_
    · rfl
    have hs2 := he2.size
    refine go ?_
    refine retc ⟨.inl ⟨rfl, fun j _ hj => hL j (by omega) hj⟩, hc9.ext (hE2.trans he3) (by omega)⟩ rfl
set_option maxHeartbeats 1000000 in
theorem l08Consistent_ok {p : Pr} (hv : Valid p) {w : World} {vp : Value} {lo hi' : Nat} [hp : Pres lo hi' w vp p] :
    Calls Try.prog 132 #[vp] w (Ret fun v w' => ∃ b, v = .bool b ∧ (b = true ↔ Levs p 0) ∧ Ext w w') := by
  obtain ⟨vo, vpw, vc, ps, cs, css, rfl, h1, h2, h3⟩ := hp.ex
  refine enter (args := [.agg #[vo, vpw, vc]]) (l := [.tmp 2]) Try.func132 rfl rfl Try.ntmps132 (by simp) ?_
  refine go ?_
  refine st_box3 (by ((try simp only [ev_tmp, ev_const, ev_func, get_put, get_args, get_putL, get_putL_nil, Nat.reduceEqDiff, reduceIte, List.getD_cons_zero, List.getD_cons_succ, List.getD_nil]); first | done | with_reducible rfl)) (by first | exact True.intro | exact ⟨_, rfl, by ((try simp only [ev_tmp, ev_const, ev_func, get_put, get_args, get_putL, get_putL_nil, Nat.reduceEqDiff, reduceIte, List.getD_cons_zero, List.getD_cons_succ, List.getD_nil, Bool.not_true, Bool.not_false]); first | done | with_reducible rfl)⟩) fun w1 b he1 hb1 hs1 hc0 hc1 hc2 => ?_
  refine go ?_
  refine rc (l08Fault_ok hv) (next := fun v5 w5 h5 => ?_)
  obtain ⟨h5, he5⟩ := h5
  rcases h5 with ⟨rfl, hL⟩ | ⟨k, f, s, i, hc, hi, hk, rfl, hn, hL⟩
  · refine go ?_
    refine ra (v := .int .i64 0) (h := rd_fieldv (by ((try simp only [ev_tmp, ev_const, ev_func, get_put, get_args, get_putL, get_putL_nil, Nat.reduceEqDiff, reduceIte, List.getD_cons_zero, List.getD_cons_succ, List.getD_nil]); first | done | with_reducible rfl)) (fun _ => by kernel_rfl)) (next := ?_)
    refine go ?_
    refine ret1 ⟨_, rfl, ?_, he1.trans he5⟩
    simpa using hL
  · refine go ?_
    refine ra (v := .int .i64 k) (h := rd_fieldv (by ((try simp only [ev_tmp, ev_const, ev_func, get_put, get_args, get_putL, get_putL_nil, Nat.reduceEqDiff, reduceIte, List.getD_cons_zero, List.getD_cons_succ, List.getD_nil]); first | done | with_reducible rfl)) (fun _ => by kernel_rfl)) (next := ?_)
    refine go ?_
    refine ret1 ⟨_, rfl, ?_, he1.trans he5⟩
    simp only [decide_eq_true_eq]
    refine ⟨fun h => absurd h hk, fun h => absurd ?_ hn⟩
    exact (h i (Nat.zero_le _) hi).2.2
set_option maxHeartbeats 1000000 in
theorem l08Group_ok {w : World} {vp : Value} {p : Pr} {lo hi' : Nat} [hp : Pres lo hi' w vp p] (hl : p.ord.length ≤ 2000000) :
    Calls Try.prog 81 #[vp] w (Ret fun v w' => ∃ b, v = .bool b ∧ (b = true ↔ IsGrp p) ∧ Ext w w') := by
  obtain ⟨vo, vpw, vc, ps, cs, css, rfl, h1, h2, h3⟩ := hp.ex
  refine enter (args := [.agg #[vo, vpw, vc]]) (l := [.tmp 2]) Try.func81 rfl rfl Try.ntmps81 (by simp) ?_
  refine go ?_
  refine st_box3 (by ((try simp only [ev_tmp, ev_const, ev_func, get_put, get_args, get_putL, get_putL_nil, Nat.reduceEqDiff, reduceIte, List.getD_cons_zero, List.getD_cons_succ, List.getD_nil]); first | done | with_reducible rfl)) (by first | exact True.intro | exact ⟨_, rfl, by ((try simp only [ev_tmp, ev_const, ev_func, get_put, get_args, get_putL, get_putL_nil, Nat.reduceEqDiff, reduceIte, List.getD_cons_zero, List.getD_cons_succ, List.getD_nil, Bool.not_true, Bool.not_false]); first | done | with_reducible rfl)⟩) fun w1 b he1 hb1 hs1 hc0 hc1 hc2 => ?_
  refine go ?_
  refine rc (spec_IsPresentation_ok hl) (next := fun v5 w5 h5 => ?_)
  obtain ⟨b5, rfl, hb5, he5⟩ := h5
  refine go ?_
  refine sp (fun e5 => ?_) (fun e5 => ?_)
  · have hv := hb5.1 e5
    refine go ?_
    refine rc (l08Consistent_ok hv) (next := fun v6 w6 h6 => ?_)
    obtain ⟨b6, rfl, hb6, he6⟩ := h6
    refine go ?_
    exact ret1 ⟨_, rfl, hb6.trans ⟨fun h => ⟨hv, h⟩, fun h => h.levs⟩, (he1.trans he5).trans he6⟩
  · refine go ?_
    refine ret1 ⟨_, rfl, ?_, he1.trans he5⟩
    simp only [Bool.false_eq_true, false_iff]
    intro h
    have := hb5.2 h.valid
    rw [e5] at this; cases this
end Go.Proofs.Ytjljbfcdpdckeaa

/-
  Walks: the reference's elements and products (l10Element, l10Elements, l08Mul).
  Conditions: stated at each theorem.
-/
namespace Go.Proofs.Ytjljbfcdpdckeaa
open Go Go.Pc
set_option maxHeartbeats 1000000 in
theorem l08Mul_ok {p : Pr} [hc : ConAll p] {w : World} {vp va vb : Value} {x y : El p} {xs ys : List Int} {lo hi lo1 hi1 lo2 hi2 : Nat} [hp : Pres lo hi w vp p] [hx : Ints lo1 hi1 w va xs] [hy : Ints lo2 hi2 w vb ys] (hxe : xs = x.v) (hye : ys = y.v) :
    Calls Try.prog 100 #[vp, va, vb] w (Ret fun v w' => Ext w w' ∧ Fr w.heap.size w' v (x * y).v) := by
  subst hxe hye
  obtain ⟨vo, vpw, vc, ps, cs, css, rfl, h1, h2, h3⟩ := hp.ex
  refine enter (args := [.agg #[vo, vpw, vc], va, vb]) (l := [.tmp 6]) Try.func100 rfl rfl Try.ntmps100 (by simp) ?_
  refine go ?_
  refine st_box3 (by ((try simp only [ev_tmp, ev_const, ev_func, get_put, get_args, get_putL, get_putL_nil, Nat.reduceEqDiff, reduceIte, List.getD_cons_zero, List.getD_cons_succ, List.getD_nil]); first | done | with_reducible rfl)) (by first | exact True.intro | exact ⟨_, rfl, by ((try simp only [ev_tmp, ev_const, ev_func, get_put, get_args, get_putL, get_putL_nil, Nat.reduceEqDiff, reduceIte, List.getD_cons_zero, List.getD_cons_succ, List.getD_nil, Bool.not_true, Bool.not_false]); first | done | with_reducible rfl)⟩) fun w1 b he1 hb1 hs1 hc0 hc1 hc2 => ?_
  refine go ?_
  refine rc (l08AtT_ok (p := p) (i := 0) (x := x) (y := y) rfl) (next := fun v2 w2 h2 => ?_)
  obtain ⟨he2, hf2⟩ := h2
  refine go ?_
  exact ret1 ⟨he1.trans he2, hf2.mono he1.size⟩
end Go.Proofs.Ytjljbfcdpdckeaa

/-
  Walks: the reference's inverse and power (l10From, l10Inv, l10Pow) and its commutator (l10Comm).
  Conditions: the tails at all levels are groups.
-/
namespace Go.Proofs.Ytjljbfcdpdckeaa
open Go Go.Pc
end Go.Proofs.Ytjljbfcdpdckeaa

/-
  Walks: the reference's power (l10Pow) and commutator (l10Comm).
  Conditions: the tails at all levels are groups.
-/
namespace Go.Proofs.Ytjljbfcdpdckeaa
open Go Go.Pc
end Go.Proofs.Ytjljbfcdpdckeaa

/-
  Walk: the reference's strip of an element by a table (l12Strip).
  Conditions: the tails at all levels are groups, the table holds elements with the leading exponent 1.
-/
namespace Go.Proofs.Ytjljbfcdpdckeaa
open Go Go.Pc
/-- What a strip leaves. -/
structure Left {p : Pr} [ConAll p] (t : Tab p) (x r : El p) (d : Nat) : Prop where
  stp : Stp t x r
  tl : Tl d r
  le : d ≤ p.n
  some : d < p.n → t d = none ∧ co r d ≠ 0
end Go.Proofs.Ytjljbfcdpdckeaa

/-
  Walks: the program's sifting of an element by a sequence (newSequence, sift), and representatives of cosets (representative).
  Conditions: the tails at all levels are groups; stated at each theorem.
-/
namespace Go.Proofs.Ytjljbfcdpdckeaa
open Go Go.Pc
theorem lead_of {p : Pr} {x : El p} {d : Nat} (h : Tl d x) (h0 : co x d ≠ 0) : lead x.v = d := lead_eq (fun i hi => h i hi) h0
end Go.Proofs.Ytjljbfcdpdckeaa

/-
  The work on a sequence that grows by several additions; commutators with the entries of a table.
  Conditions: the tails at all levels are groups; nothing of the program stands here.
-/
namespace Go.Pc
open Grp
section
variable {p : Pr} [hc : ConAll p] {S S' W W' : El p → Prop} {t : Tab p}
theorem Gen.mono {G : Type} [Grp G] {A B : G → Prop} (h : ∀ a, A a → B a) : ∀ a, Gen A a → Gen B a := Gen.le (Gen.sub B) fun a ha => .of a (h a ha)
theorem Cov.mono {x : El p} (h : Cov t W x) (hw : ∀ a, W a → W' a) : Cov t W' x := by
  obtain ⟨r, hr, h⟩ := h
  exact ⟨r, hr.imp id (hw r), h⟩
/-- More elements are given, and wait. -/
theorem Wk.more (h : Wk S t (fun _ => False)) : Wk (fun a => S a ∨ W a) t W where
  ok := h.ok
  tmem d y e := Gen.mono (fun _ h => .inl h) _ (h.tmem d y e)
  wmem x hx := .of x (.inr hx)
  need x hx := by
    rcases hx with hx | hx
    · exact (h.need x hx).mono (fun _ h => h.elim)
    · exact ⟨x, .inr hx, fun _ _ h => h⟩
  top d y e := (h.top d y e).mono (fun _ h => h.elim)
  pair d e y z h1 h2 h3 := (h.pair d e y z h1 h2 h3).imp (·.mono (fun _ h => h.elim)) (·.mono (fun _ h => h.elim))
theorem Wk.none : Wk (fun _ : El p => False) (fun _ => none) (fun _ => False) := (Wk.start (S := fun _ : El p => False))
/-- Whether the subgroup has grown. -/
theorem Wk.grown {t0 : Tab p} (h0 : Wk S t0 (fun _ => False)) (h : Wk (fun a => S a ∨ W a) t (fun _ => False)) {d : Nat} (hd : t0 d = Option.none) (hd' : t d ≠ Option.none) : ∃ a, W a ∧ ¬ Gen S a := by
  apply Classical.byContradiction
  intro hn
  have hs : ∀ a, W a → Gen S a := fun a ha => Classical.byContradiction fun hg => hn ⟨a, ha, hg⟩
  have hle : ∀ a, Gen (fun a => S a ∨ W a) a → Gen S a := Gen.le (Gen.sub S) fun a ha => ha.elim (.of a) (hs a)
  have f0 := h0.full (fun _ h => h)
  have f := h.full (fun _ h => h)
  have g0 := h0.gen (fun _ h => h)
  have g := h.gen (fun _ h => h)
  obtain ⟨x, h1, h2, h3⟩ := f.dep.2 hd'
  rw [g] at h1
  have h4 := hle x h1
  rw [← g0] at h4
  exact f0.dep.1 ⟨x, h4, h2, h3⟩ hd
theorem Wk.same (h0 : Wk S t (fun _ => False)) (h : Wk (fun a => S a ∨ W a) t (fun _ => False)) : ∀ a, W a → Gen S a := by
  intro a ha
  have g0 := h0.gen (fun _ h => h)
  have g := h.gen (fun _ h => h)
  rw [← g0, g]
  exact .of a (.inr ha)
variable {y z : El p} {e : Nat}
end
end Go.Pc

/-
  Walks: the reference's remainder and inverse of numbers (l01Mod, l01Inv) and the comparison of two lists of lists (l01Same2).
  Conditions: stated at each theorem.
-/
namespace Go.Proofs.Ytjljbfcdpdckeaa
open Go Go.Pc
theorem inv_ex {a q : Int} (hq : q = 2 ∨ q = 3 ∨ q = 5 ∨ q = 7) (ha : 1 ≤ a ∧ a < q) : ∃ x, 1 ≤ x ∧ x < q ∧ (a * x) % q = 1 := by
  have h : a = 1 ∨ a = 2 ∨ a = 3 ∨ a = 4 ∨ a = 5 ∨ a = 6 := by omega
  rcases hq with rfl | rfl | rfl | rfl <;> rcases h with rfl | rfl | rfl | rfl | rfl | rfl <;>
    first
      | omega
      | exact ⟨1, by decide⟩
      | exact ⟨2, by decide⟩
      | exact ⟨3, by decide⟩
      | exact ⟨4, by decide⟩
      | exact ⟨5, by decide⟩
      | exact ⟨6, by decide⟩
set_option maxHeartbeats 1000000 in
theorem eqInt64SS_ok {w : World} {va vb : Value} {us vs : List Value} {xss yss : List (List Int)} {lo hi lo1 hi1 : Nat} [hx : Pc.Rows lo hi w va us xss] [hy : Pc.Rows lo1 hi1 w vb vs yss] (hm : ∀ i, (xss.getD i []).length ≤ 2000000) (hl : xss.length ≤ 10000000) :
    Calls Try.prog 54 #[va, vb] w (Ret fun v w' => ∃ b, v = .bool b ∧ (b = true ↔ xss = yss) ∧ Ext w w') := by
  have hul := hx.vals.len
  have hvl := hy.vals.len
  refine enter (args := [va, vb]) (l := [.tmp 4]) Try.func54 rfl rfl Try.ntmps54 (by simp) ?_
  refine go ?_
  refine c_if (fun h1 => ?_) (fun h1 => ?_)
  · refine go ?_
    refine ret1 ⟨_, rfl, ?_, Ext.refl _⟩
    simp only [Bool.false_eq_true, false_iff]
    rintro rfl
    omega
  · have hxy : xss.length = yss.length := by omega
    refine go ?_
    refine r_for xss.length (fun k ρ w' => Has ρ [(0, va), (1, vb), (5, .int .i64 k)] ∧ Ext w w' ∧ ∀ i, i < k → xss.getD i [] = yss.getD i []) ?_ ?_
    · refine ⟨?_, Ext.refl _, fun i hi => by omega⟩
      exact hasP
    rintro k ρ w1 hk ⟨hH, he1, hI⟩
    refine rwp_has hH fun ρ0 => ?_
    refine go ?_
    refine c_if (fun h4 => ?_) (fun h4 => ?_)
    · refine go ?_
      refine d_region fun w2 he2 _ => ?_
      refine dgo ?_
      refine dc (eqInt64S_ok (xs := xss.getD k []) (ys := yss.getD k []) (hm k)) (next := fun v3 w3 h3 => ?_)
      obtain ⟨b3, rfl, hb3, he3⟩ := h3
      refine ⟨fun h => h.trans he3, ?_⟩
      refine dgo ?_
      refine d_end (h := ?_)
      refine go ?_
      refine c_b (fun h5 => ?_) (fun h5 => ?_)
      · refine go ?_
        refine ret1 ⟨_, rfl, ?_, (he1.trans he2).trans he3⟩
        simp only [Bool.false_eq_true, false_iff]
        rintro rfl
        have := hb3.2 rfl
        rw [this] at h5; cases h5
      · have h6 := hb3.1 (by simpa using h5)
        refine go ?_
        refine forQ_normal (by omega) ⟨?_, (he1.trans he2).trans he3, fun i hi => ?_⟩
        · exact hasP
        · by_cases e : i = k
          · subst e; exact h6
          · exact hI i (by omega)
    · refine go ?_
      refine ret1 ⟨_, rfl, ?_, he1⟩
      simp only [true_iff]
      apply List.ext_getElem hxy
      intro i h1 h2
      have := hI i (by omega)
      simpa [h1, h2] using this
end Go.Proofs.Ytjljbfcdpdckeaa

/-
  Walk: the reference's copy of a list of lists (l01Own2).
  Conditions: the lists are short.
-/
namespace Go.Proofs.Ytjljbfcdpdckeaa
open Go Go.Pc
end Go.Proofs.Ytjljbfcdpdckeaa

/-
  Walk: the reference's canonical sequence out of a full table (l12Full).
  Conditions: the tails at all levels are groups, the table is full.
-/
namespace Go.Proofs.Ytjljbfcdpdckeaa
open Go Go.Pc
end Go.Proofs.Ytjljbfcdpdckeaa

/-
  Walk: the reference's subgroup generated by a list (l12Close).
  Conditions: the tails at all levels are groups, the list's members are elements.
-/
namespace Go.Proofs.Ytjljbfcdpdckeaa
open Go Go.Pc
section
variable {p : Pr} [hc : ConAll p] {t : Tab p} {d e : Nat} {y z : El p}
end
end Go.Proofs.Ytjljbfcdpdckeaa

/-
  Walk: the program's addition of elements to a sequence (sequence.add).
  Conditions: the tails at all levels are groups; the sequence's table has no element waiting.
-/
namespace Go.Proofs.Ytjljbfcdpdckeaa
open Go Go.Pc
/-- A sequence in memory: its struct and its table, of which the block b0 is written. -/
structure SeqAt {p : Pr} (bs b0 base : Nat) (av : Nat → Prop) (w : World) (vp vb : Value) (t : Tab p) : Prop where
  c0 : Cell w bs 0 vp
  c1 : Cell w bs 1 vb
  ne : bs ≠ b0
  own : vb.ownBlock = some b0
  lst : ∃ us, Lst 22 base av w vb us (tabL t) ∧ ∀ d, d < p.n → t d = none → us.getD d nilv = nilv
end Go.Proofs.Ytjljbfcdpdckeaa

/-
  Walk: the program's representative of a coset (representative).
  Conditions: the tails at all levels are groups; the list has leading exponents 1 at ascending depths.
-/
namespace Go.Proofs.Ytjljbfcdpdckeaa
open Go Go.Pc
/-- Elements with the leading exponent 1, their depths ascending. -/
structure SeqOk {p : Pr} (ys : List (El p)) : Prop where
  lead1 : ∀ y, y ∈ ys → lead y.v < p.n ∧ co y (lead y.v) = 1
  asc : ys.Pairwise fun a b => lead a.v < lead b.v
/-- What a representative is: it differs by a product of the list's elements, and is zero at their depths. -/
structure RepOf {p : Pr} [ConAll p] (ys : List (El p)) (x r : El p) : Prop where
  mem : ∀ H : El p → Prop, Pc.Sub H → (∀ y, y ∈ ys → H y) → H (x⁻¹ * r)
  zero : ∀ y, y ∈ ys → co r (lead y.v) = 0
  low : ∀ t, (∀ y, y ∈ ys → t < lead y.v) → co r t = co x t
theorem vecs_getD {p : Pr} (ys : List (El p)) {i : Nat} (h : i < ys.length) : (vecs ys).getD i [] = (ys[i]).v := by simp [vecs, h]
end Go.Proofs.Ytjljbfcdpdckeaa

/-
  Lists of integers that are the call's own, each in a block of its own; what may be written without touching the rest; marks.
  Conditions: none; nothing of the program stands here.
-/
namespace Go.Pc
open Go Go.RowKit
/-- Only blocks of B (and what is new) have turned. -/
inductive Wrt (B : Nat → Prop) : World → World → Prop where
  | refl (w : World) : Wrt B w w
  | step {w w1 w2 : World} {b : Nat} : Wrt B w w1 → B b → Chg b w1 w2 → Wrt B w w2
  | grow {w w1 w2 : World} : Wrt B w w1 → Ext w1 w2 → Wrt B w w2
section
variable {B B' : Nat → Prop} {w w' w0 w1 w2 : World} {b lo hi s : Nat} {v : Value} {xs : List Int}
theorem Wrt.one (hb : B b) (c : Chg b w w') : Wrt B w w' := .step (.refl w) hb c
theorem Wrt.ofExt (x : Ext w w') : Wrt B w w' := .grow (.refl w) x
theorem Wrt.trans (h : Wrt B w w1) (k : Wrt B w1 w2) : Wrt B w w2 := by
  induction k with
  | refl => exact h
  | step _ hb c ih => exact .step ih hb c
  | grow _ x ih => exact .grow ih x
theorem Wrt.mono (h : Wrt B w w1) (hb : ∀ b, B b → B' b) : Wrt B' w w1 := by
  induction h with
  | refl => exact .refl _
  | step _ hB c ih => exact .step ih (hb _ hB) c
  | grow _ x ih => exact .grow ih x
theorem Wrt.size (h : Wrt B w w1) : w.heap.size ≤ w1.heap.size := by
  induction h with
  | refl => exact Nat.le_refl _
  | step _ _ c ih => exact Nat.le_trans ih c.size
  | grow _ x ih => exact Nat.le_trans ih x.size
theorem Wrt.block (h : Wrt B w w1) {k : Nat} (hk : k < w.heap.size) (hn : ¬ B k) : w1.heap[k]? = w.heap[k]? := by
  induction h with
  | refl => rfl
  | @step w1 w2 b h1 hB c ih => rw [← ih]; exact c.by_.block k (Nat.lt_of_lt_of_le hk h1.size) (fun e => by injection e with e; subst e; exact hn hB)
  | @grow w1 w2 h1 x ih => rw [← ih]; exact x.below.block k (Nat.lt_of_lt_of_le hk h1.size)
theorem Wrt.same (h : Wrt B w w1) (hb : ∀ b, B b → b < lo ∨ hi ≤ b) : Same lo hi w w1 := fun k h1 h2 h3 => h.block h3 fun hk => by have := hb k hk; omega
theorem Wrt.ext (h : Wrt B w1 w2) (x : Ext w0 w1) (hb : ∀ b, B b → w0.heap.size ≤ b) : Ext w0 w2 := by
  induction h with
  | refl => exact x
  | step _ hB c ih => exact c.ext ih (hb _ hB)
  | grow _ y ih => exact ih.trans y
theorem OwnI.block (h : OwnI s b w v xs) : v.ownBlock = some b := by obtain ⟨cap, cur, rfl, _⟩ := h.own.ex; rfl
theorem Fr.block (h : Fr s w v xs) (hn : xs ≠ []) : ∃ b, v.ownBlock = some b ∧ s ≤ b ∧ b < w.heap.size := by
  obtain ⟨e, b, hb, ho⟩ := h.own hn
  exact ⟨b, ho.block, hb, ho.lt⟩
theorem Fr.nil_same (h : Fr s w v []) (hs : w.heap.size ≤ w'.heap.size) : Fr s w' v [] := by
  obtain ⟨A, c, hv, hc, hm, hcell⟩ := h.ints.sl.ex
  exact ⟨⟨⟨A, c, hv, hc, hm, fun k u hu => by simp at hu⟩⟩, fun hn => absurd rfl hn⟩
theorem Fr.chg (h : Fr s w v xs) (c : Chg b w w') (hb : xs ≠ [] → v.ownBlock ≠ some b) : Fr s w' v xs := by
  by_cases hn : xs = []
  · subst hn; exact h.nil_same c.size
  · obtain ⟨e, g, hg, ho⟩ := h.own hn
    exact (ho.chg' c (fun e => hb hn (by rw [ho.block, e]))).toFr hg
theorem Fr.wr (h : Fr s w v xs) (k : Wrt B w w') (hb : xs ≠ [] → ∀ b, v.ownBlock = some b → ¬ B b) : Fr s w' v xs := by
  induction k with
  | refl => exact h
  | step _ hB c ih => exact ih.chg c fun hn e => hb hn _ e hB
  | grow _ x ih => exact ih.ext' x
end
/-- Rows that are the call's own, from s on, no two in one block. -/
structure RowsO (s : Nat) (w : World) (rs : List (Value × List Int)) : Prop where
  fr : ∀ r, r ∈ rs → Fr s w r.1 r.2
  sep : rs.Pairwise fun a b => a.2 ≠ [] → b.2 ≠ [] → a.1.ownBlock ≠ b.1.ownBlock
/-- A block of one of the rows. -/
def BlkOf (rs : List (Value × List Int)) (b : Nat) : Prop := ∃ r, r ∈ rs ∧ r.2 ≠ [] ∧ r.1.ownBlock = some b
section
variable {B : Nat → Prop} {w w' : World} {b lo hi s s' : Nat} {u v : Value} {xs : List Int} {rs rs' : List (Value × List Int)}
theorem RowsO.nil (s : Nat) (w : World) : RowsO s w [] := ⟨fun r h => (by cases h), List.Pairwise.nil⟩
theorem RowsO.ext (h : RowsO s w rs) (x : Ext w w') : RowsO s w' rs := ⟨fun r hr => (h.fr r hr).ext' x, h.sep⟩
theorem RowsO.mono (h : RowsO s w rs) (hs : s' ≤ s) : RowsO s' w rs := ⟨fun r hr => (h.fr r hr).mono hs, h.sep⟩
theorem RowsO.wr (h : RowsO s w rs) (k : Wrt B w w') (hb : ∀ b, BlkOf rs b → ¬ B b) : RowsO s w' rs :=
  ⟨fun r hr => (h.fr r hr).wr k fun hn b e => hb b ⟨r, hr, hn, e⟩, h.sep⟩
theorem RowsO.blk (h : RowsO s w rs) (hb : BlkOf rs b) : s ≤ b ∧ b < w.heap.size := by
  obtain ⟨r, hr, hn, e⟩ := hb
  obtain ⟨g, h1, h2, h3⟩ := (h.fr r hr).block hn
  rw [e] at h1; injection h1 with h1; subst h1
  exact ⟨h2, h3⟩
theorem RowsO.cons (h : RowsO s w rs) (x : Ext w w') (hs : s ≤ w.heap.size) (hu : Fr w.heap.size w' u xs) : RowsO s w' ((u, xs) :: rs) := by
  refine ⟨fun r hr => ?_, List.Pairwise.cons (fun r hr h1 h2 e => ?_) h.sep⟩
  · rcases List.mem_cons.1 hr with rfl | hr
    · exact hu.mono hs
    · exact (h.fr r hr).ext' x
  · obtain ⟨g, e1, g1, _⟩ := hu.block h1
    obtain ⟨k, e2, _, k1⟩ := (h.fr r hr).block h2
    rw [e1, e2] at e; injection e with e; omega
theorem RowsO.push (h : RowsO s w rs) (x : Ext w w') (hs : s ≤ w.heap.size) (hu : Fr w.heap.size w' u xs) : RowsO s w' (rs ++ [(u, xs)]) := by
  refine ⟨fun r hr => ?_, List.pairwise_append.2 ⟨h.sep, List.pairwise_singleton _ _, fun r hr q hq h1 h2 e => ?_⟩⟩
  · rcases List.mem_append.1 hr with hr | hr
    · exact (h.fr r hr).ext' x
    · rw [List.mem_singleton.1 hr]; exact hu.mono hs
  · rw [List.mem_singleton.1 hq] at h2 e
    obtain ⟨g, e1, g1, _⟩ := hu.block h2
    obtain ⟨k, e2, _, k1⟩ := (h.fr r hr).block h1
    rw [e1, e2] at e; injection e with e; omega
theorem RowsO.append (h : RowsO s w rs) (x : Ext w w') (hs : s ≤ w.heap.size) (hu : RowsO w.heap.size w' rs') : RowsO s w' (rs ++ rs') := by
  refine ⟨fun r hr => ?_, List.pairwise_append.2 ⟨h.sep, hu.sep, fun r hr q hq h1 h2 e => ?_⟩⟩
  · rcases List.mem_append.1 hr with hr | hr
    · exact (h.fr r hr).ext' x
    · exact (hu.fr r hr).mono hs
  · obtain ⟨g, e1, g1, _⟩ := (hu.fr q hq).block h2
    obtain ⟨k, e2, _, k1⟩ := (h.fr r hr).block h1
    rw [e1, e2] at e; injection e with e; omega
theorem RowsO.left (h : RowsO s w (rs ++ rs')) : RowsO s w rs := ⟨fun r hr => h.fr r (List.mem_append_left _ hr), (List.pairwise_append.1 h.sep).1⟩
theorem RowsO.right (h : RowsO s w (rs ++ rs')) : RowsO s w rs' := ⟨fun r hr => h.fr r (List.mem_append_right _ hr), (List.pairwise_append.1 h.sep).2.1⟩
end
/-! ### marks -/
/-- n numbers from k on. -/
def marks (k : Int) (n : Nat) : List Int := (List.range n).map fun i : Nat => k + (i : Int)
theorem marks_len (k : Int) (n : Nat) : (marks k n).length = n := by simp [marks]
theorem marks_getD (k : Int) {n i : Nat} (h : i < n) : (marks k n).getD i 0 = k + i := by simp [marks, h]
theorem marks_ne {k : Int} {xs : List Int} : marks k xs.length ≠ [] ↔ xs ≠ [] := by
  constructor
  · intro h e; subst e; exact h rfl
  · intro h e
    have := marks_len k xs.length
    rw [e] at this
    exact h (List.eq_nil_of_length_eq_zero this.symm)
/-- All numbers of the rows. -/
def tot : List (List Int) → Nat
  | [] => 0
  | xs :: l => xs.length + tot l
def mkR (k : Int) : List (Value × List Int) → List (Value × List Int)
  | [] => []
  | r :: l => (r.1, marks k r.2.length) :: mkR (k + r.2.length) l
theorem mkR_fst : ∀ (rs : List (Value × List Int)) (k : Int), (mkR k rs).map (·.1) = rs.map (·.1)
  | [], _ => rfl
  | r :: l, k => by simp [mkR, mkR_fst l]
theorem mkR_append : ∀ (rs qs : List (Value × List Int)) (k : Int), mkR k (rs ++ qs) = mkR k rs ++ mkR (k + tot (rs.map (·.2))) qs
  | [], qs, k => by simp [mkR, tot]
  | r :: l, qs, k => by simp [mkR, tot, mkR_append l, Int.add_assoc]
theorem tot_append : ∀ (l m : List (List Int)), tot (l ++ m) = tot l + tot m
  | [], m => by simp [tot]
  | x :: l, m => by simp [tot, tot_append l, Nat.add_assoc]
theorem tot_le {n : Nat} : ∀ (l : List (List Int)), (∀ x, x ∈ l → x.length ≤ n) → tot l ≤ l.length * n
  | [], _ => by simp [tot]
  | x :: l, h => by
    have h1 := h x (List.mem_cons_self)
    have h2 := tot_le l fun y hy => h y (List.mem_cons_of_mem _ hy)
    simp only [tot, List.length_cons, Nat.add_mul, Nat.one_mul]
    omega
theorem tot_take_le : ∀ (l : List (List Int)) (k : Nat), tot (l.take k) ≤ tot l
  | [], k => by simp [tot]
  | x :: l, 0 => by simp [tot]
  | x :: l, k + 1 => by have := tot_take_le l k; simp only [List.take_succ_cons, tot]; omega
section
variable {s b : Nat} {w : World} {rs : List (Value × List Int)}
end
/-! ### writing one row; spines -/
/-- The cells of v hold us, in blocks apart from A. -/
def SpA (A : Nat → Prop) (w : World) (v : Value) (us : List Value) : Prop := ∃ lo hi, Sl lo hi w v us ∧ ∀ b, A b → b < lo ∨ hi ≤ b
section
variable {A B : Nat → Prop} {s b lo hi : Nat} {w w' : World} {v : Value} {us : List Value} {xss : List (List Int)} {ys : List Int} {rs pre post : List (Value × List Int)} {r : Value × List Int}
theorem SpA.wr (h : SpA A w v us) (k : Wrt B w w') (hb : ∀ b, B b → A b) : SpA A w' v us := by
  obtain ⟨lo, hi, h1, h2⟩ := h
  exact ⟨lo, hi, h1.same (k.same fun b hB => h2 b (hb b hB)), h2⟩
theorem SpA.weak {A' : Nat → Prop} (h : SpA A w v us) (hb : ∀ b, A' b → A b) : SpA A' w v us := by
  obtain ⟨lo, hi, h1, h2⟩ := h
  exact ⟨lo, hi, h1, fun b hB => h2 b (hb b hB)⟩
theorem SpA.sl (h : SpA A w v us) : Sl 0 w.heap.size w v us := by
  obtain ⟨lo, hi, h1, h2⟩ := h
  exact h1.wide
theorem nil_val {α : Type} (l : List (α × List Int)) (i : Nat) (f : α) : i < l.length ∨ ((l.map (·.1)).getD i f = f ∧ (l.map (·.2)).getD i [] = []) := by
  by_cases h : i < l.length
  · exact .inl h
  · right
    constructor
    · rw [List.getD_eq_getElem?_getD, List.getElem?_eq_none (by simp; omega)]; rfl
    · rw [List.getD_eq_getElem?_getD, List.getElem?_eq_none (by simp; omega)]; rfl
theorem RowsO.vals (h : RowsO s w rs) (hs : s ≤ w.heap.size) : RowVals s w.heap.size w (rs.map (·.1)) (rs.map (·.2)) := by
  refine ⟨by simp, fun i => ?_⟩
  rcases nil_val rs i nilv with hi | ⟨e1, e2⟩
  · have := (h.fr rs[i] (List.getElem_mem hi)).ints
    simpa [hi] using this
  · rw [e1, e2]
    exact ⟨⟨none, 0, rfl, Nat.le_refl _, by omega, fun k u hu => by simp at hu⟩⟩
theorem RowsO.rows (h : RowsO s w rs) (hs : Sl 0 w.heap.size w v (rs.map (·.1))) : Rows 0 w.heap.size w v (rs.map (·.1)) (rs.map (·.2)) := by
  refine ⟨hs, by simp, fun i => ?_⟩
  rcases nil_val rs i nilv with hi | ⟨e1, e2⟩
  · have := (h.fr rs[i] (List.getElem_mem hi)).ints.wide
    simpa [hi] using this
  · rw [e1, e2]
    exact ⟨⟨none, 0, rfl, Nat.le_refl _, by omega, fun k u hu => by simp at hu⟩⟩
/-- One row is written. -/
theorem RowsO.upd (h : RowsO s w (pre ++ r :: post)) (k : Wrt (fun b => r.2 ≠ [] ∧ r.1.ownBlock = some b) w w') (hu : Fr s w' r.1 ys) (hn : ys ≠ [] → r.2 ≠ []) : RowsO s w' (pre ++ (r.1, ys) :: post) := by
  obtain ⟨h1, h2, h3⟩ := List.pairwise_append.1 h.sep
  obtain ⟨h4, h5⟩ := List.pairwise_cons.1 h2
  refine ⟨fun q hq => ?_, List.pairwise_append.2 ⟨h1, List.pairwise_cons.2 ⟨fun q hq hy hq2 => ?_, h5⟩, fun q hq t ht hq2 ht2 => ?_⟩⟩
  · rcases List.mem_append.1 hq with hq | hq
    · exact (h.fr q (List.mem_append_left _ hq)).wr k fun hq2 b e ⟨e1, e2⟩ => h3 q hq r List.mem_cons_self hq2 e1 (by rw [e, e2])
    · rcases List.mem_cons.1 hq with rfl | hq
      · exact hu
      · exact (h.fr q (List.mem_append_right _ (List.mem_cons_of_mem _ hq))).wr k fun hq2 b e ⟨e1, e2⟩ => h4 q hq e1 hq2 (by rw [e, e2])
  · exact h4 q hq (hn hy) hq2
  · rcases List.mem_cons.1 ht with rfl | ht
    · exact h3 q hq r List.mem_cons_self hq2 (hn ht2)
    · exact h3 q hq t (List.mem_cons_of_mem _ ht) hq2 ht2
theorem blkOf_append {b : Nat} : BlkOf (pre ++ post) b ↔ BlkOf pre b ∨ BlkOf post b := by
  constructor
  · rintro ⟨q, hq, h1, h2⟩
    rcases List.mem_append.1 hq with hq | hq
    · exact .inl ⟨q, hq, h1, h2⟩
    · exact .inr ⟨q, hq, h1, h2⟩
  · rintro (⟨q, hq, h1, h2⟩ | ⟨q, hq, h1, h2⟩)
    · exact ⟨q, List.mem_append_left _ hq, h1, h2⟩
    · exact ⟨q, List.mem_append_right _ hq, h1, h2⟩
end
end Go.Pc

/-
  Lists of lists, lists of lists of lists and presentations that are the call's own, within a range of blocks.
  Conditions: none; nothing of the program stands here.
-/
namespace Go.Pc
open Go Go.RowKit
/-- A list of the call's own, in the blocks from s on, below t. -/
structure VecO (s t : Nat) (w : World) (v : Value) (xs : List Int) : Prop where
  ints : Ints s t w v xs
  fr : Fr s w v xs
  lt : xs ≠ [] → ∀ b, v.ownBlock = some b → b < t
structure MatO (s t : Nat) (w : World) (v : Value) (rs : List (Value × List Int)) : Prop where
  rows : Rows s t w v (rs.map (·.1)) (rs.map (·.2))
  own : RowsO s w rs
  lt : ∀ b, BlkOf rs b → b < t
  sp : SpA (fun b => BlkOf rs b ∨ b < s) w v (rs.map (·.1))
/-- All rows of the groups. -/
def flat (gs : List (Value × List (Value × List Int))) : List (Value × List Int) := (gs.map (·.2)).flatten
structure CubO (A : Nat → Prop) (w : World) (v : Value) (gs : List (Value × List (Value × List Int))) : Prop where
  sp0 : SpA A w v (gs.map (·.1))
  sp : ∀ q, q ∈ gs → SpA A w q.1 (q.2.map (·.1))
structure PresO (s t : Nat) (w : World) (v : Value) (p : Pr) : Prop where
  ex : ∃ vo vp vc rp gs, v = .agg #[vo, vp, vc] ∧ RowsO s w ((vo, p.ord) :: (rp ++ flat gs)) ∧ (∀ b, BlkOf ((vo, p.ord) :: (rp ++ flat gs)) b → b < t) ∧
    SpA (BlkOf ((vo, p.ord) :: (rp ++ flat gs))) w vp (rp.map (·.1)) ∧ CubO (BlkOf ((vo, p.ord) :: (rp ++ flat gs))) w vc gs ∧ p.pow = rp.map (·.2) ∧ (p.cnj = gs.map fun q => q.2.map (·.2)) ∧
    Ints s t w vo p.ord ∧ Rows s t w vp (rp.map (·.1)) (rp.map (·.2)) ∧ Rowss s t w vc (gs.map (·.1)) (gs.map fun q => q.2.map (·.1)) (gs.map fun q => q.2.map (·.2))
section
variable {A A' B : Nat → Prop} {e s t s' : Nat} {w w' : World} {v : Value} {us : List Value} {xs : List Int} {rs : List (Value × List Int)} {gs : List (Value × List (Value × List Int))} {p : Pr}
theorem VecO.ofFr (h : Fr s w v xs) : VecO s w.heap.size w v xs := ⟨h.ints, h, fun hn b e => by
  obtain ⟨g, h1, _, h3⟩ := h.block hn
  rw [e] at h1; injection h1 with h1; omega⟩
theorem VecO.wr (h : VecO s t w v xs) (k : Wrt B w w') (hb : ∀ b, B b → b < s ∨ t ≤ b) : VecO s t w' v xs :=
  ⟨h.ints.same (k.same hb), h.fr.wr k (fun hn b e hB => by
    have h1 := h.lt hn b e
    obtain ⟨g, h2, h3, _⟩ := h.fr.block hn
    rw [e] at h2; injection h2 with h2
    have := hb b hB; omega), h.lt⟩
theorem SpA.wr' (h : SpA A w v us) (k : Wrt B w w') (hs : Sl s t w v us) (hb : ∀ b, B b → b < s ∨ t ≤ b) : SpA A w' v us := by
  obtain ⟨lo, hi, h1, h2⟩ := h
  obtain ⟨X, c, rfl, hc, hm, hcell⟩ := h1.ex
  obtain ⟨X', c', hv, _, _, hcell'⟩ := hs.ex
  refine ⟨lo, hi, ⟨⟨X, c, rfl, hc, hm, fun i u hu => ?_⟩⟩, h2⟩
  obtain ⟨a, hA, e1, e2, e3⟩ := hcell i u hu
  obtain ⟨a', hA', g1, g2, g3⟩ := hcell' i u hu
  injection hv with hv _ _
  rw [hA, hA'] at hv; injection hv with hv; subst hv
  have hlt := block_lt e3
  rw [add_block] at hlt
  refine ⟨a, hA, e1, e2, ?_⟩
  rw [World.cell?_of_block (w := w) (w' := w') (by rw [add_block]; exact k.block hlt (fun hB => by have := hb _ hB; omega))]
  exact e3
theorem MatO.wr (h : MatO s t w v rs) (k : Wrt B w w') (hb : ∀ b, B b → b < s ∨ t ≤ b) : MatO s t w' v rs :=
  ⟨h.rows.same (k.same hb), h.own.wr k (fun b hR hB => by
    have h1 := h.lt b hR
    have h2 := (h.own.blk hR).1
    have := hb b hB; omega), h.lt, h.sp.wr' k h.rows.sl hb⟩
theorem MatO.lower (h : MatO s t w v rs) (hs : s' ≤ s) : MatO s' t w v rs := by
  refine ⟨h.rows.mono hs (Nat.le_refl _), h.own.mono hs, h.lt, h.sp.weak fun b hb => hb.imp id fun hb => by omega⟩
theorem MatO.sub (h : MatO s t w v rs) (hs : s' ≤ s) {t' : Nat} (ht : t ≤ t') : MatO s' t' w v rs := by
  refine ⟨h.rows.mono hs ht, h.own.mono hs, fun b hb => Nat.lt_of_lt_of_le (h.lt b hb) ht, h.sp.weak fun b hb => hb.imp id fun hb => by omega⟩
/-- Older spines, when memory has grown and more rows are there. -/
theorem SpA.grow (h : SpA A w v us) (x : Ext w w') (hA : ∀ b, A' b → A b ∨ w.heap.size ≤ b) : SpA A' w' v us := by
  obtain ⟨lo, hi, h1, h2⟩ := h
  obtain ⟨X, c, rfl, hc, hm, hcell⟩ := h1.ex
  have h3 : Sl lo (min hi w.heap.size) w (.slice X us.length c) us := ⟨⟨X, c, rfl, hc, hm, fun i u hu => by
    obtain ⟨a, hX, e1, e2, e3⟩ := hcell i u hu
    have hlt := block_lt e3
    rw [add_block] at hlt
    exact ⟨a, hX, e1, by omega, e3⟩⟩⟩
  refine ⟨lo, _, h3.same (x.same _ _), fun b hb => ?_⟩
  rcases hA b hb with hb | hb
  · have := h2 b hb; omega
  · exact .inr (by omega)
theorem OwnI.sl_in {e b lo hi : Nat} (h : OwnI e b w v xs) (hn : xs ≠ []) (k : Ints lo hi w v xs) : lo ≤ b ∧ b < hi := by
  obtain ⟨cap, cur, hv, _⟩ := h.own.ex
  obtain ⟨X, c, hv', _, _, hcell⟩ := k.sl.ex
  obtain ⟨x, l, rfl⟩ : ∃ x l, xs = x :: l := by cases xs with | nil => exact absurd rfl hn | cons x l => exact ⟨x, l, rfl⟩
  obtain ⟨a, hX, e1, e2, _⟩ := hcell 0 (.int .i64 x) (by simp)
  rw [hv] at hv'
  injection hv' with h1 _ _
  rw [hX] at h1; injection h1 with h1; subst h1
  exact ⟨e1, e2⟩
theorem MatO.ofLst {av : Nat → Prop} (h : Lst e s av w v (rs.map (·.1)) (rs.map (·.2))) (hO : RowsO s w rs) (hr : Rows s w.heap.size w v (rs.map (·.1)) (rs.map (·.2))) : MatO s w.heap.size w v rs := by
  refine ⟨hr, hO, fun b hb => (hO.blk hb).2, ?_⟩
  cases hv : v.ownBlock with
  | none =>
    rcases h.own.own.2 with ⟨rfl, h0⟩ | ⟨g, cap, cur, rfl, _⟩
    · have e0 : rs.map (·.1) = [] := List.eq_nil_of_length_eq_zero h0
      rw [e0]
      exact ⟨0, 0, ⟨⟨none, 0, rfl, Nat.le_refl _, by omega, fun k u hu => by simp at hu⟩⟩, fun b _ => .inr (Nat.zero_le _)⟩
    · cases hv
  | some k =>
    have hk := h.lt hv
    refine ⟨k, k + 1, h.own.toSlAt hv, fun b hb => ?_⟩
    rcases hb with ⟨r, hr1, hn, eb⟩ | hb
    · obtain ⟨i, hi, rfl⟩ := List.getElem_of_mem hr1
      obtain ⟨te, g, _, ho⟩ := (hO.fr _ hr1).own hn
      have hg := ho.block
      rw [eb] at hg; injection hg with hg; subst hg
      obtain ⟨lo, hi', h1, h2, h3⟩ := h.rows.at_ i
      have e1 : (rs.map (·.1)).getD i nilv = rs[i].1 := by simp [hi]
      have e2 : (rs.map (·.2)).getD i [] = rs[i].2 := by simp [hi]
      rw [e1, e2] at h1
      have h4 := ho.sl_in hn h1
      have h5 := h3 k (.inr hv)
      omega
    · omega
theorem CubO.wr (h : CubO A w v gs) (k : Wrt B w w') (hb : ∀ b, B b → A b) : CubO A w' v gs := ⟨h.sp0.wr k hb, fun q hq => (h.sp q hq).wr k hb⟩
theorem PresO.pres (h : PresO s t w v p) : Pres s t w v p := by
  obtain ⟨vo, vp, vc, rp, gs, rfl, _, _, _, _, h1, h2, h3, h4, h5⟩ := h.ex
  rw [← h1] at h4; rw [← h2] at h5
  exact ⟨⟨vo, vp, vc, _, _, _, rfl, h3, h4, h5⟩⟩
theorem PresO.wr (h : PresO s t w v p) (k : Wrt B w w') (hb : ∀ b, B b → b < s ∨ t ≤ b) : PresO s t w' v p := by
  obtain ⟨vo, vp, vc, rp, gs, rfl, hO, hl, hs, hc, h1, h2, h3, h4, h5⟩ := h.ex
  refine ⟨vo, vp, vc, rp, gs, rfl, hO.wr k (fun b hR hB => ?_), hl, hs.wr' k h4.sl hb, ⟨hc.sp0.wr' k h5.sl hb, fun q hq => ?_⟩, h1, h2, h3.same (k.same hb), h4.same (k.same hb), h5.same (k.same hb)⟩
  · have e1 := hl b hR
    have e2 := (hO.blk hR).1
    have := hb b hB; omega
  · obtain ⟨i, hi, rfl⟩ := List.getElem_of_mem hq
    have h6 := (h5.vals.at_ i).sl
    have e1 : (gs.map (·.1)).getD i nilv = gs[i].1 := by simp [hi]
    have e2 : (gs.map fun q => q.2.map (·.1)).getD i [] = gs[i].2.map (·.1) := by simp [hi]
    rw [e1, e2] at h6
    exact (hc.sp _ hq).wr' k h6 hb
theorem Blk.wr {b : Nat} {cs : List Value} (h : Blk w b cs) (k : Wrt B w w') (hb : ¬ B b) : Blk w' b cs := by
  obtain ⟨t, ht⟩ := h.ex
  exact ⟨t, by rw [k.block h.lt hb]; exact ht⟩
theorem flat_append (gs hs : List (Value × List (Value × List Int))) : flat (gs ++ hs) = flat gs ++ flat hs := by simp [flat]
theorem flat_one (q : Value × List (Value × List Int)) : flat [q] = q.2 := by simp [flat]
theorem blkOf_nil (b : Nat) : ¬ BlkOf [] b := by rintro ⟨r, hr, _⟩; cases hr
theorem blkOf_append' {rs qs : List (Value × List Int)} {b : Nat} : BlkOf (rs ++ qs) b ↔ BlkOf rs b ∨ BlkOf qs b := blkOf_append
/-- The number of a presentation's integers. -/
def totP (p : Pr) : Nat := p.ord.length + (tot p.pow + tot p.cnj.flatten)
theorem tot_flatten {n : Nat} : ∀ (l : List (List (List Int))), (∀ x, x ∈ l → x.length ≤ n ∧ ∀ y, y ∈ x → y.length ≤ n) → tot l.flatten ≤ l.length * (n * n)
  | [], _ => by simp [tot]
  | x :: l, h => by
    have h1 := h x List.mem_cons_self
    have h2 := tot_flatten l fun y hy => h y (List.mem_cons_of_mem _ hy)
    have h3 := tot_le x h1.2
    have h4 : x.length * n ≤ n * n := Nat.mul_le_mul_right _ h1.1
    simp only [List.flatten_cons, tot_append, List.length_cons, Nat.add_mul, Nat.one_mul]
    omega
end
end Go.Pc

/-
  Walks: the program's canonical sequence, and its subgroup generated by a list (canonical, generated).
  Conditions: the tails at all levels are groups.
-/
namespace Go.Proofs.Ytjljbfcdpdckeaa
open Go Go.Pc
theorem canElsF_ok {p : Pr} [hcon : ConAll p] (H : El p → Prop) (d : Nat) : SeqOk (canElsF H d) := by
  refine ⟨fun y hy => ?_, ?_⟩
  · obtain ⟨e, h1, h2, h3⟩ := canElsF_mem.1 hy
    have hc := canT_some h3
    have hl := lead_of hc.tl (by rw [hc.lead]; omega)
    rw [hl]
    exact ⟨h2, hc.lead⟩
  · unfold canElsF
    rw [List.pairwise_filterMap]
    refine List.Pairwise.imp ?_ (List.pairwise_lt_range' (s := d) (n := p.n - d))
    intro a b hab x hx y hy
    have ha := canT_some hx
    have hb := canT_some hy
    rw [lead_of ha.tl (by rw [ha.lead]; omega), lead_of hb.tl (by rw [hb.lead]; omega)]
    exact hab
end Go.Proofs.Ytjljbfcdpdckeaa

/-
  Canonical sequences: every depth of a subgroup has its element; representatives are unique; the order.
  Conditions: the tails at all levels are groups; nothing of the program stands here.
-/
namespace Go.Proofs.Ytjljbfcdpdckeaa
open Go Go.Pc
section
variable {p : Pr} [hc : ConAll p] {H : El p → Prop} {d : Nat}
theorem dep_one (hH : Pc.Sub H) (h : Dep H d) : ∃ z, H z ∧ Tl d z ∧ co z d = 1 := by
  have hd := h.lt
  obtain ⟨x, h1, h2, h3⟩ := h
  have hr := co_rng x hd
  obtain ⟨k, _, _, hk⟩ := inv_ex (hc.valid.prime d hd) ⟨by omega, hr.2⟩
  exact ⟨Grp.pwz x k, hH.pwz h1 k, h2.pwz (by omega) k, by rw [co_pwz hd h2, Int.mul_comm]; exact hk⟩
theorem can_ex (hH : Pc.Sub H) (h : Dep H d) : ∃ x, CanAt H d x := by
  have key : ∀ m e, e ≤ p.n → p.n - e = m → d < e → (∃ x, CanTo H d e x) → ∃ x, CanTo H d p.n x := by
    intro m
    induction m with
    | zero =>
      intro e h1 h2 _ h4
      obtain rfl : e = p.n := by omega
      exact h4
    | succ m ih =>
      intro e h1 h2 h3 ⟨x, h4⟩
      refine ih (e + 1) (by omega) (by omega) (by omega) ?_
      by_cases hD : Dep H e
      · obtain ⟨z, hz, hzt, hz1⟩ := dep_one hH hD
        exact ⟨_, h4.step hH h3 hD.lt hz hzt hz1⟩
      · exact ⟨x, h4.skip (.inr hD)⟩
  have hd := h.lt
  obtain ⟨z, hz, hzt, hz1⟩ := dep_one hH h
  obtain ⟨x, hx⟩ := key (p.n - (d + 1)) (d + 1) (by omega) rfl (by omega) ⟨z, hz, hzt, hz1, fun k h1 h2 _ => by omega⟩
  exact ⟨x, hx.can⟩
theorem canT_ex (hH : Pc.Sub H) (h : Dep H d) : ∃ x, canT H d = some x := by
  obtain ⟨x, hx⟩ := can_ex hH h
  exact ⟨x, canT_eq hH hx⟩
/-- The elements of a canonical sequence. -/
structure SeqEl (ys : List (El p)) : Prop where
  can : canon (Gen (fun a : El p => a ∈ ys)) = vecs ys
theorem SeqEl.eq {ys : List (El p)} (h : SeqEl ys) : ys = canElsF (Gen (fun a : El p => a ∈ ys)) 0 := by
  have := vecs_inj (h.can.symm.trans (canon_vecs _))
  rw [canElsF_zero]; exact this
theorem SeqEl.ok {ys : List (El p)} (h : SeqEl ys) : SeqOk ys := by
  have := canElsF_ok (Gen (fun a : El p => a ∈ ys)) 0
  rwa [← h.eq] at this
theorem SeqEl.len {ys : List (El p)} (h : SeqEl ys) : ys.length ≤ p.n := by
  have := canElsF_len (Gen (fun a : El p => a ∈ ys)) 0
  rwa [← h.eq] at this
theorem SeqEl.dep {ys : List (El p)} (h : SeqEl ys) {d : Nat} (hd : Dep (Gen (fun a : El p => a ∈ ys)) d) : ∃ y, y ∈ ys ∧ lead y.v = d := by
  obtain ⟨x, hx⟩ := canT_ex (Gen.sub _) hd
  have hm := canElsF_mem.2 ⟨d, Nat.zero_le _, hd.lt, hx⟩
  rw [← h.eq] at hm
  have hca := canT_some hx
  exact ⟨x, hm, lead_of hca.tl (by rw [hca.lead]; omega)⟩
variable {ys : List (El p)} {x r s : El p}
theorem RepOf.gen (h : RepOf ys x r) : Gen (fun a : El p => a ∈ ys) (x⁻¹ * r) := h.mem _ (Gen.sub _) fun y hy => .of y hy
theorem RepOf.unique (hs : SeqEl ys) (h : RepOf ys x r) (k : RepOf ys x s) : r = s := by
  refine rep_unique (Gen.sub (fun a : El p => a ∈ ys)) ?_ fun d hd => ?_
  · have h1 := (Gen.sub (fun a : El p => a ∈ ys)).mul _ _ ((Gen.sub _).inv _ h.gen) k.gen
    rwa [Grp.mul_inv_rev, Grp.inv_inv, Grp.mul_assoc, Grp.mul_inv_cancel_left] at h1
  · obtain ⟨y, hy, rfl⟩ := hs.dep hd
    rw [h.zero y hy, k.zero y hy]
end
end Go.Proofs.Ytjljbfcdpdckeaa

/-
  Walks: the reference's test of subgroups (l12Is, IsSubgroup).
  Conditions: stated at each theorem.
-/
namespace Go.Proofs.Ytjljbfcdpdckeaa
open Go Go.Pc
/-- The presentation is a group, and the list is the canonical sequence of a subgroup of it. -/
def IsSubP (p : Pr) (xss : List (List Int)) : Prop := ∃ h : IsGrp p, @IsSeq p ⟨h.con⟩ xss
end Go.Proofs.Ytjljbfcdpdckeaa

/-
  Answers that the program and the reference give: what they have to be, and that they are the same.
  Conditions: none.
-/
namespace Go.Proofs.Ytjljbfcdpdckeaa
open Go Go.Pc
/-- An answer with a code: under A the pair meets V, else it is z with the code 1. -/
def Ans {α : Type} (A : Prop) (V : α → Int → Prop) (z k : α) (e : Int) : Prop := (A ∧ V k e) ∨ (¬ A ∧ k = z ∧ e = 1)
theorem Ans.same {α : Type} {A : Prop} {V : α → Int → Prop} {z k k' : α} {e e' : Int} (h : Ans A V z k e) (h' : Ans A V z k' e') (hu : A → ∀ a b c d, V a c → V b d → a = b ∧ c = d) : k = k' ∧ e = e' := by
  rcases h with ⟨h1, h2⟩ | ⟨h1, h2, h3⟩ <;> rcases h' with ⟨k1, k2⟩ | ⟨k1, k2, k3⟩
  · exact hu h1 _ _ _ _ h2 k2
  · exact absurd h1 k1
  · exact absurd k1 h1
  · exact ⟨by rw [h2, k2], by rw [h3, k3]⟩
theorem el_one_iff {p : Pr} [hc : ConAll p] (r : El p) : r = 1 ↔ ∀ i, i < r.v.length → r.v.getD i 0 = 0 := by
  have hl := r.inr.len
  constructor
  · rintro rfl i _; exact co_one i
  · intro h; exact el_ext fun d hd => by rw [co_one]; exact h d (by omega)
end Go.Proofs.Ytjljbfcdpdckeaa

/-
  Answers that are lists: representatives, subgroups.
  Conditions: none.
-/
namespace Go.Proofs.Ytjljbfcdpdckeaa
open Go Go.Pc
end Go.Proofs.Ytjljbfcdpdckeaa

/-
  Canonical sequences of subgroups: they generate the subgroup, their lengths tell the subgroups apart; closures under conjugation.
  Conditions: the tails at all levels are groups.
-/
namespace Go.Proofs.Ytjljbfcdpdckeaa
open Go Go.Pc Grp
section
variable {p : Pr} [hc : ConAll p] {H K : El p → Prop} {d : Nat}
theorem sub_le_of_dep (hH : Pc.Sub H) (hK : Pc.Sub K) (hle : ∀ a, H a → K a) (hd : ∀ d, Dep K d → Dep H d) : ∀ a, K a → H a := by
  have key : ∀ m d, d ≤ p.n → p.n - d = m → ∀ x, K x → Tl d x → H x := by
    intro m
    induction m with
    | zero =>
      intro d h1 h2 x hx ht
      obtain rfl : d = p.n := by omega
      rw [ht.end_]; exact hH.one
    | succ m ih =>
      intro d h1 h2 x hx ht
      by_cases h0 : co x d = 0
      · exact ih (d + 1) (by omega) (by omega) x hx (ht.succ h0)
      · have hdn : d < p.n := by omega
        obtain ⟨z, hz, hzt, hz1⟩ := dep_one hH (hd d ⟨x, hx, ht, h0⟩)
        have h3 := ih (d + 1) (by omega) (by omega) (x * Grp.pwz z (-(co x d))) (hK.mul _ _ hx (hK.pwz (hle z hz) _)) (strip_step hdn ht hzt hz1)
        exact (hH.right (hH.pwz hz _)).1 h3
  exact fun a ha => key p.n 0 (Nat.zero_le _) (by omega) a ha (Tl.zero a)
theorem SeqEl.els {ys : List (El p)} (h : SeqEl ys) : canEls (Gen (fun a : El p => a ∈ ys)) = ys := by
  have := h.eq
  rw [canElsF_zero] at this
  exact this.symm
theorem canT_isSome (hH : Pc.Sub H) : (canT H d).isSome = true ↔ Dep H d := by
  constructor
  · intro h
    cases e : canT H d with
    | none => rw [e] at h; cases h
    | some x => exact (canT_some e).dep
  · intro h
    obtain ⟨x, hx⟩ := canT_ex hH h
    rw [hx]; rfl
theorem canEls_len : (canEls H).length = (List.range p.n).countP fun d => (canT H d).isSome := by
  unfold canEls
  rw [List.length_filterMap_eq_countP]
theorem countP_le_of {α : Type} {f g : α → Bool} : ∀ l : List α, (∀ x, x ∈ l → f x = true → g x = true) → l.countP f ≤ l.countP g
  | [], _ => Nat.le_refl _
  | x :: l, h => by
    have ih := countP_le_of l fun y hy => h y (List.mem_cons_of_mem _ hy)
    have h0 := h x List.mem_cons_self
    simp only [List.countP_cons]
    by_cases hf : f x = true
    · rw [if_pos hf, if_pos (h0 hf)]; omega
    · rw [if_neg hf]; omega
theorem countP_lt_of {α : Type} {f g : α → Bool} : ∀ l : List α, (∀ x, x ∈ l → f x = true → g x = true) → (∃ x, x ∈ l ∧ g x = true ∧ f x = false) → l.countP f < l.countP g
  | [], _, ⟨x, hx, _⟩ => by cases hx
  | x :: l, h, ⟨y, hy, hg, hf⟩ => by
    have hr : ∀ y, y ∈ l → f y = true → g y = true := fun y hy => h y (List.mem_cons_of_mem _ hy)
    have h0 := h x List.mem_cons_self
    simp only [List.countP_cons]
    rcases List.mem_cons.1 hy with rfl | hy
    · have := countP_le_of l hr
      rw [hg, hf]; simp; omega
    · have ih := countP_lt_of l hr ⟨y, hy, hg, hf⟩
      by_cases hfx : f x = true
      · rw [if_pos hfx, if_pos (h0 hfx)]; omega
      · rw [if_neg hfx]; omega
theorem can_len_le (hH : Pc.Sub H) (hK : Pc.Sub K) (hle : ∀ a, H a → K a) : (canEls H).length ≤ (canEls K).length := by
  rw [canEls_len, canEls_len]
  refine countP_le_of _ fun d _ h => ?_
  obtain ⟨x, h1, h2, h3⟩ := (canT_isSome hH).1 h
  exact (canT_isSome hK).2 ⟨x, hle x h1, h2, h3⟩
theorem same_of_len (hH : Pc.Sub H) (hK : Pc.Sub K) (hle : ∀ a, H a → K a) (hl : (canEls K).length ≤ (canEls H).length) : ∀ a, K a → H a := by
  refine sub_le_of_dep hH hK hle fun d hd => ?_
  by_cases hn : Dep H d
  · exact hn
  exfalso
  rw [canEls_len, canEls_len] at hl
  have := countP_lt_of (f := fun d => (canT H d).isSome) (g := fun d => (canT K d).isSome) (List.range p.n) (fun e _ h => by
    obtain ⟨x, h1, h2, h3⟩ := (canT_isSome hH).1 h
    exact (canT_isSome hK).2 ⟨x, hle x h1, h2, h3⟩) ⟨d, List.mem_range.2 hd.lt, (canT_isSome hK).2 hd, by
      cases e : (canT H d).isSome with
      | false => rfl
      | true => exact absurd ((canT_isSome hH).1 e) hn⟩
  omega
/-- The smallest subgroup that contains S and is closed under conjugation by the elements of B. -/
inductive Clo {G : Type} [Grp G] (S B : G → Prop) : G → Prop
  | of (a : G) : S a → Clo S B a
  | one : Clo S B 1
  | mul (a b : G) : Clo S B a → Clo S B b → Clo S B (a * b)
  | inv (a : G) : Clo S B a → Clo S B a⁻¹
  | cj (a b : G) : Clo S B a → B b → Clo S B (Grp.cj a b)
theorem Clo.sub {G : Type} [Grp G] (S B : G → Prop) : Pc.Sub (Clo S B) := ⟨.one, fun _ _ => .mul _ _, fun _ => .inv _⟩
theorem Clo.le {G : Type} [Grp G] {S B K : G → Prop} (hK : Pc.Sub K) (h : ∀ a, S a → K a) (hcj : ∀ a b, K a → B b → K (Grp.cj a b)) : ∀ a, Clo S B a → K a := by
  intro a ha
  induction ha with
  | of a ha => exact h a ha
  | one => exact hK.one
  | mul a b _ _ i1 i2 => exact hK.mul _ _ i1 i2
  | inv a _ i1 => exact hK.inv _ i1
  | cj a b _ hb i1 => exact hcj _ _ i1 hb
end
end Go.Proofs.Ytjljbfcdpdckeaa

/-
  Walks: the reference's depth, order, table, reduction, representative and membership (l02Lead, l12Depth, l12Order).
  Conditions: stated at each theorem.
-/
namespace Go.Proofs.Ytjljbfcdpdckeaa
open Go Go.Pc
/-- The order of a list that is a sequence. -/
def ordOfL (p : Pr) (xss : List (List Int)) : Int := xss.foldl (fun a x => a * p.o (lead x)) 1
/-- The answer of SubgroupOrder. -/
def OrdAns (p : Pr) (xss : List (List Int)) (k e : Int) : Prop := (IsSubP p xss ∧ k = ordOfL p xss ∧ e = 0) ∨ (¬ IsSubP p xss ∧ k = 0 ∧ e = 1)
theorem OrdAns.same {p : Pr} {xss : List (List Int)} {k e k' e' : Int} (h : OrdAns p xss k e) (h' : OrdAns p xss k' e') : k' = k ∧ e' = e := by
  rcases h with ⟨h1, h2, h3⟩ | ⟨h1, h2, h3⟩ <;> rcases h' with ⟨k1, k2, k3⟩ | ⟨k1, k2, k3⟩
  · exact ⟨by rw [h2, k2], by rw [h3, k3]⟩
  · exact absurd h1 k1
  · exact absurd k1 h1
  · exact ⟨by rw [h2, k2], by rw [h3, k3]⟩
end Go.Proofs.Ytjljbfcdpdckeaa

/-
  More rules: a slice value stored in a drawn region; a slice of two values.
  Conditions: none; nothing of the program stands here.
-/
namespace Go.Pc
open Go Go.RowKit
theorem Ints.nilR (lo hi : Nat) (w : World) : Ints lo hi w nilv [] := ⟨⟨none, 0, rfl, Nat.le_refl _, by omega, fun k u hu => by simp at hu⟩⟩
theorem Fr.nilR (s : Nat) (w : World) : Fr s w nilv [] := ⟨Ints.nilR _ _ _, fun h => absurd rfl h⟩
theorem Rows.nilR (lo hi : Nat) (w : World) : Rows lo hi w nilv [] [] := ⟨⟨none, 0, rfl, Nat.le_refl _, by omega, fun k u hu => by simp at hu⟩, rfl, fun j => by simpa using Ints.nilR lo hi w⟩
theorem MatO.nilR (s t : Nat) (w : World) : MatO s t w nilv [] := ⟨Rows.nilR _ _ _, RowsO.nil _ _, fun b hb => absurd hb (blkOf_nil b), ⟨0, 0, ⟨none, 0, rfl, Nat.le_refl _, by omega, fun k u hu => by simp at hu⟩, fun b _ => .inr (Nat.zero_le _)⟩⟩
section
variable {P : Program} {N : Nat} {ops : Array Oper} {π : List Nat} {K : Env → World → Prop} {ρ : Env} {w w0 : World} {l : List Oper}
variable {i : Nat} {ty : TypeId} {pos : String} {after : Array Edge} {g : Option (Nat × Bool)} {d : Nat}
end
end Go.Pc

/-
  Lists that grow by one row, or by one number, at a time: 'out = append(out, x)'.
  Conditions: none; nothing of the program stands here.
-/
namespace Go.Pc
open Go Go.RowKit
/-- What one append has done. -/
structure GStep (w w' : World) (v v' : Value) : Prop where
  ex : ∃ w2, Ext w w2 ∧ w2.grownBy w' v.ownBlock ∧ (v'.ownBlock = v.ownBlock ∨ v'.ownBlock = some w2.heap.size)
structure GrowL (e s : Nat) (w : World) (v : Value) (rs : List (Value × List Int)) : Prop where
  lst : Lst e s (· < s) w v (rs.map (·.1)) (rs.map (·.2))
  own : RowsO s w rs
class GrowI (e s : outParam Nat) (w : World) (v : Value) (xs : outParam (List Int)) : Prop where
  own : OwnN e s w v (xs.map (Value.int .i64))
section
variable {av : Nat → Prop} {e s : Nat} {w w' w0 w1 w2 w3 : World} {v v' u : Value} {xs : List Int} {rs : List (Value × List Int)}
theorem Lst.off (h : Lst e s av w v (rs.map (·.1)) (rs.map (·.2))) (hO : RowsO s w rs) {b : Nat} (hb : BlkOf rs b) : v.ownBlock ≠ some b := by
  intro hv
  obtain ⟨r, hr1, hn, eb⟩ := hb
  obtain ⟨i, hi, rfl⟩ := List.getElem_of_mem hr1
  obtain ⟨te, g, _, ho⟩ := (hO.fr _ hr1).own hn
  have hg := ho.block
  rw [eb] at hg; injection hg with hg; subst hg
  obtain ⟨lo, hi', h1, h2, h3⟩ := h.rows.at_ i
  have e1 : (rs.map (·.1)).getD i nilv = rs[i].1 := by simp [hi]
  have e2 : (rs.map (·.2)).getD i [] = rs[i].2 := by simp [hi]
  rw [e1, e2] at h1
  have h4 := ho.sl_in hn h1
  have h5 := h3 b (.inr hv)
  omega
theorem Wrt.grown {ob : Option Nat} (h : w.grownBy w' ob) : Wrt (fun b => ob = some b) w w' := by
  cases ob with
  | none =>
    exact .ofExt ⟨(Below.refl _ _).grown h (Nat.le_refl _) (fun k hk => by cases hk)⟩
  | some b => exact .one rfl ⟨h⟩
theorem GrowL.nil (e s : Nat) (w : World) (hs : s ≤ w.heap.size) : GrowL e s w nilv [] := ⟨Lst.nil _ _ _ (fun g hg => by omega), RowsO.nil _ _⟩
theorem GrowL.start {b : Nat} (h : Own e b w v []) (hb : s ≤ b) : GrowL e s w v [] := ⟨Lst.start h hb (by omega) (fun g hg => by have := h.lt; omega), RowsO.nil _ _⟩
theorem GrowL.ext (h : GrowL e s w v rs) (x : Ext w w') : GrowL e s w' v rs := ⟨h.lst.ext x, h.own.ext x⟩
theorem GrowL.rows (h : GrowL e s w v rs) : Rows s w.heap.size w v (rs.map (·.1)) (rs.map (·.2)) := h.lst.newRows
theorem GrowL.mat (h : GrowL e s w v rs) : MatO s w.heap.size w v rs := MatO.ofLst h.lst h.own h.lst.newRows
theorem GrowL.push (h : GrowL e s w0 v rs) (x01 : Ext w0 w1) (hu : Fr w0.heap.size w1 u xs) (hs : s ≤ w0.heap.size) (x12 : Ext w1 w2)
    (ho : OwnN e s w3 v' (rs.map (·.1) ++ [u])) (hg : w2.grownBy w3 v.ownBlock) (hv : v'.ownBlock = v.ownBlock ∨ v'.ownBlock = some w2.heap.size) : GrowL e s w3 v' (rs ++ [(u, xs)]) := by
  have h1 := (h.lst.ext (x01.trans x12)).push (IntsAp.ofFr (hu.ext' x12) (fun g hg => by
    rcases hg with hg | hg
    · omega
    · exact (h.lst.lt hg).2)) ho hg hv
  have h2 := (h.own.push x01 hs hu).ext x12
  refine ⟨by simpa using h1, h2.wr (Wrt.grown hg) fun b hb hB => ?_⟩
  rcases blkOf_append'.1 hb with hb | ⟨r, hr, hn, eb⟩
  · exact h.lst.off h.own hb hB
  · obtain rfl := List.mem_singleton.1 hr
    obtain ⟨g, e1, e2, _⟩ := hu.block hn
    rw [eb] at e1; injection e1 with e1
    have := (h.lst.lt hB).2
    omega
theorem GrowI.nil (e s : Nat) (w : World) : GrowI e s w nilv [] := ⟨OwnN.nil _ _ _⟩
theorem GrowI.start {b : Nat} (h : Own e b w v []) (hb : s ≤ b) : GrowI e s w v [] := ⟨h.toN.mono hb⟩
instance (priority := low) GrowI.ext [x : Ext w w'] [h : GrowI e s w v xs] : GrowI e s w' v xs := ⟨@OwnN.ext _ _ _ _ _ _ x h.own⟩
theorem GrowI.fr (h : GrowI e s w v xs) : Fr s w v xs := h.own.toFr
end
section
variable {P : Program} {N : Nat} {ops : Array Oper} {π : List Nat} {K : Env → World → Prop} {ρ : Env} {w w0 w1 w00 : World} {l : List Oper}
variable {i : Nat} {ty ty2 : TypeId} {pos pos2 : String} {after after2 : Array Edge} {g g2 : Option (Nat × Bool)} {d d2 : Nat}
theorem st_grow {s x : Operand} {t e bytes sb : Nat} {z v u : Value} {xs : List Int} {rs : List (Value × List Int)} [ht : SlT P t e] [he : ElT P e 1 bytes z] (hG : GrowL e sb w0 v rs) (x01 : Ext w0 w1) (hu : Fr w0.heap.size w1 u xs) (hs0 : sb ≤ w0.heap.size)
    (hn : rs.length ≤ 1000000) (next : ∀ v1 v' w', GrowL e sb w' v' (rs ++ [(u, xs)]) → (∀ wb, Ext wb w1 → wb.heap.size ≤ sb → Ext wb w') → w1.heap.size ≤ w'.heap.size → GStep w1 w' v v' → rops P N ops K l (put (put ρ d v1) d2 v') w')
    (hx : ev ρ x = u := by ((try simp only [ev_tmp, ev_const, ev_func, get_put, get_args, get_putL, get_putL_nil, Nat.reduceEqDiff, reduceIte, List.getD_cons_zero, List.getD_cons_succ, List.getD_nil]); first | done | with_reducible rfl)) (hs : ∀ v1, ev (put ρ d v1) s = v := by intro v1; ((try simp only [ev_tmp, ev_const, ev_func, get_put, get_args, get_putL, get_putL_nil, Nat.reduceEqDiff, reduceIte, List.getD_cons_zero, List.getD_cons_succ, List.getD_nil]); first | done | with_reducible rfl)) (hd : ∀ v1, ev (put ρ d v1) (.tmp d) = v1 := by intro v1; ((try simp only [ev_tmp, ev_const, ev_func, get_put, get_args, get_putL, get_putL_nil, Nat.reduceEqDiff, reduceIte, List.getD_cons_zero, List.getD_cons_succ, List.getD_nil]); first | done | with_reducible rfl)) (hz : z.cells = #[z] := by rfl) (hby : bytes ≤ 100 := by decide) (hg1 : Wants ops ρ g := by first | exact True.intro | exact ⟨_, rfl, by ((try simp only [ev_tmp, ev_const, ev_func, get_put, get_args, get_putL, get_putL_nil, Nat.reduceEqDiff, reduceIte, List.getD_cons_zero, List.getD_cons_succ, List.getD_nil, Bool.not_true, Bool.not_false]); first | done | with_reducible rfl)⟩) (hg2 : ∀ v1, Wants ops (put ρ d v1) g2 := by intro v1; first | exact True.intro | exact ⟨_, rfl, by ((try simp only [ev_tmp, ev_const, ev_func, get_put, get_args, get_putL, get_putL_nil, Nat.reduceEqDiff, reduceIte, List.getD_cons_zero, List.getD_cons_succ, List.getD_nil, Bool.not_true, Bool.not_false]); first | done | with_reducible rfl)⟩) :
    rops P N ops K (⟨some d, .buildSlice t 1 #[(0, x)], ty, pos, after, g⟩ :: ⟨some d2, .call { callee := .builtin .append, args := #[s, .tmp d], argTypes := #[t, t] }, ty2, pos2, after2, g2⟩ :: l) ρ w1 := by
  refine st_slice1 (u := u) hx hu.ints.sl.cells hz hg1 fun w2 v2 he2 hs2 ho2 => ?_
  have hO := (hG.lst.ext (x01.trans he2)).own
  have hz1 := x01.size
  have hz2 := he2.size
  have hb : (rs.length + 1) * bytes ≤ 1000001 * 100 := Nat.mul_le_mul (by omega) hby
  refine st_append (hv := hO) (hy := ho2) (hs v2) (hd v2) (by rw [hz]; rfl) ?_ ?_ ?_ ?_ (hg2 v2) fun v3 w3 ho3 hg3 ha3 => ?_
  · intro a ha
    rw [List.mem_singleton.1 ha]; exact hu.ints.sl.one
  · simp only [List.length_map, List.length_singleton]; omega
  · simp only [List.length_map, List.length_singleton, maxLen]; omega
  · omega
  · exact next v2 v3 w3 (hG.push x01 hu hs0 he2 ho3 hg3 ha3) (fun wb hb1 hb2 => (hb1.trans he2).app hg3 (fun k hk => by have := (hG.lst.lt hk).1; omega)) (Nat.le_trans hz2 hg3.size) ⟨w2, he2, hg3, ha3⟩
theorem st_growi {s x : Operand} {t e bytes sb : Nat} {z v : Value} {k : Int} {xs : List Int} [ht : SlT P t e] [he : ElT P e 1 bytes z] (hG : GrowI e sb w1 v xs) (hs0 : sb ≤ w1.heap.size)
    (hn : xs.length ≤ 1000000) (next : ∀ v1 v' w', GrowI e sb w' v' (xs ++ [k]) → (∀ wb, Ext wb w1 → wb.heap.size ≤ sb → Ext wb w') → w1.heap.size ≤ w'.heap.size → GStep w1 w' v v' → rops P N ops K l (put (put ρ d v1) d2 v') w')
    (hx : ev ρ x = .int .i64 k := by ((try simp only [ev_tmp, ev_const, ev_func, get_put, get_args, get_putL, get_putL_nil, Nat.reduceEqDiff, reduceIte, List.getD_cons_zero, List.getD_cons_succ, List.getD_nil]); first | done | with_reducible rfl)) (hs : ∀ v1, ev (put ρ d v1) s = v := by intro v1; ((try simp only [ev_tmp, ev_const, ev_func, get_put, get_args, get_putL, get_putL_nil, Nat.reduceEqDiff, reduceIte, List.getD_cons_zero, List.getD_cons_succ, List.getD_nil]); first | done | with_reducible rfl)) (hd : ∀ v1, ev (put ρ d v1) (.tmp d) = v1 := by intro v1; ((try simp only [ev_tmp, ev_const, ev_func, get_put, get_args, get_putL, get_putL_nil, Nat.reduceEqDiff, reduceIte, List.getD_cons_zero, List.getD_cons_succ, List.getD_nil]); first | done | with_reducible rfl)) (hz : z.cells = #[z] := by rfl) (hby : bytes ≤ 100 := by decide) (hg1 : Wants ops ρ g := by first | exact True.intro | exact ⟨_, rfl, by ((try simp only [ev_tmp, ev_const, ev_func, get_put, get_args, get_putL, get_putL_nil, Nat.reduceEqDiff, reduceIte, List.getD_cons_zero, List.getD_cons_succ, List.getD_nil, Bool.not_true, Bool.not_false]); first | done | with_reducible rfl)⟩) (hg2 : ∀ v1, Wants ops (put ρ d v1) g2 := by intro v1; first | exact True.intro | exact ⟨_, rfl, by ((try simp only [ev_tmp, ev_const, ev_func, get_put, get_args, get_putL, get_putL_nil, Nat.reduceEqDiff, reduceIte, List.getD_cons_zero, List.getD_cons_succ, List.getD_nil, Bool.not_true, Bool.not_false]); first | done | with_reducible rfl)⟩) :
    rops P N ops K (⟨some d, .buildSlice t 1 #[(0, x)], ty, pos, after, g⟩ :: ⟨some d2, .call { callee := .builtin .append, args := #[s, .tmp d], argTypes := #[t, t] }, ty2, pos2, after2, g2⟩ :: l) ρ w1 := by
  refine st_slice1 (u := .int .i64 k) hx rfl hz hg1 fun w2 v2 he2 hs2 ho2 => ?_
  have hO : OwnN e sb w2 v (xs.map (Value.int .i64)) := @OwnN.ext _ _ _ _ _ _ he2 hG.own
  have hz2 := he2.size
  have hb : (xs.length + 1) * bytes ≤ 1000001 * 100 := Nat.mul_le_mul (by omega) hby
  refine st_append (hv := hO) (hy := ho2) (hs v2) (hd v2) (by rw [hz]; rfl) ?_ ?_ ?_ ?_ (hg2 v2) fun v3 w3 ho3 hg3 ha3 => ?_
  · intro a ha
    rw [List.mem_singleton.1 ha]; rfl
  · simp only [List.length_map, List.length_singleton]; omega
  · simp only [List.length_map, List.length_singleton, maxLen]; omega
  · omega
  · exact next v2 v3 w3 ⟨by simpa using ho3⟩ (fun wb hb1 hb2 => (hb1.trans he2).app hg3 (fun k hk => by have := (hO.lt k hk).1; omega)) (Nat.le_trans hz2 hg3.size) ⟨w2, he2, hg3, ha3⟩
theorem z_growi {s x : Operand} {b t e bytes sb : Nat} {z v : Value} {k : Int} {xs : List Int} [ht : SlT P t e] [he : ElT P e 1 bytes z] (hG : GrowI e sb w1 v xs) (hs0 : sb ≤ w1.heap.size)
    (hn : xs.length ≤ 1000000) (hvb : ∀ g, v.ownBlock = some g → g = b) (hi1 : opAt ops π i = some ⟨some d, .buildSlice t 1 #[(0, x)], ty, pos, after, g⟩ := by exact rfl) (hi2 : opAt ops π (i + 1) = some ⟨some d2, .call { callee := .builtin .append, args := #[s, .tmp d], argTypes := #[t, t] }, ty2, pos2, after2, g2⟩ := by exact rfl)
    (next : ∀ v1 v' w', GrowI e sb w' v' (xs ++ [k]) → (∀ wb, Ext wb w1 → wb.heap.size ≤ sb → Ext wb w') → w1.heap.size ≤ w'.heap.size → GStep w1 w' v v' → dops P N ops π (Chg b w00) K (i + 1 + 1) (put (put ρ d v1) d2 v') w')
    (hx : ev ρ x = .int .i64 k := by ((try simp only [ev_tmp, ev_const, ev_func, get_put, get_args, get_putL, get_putL_nil, Nat.reduceEqDiff, reduceIte, List.getD_cons_zero, List.getD_cons_succ, List.getD_nil]); first | done | with_reducible rfl)) (hs : ∀ v1, ev (put ρ d v1) s = v := by intro v1; ((try simp only [ev_tmp, ev_const, ev_func, get_put, get_args, get_putL, get_putL_nil, Nat.reduceEqDiff, reduceIte, List.getD_cons_zero, List.getD_cons_succ, List.getD_nil]); first | done | with_reducible rfl)) (hd : ∀ v1, ev (put ρ d v1) (.tmp d) = v1 := by intro v1; ((try simp only [ev_tmp, ev_const, ev_func, get_put, get_args, get_putL, get_putL_nil, Nat.reduceEqDiff, reduceIte, List.getD_cons_zero, List.getD_cons_succ, List.getD_nil]); first | done | with_reducible rfl)) (hz : z.cells = #[z] := by rfl) (hby : bytes ≤ 100 := by decide) (hg1 : Wants ops ρ g := by first | exact True.intro | exact ⟨_, rfl, by ((try simp only [ev_tmp, ev_const, ev_func, get_put, get_args, get_putL, get_putL_nil, Nat.reduceEqDiff, reduceIte, List.getD_cons_zero, List.getD_cons_succ, List.getD_nil, Bool.not_true, Bool.not_false]); first | done | with_reducible rfl)⟩) (hg2 : ∀ v1, Wants ops (put ρ d v1) g2 := by intro v1; first | exact True.intro | exact ⟨_, rfl, by ((try simp only [ev_tmp, ev_const, ev_func, get_put, get_args, get_putL, get_putL_nil, Nat.reduceEqDiff, reduceIte, List.getD_cons_zero, List.getD_cons_succ, List.getD_nil, Bool.not_true, Bool.not_false]); first | done | with_reducible rfl)⟩)
    (hn1 : nextOk ops π i = true := by decide +kernel) (hn2 : nextOk ops π (i + 1) = true := by decide +kernel) (hd1 : d < N := by decide) (hd2 : d2 < N := by decide) :
    dops P N ops π (Chg b w00) K i ρ w1 := by
  refine z_slice1 (u := .int .i64 k) hi1 hx rfl hz (fun w2 v2 he2 hs2 ho2 => ?_) hn1 hd1 hg1
  have hO : OwnN e sb w2 v (xs.map (Value.int .i64)) := @OwnN.ext _ _ _ _ _ _ he2 hG.own
  have hz2 := he2.size
  have hb : (xs.length + 1) * bytes ≤ 1000001 * 100 := Nat.mul_le_mul (by omega) hby
  refine z_append (hv := hO) (hy := ho2) hi2 (hs v2) (hd v2) (by rw [hz]; rfl) ?_ ?_ ?_ ?_ hvb (fun v3 w3 ho3 hg3 ha3 => ?_) hn2 hd2 (hg2 v2)
  · intro a ha
    rw [List.mem_singleton.1 ha]; rfl
  · simp only [List.length_map, List.length_singleton]; omega
  · simp only [List.length_map, List.length_singleton, maxLen]; omega
  · omega
  · exact next v2 v3 w3 ⟨by simpa using ho3⟩ (fun wb hb1 hb2 => (hb1.trans he2).app hg3 (fun k hk => by have := (hO.lt k hk).1; omega)) (Nat.le_trans hz2 hg3.size) ⟨w2, he2, hg3, ha3⟩
end
theorem own_some' (v : Value) (s k : Nat) (hk : s ≤ k) (h : ∀ g, v.ownBlock = some g → s ≤ g) : ∃ b, s ≤ b ∧ ∀ g, v.ownBlock = some g → g = b := by
  cases e : v.ownBlock with
  | none => exact ⟨k, hk, fun g h => by cases h⟩
  | some b => exact ⟨b, h b e, fun g h => (Option.some.inj h).symm⟩
end Go.Pc

/-
  Walk: the reference's copy of a list of lists, as the call's own (l01Own2).
  Conditions: stated at the theorem.
-/
namespace Go.Proofs.Ytjljbfcdpdckeaa
open Go Go.Pc
end Go.Proofs.Ytjljbfcdpdckeaa

/-
  Walks: the reference's table, reduction, representative and membership (l12Table, l12Reduce, l12Sift, l12Has).
  Conditions: the tails at all levels are groups; the list is a sequence.
-/
namespace Go.Proofs.Ytjljbfcdpdckeaa
open Go Go.Pc
end Go.Proofs.Ytjljbfcdpdckeaa

/-
  Walks: the reference's table, representative and membership (l12Table, l12Sift, l12Has, l12Within).
  Conditions: the tails at all levels are groups; the list is a sequence.
-/
namespace Go.Proofs.Ytjljbfcdpdckeaa
open Go Go.Pc
set_option maxHeartbeats 400000 in
theorem l01Zero_ok {w : World} {v : Value} {xs : List Int} {lo hi : Nat} [hx : Ints lo hi w v xs] (hl : xs.length ≤ 2000000) :
    Calls Try.prog 164 #[v] w (Ret fun v w' => ∃ b, v = .bool b ∧ (b = true ↔ ∀ i, i < xs.length → xs.getD i 0 = 0) ∧ Ext w w') := by
  refine enter (args := [v]) (l := [.tmp 2]) Try.func164 rfl rfl Try.ntmps164 (by simp) ?_
  refine go ?_
  refine r_for xs.length (fun k ρ w' => Has ρ [(0, v), (3, .int .i64 k)] ∧ Ext w w' ∧ ∀ i, i < k → xs.getD i 0 = 0) ?_ ?_
  · refine ⟨?_, Ext.refl _, fun i hi => by omega⟩
    exact hasP
  rintro k ρ w2 hk ⟨hH, he2, hI⟩
  refine rwp_has hH fun ρ0 => ?_
  refine go ?_
  refine c_if (fun h4 => ?_) (fun h4 => ?_)
  · refine go ?_
    refine c_if (fun h5 => ?_) (fun h5 => ?_)
    · refine go ?_
      refine ret1 ⟨_, rfl, ?_, he2⟩
      simp only [Bool.false_eq_true, false_iff]
      exact fun h => h5 (h k (by omega))
    · refine go ?_
      refine forQ_normal (by omega) ⟨?_, he2, fun i hi => ?_⟩
      · exact hasP
      · by_cases e : i = k
        · subst e; exact Decidable.not_not.1 h5
        · exact hI i (by omega)
  · refine go ?_
    refine ret1 ⟨_, rfl, ?_, he2⟩
    simp only [true_iff]
    exact fun i hi => hI i (by omega)
end Go.Proofs.Ytjljbfcdpdckeaa

/-
  Walks: the reference's conjugates, conjugate subgroups, closures under conjugation, normality (l10Conj, l13Conj, l12Whole, l13Stable, l13Normal).
  Conditions: the tails at all levels are groups; the lists are those told.
-/
namespace Go.Proofs.Ytjljbfcdpdckeaa
open Go Go.Pc
theorem gOf_val {p : Pr} [hc : ConAll p] {i : Nat} (hi : i < p.n) : (gOf p 0 i : El p).v = unitv p i 1 := by
  rw [gOf_eq (h := hc.con 0) ⟨Nat.zero_le _, hi⟩]; rfl
end Go.Proofs.Ytjljbfcdpdckeaa

/-
  Answers: generated subgroups, conjugate subgroups, normality, indices, depths.
  Conditions: none.
-/
namespace Go.Proofs.Ytjljbfcdpdckeaa
open Go Go.Pc
end Go.Proofs.Ytjljbfcdpdckeaa

/-
  Answers: coset numbers, elements and exponents of subgroups.
  Conditions: none.
-/
namespace Go.Proofs.Ytjljbfcdpdckeaa
open Go Go.Pc
section
variable {p : Pr}
abbrev ints (l : List Nat) : List Int := l.map fun d : Nat => (d : Int)
/-- The number that the free places of an element tell. -/
def numF (p : Pr) (l : List Nat) (r : El p) : Int := l.foldl (fun a d => a * p.o d + co r d) 0
theorem numF_take (l : List Nat) (r : El p) {k : Nat} (hk : k < l.length) : numF p (l.take (k + 1)) r = numF p (l.take k) r * p.o l[k] + co r l[k] := by
  unfold numF
  rw [List.take_succ_eq_append_getElem hk, List.foldl_append]; rfl
end
section
variable {p : Pr} [hc : ConAll p]
/-- The product of powers of elements. -/
noncomputable def prodTo (ys : List (El p)) (as_ : List Int) : Nat → El p
  | 0 => 1
  | k + 1 => prodTo ys as_ k * Grp.pwz (ys.getD k 1) (as_.getD k 0)
end
end Go.Proofs.Ytjljbfcdpdckeaa

/-
  Digits: the element with a number along a list of places; the products of the orders; lists of all such elements.
  Conditions: none.
-/
namespace Go.Proofs.Ytjljbfcdpdckeaa
open Go Go.Pc
section
variable {p : Pr} {l : List Nat}
def elTo (p : Pr) (l : List Nat) : Nat → Int → List Int
  | 0, _ => zeros p.n
  | k + 1, t => (elTo p l k (t / p.o (l.getD k 0))).set (l.getD k 0) (t % p.o (l.getD k 0))
theorem elTo_len : ∀ (k : Nat) (t : Int), (elTo p l k t).length = p.n
  | 0, _ => zeros_len _
  | k + 1, t => by simp [elTo, elTo_len k]
theorem getD_mem {k : Nat} (hk : k < l.length) : l.getD k 0 ∈ l := by simp [hk]
theorem elTo_in (hv : Valid p) (hl : ∀ d, d ∈ l → d < p.n) : ∀ k, k ≤ l.length → ∀ t : Int, 0 ≤ t → InR p (elTo p l k t)
  | 0, _, _, _ => hv.zeros_in
  | k + 1, h, t, ht => by
    have hd := hl _ (getD_mem (show k < l.length by omega))
    have ho := hv.opos hd
    exact (elTo_in hv hl k (by omega) _ (Int.ediv_nonneg ht (by omega))).set (Int.emod_nonneg _ (by omega)) (fun _ => Int.emod_lt_of_pos _ (by omega))
def elAtT (hv : Valid p) (l : List Nat) (hl : ∀ d, d ∈ l → d < p.n) (t : Int) (ht : 0 ≤ t) : El p := ⟨elTo p l l.length t, elTo_in hv hl _ (Nat.le_refl _) t ht, fun i hi => absurd hi (Nat.not_lt_zero i)⟩
/-- The same, filled from the last place on. -/
def fillTo (p : Pr) (l : List Nat) : Nat → Int → List Int → List Int
  | 0, _, v => v
  | k + 1, t, v => fillTo p l k (t / p.o (l.getD k 0)) (v.set (l.getD k 0) (t % p.o (l.getD k 0)))
theorem fillTo_len : ∀ (k : Nat) (t : Int) (v : List Int), (fillTo p l k t v).length = v.length
  | 0, _, _ => rfl
  | k + 1, t, v => by simp [fillTo, fillTo_len k]
theorem take_mem_succ {k : Nat} (hk : k < l.length) {d : Nat} : d ∈ l.take (k + 1) ↔ d ∈ l.take k ∨ d = l.getD k 0 := by
  rw [List.take_succ_eq_append_getElem hk, List.mem_append, List.mem_singleton]; simp [hk]
theorem not_take (hn : l.Nodup) {k : Nat} (hk : k < l.length) : l.getD k 0 ∉ l.take k := by
  intro h
  have h1 : l.Nodup := hn
  rw [← List.take_append_drop k l] at h1
  have e := List.getElem_cons_drop (h := hk)
  have e2 : l.getD k 0 = l[k] := by simp [hk]
  have h2 := (List.nodup_append.1 h1).2.2 _ h (l.getD k 0) (by rw [← e, e2]; exact List.mem_cons_self)
  exact h2 rfl
theorem fillTo_getD (hn : l.Nodup) (hl : ∀ d, d ∈ l → d < p.n) : ∀ k, k ≤ l.length → ∀ (t : Int) (v : List Int), v.length = p.n → ∀ d, (fillTo p l k t v).getD d 0 = if d ∈ l.take k then (elTo p l k t).getD d 0 else v.getD d 0
  | 0, _, _, _, _, _ => by simp [fillTo]
  | k + 1, h, t, v, hv, d => by
    have hk : k < l.length := by omega
    have hdn := hl _ (getD_mem hk)
    have ih := fillTo_getD hn hl k (by omega) (t / p.o (l.getD k 0)) (v.set (l.getD k 0) (t % p.o (l.getD k 0))) (by simpa using hv) d
    show (fillTo p l k _ _).getD d 0 = _
    rw [ih]
    by_cases h1 : d ∈ l.take k
    · have hne : l.getD k 0 ≠ d := fun e => not_take hn hk (by rw [e]; exact h1)
      rw [if_pos h1, if_pos ((take_mem_succ hk).2 (.inl h1))]
      show _ = ((elTo p l k _).set _ _).getD d 0
      rw [Pc.getD_set_ne _ _ _ _ hne]
    · rw [if_neg h1]
      by_cases h2 : d = l.getD k 0
      · rw [if_pos ((take_mem_succ hk).2 (.inr h2))]
        subst h2
        show _ = ((elTo p l k _).set _ _).getD _ 0
        rw [Pc.getD_set_eq _ _ _ (by rw [hv]; exact hdn), Pc.getD_set_eq _ _ _ (by rw [elTo_len]; exact hdn)]
      · rw [if_neg (fun h3 => ((take_mem_succ hk).1 h3).elim h1 h2), Pc.getD_set_ne _ _ _ _ (Ne.symm h2)]
theorem elTo_out : ∀ (k : Nat), k ≤ l.length → ∀ (t : Int) (d : Nat), d ∉ l.take k → (elTo p l k t).getD d 0 = 0
  | 0, _, _, d, _ => zeros_getD _ _
  | k + 1, h, t, d, hd => by
    have hk : k < l.length := by omega
    have h1 : d ∉ l.take k := fun h => hd ((take_mem_succ hk).2 (.inl h))
    have h2 : l.getD k 0 ≠ d := fun e => hd ((take_mem_succ hk).2 (.inr e.symm))
    show ((elTo p l k _).set _ _).getD d 0 = 0
    rw [Pc.getD_set_ne _ _ _ _ h2]
    exact elTo_out k (by omega) _ d h1
theorem fill_eq (hn : l.Nodup) (hl : ∀ d, d ∈ l → d < p.n) (t : Int) : fillTo p l l.length t (zeros p.n) = elTo p l l.length t := by
  refine list_ext0 (by rw [fillTo_len, elTo_len, zeros_len]) fun d _ => ?_
  rw [fillTo_getD hn hl _ (Nat.le_refl _) _ _ (zeros_len _)]
  split
  · rfl
  · rename_i h
    rw [zeros_getD, elTo_out _ (Nat.le_refl _) _ _ h]
/-- The product of the orders at places. -/
def ordL (p : Pr) (l : List Nat) : Int := l.foldl (fun a d => a * p.o d) 1
theorem ordL_app (l : List Nat) (d : Nat) : ordL p (l ++ [d]) = ordL p l * p.o d := by unfold ordL; rw [List.foldl_append]; rfl
theorem ordL_take (l : List Nat) {k : Nat} (hk : k < l.length) : ordL p (l.take (k + 1)) = ordL p (l.take k) * p.o (l.getD k 0) := by
  rw [List.take_succ_eq_append_getElem hk, ordL_app]; simp [hk]
theorem ordL_bd (hv : Valid p) (hl : ∀ d, d ∈ l → d < p.n) : ∀ k, k ≤ l.length → 1 ≤ ordL p (l.take k) ∧ ordL p (l.take k) ≤ (7 ^ k : Nat)
  | 0, _ => by simp [ordL]
  | k + 1, h => by
    have ih := ordL_bd hv hl k (by omega)
    have hk : k < l.length := by omega
    rw [ordL_take l hk]
    have ho := hv.opos (hl _ (getD_mem hk))
    generalize ordL p (l.take k) = a at ih ⊢
    generalize p.o (l.getD k 0) = o at ho ⊢
    have e : ((7 ^ (k + 1) : Nat) : Int) = (7 ^ k : Nat) * 7 := by rw [Nat.pow_succ]; simp
    rw [e]
    have h1 : a * 1 ≤ a * o := Int.mul_le_mul_of_nonneg_left (by omega) (by omega)
    have h2 : a * o ≤ a * 7 := Int.mul_le_mul_of_nonneg_left ho.2 (by omega)
    omega
theorem ordL_rng (hv : Valid p) (hl : ∀ d, d ∈ l → d < p.n) (h6 : l.length ≤ 6) {k : Nat} (hk : k ≤ l.length) : 1 ≤ ordL p (l.take k) ∧ ordL p (l.take k) ≤ 117649 := by
  have h := ordL_bd hv hl k hk
  have h2 : (7 ^ k : Nat) ≤ 7 ^ 6 := Nat.pow_le_pow_right (by omega) (by omega)
  have h3 : (7 : Nat) ^ 6 = 117649 := by decide
  omega
end
section
variable {p : Pr}
end
end Go.Proofs.Ytjljbfcdpdckeaa

/-
  All elements of a group, by their numbers; elements whose commutators with the generators lie in a subgroup.
  Conditions: the tails at all levels are groups.
-/
namespace Go.Proofs.Ytjljbfcdpdckeaa
open Go Go.Pc
section
variable {p : Pr}
theorem numF_lt (hv : Valid p) (l : List Nat) (hl : ∀ d, d ∈ l → d < p.n) (x : El p) : ∀ k, k ≤ l.length → 0 ≤ numF p (l.take k) x ∧ numF p (l.take k) x + 1 ≤ ordL p (l.take k)
  | 0, _ => by simp [numF, ordL]
  | k + 1, h => by
    have ih := numF_lt hv l hl x k (by omega)
    have hk : k < l.length := by omega
    have hd := hl _ (List.getElem_mem hk)
    have ho := hv.opos hd
    have hc : 0 ≤ co x l[k] ∧ co x l[k] < p.o l[k] := x.inr.rng _ hd
    rw [numF_take l x hk, ordL_take l hk, show l.getD k 0 = l[k] by simp [hk]]
    generalize numF p (l.take k) x = a at ih ⊢
    generalize ordL p (l.take k) = b at ih ⊢
    generalize co x l[k] = c at hc ⊢
    generalize p.o l[k] = o at ho hc ⊢
    have h1 : 0 ≤ a * o := Int.mul_nonneg ih.1 (by omega)
    have h2 : (a + 1) * o ≤ b * o := Int.mul_le_mul_of_nonneg_right ih.2 (by omega)
    rw [Int.add_mul, Int.one_mul] at h2
    omega
theorem elTo_num (hv : Valid p) (l : List Nat) (hn : l.Nodup) (hl : ∀ d, d ∈ l → d < p.n) (x : El p) : ∀ k, k ≤ l.length → ∀ d, d ∈ l.take k → (elTo p l k (numF p (l.take k) x)).getD d 0 = co x d
  | 0, _, d, hd => by simp at hd
  | k + 1, h, d, hd => by
    have hk : k < l.length := by omega
    have hdk := hl _ (List.getElem_mem hk)
    have ho := hv.opos hdk
    have hc : 0 ≤ co x l[k] ∧ co x l[k] < p.o l[k] := x.inr.rng _ hdk
    have hg : l.getD k 0 = l[k] := by simp [hk]
    show ((elTo p l k (numF p (l.take (k + 1)) x / p.o (l.getD k 0))).set (l.getD k 0) (numF p (l.take (k + 1)) x % p.o (l.getD k 0))).getD d 0 = co x d
    rw [numF_take l x hk, hg]
    have e1 : (numF p (l.take k) x * p.o l[k] + co x l[k]) / p.o l[k] = numF p (l.take k) x := by
      rw [Int.add_comm, Int.add_mul_ediv_right _ _ (by omega), Int.ediv_eq_zero_of_lt hc.1 hc.2, Int.zero_add]
    have e2 : (numF p (l.take k) x * p.o l[k] + co x l[k]) % p.o l[k] = co x l[k] := by
      rw [Int.add_comm, Int.add_mul_emod_self_right, Int.emod_eq_of_lt hc.1 hc.2]
    rw [e1, e2]
    by_cases h1 : l[k] = d
    · subst h1
      rw [Pc.getD_set_eq _ _ _ (by rw [elTo_len]; exact hdk)]
    · rw [Pc.getD_set_ne _ _ _ _ h1]
      have h2 : d ∈ l.take k := ((take_mem_succ hk).1 hd).resolve_right fun e => h1 (by rw [e, hg])
      exact elTo_num hv l hn hl x k (by omega) d h2
end
section
variable {p : Pr} [hc : ConAll p]
/-- The element with a number. -/
def allE (p : Pr) [hc : ConAll p] (i : Nat) : El p := elAtT hc.valid (List.range p.n) (fun _ hd => List.mem_range.1 hd) i (by omega)
theorem allE_val (i : Nat) : (allE p i).v = elTo p (List.range p.n) (List.range p.n).length (i : Int) := rfl
def ordN (p : Pr) : Nat := (ordL p (List.range p.n)).toNat
theorem ordN_rng (p : Pr) [hc : ConAll p] : ordL p (List.range p.n) = (ordN p : Int) ∧ 1 ≤ ordN p ∧ ordN p ≤ 117649 := by
  have hv := hc.valid
  have hn6 := hv.n6
  have h := ordL_rng hv (l := List.range p.n) (fun d hd => List.mem_range.1 hd) (by simp; omega) (k := p.n) (by simp)
  rw [List.take_of_length_le (by simp)] at h
  unfold ordN
  omega
end
end Go.Proofs.Ytjljbfcdpdckeaa

/-
  Words over the generators, the relators of a presentation, the value of a word at some elements.
  Conditions: none.
-/
namespace Go.Proofs.Ytjljbfcdpdckeaa
open Go Go.Pc
/-- The word of the powers of the generators from i on. -/
def wordA (i : Nat) : List Int → List Int
  | [] => []
  | x :: l => List.replicate x.toNat ((i : Int) + 1) ++ wordA (i + 1) l
def wordV (e : List Int) : List Int := wordA 0 e
theorem wordA_snoc : ∀ (l : List Int) (i : Nat) (x : Int), wordA i (l ++ [x]) = wordA i l ++ List.replicate x.toNat (((i + l.length : Nat) : Int) + 1)
  | [], i, x => by simp [wordA]
  | y :: l, i, x => by
    simp only [List.cons_append, wordA, wordA_snoc l (i + 1) x, List.append_assoc, List.length_cons]
    rw [show i + 1 + l.length = i + (l.length + 1) by omega]
theorem wordV_take {e : List Int} {k : Nat} (hk : k < e.length) : wordV (e.take (k + 1)) = wordV (e.take k) ++ List.replicate (e.getD k 0).toNat ((k : Int) + 1) := by
  rw [List.take_succ_eq_append_getElem hk]
  unfold wordV
  rw [wordA_snoc]
  have e1 : e.getD k 0 = e[k] := by simp [hk]
  have e2 : 0 + (e.take k).length = k := by simp; omega
  rw [e1, e2]
def invW (w : List Int) : List Int := (w.map fun x => -x).reverse
theorem wordA_mem : ∀ (l : List Int) (i : Nat) (a : Int), a ∈ wordA i l → (i : Int) + 1 ≤ a ∧ a ≤ (i + l.length : Nat)
  | [], i, a, h => by simp [wordA] at h
  | x :: l, i, a, h => by
    simp only [wordA, List.mem_append, List.mem_replicate] at h
    simp only [List.length_cons]
    rcases h with ⟨_, rfl⟩ | h
    · omega
    · have := wordA_mem l (i + 1) a h
      omega
/-- All letters name one of n generators. -/
def LetW (n : Nat) (w : List Int) : Prop := ∀ a, a ∈ w → a ≠ 0 ∧ -(n : Int) ≤ a ∧ a ≤ n
theorem LetW.append {n : Nat} {w v : List Int} (h : LetW n w) (k : LetW n v) : LetW n (w ++ v) := fun a ha => (List.mem_append.1 ha).elim (h a) (k a)
theorem letW_word {n : Nat} {e : List Int} (he : e.length = n) : LetW n (wordV e) := fun a ha => by
  have := wordA_mem e 0 a ha
  omega
def relP (p : Pr) (i : Nat) : List Int := List.replicate (p.o i).toNat ((i : Int) + 1) ++ invW (wordV (p.pow.getD i []))
def relC (p : Pr) (i k : Nat) : List Int := [-(i : Int) - 1, ((i + 1 + k : Nat) : Int) + 1, (i : Int) + 1] ++ invW (wordV ((p.cnj.getD i []).getD k []))
def relCs (p : Pr) (i m : Nat) : List (List Int) := (List.range m).map (relC p i)
def relL (p : Pr) (m : Nat) : List (List Int) := (List.range p.n).map (relP p) ++ (List.range m).flatMap fun i => relCs p i (p.n - 1 - i)
/-- The relators of a presentation. -/
def rels (p : Pr) : List (List Int) := relL p p.n
section
variable {p : Pr}
end
section
variable {q : Pr} [hc : ConAll q]
/-- The value of one letter. -/
noncomputable def letV (ys : List (El q)) (a : Int) : El q := if 0 < a then ys.getD (a - 1).toNat 1 else (ys.getD (-a - 1).toNat 1)⁻¹
/-- The value of a word. -/
noncomputable def evalW (ys : List (El q)) (w : List Int) : El q := w.foldl (fun a l => a * letV ys l) 1
theorem evalW_snoc (ys : List (El q)) (w : List Int) (a : Int) : evalW ys (w ++ [a]) = evalW ys w * letV ys a := by
  unfold evalW; rw [List.foldl_append]; rfl
/-- The elements meet the relators. -/
def RelOk (p : Pr) (ys : List (El q)) : Prop := ∀ k, k < (rels p).length → evalW ys ((rels p).getD k []) = 1
end
end Go.Proofs.Ytjljbfcdpdckeaa

/-
  Homomorphisms by images: words as powers, sequences of the whole group, isomorphisms.
  Conditions: none.
-/
namespace Go.Proofs.Ytjljbfcdpdckeaa
open Go Go.Pc
section
variable {p : Pr} [hc : ConAll p]
theorem evalW_from (ys : List (El p)) : ∀ (w : List Int) (a : El p), w.foldl (fun a l => a * letV ys l) a = a * evalW ys w
  | [], a => by show a = a * 1; rw [Grp.mul_one]
  | l :: w, a => by
    show w.foldl (fun a l => a * letV ys l) (a * letV ys l) = a * w.foldl (fun a l => a * letV ys l) (1 * letV ys l)
    rw [evalW_from ys w (a * letV ys l), evalW_from ys w (1 * letV ys l), Grp.one_mul, Grp.mul_assoc]
theorem evalW_append (ys : List (El p)) (w v : List Int) : evalW ys (w ++ v) = evalW ys w * evalW ys v := by
  show (w ++ v).foldl (fun a l => a * letV ys l) 1 = _
  rw [List.foldl_append, evalW_from]
  rfl
theorem evalW_rep (ys : List (El p)) (k : Nat) : ∀ m, evalW ys (List.replicate m ((k : Int) + 1)) = Grp.pw (ys.getD k 1) m
  | 0 => rfl
  | m + 1 => by
    rw [List.replicate_succ', evalW_snoc, evalW_rep ys k m, Grp.pw_succ]
    unfold letV
    rw [if_pos (by omega), show ((k : Int) + 1 - 1).toNat = k by omega]
theorem evalW_word {ys : List (El p)} {x : List Int} (h : ∀ i, i < x.length → 0 ≤ x.getD i 0) : ∀ k, k ≤ x.length → evalW ys (wordV (x.take k)) = prodTo ys x k
  | 0, _ => rfl
  | k + 1, hk => by
    rw [wordV_take hk, evalW_append, evalW_word h k (by omega), evalW_rep]
    show _ = prodTo ys x k * Grp.pwz (ys.getD k 1) (x.getD k 0)
    rw [Grp.pwz_of _ (h k hk)]
/-- The image of an element. -/
noncomputable def imgE {q : Pr} [ConAll q] (ys : List (El q)) (x : List Int) : El q := prodTo ys x ys.length
end
end Go.Proofs.Ytjljbfcdpdckeaa

/-
  Plain mathematics: a presentation whose normal forms are told apart in a group that respects its relations is a group's.
  Conditions: none; nothing of the program stands here.
-/
namespace Go.Proofs.Ytjljbfcdpdckeaa
open Go Go.Pc Go.Pc.Grp
/-- A group that holds the normal forms of a presentation. -/
structure Emb (q : Pr) {K : Type} [Grp K] (c : Nat → K) : Prop where
  valid : Valid q
  P : ∀ j, j < q.n → pw (c j) (q.o j).toNat = phi c (q.w j) (j + 1) (q.n - (j + 1))
  C : ∀ j k, j < k → k < q.n → cj (c k) (c j) = phi c (q.c j k) (j + 1) (q.n - (j + 1))
  inj : ∀ x y, InR q x → InR q y → phi c x 0 q.n = phi c y 0 q.n → x = y
  inv : ∀ i x, i ≤ q.n → InR q x → ZU i x → ∃ y, InR q y ∧ ZU i y ∧ phi c y 0 q.n * phi c x 0 q.n = 1
section
variable {q : Pr} {K : Type} [Grp K] {c : Nat → K}
theorem phi_zu (c : Nat → K) {x : List Int} {i n : Nat} (hi : i ≤ n) (hz : ZU i x) : phi c x 0 n = phi c x i (n - i) := by
  have e : n = i + (n - i) := by omega
  have h := phi_split c x i 0 (n - i)
  rw [← e, Nat.zero_add] at h
  rw [h, phi_none c i 0 (fun j _ hj => .inl (hz j (by omega))), Grp.one_mul]
theorem Emb.mul (h : Emb q c) {i : Nat} (hi : i ≤ q.n) {x y : List Int} (hx : InR q x) (hy : InR q y) (zx : ZU i x) (zy : ZU i y) : phi c (atv q i x y) 0 q.n = phi c x 0 q.n * phi c y 0 q.n := by
  have hin := atv_in h.valid _ i rfl _ _ hx hy zx zy
  rw [phi_zu c hi hin.2, phi_zu c hi zx, phi_zu c hi zy]
  exact dyck c h.valid i (fun j _ hj => h.P j hj) (fun j k _ hj hk => h.C j k hj hk) _ i (Nat.le_refl _) rfl x y hx hy zx zy
theorem Emb.con (h : Emb q c) {i : Nat} (hi : i ≤ q.n) : Con q i where
  valid := h.valid
  assoc := fun x y z => by
    have h1 := atv_in h.valid _ i rfl _ _ x.inr y.inr x.zu y.zu
    have h2 := atv_in h.valid _ i rfl _ _ y.inr z.inr y.zu z.zu
    have h3 := atv_in h.valid _ i rfl _ _ h1.1 z.inr h1.2 z.zu
    have h4 := atv_in h.valid _ i rfl _ _ x.inr h2.1 x.zu h2.2
    apply T.ext
    refine h.inj _ _ h3.1 h4.1 ?_
    show phi c (atv q i (atv q i x.v y.v) z.v) 0 q.n = phi c (atv q i x.v (atv q i y.v z.v)) 0 q.n
    rw [h.mul hi h1.1 z.inr h1.2 z.zu, h.mul hi x.inr y.inr x.zu y.zu, h.mul hi x.inr h2.1 x.zu h2.2, h.mul hi y.inr z.inr y.zu z.zu, Grp.mul_assoc]
  inv := fun x => by
    obtain ⟨y, hy, zy, e⟩ := h.inv i x.v hi x.inr x.zu
    have h1 := atv_in h.valid _ i rfl _ _ hy x.inr zy x.zu
    refine ⟨⟨y, hy, zy⟩, T.ext ?_⟩
    refine h.inj _ _ h1.1 h.valid.zeros_in ?_
    show phi c (atv q i y x.v) 0 q.n = phi c (zeros q.n) 0 q.n
    rw [h.mul hi hy x.inr zy x.zu, e, phi_zero c _ _ fun j _ => zeros_getD _ _]
theorem cj_cj' {G : Type} [Grp G] (a b g : G) : cj (cj a g) (cj b g) = cj (cj a b) g := by
  rw [cj_cj, cj_cj, mul_cj]
theorem cj_self {G : Type} [Grp G] (a : G) : cj a a = a := by unfold cj; rw [inv_mul_cancel_left]
/-- The level's conditions hold. -/
theorem Emb.lev (h : Emb q c) {i : Nat} (hi : i < q.n) : Lev q i := by
  have hcon : Con q (i + 1) := h.con hi
  let up : T q (i + 1) → K := fun x => phi c x.v 0 q.n
  have upv : ∀ x : T q (i + 1), up x = phi c x.v 0 q.n := fun _ => rfl
  have upi : ∀ x y : T q (i + 1), up x = up y → x = y := fun x y e => T.ext (h.inj _ _ x.inr y.inr e)
  have upm : ∀ x y : T q (i + 1), up (x * y) = up x * up y := fun x y => h.mul (i := i + 1) hi x.inr y.inr x.zu y.zu
  have up1 : up 1 = 1 := Grp.mul_left_cancel (a := up 1) (by rw [← upm, Grp.one_mul, Grp.mul_one])
  have upp : ∀ (x : T q (i + 1)) k, up (pw x k) = pw (up x) k := fun x k => by
    induction k with
    | zero => exact up1
    | succ k ih => rw [pw_succ, upm, ih, pw_succ]
  have upn : ∀ x : T q (i + 1), up x⁻¹ = (up x)⁻¹ := fun x => eq_inv_of_mul (by rw [← upm, Grp.inv_mul, up1])
  have upc : ∀ x y : T q (i + 1), up (cj x y) = cj (up x) (up y) := fun x y => by unfold cj; rw [upm, upm, upn]
  have hom : ∀ x y, InR q x → InR q y → ZU (i + 1) x → ZU (i + 1) y → phi c (atv q (i + 1) x y) (i + 1) (q.n - (i + 1)) = phi c x (i + 1) (q.n - (i + 1)) * phi c y (i + 1) (q.n - (i + 1)) := fun x y hx hy zx zy =>
    dyck c h.valid (i + 1) (fun j _ hj => h.P j hj) (fun j k _ hj hk => h.C j k hj hk) _ (i + 1) (Nat.le_refl _) rfl x y hx hy zx zy
  have upg : ∀ x : T q (i + 1), up (Timg h.valid x) = cj (up x) (c i) := fun x => by
    have e := phi_rep_img c h.valid hi hom (fun k h1 h2 => h.C i k h1 h2) x.v 1
    rw [rep_succ, rep_zero, pw_one] at e
    rw [upv, upv, phi_zu c hi (Timg h.valid x).zu, phi_zu c hi x.zu]
    exact e
  have upr : ∀ (x : T q (i + 1)) k, up (rep k (Timg h.valid) x) = cj (up x) (pw (c i) k) := fun x k => by
    induction k with
    | zero => rw [rep_zero, pw_zero, cj_by_one]
    | succ k ih => rw [rep_succ, upg, ih, cj_cj, pw_succ]
  have upC : ∀ j (hj : i < j ∧ j < q.n), up (Tc h.valid hj) = cj (c j) (c i) := fun j hj => by
    rw [upv, phi_zu c hi (Tc h.valid hj).zu]
    exact (h.C i j hj.1 hj.2).symm
  have upW : ∀ j (hj : i ≤ j) (hn : j < q.n) hin hz, up (⟨q.w j, hin, hz⟩ : T q (i + 1)) = pw (c j) (q.o j).toNat := fun j hj hn hin hz => by
    rw [upv, h.P j hn]
    exact phi_zu c (by omega) (h.valid.w_zu j hn)
  have upG : ∀ j (hj : i + 1 ≤ j ∧ j < q.n), up (gen h.valid (i + 1) j hj) = c j := fun j hj => by
    rw [upv]
    have e : (gen h.valid (i + 1) j hj).v = unitv q j 1 := rfl
    have z : ZU j (unitv q j 1) := unitv_zu q (Nat.le_refl _) 1
    rw [e, phi_zu c (by omega) z, show q.n - j = (q.n - (j + 1)) + 1 by omega, phi]
    have g : (unitv q j 1).getD j 0 = 1 := Pc.getD_set_eq _ _ _ (by rw [h.valid.zeros_in.len]; exact hj.2)
    rw [g, phi_zero c _ _ (fun k hk => by rw [unitv, Pc.getD_set_ne _ _ _ _ (by omega), zeros_getD]), Grp.mul_one]
    exact pw_one _
  refine ⟨hcon, hi, ⟨fun j hj => upi _ _ ?_, fun j k hj hk hjk => upi _ _ ?_, upi _ _ ?_, fun j hj => upi _ _ ?_⟩⟩
  · rw [upp, upg, upC, upW j (by omega) hj.2, cj_pw]
  · rw [upc, upg, upC, upC, cj_cj']
    congr 1
    rw [upv, phi_zu c (by omega) (h.valid.c_zu j k hjk hk.2)]
    exact h.C j k hjk hk.2
  · rw [upg, show up (Tw h.valid hi) = pw (c i) (q.o i).toNat from upW i (Nat.le_refl _) hi _ _, cj_pw, cj_self]
  · rw [upr, upc, upG, show up (Tw h.valid hi) = pw (c i) (q.o i).toNat from upW i (Nat.le_refl _) hi _ _]
theorem Emb.grp (h : Emb q c) : IsGrp q := ⟨h.valid, fun _ _ hj => h.lev hj⟩
end
/-! ### the quotient by a normal subgroup -/
structure NSub (G : Type) [Grp G] where
  N : G → Prop
  sub : Pc.Sub N
  nrm : ∀ a b, N a → N (cj a b)
section
variable {G : Type} [Grp G] (S : NSub G)
theorem NSub.comm {a b : G} (h : S.N (a * b)) : S.N (b * a) := by
  have := S.nrm _ a h
  unfold cj at this
  rwa [Grp.mul_assoc, inv_mul_cancel_left] at this
def NSub.setoid : Setoid G where
  r x y := S.N (x⁻¹ * y)
  iseqv := ⟨fun x => by rw [Grp.inv_mul]; exact S.sub.one, fun {x y} h => by
    have := S.sub.inv _ h
    rwa [mul_inv_rev, Grp.inv_inv] at this, fun {x y z} h k => by
    have := S.sub.mul _ _ h k
    rwa [Grp.mul_assoc, mul_inv_cancel_left] at this⟩
def NSub.Q : Type := Quotient S.setoid
def NSub.qk (x : G) : S.Q := Quotient.mk S.setoid x
theorem NSub.eq {x y : G} : S.qk x = S.qk y ↔ S.N (x⁻¹ * y) := ⟨fun h => Quotient.exact h, fun h => Quotient.sound h⟩
instance NSub.grp : Grp S.Q where
  mul a b := Quotient.liftOn₂ a b (fun x y => S.qk (x * y)) fun x y x' y' h k => S.eq.2 (by
    have h1 : S.N (x⁻¹ * x') := h
    have k1 : S.N (y⁻¹ * y') := k
    have h2 := S.sub.mul _ _ (S.nrm _ y h1) k1
    have e : cj (x⁻¹ * x') y * (y⁻¹ * y') = (x * y)⁻¹ * (x' * y') := by
      unfold cj
      rw [mul_inv_rev]
      simp only [Grp.mul_assoc]
      rw [mul_inv_cancel_left]
    rwa [e] at h2)
  one := S.qk 1
  inv a := Quotient.liftOn a (fun x => S.qk x⁻¹) fun x y h => S.eq.2 (by
    have h1 : S.N (x⁻¹ * y) := h
    have h2 := S.sub.inv _ h1
    rw [mul_inv_rev, Grp.inv_inv] at h2
    have h3 := S.comm h2
    rwa [Grp.inv_inv])
  mul_assoc a b c := by
    induction a using Quotient.ind; induction b using Quotient.ind; induction c using Quotient.ind
    exact congrArg S.qk (Grp.mul_assoc _ _ _)
  one_mul a := by
    induction a using Quotient.ind
    exact congrArg S.qk (Grp.one_mul _)
  inv_mul a := by
    induction a using Quotient.ind
    exact congrArg S.qk (Grp.inv_mul _)
end
end Go.Proofs.Ytjljbfcdpdckeaa

/-
  Answers: joins, normal closures, commutator subgroups.
  Conditions: none.
-/
namespace Go.Proofs.Ytjljbfcdpdckeaa
open Go Go.Pc
end Go.Proofs.Ytjljbfcdpdckeaa

/-
  Series of subgroups: steps until one stands still; the derived and the lower central series.
  Conditions: the tails at all levels are groups.
-/
namespace Go.Proofs.Ytjljbfcdpdckeaa
open Go Go.Pc
def itL {α : Type} (f : α → α) (y : α) : Nat → α
  | 0 => y
  | k + 1 => f (itL f y k)
def SerR {α : Type} (f : α → α) (y : α) (K : Nat) : Prop := itL f y (K + 1) = itL f y K ∧ ∀ j, j < K → itL f y (j + 1) ≠ itL f y j
section
variable {p : Pr} [hc : ConAll p] {ys zs : List (El p)}
theorem co_gOf {d e : Nat} (hd : d < p.n) : co (gOf p 0 d : El p) e = if e = d then 1 else 0 := by
  show (gOf p 0 d : El p).v.getD e 0 = _
  rw [gOf_val hd]
  show ((zeros p.n).set d 1).getD e 0 = _
  split
  · rename_i h
    subst h
    rw [Pc.getD_set_eq _ _ _ (by rw [zeros_len]; exact hd)]
  · rename_i h
    rw [Pc.getD_set_ne _ _ _ _ (Ne.symm h), zeros_getD]
theorem seq_len_le (hy : SeqEl ys) (hz : SeqEl zs) (hle : ∀ a, Gen (fun a : El p => a ∈ zs) a → Gen (fun a : El p => a ∈ ys) a) : zs.length ≤ ys.length := by
  have := can_len_le (Gen.sub _) (Gen.sub _) hle
  rwa [hy.els, hz.els] at this
theorem seq_len_iff (hy : SeqEl ys) (hz : SeqEl zs) (hle : ∀ a, Gen (fun a : El p => a ∈ zs) a → Gen (fun a : El p => a ∈ ys) a) : zs.length = ys.length ↔ zs = ys := by
  refine ⟨fun h => ?_, fun h => by rw [h]⟩
  have h2 := same_of_len (Gen.sub _) (Gen.sub _) hle (by rw [hy.els, hz.els]; omega)
  have e : Gen (fun a : El p => a ∈ zs) = Gen (fun a : El p => a ∈ ys) := by
    funext a; exact propext ⟨hle a, h2 a⟩
  rw [← hz.els, ← hy.els, e]
/-- What the walks need of a series. -/
structure SerOk (f : List (El p) → List (El p)) (y0 : List (El p)) : Prop where
  seq : ∀ k, SeqEl (itL f y0 k)
  eqv : ∀ k, (itL f y0 (k + 1)).length = (itL f y0 k).length ↔ itL f y0 (k + 1) = itL f y0 k
  bd : ∀ K, (∀ j, j < K → itL f y0 (j + 1) ≠ itL f y0 j) → K ≤ p.n
/-- A series that goes up. -/
theorem SerOk.up {f : List (El p) → List (El p)} {y0 : List (El p)} (Good : List (El p) → Prop) (h0 : Good y0) (hseq : ∀ ys, Good ys → SeqEl ys) (hf : ∀ ys, Good ys → Good (f ys))
    (hle : ∀ ys, Good ys → ∀ a, Gen (fun a : El p => a ∈ ys) a → Gen (fun a : El p => a ∈ f ys) a) : SerOk f y0 := by
  have hg : ∀ k, Good (itL f y0 k) := by
    intro k
    induction k with
    | zero => exact h0
    | succ k ih => exact hf _ ih
  have hs : ∀ k, SeqEl (itL f y0 k) := fun k => hseq _ (hg k)
  have he : ∀ k, (itL f y0 (k + 1)).length = (itL f y0 k).length ↔ itL f y0 (k + 1) = itL f y0 k := fun k => by
    have := seq_len_iff (hs (k + 1)) (hs k) (hle _ (hg k))
    exact ⟨fun h => (this.1 h.symm).symm, fun h => by rw [h]⟩
  refine ⟨hs, he, fun K hK => ?_⟩
  have key : ∀ k, k ≤ K → k ≤ (itL f y0 k).length := by
    intro k
    induction k with
    | zero => exact fun _ => Nat.zero_le _
    | succ k ih =>
      intro hk
      have h1 := ih (by omega)
      have h2 := seq_len_le (hs (k + 1)) (hs k) (hle _ (hg k))
      have h3 := hK k (by omega)
      rw [Ne, ← he k] at h3
      omega
  have h1 := key K (Nat.le_refl _)
  have h2 := (hs K).len
  omega
end
/-- What a series is, with its code. -/
def SrV (p : Pr) (C : ConAll p → (List (El p) → List (El p)) × List (El p)) (r : List (List (List Int))) (e : Int) : Prop := ∃ (c : ConAll p) (K : Nat), SerR (C c).1 (C c).2 K ∧ r = (List.range (K + 1)).map (fun j => vecs (itL (C c).1 (C c).2 j)) ∧ e = 0
end Go.Proofs.Ytjljbfcdpdckeaa

/-
  Exponents of cosets: what ProjectElement answers.
  Conditions: none.
-/
namespace Go.Proofs.Ytjljbfcdpdckeaa
open Go Go.Pc
end Go.Proofs.Ytjljbfcdpdckeaa

/-
  The presentations of subgroups and quotients, as lists; what SubgroupPresentation, QuotientPresentation and LiftElement answer.
  Conditions: none.
-/
namespace Go.Proofs.Ytjljbfcdpdckeaa
open Go Go.Pc
section
variable {m : Nat} {o : Nat → Int} {f : Nat → List Int} {g : Nat → Nat → List Int}
end
section
variable {p : Pr} [hc : ConAll p]
end
end Go.Proofs.Ytjljbfcdpdckeaa

/-
  Plain mathematics: the presentation of a quotient is a group's.
  Conditions: none; nothing of the program stands here.
-/
namespace Go.Proofs.Ytjljbfcdpdckeaa
open Go Go.Pc Go.Pc.Grp
section
variable {p : Pr} [hc : ConAll p] {ys : List (El p)}
/-! ### the element with some exponents -/
/-! ### the quotient -/
end
end Go.Proofs.Ytjljbfcdpdckeaa

/-
  Plain mathematics: homomorphisms by images; automorphisms are one to one, and each comes back.
  Conditions: none; nothing of the program stands here.
-/
namespace Go.Proofs.Ytjljbfcdpdckeaa
open Go Go.Pc Go.Pc.Grp
/-- Of n + 1 numbers below n two are the same. -/
theorem pigeon : ∀ (n : Nat) (g : Nat → Nat), (∀ i, i ≤ n → g i < n) → ∃ a b, a < b ∧ b ≤ n ∧ g a = g b
  | 0, g, h => absurd (h 0 (Nat.le_refl _)) (Nat.not_lt_zero _)
  | n + 1, g, h => by
    by_cases e : ∃ a, a ≤ n ∧ g a = g (n + 1)
    · obtain ⟨a, ha, e⟩ := e
      exact ⟨a, n + 1, by omega, Nat.le_refl _, e⟩
    · obtain ⟨a, b, h1, h2, h3⟩ := pigeon n (fun i => if g (n + 1) < g i then g i - 1 else g i) (fun i hi => by
        have h1 := h i (by omega)
        have h2 := h (n + 1) (Nat.le_refl _)
        have h3 : g i ≠ g (n + 1) := fun k => e ⟨i, hi, k⟩
        split <;> omega)
      have ha : g a ≠ g (n + 1) := fun k => e ⟨a, by omega, k⟩
      have hb : g b ≠ g (n + 1) := fun k => e ⟨b, h2, k⟩
      refine ⟨a, b, h1, by omega, ?_⟩
      split at h3 <;> split at h3 <;> omega
/-! ### homomorphisms by images -/
theorem inR_nonneg {p : Pr} {x : List Int} (h : InR p x) (i : Nat) : 0 ≤ x.getD i 0 := by
  by_cases hi : i < p.n
  · exact (h.rng i hi).1
  · rw [List.getD_eq_getElem?_getD, List.getElem?_eq_none (by rw [h.len]; omega)]
    exact Int.le_refl _
section
variable {q : Pr} [hq : ConAll q]
theorem prodTo_phi (ys : List (El q)) {x : List Int} (h : ∀ i, 0 ≤ x.getD i 0) : ∀ k, prodTo ys x k = phi (fun j => ys.getD j 1) x 0 k
  | 0 => rfl
  | k + 1 => by
    rw [phi_last, Nat.zero_add]
    show prodTo ys x k * pwz (ys.getD k 1) (x.getD k 0) = _
    rw [pwz_of _ (h k), prodTo_phi ys h k]
theorem letV_neg (ys : List (El q)) {a : Int} (ha : a ≠ 0) : letV ys (-a) = (letV ys a)⁻¹ := by
  unfold letV
  by_cases h : 0 < a
  · rw [if_neg (by omega), if_pos h, show - -a - 1 = a - 1 by omega]
  · rw [if_pos (by omega), if_neg h, Grp.inv_inv]
theorem evalW_one (ys : List (El q)) (a : Int) : evalW ys [a] = letV ys a := by
  show 1 * letV ys a = _
  rw [Grp.one_mul]
theorem evalW_inv (ys : List (El q)) : ∀ w : List Int, (∀ a, a ∈ w → a ≠ 0) → evalW ys (invW w) * evalW ys w = 1
  | [], _ => Grp.one_mul _
  | l :: w, h => by
    have e1 : invW (l :: w) = invW w ++ [-l] := by simp [invW]
    have e2 : evalW ys (l :: w) = letV ys l * evalW ys w := by rw [← evalW_one, ← evalW_append]; rfl
    rw [e1, evalW_append, evalW_one, letV_neg ys (h l List.mem_cons_self), e2, Grp.mul_assoc, ← Grp.mul_assoc (letV ys l)⁻¹, Grp.inv_mul, Grp.one_mul]
    exact evalW_inv ys w fun a ha => h a (List.mem_cons_of_mem _ ha)
theorem evalW_rel (ys : List (El q)) {u v : List Int} (hv : ∀ a, a ∈ v → a ≠ 0) (h : evalW ys (u ++ invW v) = 1) : evalW ys u = evalW ys v := by
  rw [evalW_append] at h
  have h1 := evalW_inv ys v hv
  calc evalW ys u = evalW ys u * (evalW ys (invW v) * evalW ys v) := by rw [h1, Grp.mul_one]
    _ = (evalW ys u * evalW ys (invW v)) * evalW ys v := by rw [Grp.mul_assoc]
    _ = evalW ys v := by rw [h, Grp.one_mul]
theorem evalW_full (ys : List (El q)) {x : List Int} (h : ∀ i, 0 ≤ x.getD i 0) : evalW ys (wordV x) = phi (fun j => ys.getD j 1) x 0 x.length := by
  have h1 := evalW_word (ys := ys) (x := x) (fun i _ => h i) x.length (Nat.le_refl _)
  rw [List.take_length, prodTo_phi ys h] at h1
  exact h1
variable {p : Pr}
theorem relOk_mem {ys : List (El q)} (h : RelOk p ys) {w : List Int} (hw : w ∈ rels p) : evalW ys w = 1 := by
  obtain ⟨i, hi, rfl⟩ := List.getElem_of_mem hw
  have := h i hi
  rwa [List.getD_eq_getElem?_getD, List.getElem?_eq_getElem hi] at this
theorem relP_mem {i : Nat} (hi : i < p.n) : relP p i ∈ rels p := List.mem_append.2 (.inl (List.mem_map.2 ⟨i, List.mem_range.2 hi, rfl⟩))
theorem relC_mem {i k : Nat} (hi : i < p.n) (hk : k < p.n - 1 - i) : relC p i k ∈ rels p :=
  List.mem_append.2 (.inr (List.mem_flatMap.2 ⟨i, List.mem_range.2 hi, List.mem_map.2 ⟨k, List.mem_range.2 hk, rfl⟩⟩))
theorem img_P {ys : List (El q)} (hv : Valid p) (h : RelOk p ys) {j : Nat} (hj : j < p.n) : pw (ys.getD j 1) (p.o j).toNat = phi (fun j => ys.getD j 1) (p.w j) (j + 1) (p.n - (j + 1)) := by
  have hi := hv.w_in j hj
  have h1 := relOk_mem h (relP_mem hj)
  have h2 := evalW_rel ys (u := List.replicate (p.o j).toNat ((j : Int) + 1)) (v := wordV (p.w j)) (fun a ha => (letW_word hi.len a ha).1) h1
  rw [evalW_rep, evalW_full ys (inR_nonneg hi), hi.len, phi_zu _ (by omega) (hv.w_zu j hj)] at h2
  exact h2
theorem img_C {ys : List (El q)} (hv : Valid p) (h : RelOk p ys) {j k : Nat} (hjk : j < k) (hk : k < p.n) : cj (ys.getD k 1) (ys.getD j 1) = phi (fun j => ys.getD j 1) (p.c j k) (j + 1) (p.n - (j + 1)) := by
  have hi := hv.c_in j k hjk hk
  obtain ⟨m, rfl⟩ : ∃ m, k = j + 1 + m := ⟨k - (j + 1), by omega⟩
  have ec : (p.cnj.getD j []).getD m [] = p.c j (j + 1 + m) := by
    unfold Pr.c
    congr 1
    omega
  have h1 := relOk_mem h (relC_mem (i := j) (k := m) (by omega) (by omega))
  unfold relC at h1
  rw [ec] at h1
  have h2 := evalW_rel ys (v := wordV (p.c j (j + 1 + m))) (fun a ha => (letW_word hi.len a ha).1) h1
  rw [evalW_full ys (inR_nonneg hi), hi.len, phi_zu _ (by omega) (hv.c_zu j _ hjk hk)] at h2
  rw [← h2]
  show _ = ((1 * letV ys (-(j : Int) - 1)) * letV ys (((j + 1 + m : Nat) : Int) + 1)) * letV ys ((j : Int) + 1)
  have e1 : letV ys (-(j : Int) - 1) = (ys.getD j 1)⁻¹ := by
    unfold letV
    rw [if_neg (by omega), show (-(-(j : Int) - 1) - 1).toNat = j by omega]
  have e2 : letV ys (((j + 1 + m : Nat) : Int) + 1) = ys.getD (j + 1 + m) 1 := by
    unfold letV
    rw [if_pos (by omega), show ((((j + 1 + m : Nat) : Int) + 1) - 1).toNat = j + 1 + m by omega]
  have e3 : letV ys ((j : Int) + 1) = ys.getD j 1 := by
    unfold letV
    rw [if_pos (by omega), show ((j : Int) + 1 - 1).toNat = j by omega]
  rw [e1, e2, e3, Grp.one_mul, Grp.mul_assoc]
  rfl
theorem imgE_phi {ys : List (El q)} (hl : ys.length = p.n) {x : List Int} (hx : InR p x) : imgE ys x = phi (fun j => ys.getD j 1) x 0 p.n := by
  unfold imgE
  rw [prodTo_phi ys (inR_nonneg hx), hl]
variable [hc : ConAll p]
theorem img_hom {ys : List (El q)} (hl : ys.length = p.n) (h : RelOk p ys) (x y : El p) : imgE ys (x * y).v = imgE ys x.v * imgE ys y.v := by
  have hv := hc.valid
  have h1 := dyck (fun j => ys.getD j 1) hv 0 (fun j _ hj => img_P hv h hj) (fun j k _ hjk hk => img_C hv h hjk hk) p.n 0 (Nat.le_refl _) (Nat.sub_zero _) x.v y.v x.inr y.inr x.zu y.zu
  rw [imgE_phi hl (x * y).inr, imgE_phi hl x.inr, imgE_phi hl y.inr]
  exact h1
theorem img_unit {ys : List (El q)} (hl : ys.length = p.n) {i : Nat} (hi : i < p.n) : imgE ys (gOf p 0 i : El p).v = ys.getD i 1 := by
  have key : ∀ k, k ≤ p.n → prodTo ys (gOf p 0 i : El p).v k = if i < k then ys.getD i 1 else 1 := by
    intro k
    induction k with
    | zero => exact fun _ => rfl
    | succ k ih =>
      intro hk
      show prodTo ys _ k * pwz (ys.getD k 1) ((gOf p 0 i : El p).v.getD k 0) = _
      have e : (gOf p 0 i : El p).v.getD k 0 = if k = i then 1 else 0 := by
        have := co_gOf (p := p) (e := k) hi
        rw [show (gOf p 0 i : El p).v.getD k 0 = co (gOf p 0 i) k from rfl, this]
      rw [ih (by omega), e]
      by_cases h1 : k = i
      · subst h1
        rw [if_neg (Nat.lt_irrefl _), if_pos rfl, if_pos (Nat.lt_succ_self _), Grp.one_mul]
        exact Grp.one_mul _
      · rw [if_neg h1]
        have e0 : pwz (ys.getD k 1) 0 = 1 := rfl
        rw [e0, Grp.mul_one]
        by_cases h2 : i < k
        · rw [if_pos h2, if_pos (by omega)]
        · rw [if_neg h2, if_neg (by omega)]
  unfold imgE
  rw [key _ (by omega), if_pos (by omega)]
end
/-! ### numbers -/
section
variable {p : Pr} {l : List Nat}
end
/-! ### automorphisms -/
section
variable {p : Pr} [hc : ConAll p]
end
end Go.Proofs.Ytjljbfcdpdckeaa

/-
  Classes of conjugate elements; the order of lists of numbers is the order of the elements' numbers; a sorted list of distinct elements is determined by its members.
  Conditions: the tails at all levels are groups.
-/
namespace Go.Proofs.Ytjljbfcdpdckeaa
open Go Go.Pc
/-! ### comparison of lists -/
section
variable {p : Pr} [hc : ConAll p]
/-! ### numbers of elements -/
def numE (x : El p) : Nat := (numF p (List.range p.n) x).toNat
theorem numF_all (x : El p) : 0 ≤ numF p (List.range p.n) x ∧ numF p (List.range p.n) x + 1 ≤ ordL p (List.range p.n) := by
  have h := numF_lt hc.valid (List.range p.n) (fun d hd => List.mem_range.1 hd) x (List.range p.n).length (Nat.le_refl _)
  rwa [List.take_length] at h
theorem numE_cast (x : El p) : ((numE x : Nat) : Int) = numF p (List.range p.n) x := by
  have := numF_all x
  unfold numE
  omega
theorem numE_lt (x : El p) : numE x < ordN p := by
  have := numF_all x
  unfold numE ordN
  omega
theorem allE_numE (x : El p) : allE p (numE x) = x := by
  have hv := hc.valid
  have hl : ∀ d, d ∈ List.range p.n → d < p.n := fun d hd => List.mem_range.1 hd
  have hn := elTo_num hv (List.range p.n) List.nodup_range hl x (List.range p.n).length (Nat.le_refl _)
  rw [List.take_length] at hn
  refine T.ext ?_
  rw [allE_val, numE_cast]
  have hxl := x.inr.len
  refine list_ext0 (by rw [elTo_len]; exact hxl.symm) fun d hd => ?_
  rw [elTo_len] at hd
  rw [hn d (List.mem_range.2 (by omega))]; rfl
theorem numE_inj {x y : El p} (h : numE x = numE y) : x = y := by rw [← allE_numE x, h, allE_numE]
/-! ### sorted lists -/
/-! ### classes -/
def Cnj (x y : El p) : Prop := ∃ z, y = Grp.cj x z
theorem Cnj.refl (x : El p) : Cnj x x := ⟨1, (Grp.cj_by_one x).symm⟩
theorem Cnj.symm {x y : El p} (h : Cnj x y) : Cnj y x := by
  obtain ⟨z, rfl⟩ := h
  exact ⟨z⁻¹, by rw [Grp.cj_cj, Grp.mul_inv, Grp.cj_by_one]⟩
theorem Cnj.trans {x y z : El p} (h : Cnj x y) (k : Cnj y z) : Cnj x z := by
  obtain ⟨a, rfl⟩ := h
  obtain ⟨b, rfl⟩ := k
  exact ⟨a * b, Grp.cj_cj _ _ _⟩
end
end Go.Proofs.Ytjljbfcdpdckeaa

/-
  Classes of conjugate elements in the order of their first elements; their number times the order counts the pairs that commute.
  Conditions: the tails at all levels are groups.
-/
namespace Go.Proofs.Ytjljbfcdpdckeaa
open Go Go.Pc
theorem ex_min {P : Nat → Prop} (n : Nat) : P n → ∃ k, k ≤ n ∧ P k ∧ ∀ j, j < k → ¬ P j := by
  induction n using Nat.strongRecOn with
  | _ n ih =>
    intro h
    by_cases e : ∃ j, j < n ∧ P j
    · obtain ⟨j, h1, h2⟩ := e
      obtain ⟨k, h3, h4, h5⟩ := ih j h1 h2
      exact ⟨k, by omega, h4, h5⟩
    · exact ⟨n, Nat.le_refl _, h, fun j hj hp => e ⟨j, hj, hp⟩⟩
section
variable {p : Pr} [hc : ConAll p]
/-! ### lists of classes -/
/-! ### pairs that commute -/
open Classical in
noncomputable def one (P : Prop) : Nat := if P then 1 else 0
end
end Go.Proofs.Ytjljbfcdpdckeaa

/-
  Orders of elements; the answers of PowerSubgroup and OrderSubgroup.
  Conditions: the tails at all levels are groups.
-/
namespace Go.Proofs.Ytjljbfcdpdckeaa
open Go Go.Pc
section
variable {p : Pr} [hc : ConAll p]
/-- The number is the order of the element. -/
def Per (x : El p) (K : Nat) : Prop := 1 ≤ K ∧ K ≤ 117649 ∧ Grp.pw x K = 1 ∧ ∀ m, Grp.pw x m = 1 → K ∣ m
def PerI (x y : El p) (d K : Nat) : Prop := Tl d y ∧ y = Grp.pw x K ∧ 1 ≤ K ∧ K ≤ 7 ^ d ∧ ∀ m, Grp.pw x m = 1 → K ∣ m
theorem PerI.start (x : El p) : PerI x x 0 1 := ⟨Tl.zero x, (Grp.pw_one x).symm, Nat.le_refl _, by simp, fun m _ => Nat.one_dvd m⟩
theorem PerI.done {x y : El p} {d K : Nat} (hd : d ≤ p.n) (h : PerI x y d K) (hy : y = 1) : Per x K := by
  obtain ⟨_, h2, h3, h4, h5⟩ := h
  have hn6 := hc.valid.n6
  have h6 : (7 : Nat) ^ d ≤ 7 ^ 6 := Nat.pow_le_pow_right (by omega) (by omega)
  have h7 : (7 : Nat) ^ 6 = 117649 := by decide
  exact ⟨h3, by omega, by rw [← h2, hy], h5⟩
theorem PerI.skip {x y : El p} {d K : Nat} (h : PerI x y d K) (h0 : co y d = 0) : PerI x y (d + 1) K := by
  obtain ⟨h1, h2, h3, h4, h5⟩ := h
  exact ⟨h1.succ h0, h2, h3, Nat.le_trans h4 (Nat.pow_le_pow_right (by omega) (by omega)), h5⟩
theorem dvd_prime {c o : Int} (ho : o = 2 ∨ o = 3 ∨ o = 5 ∨ o = 7) (hc : 0 ≤ c ∧ c < o) (h0 : c ≠ 0) (j : Nat) (h : ((j : Int) * c) % o = 0) : o.toNat ∣ j := by
  have hd : j % o.toNat = 0 := by
    have hcc : c = 1 ∨ c = 2 ∨ c = 3 ∨ c = 4 ∨ c = 5 ∨ c = 6 := by omega
    rcases ho with rfl | rfl | rfl | rfl <;> rcases hcc with rfl | rfl | rfl | rfl | rfl | rfl <;> simp only [Int.reduceToNat] <;> omega
  exact Nat.dvd_of_mod_eq_zero hd
theorem PerI.step {x y : El p} {d K : Nat} (hd : d < p.n) (h : PerI x y d K) (h0 : co y d ≠ 0) : PerI x (Grp.pw y (p.o d).toNat) (d + 1) (K * (p.o d).toNat) := by
  obtain ⟨h1, h2, h3, h4, h5⟩ := h
  have ho := hc.valid.opos hd
  have hr := co_rng y hd
  refine ⟨(h1.pw (by omega) _).succ ?_, by rw [Grp.pw_mul, ← h2], Nat.mul_pos h3 (by omega), ?_, fun m hm => ?_⟩
  · rw [co_pw hd h1, Int.toNat_of_nonneg (by omega)]
    exact Int.mul_emod_right _ _
  · rw [Nat.pow_succ]; exact Nat.mul_le_mul h4 (by omega)
  · obtain ⟨j, rfl⟩ := h5 m hm
    rw [Grp.pw_mul, ← h2] at hm
    have h6 := co_pw hd h1 j
    rw [hm, co_one] at h6
    exact Nat.mul_dvd_mul_left K (dvd_prime (hc.valid.prime d hd) hr h0 j h6.symm)
end
/-- The code of a group that is enumerated and an exponent. -/
def PcV (p : Pr) (k e : Int) : Prop := (¬ IsGrp p ∧ e = 1) ∨ (IsGrp p ∧ ((¬ (1 ≤ k ∧ k ≤ 1000000) ∧ e = 2) ∨ ((1 ≤ k ∧ k ≤ 1000000) ∧ ((128 < ordN p ∧ e = 3) ∨ (ordN p ≤ 128 ∧ e = 0)))))
theorem PcV.zero {p : Pr} {k : Int} (h : PcV p k 0) : IsGrp p ∧ (1 ≤ k ∧ k ≤ 1000000) ∧ ordN p ≤ 128 := by
  rcases h with ⟨_, h2⟩ | ⟨h1, ⟨_, h2⟩ | ⟨h2, ⟨_, h3⟩ | ⟨h3, _⟩⟩⟩
  · omega
  · omega
  · omega
  · exact ⟨h1, h2, h3⟩
end Go.Proofs.Ytjljbfcdpdckeaa

/-
  The orders of the elements, counted; the answer of OrderCounts.
  Conditions: the tails at all levels are groups.
-/
namespace Go.Proofs.Ytjljbfcdpdckeaa
open Go Go.Pc
section
variable {p : Pr} [hc : ConAll p]
theorem pw_period (x : El p) : ∃ m, 1 ≤ m ∧ m ≤ ordN p ∧ Grp.pw x m = 1 := by
  obtain ⟨a, b, hab, hb, e⟩ := pigeon (ordN p) (fun i => numE (Grp.pw x i)) fun i _ => numE_lt _
  have e1 : Grp.pw x a = Grp.pw x b := numE_inj e
  have e2 : Grp.pw x b = Grp.pw x a * Grp.pw x (b - a) := by rw [← Grp.pw_add, show a + (b - a) = b by omega]
  have e3 : Grp.pw x a * 1 = Grp.pw x a * Grp.pw x (b - a) := by rw [Grp.mul_one, ← e2]; exact e1
  exact ⟨b - a, by omega, by omega, (Grp.mul_left_cancel e3).symm⟩
theorem per_ex (x : El p) : ∃ K, Per x K ∧ K ≤ ordN p := by
  obtain ⟨m, h1, h2, h3⟩ := pw_period x
  obtain ⟨K, hK, ⟨k1, k2⟩, hmin⟩ := ex_min (P := fun k => 1 ≤ k ∧ Grp.pw x k = 1) m ⟨h1, h3⟩
  have ho := (ordN_rng p).2.2
  refine ⟨K, ⟨k1, by omega, k2, fun n hn => ?_⟩, by omega⟩
  have e : Grp.pw x (n % K) = 1 := by
    have e1 : Grp.pw x n = Grp.pw x (K * (n / K) + n % K) := by rw [Nat.div_add_mod]
    rw [e1, Grp.pw_add, Grp.pw_mul, k2, Grp.one_pw, Grp.one_mul] at hn
    exact hn
  have hlt := Nat.mod_lt n k1
  refine Nat.dvd_of_mod_eq_zero (Decidable.byContradiction fun h0 => hmin _ hlt ⟨by omega, e⟩)
/-- The order of an element. -/
noncomputable def perE (x : El p) : Nat := Classical.choose (per_ex x)
theorem perE_per (x : El p) : Per x (perE x) := (Classical.choose_spec (per_ex x)).1
theorem perE_le (x : El p) : perE x ≤ ordN p := (Classical.choose_spec (per_ex x)).2
theorem perE_pos (x : El p) : 1 ≤ perE x := (perE_per x).1
theorem perE_eq {x : El p} {K : Nat} (h : Per x K) : perE x = K := Nat.dvd_antisymm ((perE_per x).2.2.2 K h.2.2.1) (h.2.2.2 _ (perE_per x).2.2.1)
/-- How many of the first t elements have an order. -/
noncomputable def nPer (p : Pr) [hc : ConAll p] (t : Nat) (a : Int) : Nat := ((List.range t).filter fun i => decide ((perE (allE p i) : Int) = a)).length
theorem nPer_zero (a : Int) : nPer p 0 a = 0 := rfl
theorem nPer_yes {t : Nat} {a : Int} (h : (perE (allE p t) : Int) = a) : nPer p (t + 1) a = nPer p t a + 1 := by
  unfold nPer
  rw [List.range_succ, List.filter_append, List.length_append]
  simp [h]
theorem nPer_no {t : Nat} {a : Int} (h : (perE (allE p t) : Int) ≠ a) : nPer p (t + 1) a = nPer p t a := by
  unfold nPer
  rw [List.range_succ, List.filter_append, List.length_append]
  simp [h]
theorem nPer_le (t : Nat) (a : Int) : nPer p t a ≤ t := by
  have h := List.length_filter_le (fun i => decide ((perE (allE p i) : Int) = a)) (List.range t)
  rw [List.length_range] at h
  exact h
theorem nPer_pos {t : Nat} {a : Int} (h : 0 < nPer p t a) : ∃ k : Nat, a = k ∧ 1 ≤ k ∧ k ≤ ordN p := by
  obtain ⟨i, hi⟩ := List.exists_mem_of_length_pos h
  have h2 := (List.mem_filter.1 hi).2
  have h3 : (perE (allE p i) : Int) = a := by simpa using h2
  exact ⟨_, h3.symm, perE_pos _, perE_le _⟩
/-- The orders that occur, up to t. -/
noncomputable def ocK (p : Pr) [hc : ConAll p] (t : Nat) : List Int := ((List.range t).map fun k : Nat => ((k : Int) + 1)).filter fun a => decide (0 < nPer p (ordN p) a)
noncomputable def ocC (p : Pr) [hc : ConAll p] (t : Nat) : List Int := (ocK p t).map fun a => ((nPer p (ordN p) a : Nat) : Int)
theorem ocK_yes {t : Nat} (h : 0 < nPer p (ordN p) ((t : Int) + 1)) : ocK p (t + 1) = ocK p t ++ [(t : Int) + 1] := by
  unfold ocK
  rw [List.range_succ, List.map_append, List.filter_append]
  simp [h]
theorem ocK_no {t : Nat} (h : ¬ 0 < nPer p (ordN p) ((t : Int) + 1)) : ocK p (t + 1) = ocK p t := by
  unfold ocK
  rw [List.range_succ, List.map_append, List.filter_append]
  simp [h]
theorem ocK_len (t : Nat) : (ocK p t).length ≤ t := by
  unfold ocK
  have h := List.length_filter_le (fun a => decide (0 < nPer p (ordN p) a)) ((List.range t).map fun k : Nat => ((k : Int) + 1))
  rw [List.length_map, List.length_range] at h
  exact h
theorem ocK_mem {a : Int} : a ∈ ocK p (ordN p) ↔ 0 < nPer p (ordN p) a := by
  unfold ocK
  rw [List.mem_filter]
  constructor
  · intro h; simpa using h.2
  · intro h
    obtain ⟨k, rfl, h1, h2⟩ := nPer_pos h
    exact ⟨List.mem_map.2 ⟨k - 1, List.mem_range.2 (by omega), by omega⟩, by simpa using h⟩
theorem ocK_sorted (t : Nat) : (ocK p t).Pairwise fun a b => a < b := by
  unfold ocK
  refine List.Pairwise.filter _ ?_
  rw [List.pairwise_map]
  exact List.Pairwise.imp (fun {a b} h => by omega) (List.pairwise_lt_range (n := t))
end
/-- The answer of OrderCounts. -/
def OcV (p : Pr) (r s : List Int) (e : Int) : Prop := ∃ _ : ConAll p, (128 < ordN p ∧ r = [] ∧ s = [] ∧ e = 3) ∨ (ordN p ≤ 128 ∧ r = ocK p (ordN p) ∧ s = ocC p (ordN p) ∧ e = 0)
def OcA (p : Pr) (r s : List Int) (e : Int) : Prop := (IsGrp p ∧ OcV p r s e) ∨ (¬ IsGrp p ∧ r = [] ∧ s = [] ∧ e = 1)
theorem OcA.same {p : Pr} {r s r' s' : List Int} {e e' : Int} (h : OcA p r s e) (k : OcA p r' s' e') : r = r' ∧ s = s' ∧ e = e' := by
  rcases h with ⟨h0, _, ⟨h1, rfl, rfl, rfl⟩ | ⟨h1, rfl, rfl, rfl⟩⟩ | ⟨h0, rfl, rfl, rfl⟩ <;> rcases k with ⟨k0, _, ⟨k1, rfl, rfl, rfl⟩ | ⟨k1, rfl, rfl, rfl⟩⟩ | ⟨k0, rfl, rfl, rfl⟩
  · exact ⟨rfl, rfl, rfl⟩
  · omega
  · exact absurd h0 k0
  · omega
  · exact ⟨rfl, rfl, rfl⟩
  · exact absurd h0 k0
  · exact absurd k0 h0
  · exact absurd k0 h0
  · exact ⟨rfl, rfl, rfl⟩
theorem OcA.sz {p : Pr} {r s : List Int} {e : Int} (h : OcA p r s e) : r.length ≤ 200 ∧ s.length ≤ 200 := by
  rcases h with ⟨h0, _, ⟨h1, rfl, rfl, rfl⟩ | ⟨h1, rfl, rfl, rfl⟩⟩ | ⟨h0, rfl, rfl, rfl⟩
  · simp
  · have h2 := ocK_len (p := p) (ordN p)
    refine ⟨by omega, ?_⟩
    unfold ocC
    rw [List.length_map]; omega
  · simp
theorem OrderCounts_sz0 {p : Pr} {r s : List Int} {e : Int} (_ : p.ord.length ≤ 2000000) (h : OcA p r s e) : r.length ≤ 2000000 := by have := h.sz; omega
theorem OrderCounts_sz1 {p : Pr} {r s : List Int} {e : Int} (_ : p.ord.length ≤ 2000000) (h : OcA p r s e) : s.length ≤ 2000000 := by have := h.sz; omega
end Go.Proofs.Ytjljbfcdpdckeaa

/-
  Centralizers, normalizers, conjugators of subgroups: what the answers are.
  Conditions: none.
-/
namespace Go.Proofs.Ytjljbfcdpdckeaa
open Go Go.Pc
section
variable {p : Pr} [hc : ConAll p]
end
end Go.Proofs.Ytjljbfcdpdckeaa

/-
  The answers of ConjugacyClass, ClassNumber, CommutingPairs.
  Conditions: none.
-/
namespace Go.Proofs.Ytjljbfcdpdckeaa
open Go Go.Pc
end Go.Proofs.Ytjljbfcdpdckeaa

/-
  Lists of lists that come from a call and grow on: lowered bounds, 'out = append(out, x)' where the rows need not be the call's own.
  Conditions: none; nothing of the program stands here.
-/
namespace Go.Pc
open Go Go.RowKit
section
variable {e s s' : Nat} {w : World} {v : Value} {us : List Value} {xss : List (List Int)} {rs : List (Value × List Int)}
theorem Lst.low (h : Lst e s (· < s) w v us xss) (h1 : s' ≤ s) (h2 : s' ≤ w.heap.size) : Lst e s' (· < s') w v us xss :=
  (h.mono h1).weak (fun g hg => .inl (Nat.lt_of_lt_of_le hg h1)) (fun g hg hlt => by
    have h3 := (h.lt hg).1
    have h4 : g < s' := hlt
    omega) (fun g hg => Nat.lt_of_lt_of_le hg h2)
theorem GrowL.lower (h : GrowL e s w v rs) (h1 : s' ≤ s) (h2 : s' ≤ w.heap.size) : GrowL e s' w v rs := ⟨h.lst.low h1 h2, h.own.mono h1⟩
end
section
variable {P : Program} {N : Nat} {ops : Array Oper} {π : List Nat} {K : Env → World → Prop} {ρ : Env} {w w0 w1 w00 : World} {l : List Oper}
variable {i : Nat} {ty ty2 : TypeId} {pos pos2 : String} {after after2 : Array Edge} {g g2 : Option (Nat × Bool)} {d d2 : Nat}
end
end Go.Pc

/-
  Lists of integers: the literal of three, 'append(u, v...)', also in drawn regions that write another block.
  Conditions: none; nothing of the program stands here.
-/
namespace Go.Pc
open Go Go.RowKit
section
variable {P : Program} {N : Nat} {ops : Array Oper} {π : List Nat} {K : Env → World → Prop} {ρ : Env} {w w0 w1 w00 : World} {l : List Oper}
variable {i : Nat} {ty ty2 : TypeId} {pos pos2 : String} {after after2 : Array Edge} {g g2 : Option (Nat × Bool)} {d d2 : Nat}
end
end Go.Pc

/-
  Drawn regions in which two operations may come up: both orders; reads at their place.
  Conditions: none; nothing of the program stands here.
-/
namespace Go.Pc
open Go Go.RowKit
section
variable {P : Program} {N : Nat} {ops : Array Oper} {π π' : List Nat} {S : World → Prop} {K : Env → World → Prop} {ρ : Env} {w : World}
variable {i : Nat} {d : Nat} {op : Op} {ty : TypeId} {pos : String} {after : Array Edge} {g : Option (Nat × Bool)}
end
end Go.Pc

/-
  Lists of lists of rows that grow by one list at a time: 'out = append(out, list)'.
  Conditions: none; nothing of the program stands here.
-/
namespace Go.Pc
open Go Go.RowKit
/-- Rows that lie apart from some blocks. -/
def RsA (s : Nat) (av : Nat → Prop) (w : World) (v : Value) (us : List Value) (xss : List (List Int)) : Prop := ∃ lo hi, Rows lo hi w v us xss ∧ s ≤ lo ∧ hi ≤ w.heap.size ∧ ∀ g, av g → g < lo ∨ hi ≤ g
structure GrowV (e sb s : Nat) (w : World) (v : Value) (us : List Value) (uss : List (List Value)) (xsss : List (List (List Int))) : Prop where
  own : OwnN e sb w v us
  len : us.length = xsss.length
  len' : uss.length = xsss.length
  at_ : ∀ i, i < us.length → RsA s (fun g => v.ownBlock = some g) w (us.getD i nilv) (uss.getD i []) (xsss.getD i [])
/-- The rows of the lists are the call's own. -/
structure OwnC (s : Nat) (w : World) (v : Value) (gs : List (Value × List (Value × List Int))) : Prop where
  own : RowsO s w (flat gs)
  off : ∀ b, v.ownBlock = some b → ¬ BlkOf (flat gs) b
  sp : ∀ q, q ∈ gs → SpA (fun b => BlkOf (flat gs) b ∨ b < s ∨ v.ownBlock = some b) w q.1 (q.2.map (·.1))
section
variable {av av' : Nat → Prop} {e sb s lo hi : Nat} {w w' w0 w1 w2 w3 : World} {v v' u : Value} {us ut : List Value} {uss : List (List Value)} {xss : List (List Int)} {xsss : List (List (List Int))} {rs : List (Value × List Int)} {gs : List (Value × List (Value × List Int))}
theorem RsA.ext (h : RsA s av w v us xss) (x : Ext w w') : RsA s av w' v us xss := by
  obtain ⟨lo, hi, h1, h2, h3, h4⟩ := h
  exact ⟨lo, hi, h1.same (x.same _ _), h2, Nat.le_trans h3 x.size, h4⟩
theorem RsA.beside {ob : Option Nat} (h : RsA s av w v us xss) (hg : w.grownBy w' ob) (hob : ∀ g, ob = some g → av g) (ha : ∀ g, av' g → av g ∨ g = w.heap.size) : RsA s av' w' v us xss := by
  obtain ⟨lo, hi, h1, h2, h3, h4⟩ := h
  refine ⟨lo, hi, h1.same ((Wrt.grown hg).same fun b hb => h4 b (hob b hb)), h2, Nat.le_trans h3 hg.size, fun g hg' => ?_⟩
  rcases ha g hg' with h | h
  · exact h4 g h
  · omega
theorem rows_nilv (lo : Nat) (w : World) : Rows lo lo w nilv [] [] :=
  ⟨⟨⟨none, 0, rfl, Nat.le_refl _, by omega, fun k u hu => by simp at hu⟩⟩, rfl, fun i => ⟨⟨none, 0, by simp, by simp, by omega, fun k u hu => by simp at hu⟩⟩⟩
theorem GrowV.ext (h : GrowV e sb s w v us uss xsss) (x : Ext w w') : GrowV e sb s w' v us uss xsss := ⟨@OwnN.ext _ _ _ _ _ _ x h.own, h.len, h.len', fun i hi => (h.at_ i hi).ext x⟩
theorem GrowV.rowss (h : GrowV e sb s w v us uss xsss) (hsb : s ≤ sb) (hs : s ≤ w.heap.size) : Rowss s w.heap.size w v us uss xsss := by
  refine ⟨h.own.toSl.mono hsb (Nat.le_refl _), h.len, h.len', fun i => ?_⟩
  by_cases hi : i < us.length
  · obtain ⟨lo, hi', h1, h2, h3, _⟩ := h.at_ i hi
    exact h1.mono h2 h3
  · have h1 := h.len
    have h2 := h.len'
    have e1 : us.getD i nilv = nilv := by rw [List.getD_eq_getElem?_getD, List.getElem?_eq_none (by omega)]; rfl
    have e2 : uss.getD i [] = [] := by rw [List.getD_eq_getElem?_getD, List.getElem?_eq_none (by omega)]; rfl
    have e3 : xsss.getD i [] = [] := by rw [List.getD_eq_getElem?_getD, List.getElem?_eq_none (by omega)]; rfl
    rw [e1, e2, e3]
    exact (rows_nilv s w).mono (Nat.le_refl _) hs
theorem GrowV.one {b : Nat} (ho : Own e b w2 v [u]) (hb : b = w1.heap.size) (hsb : sb ≤ b) (hu : Rows s w1.heap.size w1 u ut xss) (hs : s ≤ w1.heap.size) (x : Ext w1 w2) : GrowV e sb s w2 v [u] [ut] [xss] := by
  have h1 := x.size
  refine ⟨ho.toN.mono (by omega), rfl, rfl, fun i hi => ?_⟩
  obtain rfl : i = 0 := by simpa using hi
  refine ⟨s, w1.heap.size, hu.same (x.same _ _), Nat.le_refl _, h1, fun g hg => ?_⟩
  rw [ho.toN_block] at hg; injection hg with hg; omega
theorem GrowV.push (h : GrowV e sb s w0 v us uss xsss) (x01 : Ext w0 w1) (hu : Rows w0.heap.size w1.heap.size w1 u ut xss) (hs : s ≤ w0.heap.size) (x12 : Ext w1 w2)
    (ho : OwnN e sb w3 v' (us ++ [u])) (hg : w2.grownBy w3 v.ownBlock) (hv : v'.ownBlock = v.ownBlock ∨ v'.ownBlock = some w2.heap.size) : GrowV e sb s w3 v' (us ++ [u]) (uss ++ [ut]) (xsss ++ [xss]) := by
  have h1 := h.len
  have h2 := h.len'
  have hav : ∀ g, v'.ownBlock = some g → v.ownBlock = some g ∨ g = w2.heap.size := fun g hg' => by
    rcases hv with e | e
    · rw [e] at hg'; exact .inl hg'
    · rw [e] at hg'; injection hg' with hg'; exact .inr hg'.symm
  refine ⟨ho, by simp [h1], by simp [h2], fun i hi => ?_⟩
  by_cases hi2 : i < us.length
  · have e1 : (us ++ [u]).getD i nilv = us.getD i nilv := by simp [List.getElem?_append_left hi2]
    have e2 : (uss ++ [ut]).getD i [] = uss.getD i [] := by simp [List.getElem?_append_left (show i < uss.length by omega)]
    have e3 : (xsss ++ [xss]).getD i [] = xsss.getD i [] := by simp [List.getElem?_append_left (show i < xsss.length by omega)]
    rw [e1, e2, e3]
    exact ((h.at_ i hi2).ext (x01.trans x12)).beside hg (fun g e => e) hav
  · have hi3 : i = us.length := by simp at hi; omega
    have e1 : (us ++ [u]).getD i nilv = u := by rw [hi3]; simp
    have e2 : (uss ++ [ut]).getD i [] = ut := by rw [show i = uss.length by omega]; simp
    have e3 : (xsss ++ [xss]).getD i [] = xss := by rw [show i = xsss.length by omega]; simp
    rw [e1, e2, e3]
    have hr : RsA s (fun g => v.ownBlock = some g) w2 u ut xss := ⟨w0.heap.size, w1.heap.size, hu.same (x12.same _ _), hs, x12.size, fun g hg' => .inl (h.own.lt g hg').2⟩
    exact hr.beside hg (fun g e => e) hav
theorem OwnC.ext (h : OwnC s w v gs) (x : Ext w w') (hb : ∀ b, v.ownBlock = some b → b < w.heap.size) : OwnC s w' v gs :=
  ⟨h.own.ext x, h.off, fun q hq => (h.sp q hq).grow x fun b hb => .inl hb⟩
theorem OwnC.one {b : Nat} (ho : Own e b w2 v [u]) (hb : b = w1.heap.size) (hM : MatO s w1.heap.size w1 u rs) (hs : s ≤ w1.heap.size) (x : Ext w1 w2) : OwnC s w2 v [(u, rs)] := by
  have hvb := ho.toN_block
  have hf : flat [(u, rs)] = rs := flat_one _
  refine ⟨by rw [hf]; exact hM.own.ext x, fun b' hb' hB => ?_, fun q hq => ?_⟩
  · rw [hf] at hB
    rw [hvb] at hb'; injection hb' with hb'
    have := hM.lt _ hB
    omega
  · obtain rfl := List.mem_singleton.1 hq
    rw [hf]
    refine SpA.grow hM.sp x fun g hg => ?_
    rcases hg with hg | hg | hg
    · exact .inl (.inl hg)
    · exact .inl (.inr hg)
    · rw [hvb] at hg; injection hg with hg; exact .inr (by omega)
theorem OwnC.push (h : OwnC s w0 v gs) (hvl : ∀ b, v.ownBlock = some b → b < w0.heap.size) (x01 : Ext w0 w1) (hM : MatO w0.heap.size w1.heap.size w1 u rs) (hs : s ≤ w0.heap.size) (x12 : Ext w1 w2)
    (hg : w2.grownBy w3 v.ownBlock) (hv : v'.ownBlock = v.ownBlock ∨ v'.ownBlock = some w2.heap.size) : OwnC s w3 v' (gs ++ [(u, rs)]) := by
  have hz1 := x01.size
  have hz2 := x12.size
  have hf : flat (gs ++ [(u, rs)]) = flat gs ++ rs := by rw [flat_append, flat_one]
  have hav : ∀ g, v'.ownBlock = some g → v.ownBlock = some g ∨ g = w2.heap.size := fun g hg' => by
    rcases hv with e | e
    · rw [e] at hg'; exact .inl hg'
    · rw [e] at hg'; injection hg' with hg'; exact .inr hg'.symm
  have hoff : ∀ b, v.ownBlock = some b → ¬ BlkOf (flat gs ++ rs) b := fun b hb hB => by
    rcases blkOf_append'.1 hB with hB | hB
    · exact h.off b hb hB
    · have h1 := (hM.own.blk hB).1
      have h2 := hvl b hb
      omega
  have hO := (h.own.append x01 hs hM.own).ext x12
  refine ⟨?_, fun b hb hB => ?_, fun q hq => ?_⟩
  · rw [hf]
    exact hO.wr (Wrt.grown hg) fun b hb hB => hoff b hB hb
  · rw [hf] at hB
    rcases hav b hb with hb | hb
    · exact hoff b hb hB
    · rcases blkOf_append'.1 hB with hB | hB
      · have := (h.own.blk hB).2; omega
      · have := hM.lt b hB; omega
  · rw [hf]
    have key : SpA (fun b => BlkOf (flat gs ++ rs) b ∨ b < s ∨ v.ownBlock = some b ∨ b = w2.heap.size) w2 q.1 (q.2.map (·.1)) := by
      rcases List.mem_append.1 hq with hq | hq
      · refine SpA.grow (h.sp q hq) (x01.trans x12) fun b hb => ?_
        rcases hb with hb | hb | hb | hb
        · rcases blkOf_append'.1 hb with hb | hb
          · exact .inl (.inl hb)
          · exact .inr (hM.own.blk hb).1
        · exact .inl (.inr (.inl hb))
        · exact .inl (.inr (.inr hb))
        · exact .inr (by omega)
      · obtain rfl := List.mem_singleton.1 hq
        refine SpA.grow hM.sp x12 fun b hb => ?_
        rcases hb with hb | hb | hb | hb
        · rcases blkOf_append'.1 hb with hb | hb
          · exact .inl (.inr (h.own.blk hb).2)
          · exact .inl (.inl hb)
        · exact .inl (.inr (by omega))
        · exact .inl (.inr (hvl b hb))
        · exact .inr (by omega)
    refine (key.wr (Wrt.grown hg) fun b hb => .inr (.inr (.inl hb))).weak fun b hb => ?_
    rcases hb with hb | hb | hb
    · exact .inl hb
    · exact .inr (.inl hb)
    · rcases hav b hb with hb | hb
      · exact .inr (.inr (.inl hb))
      · exact .inr (.inr (.inr hb))
theorem OwnC.cub (h : OwnC s w v gs) (ho : OwnN e sb w v (gs.map (·.1))) (hsb : s ≤ sb) : CubO (fun b => BlkOf (flat gs) b ∨ b < s) w v gs := by
  refine ⟨?_, fun q hq => (h.sp q hq).weak fun b hb => hb.imp id .inl⟩
  cases hv : v.ownBlock with
  | none =>
    rcases ho.own.2 with ⟨rfl, h0⟩ | ⟨g, cap, cur, rfl, _⟩
    · have e0 : gs.map (·.1) = [] := List.eq_nil_of_length_eq_zero h0
      rw [e0]
      exact ⟨0, 0, ⟨⟨none, 0, rfl, Nat.le_refl _, by omega, fun k u hu => by simp at hu⟩⟩, fun b _ => .inr (Nat.zero_le _)⟩
    · cases hv
  | some k =>
    have hk := ho.lt k hv
    refine ⟨k, k + 1, ho.toSlAt hv, fun b hb => ?_⟩
    rcases hb with hb | hb
    · have : b ≠ k := fun e => h.off k hv (e ▸ hb)
      omega
    · omega
end
/-- A list of lists of rows that is the call's own, in blocks from s on, below t. -/
structure MatC (s t : Nat) (w : World) (v : Value) (gs : List (Value × List (Value × List Int))) : Prop where
  rows : Rowss s t w v (gs.map (·.1)) (gs.map fun q => q.2.map (·.1)) (gs.map fun q => q.2.map (·.2))
  own : RowsO s w (flat gs)
  lt : ∀ b, BlkOf (flat gs) b → b < t
  cub : CubO (fun b => BlkOf (flat gs) b ∨ b < s) w v gs
section
variable {e sb s s' t : Nat} {B : Nat → Prop} {w w' : World} {v : Value} {gs : List (Value × List (Value × List Int))}
theorem MatC.of (h : OwnC s w v gs) (hG : GrowV e sb s w v (gs.map (·.1)) (gs.map fun q => q.2.map (·.1)) (gs.map fun q => q.2.map (·.2))) (hsb : s ≤ sb) (hs : s ≤ w.heap.size) : MatC s w.heap.size w v gs :=
  ⟨hG.rowss hsb hs, h.own, fun b hb => (h.own.blk hb).2, h.cub hG.own hsb⟩
theorem MatC.lower (h : MatC s t w v gs) (hs : s' ≤ s) : MatC s' t w v gs :=
  ⟨⟨h.rows.sl.mono hs (Nat.le_refl _), h.rows.vals.len, h.rows.vals.len', fun i => (h.rows.vals.at_ i).mono hs (Nat.le_refl _)⟩, h.own.mono hs, h.lt,
    ⟨h.cub.sp0.weak fun b hb => hb.imp id fun hb => by omega, fun q hq => (h.cub.sp q hq).weak fun b hb => hb.imp id fun hb => by omega⟩⟩
theorem MatC.wr (h : MatC s t w v gs) (k : Wrt B w w') (hb : ∀ b, B b → b < s ∨ t ≤ b) : MatC s t w' v gs := by
  refine ⟨h.rows.same (k.same hb), h.own.wr k (fun b hR hB => by
    have h1 := h.lt b hR
    have h2 := (h.own.blk hR).1
    have := hb b hB; omega), h.lt, ⟨h.cub.sp0.wr' k h.rows.sl hb, fun q hq => ?_⟩⟩
  obtain ⟨i, hi, rfl⟩ := List.getElem_of_mem hq
  have h1 := (h.rows.vals.at_ i).sl
  have e1 : (gs.map (·.1)).getD i nilv = gs[i].1 := by simp [hi]
  have e2 : (gs.map fun q => q.2.map (·.1)).getD i [] = gs[i].2.map (·.1) := by simp [hi]
  rw [e1, e2] at h1
  exact (h.cub.sp _ hq).wr' k h1 hb
theorem MatC.nilR (s t : Nat) (w : World) (hst : s ≤ t) : MatC s t w nilv [] := by
  refine ⟨⟨⟨⟨none, 0, rfl, Nat.le_refl _, by omega, fun k u hu => by simp at hu⟩⟩, rfl, rfl, fun i => (rows_nilv s w).mono (Nat.le_refl _) hst⟩, RowsO.nil _ _, fun b hb => ?_, ⟨⟨0, 0, ⟨⟨none, 0, rfl, Nat.le_refl _, by omega, fun k u hu => by simp at hu⟩⟩, fun b _ => .inr (Nat.zero_le _)⟩, fun q hq => (by cases hq)⟩⟩
  obtain ⟨r, hr, _⟩ := hb
  cases hr
end
section
variable {P : Program} {N : Nat} {ops : Array Oper} {K : Env → World → Prop} {ρ : Env} {w0 w1 : World} {l : List Oper}
variable {ty ty2 : TypeId} {pos pos2 : String} {after after2 : Array Edge} {g g2 : Option (Nat × Bool)} {d d2 : Nat}
end
end Go.Pc

/-
  A homomorphism's value, and one of the call's own; stores into a part of a block.
  Conditions: none; nothing of the program stands here.
-/
namespace Go.Pc
open Go Go.RowKit
class HomV (lo hi : outParam Nat) (w : World) (v : Value) (p q : outParam Pr) (xss : outParam (List (List Int))) : Prop where
  ex : ∃ a0 a1 a2 a3 a4 a5 a6 us, v = .agg #[a0, a1, a2, a3, a4, a5, a6] ∧ Pres lo hi w (.agg #[a0, a1, a2]) p ∧ Pres lo hi w (.agg #[a3, a4, a5]) q ∧ Rows lo hi w a6 us xss
structure HomO (s t : Nat) (w : World) (v : Value) (p q : Pr) (rs : List (Value × List Int)) : Prop where
  ex : ∃ a0 a1 a2 a3 a4 a5 a6 m0 m1 m2 m3, v = .agg #[a0, a1, a2, a3, a4, a5, a6] ∧ s ≤ m0 ∧ m0 ≤ m1 ∧ m1 ≤ m2 ∧ m2 ≤ m3 ∧ m3 ≤ t ∧ PresO m0 m1 w (.agg #[a0, a1, a2]) p ∧ PresO m1 m2 w (.agg #[a3, a4, a5]) q ∧ MatO m2 m3 w a6 rs
section
variable {lo hi lo' hi' s t b : Nat} {w w' : World} {v : Value} {p q : Pr} {xss : List (List Int)} {rs : List (Value × List Int)} {B : Nat → Prop}
theorem Pres.mono (h : Pres lo hi w v p) (h1 : lo' ≤ lo) (h2 : hi ≤ hi') : Pres lo' hi' w v p := by
  obtain ⟨vo, vp, vc, ps, cs, css, rfl, k1, k2, k3⟩ := h.ex
  exact ⟨⟨vo, vp, vc, ps, cs, css, rfl, k1.mono h1 h2, k2.mono h1 h2, ⟨k3.sl.mono h1 h2, k3.vals.len, k3.vals.len', fun i => (k3.vals.at_ i).mono h1 h2⟩⟩⟩
theorem HomV.same (h : HomV lo hi w v p q xss) (k : Same lo hi w w') : HomV lo hi w' v p q xss := by
  obtain ⟨a0, a1, a2, a3, a4, a5, a6, us, rfl, h1, h2, h3⟩ := h.ex
  exact ⟨⟨a0, a1, a2, a3, a4, a5, a6, us, rfl, h1.same k, h2.same k, h3.same k⟩⟩
theorem HomV.wide (h : HomV lo hi w v p q xss) : HomV 0 w.heap.size w v p q xss := by
  obtain ⟨a0, a1, a2, a3, a4, a5, a6, us, rfl, h1, h2, h3⟩ := h.ex
  exact ⟨⟨a0, a1, a2, a3, a4, a5, a6, us, rfl, h1.wide, h2.wide, h3.wide⟩⟩
instance (priority := low) HomV.ext [x : Ext w w'] [h : HomV lo hi w v p q xss] : HomV lo hi w' v p q xss := h.same (x.same _ _)
instance (priority := low) HomV.chg [c : Chg b w w'] [h : HomV lo hi w v p q xss] [a : Apart lo hi b] : HomV lo hi w' v p q xss := h.same (c.same a.out)
theorem HomO.hom (h : HomO s t w v p q rs) : HomV s t w v p q (rs.map (·.2)) := by
  obtain ⟨a0, a1, a2, a3, a4, a5, a6, m0, m1, m2, m3, rfl, l0, l1, l2, l3, l4, h1, h2, h3⟩ := h.ex
  exact ⟨⟨a0, a1, a2, a3, a4, a5, a6, _, rfl, h1.pres.mono (by omega) (by omega), h2.pres.mono (by omega) (by omega), h3.rows.mono (by omega) (by omega)⟩⟩
theorem HomO.wr (h : HomO s t w v p q rs) (k : Wrt B w w') (hb : ∀ b, B b → b < s ∨ t ≤ b) : HomO s t w' v p q rs := by
  obtain ⟨a0, a1, a2, a3, a4, a5, a6, m0, m1, m2, m3, rfl, l0, l1, l2, l3, l4, h1, h2, h3⟩ := h.ex
  exact ⟨a0, a1, a2, a3, a4, a5, a6, m0, m1, m2, m3, rfl, l0, l1, l2, l3, l4, h1.wr k (fun b h => by have := hb b h; omega), h2.wr k (fun b h => by have := hb b h; omega), h3.wr k (fun b h => by have := hb b h; omega)⟩
theorem Blk.cells7 {a0 a1 a2 a3 a4 a5 a6 : Value} (h : Blk w b [a0, a1, a2, a3, a4, a5, a6]) : Cell w b 0 a0 ∧ Cell w b 1 a1 ∧ Cell w b 2 a2 ∧ Cell w b 3 a3 ∧ Cell w b 4 a4 ∧ Cell w b 5 a5 ∧ Cell w b 6 a6 :=
  ⟨h.cell rfl, h.cell rfl, h.cell rfl, h.cell rfl, h.cell rfl, h.cell rfl, h.cell rfl⟩
end
section
variable {P : Program} {N : Nat} {ops : Array Oper} {K : Env → World → Prop} {l : List Oper} {ρ : Env} {w : World} {ty : TypeId} {pos : String} {after : Array Edge} {g : Option (Nat × Bool)}
end
section
variable {P : Program} {N : Nat} {ops : Array Oper} {ρ : Env} {w w0 : World}
end
section
variable {lo hi b : Nat} {w w' : World} {v : Value} {p q : Pr} {xss : List (List Int)}
/-- A block that holds a homomorphism. -/
class HomB (w : World) (b : Nat) (p q : outParam Pr) (xss : outParam (List (List Int))) : Prop where
  ex : ∃ a0 a1 a2 a3 a4 a5 a6 us, Cell w b 0 a0 ∧ Cell w b 1 a1 ∧ Cell w b 2 a2 ∧ Cell w b 3 a3 ∧ Cell w b 4 a4 ∧ Cell w b 5 a5 ∧ Cell w b 6 a6 ∧ Pres 0 w.heap.size w (.agg #[a0, a1, a2]) p ∧ Pres 0 w.heap.size w (.agg #[a3, a4, a5]) q ∧ Rows 0 w.heap.size w a6 us xss
theorem HomB.ext' (h : HomB w b p q xss) (x : Ext w w') : HomB w' b p q xss := by
  obtain ⟨a0, a1, a2, a3, a4, a5, a6, us, c0, c1, c2, c3, c4, c5, c6, hp, hq, hx⟩ := h.ex
  exact ⟨⟨a0, a1, a2, a3, a4, a5, a6, us, c0.same (x.same _ _) x.size, c1.same (x.same _ _) x.size, c2.same (x.same _ _) x.size, c3.same (x.same _ _) x.size, c4.same (x.same _ _) x.size, c5.same (x.same _ _) x.size, c6.same (x.same _ _) x.size,
    (hp.same (x.same _ _)).wide, (hq.same (x.same _ _)).wide, (hx.same (x.same _ _)).wide⟩⟩
instance (priority := low) HomB.ext [x : Ext w w'] [h : HomB w b p q xss] : HomB w' b p q xss := h.ext' x
/-- The block that a homomorphism given by value is put into. -/
theorem HomV.boxed {a0 a1 a2 a3 a4 a5 a6 : Value} (h : HomV lo hi w (.agg #[a0, a1, a2, a3, a4, a5, a6]) p q xss) (x : Ext w w') (hb : Blk w' b [a0, a1, a2, a3, a4, a5, a6]) : HomB w' b p q xss := by
  obtain ⟨d0, d1, d2, d3, d4, d5, d6, us, e, hp, hq, hx⟩ := h.ex
  injection e with e
  have f : ∀ i, (#[a0, a1, a2, a3, a4, a5, a6] : Array Value).getD i undef = (#[d0, d1, d2, d3, d4, d5, d6] : Array Value).getD i undef := fun i => by rw [e]
  obtain rfl : a0 = d0 := by simpa using f 0
  obtain rfl : a1 = d1 := by simpa using f 1
  obtain rfl : a2 = d2 := by simpa using f 2
  obtain rfl : a3 = d3 := by simpa using f 3
  obtain rfl : a4 = d4 := by simpa using f 4
  obtain rfl : a5 = d5 := by simpa using f 5
  obtain rfl : a6 = d6 := by simpa using f 6
  obtain ⟨c0, c1, c2, c3, c4, c5, c6⟩ := hb.cells7
  exact ⟨⟨_, _, _, _, _, _, _, us, c0, c1, c2, c3, c4, c5, c6, (hp.same (x.same _ _)).wide, (hq.same (x.same _ _)).wide, (hx.same (x.same _ _)).wide⟩⟩
end
end Go.Pc

/-
  Three lists that grow side by side, fields of one struct: what each takes up, and that none touches another.
  Conditions: none; nothing of the program stands here.
-/
namespace Go.Pc
open Go Go.RowKit
section
variable {A B : Nat → Prop} {e e' eo ep ec ei s s' : Nat} {w w' w0 w1 w2 w3 : World} {v v' u vo vo' vp vp' vc vc' : Value} {us : List Value} {xs ord : List Int} {rs rp : List (Value × List Int)} {gs : List (Value × List (Value × List Int))}
theorem OwnN.wr (h : OwnN e s w v us) (k : Wrt B w w') (hb : ∀ b, v.ownBlock = some b → ¬ B b) : OwnN e s w' v us := by
  induction k with
  | refl => exact h
  | step _ hB c ih => exact ih.other c (fun e => hb _ e hB)
  | grow _ x ih => exact @OwnN.ext _ _ _ _ _ _ x ih
theorem OwnN.spA (h : OwnN e s w v us) (hA : ∀ b, v.ownBlock = some b → ¬ A b) : SpA A w v us := by
  cases hv : v.ownBlock with
  | none =>
    rcases h.own.2 with ⟨rfl, h0⟩ | ⟨g, cap, cur, rfl, _⟩
    · have e0 : us = [] := List.eq_nil_of_length_eq_zero h0
      subst e0
      exact ⟨0, 0, ⟨⟨none, 0, rfl, Nat.le_refl _, by omega, fun k u hu => by simp at hu⟩⟩, fun b _ => .inr (Nat.zero_le _)⟩
    · cases hv
  | some g => exact ⟨g, g + 1, h.toSlAt hv, fun b hb => by
      have : b ≠ g := fun e => hA g hv (e ▸ hb)
      omega⟩
structure GrL (e s : Nat) (w : World) (v : Value) (rs : List (Value × List Int)) : Prop where
  own : OwnN e s w v (rs.map (·.1))
  rows : RowsO s w rs
  off : ∀ b, v.ownBlock = some b → ¬ BlkOf rs b
/-- What a list of rows takes up. -/
def FL (v : Value) (rs : List (Value × List Int)) (b : Nat) : Prop := v.ownBlock = some b ∨ BlkOf rs b
theorem GrL.of (h : GrowL e s w v rs) : GrL e s w v rs := ⟨h.lst.own, h.own, fun _ hb hB => h.lst.off h.own hB hb⟩
theorem GrL.wr (h : GrL e s w v rs) (k : Wrt B w w') (hb : ∀ b, FL v rs b → ¬ B b) : GrL e s w' v rs :=
  ⟨h.own.wr k fun b hB => hb b (.inl hB), h.rows.wr k fun b hB => hb b (.inr hB), h.off⟩
theorem GrL.lt (h : GrL e s w v rs) {b : Nat} (hb : FL v rs b) : s ≤ b ∧ b < w.heap.size := by
  rcases hb with hb | hb
  · exact h.own.lt b hb
  · exact h.rows.blk hb
theorem GrL.grow (h : GrL e s w v rs) (hs : s ≤ w.heap.size) : GrowL e s w v rs := by
  refine ⟨⟨h.own, ⟨by simp, fun i => ?_⟩, fun g hg hB => by have := (h.own.lt g hg).1; omega, fun g hg => by omega⟩, h.rows⟩
  by_cases hi : i < rs.length
  · have e1 : (rs.map (·.1)).getD i nilv = rs[i].1 := by simp [hi]
    have e2 : (rs.map (·.2)).getD i [] = rs[i].2 := by simp [hi]
    rw [e1, e2]
    have hf := h.rows.fr _ (List.getElem_mem hi)
    by_cases hn : rs[i].2 = []
    · rw [hn] at hf ⊢
      obtain ⟨X, c, hv, hc, hm, _⟩ := hf.ints.sl.ex
      exact ⟨0, 0, ⟨⟨X, c, hv, hc, hm, fun k u hu => by simp at hu⟩⟩, Nat.zero_le _, fun g _ => .inr (Nat.zero_le _)⟩
    · obtain ⟨te, b, hb, ho⟩ := hf.own hn
      refine ⟨b, b + 1, ⟨ho.own.toSl⟩, ho.lt, fun g hg => ?_⟩
      rcases hg with hg | hg
      · omega
      · have : g ≠ b := fun e => h.off g hg (e ▸ ⟨_, List.getElem_mem hi, hn, ho.block⟩)
        omega
  · have e1 : (rs.map (·.1)).getD i nilv = nilv := by rw [List.getD_eq_getElem?_getD, List.getElem?_eq_none (by simp; omega)]; rfl
    have e2 : (rs.map (·.2)).getD i [] = [] := by rw [List.getD_eq_getElem?_getD, List.getElem?_eq_none (by simp; omega)]; rfl
    rw [e1, e2]
    exact IntsAp.nil _ _
theorem Rows.ofOwn (h : OwnN e s w v (rs.map (·.1))) (hf : ∀ r, r ∈ rs → Fr s w r.1 r.2) (hs : s ≤ w.heap.size) : Rows s w.heap.size w v (rs.map (·.1)) (rs.map (·.2)) := by
  refine ⟨h.toSl, by simp, fun i => ?_⟩
  by_cases hi : i < rs.length
  · have e1 : (rs.map (·.1)).getD i nilv = rs[i].1 := by simp [hi]
    have e2 : (rs.map (·.2)).getD i [] = rs[i].2 := by simp [hi]
    rw [e1, e2]
    exact (hf _ (List.getElem_mem hi)).ints
  · have e1 : (rs.map (·.1)).getD i nilv = nilv := by rw [List.getD_eq_getElem?_getD, List.getElem?_eq_none (by simp; omega)]; rfl
    have e2 : (rs.map (·.2)).getD i [] = [] := by rw [List.getD_eq_getElem?_getD, List.getElem?_eq_none (by simp; omega)]; rfl
    rw [e1, e2]
    exact ⟨⟨none, 0, by simp, by simp, by omega, fun k u hu => by simp at hu⟩⟩
structure GrC (e e' s : Nat) (w : World) (v : Value) (gs : List (Value × List (Value × List Int))) : Prop where
  own : OwnN e s w v (gs.map (·.1))
  inn : ∀ q, q ∈ gs → OwnN e' s w q.1 (q.2.map (·.1))
  rows : RowsO s w (flat gs)
  off : ∀ b, v.ownBlock = some b → ¬ BlkOf (flat gs) b ∧ ∀ q, q ∈ gs → q.1.ownBlock ≠ some b
  offi : ∀ q, q ∈ gs → ∀ b, q.1.ownBlock = some b → ¬ BlkOf (flat gs) b
/-- What a list of lists of rows takes up. -/
def FC (v : Value) (gs : List (Value × List (Value × List Int))) (b : Nat) : Prop := v.ownBlock = some b ∨ (∃ q, q ∈ gs ∧ q.1.ownBlock = some b) ∨ BlkOf (flat gs) b
theorem GrC.nil (e e' s : Nat) (w : World) : GrC e e' s w nilv [] := ⟨OwnN.nil _ _ _, fun q h => (by cases h), RowsO.nil _ _, fun b h => (by cases h), fun q h => (by cases h)⟩
theorem GrC.wr (h : GrC e e' s w v gs) (k : Wrt B w w') (hb : ∀ b, FC v gs b → ¬ B b) : GrC e e' s w' v gs :=
  ⟨h.own.wr k fun b hB => hb b (.inl hB), fun q hq => (h.inn q hq).wr k fun b hB => hb b (.inr (.inl ⟨q, hq, hB⟩)), h.rows.wr k fun b hB => hb b (.inr (.inr hB)), h.off, h.offi⟩
theorem GrC.lt (h : GrC e e' s w v gs) {b : Nat} (hb : FC v gs b) : s ≤ b ∧ b < w.heap.size := by
  rcases hb with hb | ⟨q, hq, hb⟩ | hb
  · exact h.own.lt b hb
  · exact (h.inn q hq).lt b hb
  · exact h.rows.blk hb
theorem FC.push {b : Nat} (hL : GrL e' w0.heap.size w1 u rs) (x01 : Ext w0 w1) (x12 : Ext w1 w2) (hv : v'.ownBlock = v.ownBlock ∨ v'.ownBlock = some w2.heap.size) (h : FC v' (gs ++ [(u, rs)]) b) : FC v gs b ∨ w0.heap.size ≤ b := by
  have z1 := x01.size
  have z2 := x12.size
  rcases h with h | ⟨q, hq, h⟩ | h
  · rcases hv with e | e
    · exact .inl (.inl (e ▸ h))
    · rw [e] at h; injection h with h; exact .inr (by omega)
  · rcases List.mem_append.1 hq with hq | hq
    · exact .inl (.inr (.inl ⟨q, hq, h⟩))
    · obtain rfl := List.mem_singleton.1 hq
      exact .inr (hL.own.lt b h).1
  · rw [flat_append, flat_one] at h
    rcases blkOf_append'.1 h with h | h
    · exact .inl (.inr (.inr h))
    · exact .inr (hL.rows.blk h).1
theorem GrC.push (h : GrC e e' s w0 v gs) (x01 : Ext w0 w1) (hL : GrL e' w0.heap.size w1 u rs) (hs : s ≤ w0.heap.size) (x12 : Ext w1 w2)
    (ho : OwnN e s w3 v' (gs.map (·.1) ++ [u])) (hg : w2.grownBy w3 v.ownBlock) (hv : v'.ownBlock = v.ownBlock ∨ v'.ownBlock = some w2.heap.size) : GrC e e' s w3 v' (gs ++ [(u, rs)]) := by
  have z1 := x01.size
  have z2 := x12.size
  have x02 := x01.trans x12
  have hvl : ∀ b, v.ownBlock = some b → b < w0.heap.size := fun b hb => (h.own.lt b hb).2
  have hvn : ∀ b, v'.ownBlock = some b → (v.ownBlock = some b ∨ b = w2.heap.size) := fun b hb => by
    rcases hv with e | e
    · exact .inl (e ▸ hb)
    · rw [e] at hb; injection hb with hb; exact .inr hb.symm
  have k23 : Wrt (fun b => v.ownBlock = some b) w2 w3 := Wrt.grown hg
  have hI : ∀ q, q ∈ gs ++ [(u, rs)] → OwnN e' s w2 q.1 (q.2.map (·.1)) ∧ ∀ b, q.1.ownBlock = some b → v.ownBlock ≠ some b := fun q hq => by
    rcases List.mem_append.1 hq with hq | hq
    · exact ⟨@OwnN.ext _ _ _ _ _ _ x02 (h.inn q hq), fun b hb hB => (h.off b hB).2 q hq hb⟩
    · obtain rfl := List.mem_singleton.1 hq
      exact ⟨(@OwnN.ext _ _ _ _ _ _ x12 hL.own).mono hs, fun b hb hB => by have := hvl b hB; have := (hL.own.lt b hb).1; omega⟩
  have hR : RowsO s w2 (flat (gs ++ [(u, rs)])) := by
    rw [flat_append, flat_one]
    exact (h.rows.append x01 hs hL.rows).ext x12
  have hRv : ∀ b, BlkOf (flat (gs ++ [(u, rs)])) b → v.ownBlock ≠ some b := fun b hb hB => by
    rw [flat_append, flat_one] at hb
    rcases blkOf_append'.1 hb with hb | hb
    · exact (h.off b hB).1 hb
    · have := hvl b hB; have := (hL.rows.blk hb).1; omega
  refine ⟨by simpa using ho, fun q hq => (hI q hq).1.wr k23 (hI q hq).2, hR.wr k23 hRv, fun b hb => ⟨fun hB => ?_, fun q hq hB => ?_⟩, fun q hq b hb hB => ?_⟩
  · rcases hvn b hb with hb | rfl
    · exact hRv b hB hb
    · have := (hR.blk hB).2; omega
  · rcases hvn b hb with hb | rfl
    · exact (hI q hq).2 b hB hb
    · have := ((hI q hq).1.lt _ hB).2; omega
  · rw [flat_append, flat_one] at hB
    rcases List.mem_append.1 hq with hq | hq
    · rcases blkOf_append'.1 hB with hB | hB
      · exact h.offi q hq b hb hB
      · have := ((h.inn q hq).lt b hb).2; have := (hL.rows.blk hB).1; omega
    · obtain rfl := List.mem_singleton.1 hq
      rcases blkOf_append'.1 hB with hB | hB
      · have := (h.rows.blk hB).2; have := (hL.own.lt b hb).1; omega
      · exact hL.off b hb hB
/-- The three lists. -/
structure Tri (eo ep ec ei s : Nat) (w : World) (vo : Value) (ord : List Int) (vp : Value) (rp : List (Value × List Int)) (vc : Value) (gs : List (Value × List (Value × List Int))) : Prop where
  o : OwnN eo s w vo (ord.map (Value.int .i64))
  p : GrL ep s w vp rp
  c : GrC ec ei s w vc gs
  op : ∀ b, vo.ownBlock = some b → ¬ FL vp rp b
  oc : ∀ b, vo.ownBlock = some b → ¬ FC vc gs b
  pc : ∀ b, FL vp rp b → ¬ FC vc gs b
  lo : s ≤ w.heap.size
theorem Tri.nil (eo ep ec ei s : Nat) (w : World) (hs : s ≤ w.heap.size) : Tri eo ep ec ei s w nilv [] nilv [] nilv [] :=
  ⟨OwnN.nil _ _ _, ⟨OwnN.nil _ _ _, RowsO.nil _ _, fun b h => (by cases h)⟩, GrC.nil _ _ _ _, fun b h => (by cases h), fun b h => (by cases h), fun b h => (by
    rcases h with h | ⟨r, hr, _⟩
    · cases h
    · cases hr), hs⟩
theorem Tri.wr (h : Tri eo ep ec ei s w vo ord vp rp vc gs) (k : Wrt B w w') (hB : ∀ b, B b → b < s) : Tri eo ep ec ei s w' vo ord vp rp vc gs :=
  ⟨h.o.wr k fun b hb hb' => by have := (h.o.lt b hb).1; have := hB b hb'; omega, h.p.wr k fun b hb hb' => by have := (h.p.lt hb).1; have := hB b hb'; omega,
   h.c.wr k fun b hb hb' => by have := (h.c.lt hb).1; have := hB b hb'; omega, h.op, h.oc, h.pc, Nat.le_trans h.lo k.size⟩
theorem Tri.ext (h : Tri eo ep ec ei s w vo ord vp rp vc gs) (x : Ext w w') : Tri eo ep ec ei s w' vo ord vp rp vc gs := h.wr (.ofExt (B := fun _ => False) x) fun b hb => hb.elim
theorem GStep.wrt (h : GStep w w' v v') : Wrt (fun b => v.ownBlock = some b) w w' := by
  obtain ⟨w2, x, hg, _⟩ := h.ex
  exact (Wrt.ofExt x).trans (Wrt.grown hg)
theorem GStep.new (h : GStep w w' v v') {b : Nat} (hb : v'.ownBlock = some b) : v.ownBlock = some b ∨ w.heap.size ≤ b := by
  obtain ⟨w2, x, hg, e | e⟩ := h.ex
  · exact .inl (e ▸ hb)
  · rw [e] at hb; injection hb with hb; have := x.size; exact .inr (by omega)
theorem FL.push {b : Nat} (hu : Fr w0.heap.size w1 u xs) (x01 : Ext w0 w1) (hst : GStep w1 w' v v') (h : FL v' (rs ++ [(u, xs)]) b) : FL v rs b ∨ w0.heap.size ≤ b := by
  have z1 := x01.size
  rcases h with h | h
  · rcases hst.new h with h | h
    · exact .inl (.inl h)
    · exact .inr (by omega)
  · rcases blkOf_append'.1 h with h | ⟨r, hr, hn, eb⟩
    · exact .inl (.inr h)
    · obtain rfl := List.mem_singleton.1 hr
      obtain ⟨g, e1, e2, _⟩ := hu.block hn
      rw [eb] at e1; injection e1 with e1
      exact .inr (by omega)
theorem Tri.rowss (h : Tri eo ep ec ei s w vo ord vp rp vc gs) : Rowss s w.heap.size w vc (gs.map (·.1)) (gs.map fun q => q.2.map (·.1)) (gs.map fun q => q.2.map (·.2)) := by
  refine ⟨h.c.own.toSl, by simp, by simp, fun i => ?_⟩
  by_cases hi : i < gs.length
  · have e1 : (gs.map (·.1)).getD i nilv = gs[i].1 := by simp [hi]
    have e2 : (gs.map fun q => q.2.map (·.1)).getD i [] = gs[i].2.map (·.1) := by simp [hi]
    have e3 : (gs.map fun q => q.2.map (·.2)).getD i [] = gs[i].2.map (·.2) := by simp [hi]
    rw [e1, e2, e3]
    refine Rows.ofOwn (h.c.inn _ (List.getElem_mem hi)) (fun r hr => h.c.rows.fr r ?_) h.lo
    exact List.mem_flatten.2 ⟨gs[i].2, List.mem_map.2 ⟨gs[i], List.getElem_mem hi, rfl⟩, hr⟩
  · have e1 : (gs.map (·.1)).getD i nilv = nilv := by rw [List.getD_eq_getElem?_getD, List.getElem?_eq_none (by simp; omega)]; rfl
    have e2 : (gs.map fun q => q.2.map (·.1)).getD i [] = [] := by rw [List.getD_eq_getElem?_getD, List.getElem?_eq_none (by simp; omega)]; rfl
    have e3 : (gs.map fun q => q.2.map (·.2)).getD i [] = [] := by rw [List.getD_eq_getElem?_getD, List.getElem?_eq_none (by simp; omega)]; rfl
    rw [e1, e2, e3]
    exact (rows_nilv s w).mono (Nat.le_refl _) h.lo
theorem Tri.pres (h : Tri eo ep ec ei s w vo ord vp rp vc gs) : PresO s w.heap.size w (.agg #[vo, vp, vc]) ⟨ord, rp.map (·.2), gs.map fun q => q.2.map (·.2)⟩ := by
  have hfo := h.o.toFr
  have hO : RowsO s w ((vo, ord) :: (rp ++ flat gs)) := by
    refine ⟨fun r hr => ?_, List.pairwise_cons.2 ⟨fun r hr h1 h2 e => ?_, List.pairwise_append.2 ⟨h.p.rows.sep, h.c.rows.sep, fun a ha b hb h1 h2 e => ?_⟩⟩⟩
    · rcases List.mem_cons.1 hr with rfl | hr
      · exact hfo
      · rcases List.mem_append.1 hr with hr | hr
        · exact h.p.rows.fr r hr
        · exact h.c.rows.fr r hr
    · obtain ⟨g, e1, _⟩ := hfo.block h1
      rcases List.mem_append.1 hr with hr | hr
      · exact h.op g e1 (.inr ⟨r, hr, h2, e ▸ e1⟩)
      · exact h.oc g e1 (.inr (.inr ⟨r, hr, h2, e ▸ e1⟩))
    · obtain ⟨g, e1, _⟩ := (h.p.rows.fr a ha).block h1
      exact h.pc g (.inr ⟨a, ha, h1, e1⟩) (.inr (.inr ⟨b, hb, h2, e ▸ e1⟩))
  have hp : ∀ b, vp.ownBlock = some b → ¬ BlkOf ((vo, ord) :: (rp ++ flat gs)) b := fun b hb ⟨r, hr, hn, e⟩ => by
    rcases List.mem_cons.1 hr with rfl | hr
    · exact h.op b e (.inl hb)
    · rcases List.mem_append.1 hr with hr | hr
      · exact h.p.off b hb ⟨r, hr, hn, e⟩
      · exact h.pc b (.inl hb) (.inr (.inr ⟨r, hr, hn, e⟩))
  have hc : ∀ b, (vc.ownBlock = some b ∨ ∃ q, q ∈ gs ∧ q.1.ownBlock = some b) → ¬ BlkOf ((vo, ord) :: (rp ++ flat gs)) b := fun b hb ⟨r, hr, hn, e⟩ => by
    have hF : FC vc gs b := hb.imp id .inl
    rcases List.mem_cons.1 hr with rfl | hr
    · exact h.oc b e hF
    · rcases List.mem_append.1 hr with hr | hr
      · exact h.pc b (.inr ⟨r, hr, hn, e⟩) hF
      · rcases hb with hb | ⟨q, hq, hb⟩
        · exact (h.c.off b hb).1 ⟨r, hr, hn, e⟩
        · exact h.c.offi q hq b hb ⟨r, hr, hn, e⟩
  exact ⟨vo, vp, vc, rp, gs, rfl, hO, fun b hb => (hO.blk hb).2, h.p.own.spA hp, ⟨h.c.own.spA fun b hb => hc b (.inl hb), fun q hq => (h.c.inn q hq).spA fun b hb => hc b (.inr ⟨q, hq, hb⟩)⟩, rfl, rfl, hfo.ints, Rows.ofOwn h.p.own h.p.rows.fr h.lo, h.rowss⟩
end
end Go.Pc

/-
  A struct of three lists that is built up field by field: the append of a row to a list of lists, the store of a field that ends a drawn region, what stays.
  Conditions: none; nothing of the program stands here.
-/
namespace Go.Pc
open Go Go.RowKit
section
variable {P : Program} {N : Nat} {ops : Array Oper} {π : List Nat} {S : World → Prop} {K : Env → World → Prop} {ρ : Env} {w w0 w1 w00 : World} {l : List Oper}
variable {i : Nat} {ty ty2 : TypeId} {pos pos2 : String} {after after2 : Array Edge} {g g2 : Option (Nat × Bool)} {d d2 : Nat}
end
section
variable {B : Nat → Prop} {e e' eo ep ec ei s s' s0 bo : Nat} {w w' w0 w1 w2 w3 w4 w5 : World} {v v' u vo vo' vp vp' vc vc' : Value} {us : List Value} {cs : List Value} {xs ord : List Int} {rs rp : List (Value × List Int)} {gs : List (Value × List (Value × List Int))}
theorem Tri.chg (h : Tri eo ep ec ei s w vo ord vp rp vc gs) (c : Chg bo w w') (hb : bo < s) : Tri eo ep ec ei s w' vo ord vp rp vc gs :=
  h.wr (.one (B := fun g => g = bo) rfl c) fun b e => e ▸ hb
theorem Tri.ob (h : Tri eo ep ec ei s w vo ord vp rp vc gs) (hb : bo < s) : ∀ b, vo.ownBlock = some b → bo < b := fun b e => Nat.lt_of_lt_of_le hb (h.o.lt b e).1
theorem PresO.sub {t t' : Nat} {p : Pr} (h : PresO s t w v p) (hs : s' ≤ s) (ht : t ≤ t') : PresO s' t' w v p := by
  obtain ⟨vo, vp, vc, rp, gs, rfl, hO, hl, h1, h2, h3, h4, h5, h6, h7⟩ := h.ex
  exact ⟨vo, vp, vc, rp, gs, rfl, hO.mono hs, fun b hb => Nat.lt_of_lt_of_le (hl b hb) ht, h1, h2, h3, h4, h5.mono hs ht, h6.mono hs ht, ⟨h7.sl.mono hs ht, h7.vals.len, h7.vals.len', fun i => (h7.vals.at_ i).mono hs ht⟩⟩
theorem getD_cut {α : Type} (l : List α) (z : α) {a k : Nat} (i : Nat) (hi : a + i < k) : ((l.take k).drop a).getD i z = l.getD (a + i) z := by
  rw [List.getD_eq_getElem?_getD, List.getElem?_drop, List.getElem?_take, if_pos hi, ← List.getD_eq_getElem?_getD]
theorem Rows.cut {lo hi : Nat} {xss : List (List Int)} (h : Rows lo hi w v us xss) {a k : Nat} (hlk : a ≤ k) (hk : k ≤ us.length) : Rows lo hi w (Pc.cut v a k) ((us.take k).drop a) ((xss.take k).drop a) := by
  refine ⟨h.sl.cut hlk hk, by simp [h.vals.len], fun i => ?_⟩
  by_cases hi : a + i < k
  · rw [getD_cut _ _ _ hi, getD_cut _ _ _ hi]
    exact h.vals.at_ _
  · have e1 : ((us.take k).drop a).getD i nilv = nilv := by rw [List.getD_eq_getElem?_getD, List.getElem?_eq_none (by simp; omega)]; rfl
    have e2 : ((xss.take k).drop a).getD i [] = [] := by rw [List.getD_eq_getElem?_getD, List.getElem?_eq_none (by simp; omega)]; rfl
    rw [e1, e2]
    exact ⟨⟨none, 0, by simp, by simp, by omega, fun k u hu => by simp at hu⟩⟩
end
end Go.Pc

/-
  A presentation whose three lists came one after the other; homomorphisms put together; the sizes of a group's lists.
  Conditions: none; nothing of the program stands here.
-/
namespace Go.Pc
open Go Go.RowKit
section
variable {e e' ep ec ei s m0 m1 m2 : Nat} {w w' : World} {v vo vp vc : Value} {us : List Value} {xs ord : List Int} {rs rp : List (Value × List Int)} {gs : List (Value × List (Value × List Int))}
/-- A homomorphism out of its parts. -/
theorem HomO.of {s t m0 m1 m2 m3 : Nat} {a0 a1 a2 a3 a4 a5 a6 : Value} {p q : Pr} (h1 : PresO m0 m1 w (.agg #[a0, a1, a2]) p) (h2 : PresO m1 m2 w (.agg #[a3, a4, a5]) q) (h3 : MatO m2 m3 w a6 rs) (l0 : s ≤ m0) (l1 : m0 ≤ m1) (l2 : m1 ≤ m2) (l3 : m2 ≤ m3) (l4 : m3 ≤ t) : HomO s t w (.agg #[a0, a1, a2, a3, a4, a5, a6]) p q rs :=
  ⟨a0, a1, a2, a3, a4, a5, a6, m0, m1, m2, m3, rfl, l0, l1, l2, l3, l4, h1, h2, h3⟩
end
end Go.Pc
namespace Go.Proofs.Ytjljbfcdpdckeaa
open Go Go.Pc
end Go.Proofs.Ytjljbfcdpdckeaa

/-
  Drawn regions in which a variable is made, at whatever moment; stores of structs in drawn regions.
  Conditions: none; nothing of the program stands here.
-/
namespace Go.Pc
open Go Go.RowKit
section
variable {P : Program} {N : Nat} {ops : Array Oper} {π : List Nat} {S : World → Prop} {K : Env → World → Prop} {ρ : Env} {w w0 : World}
variable {i : Nat} {d : Nat} {op : Op} {ty : TypeId} {pos : String} {after : Array Edge} {g : Option (Nat × Bool)}
end
section
variable {P : Program} {N : Nat} {ops : Array Oper} {π : List Nat} {K : Env → World → Prop} {ρ : Env} {w00 w1 : World}
variable {i : Nat} {ty ty2 : TypeId} {pos pos2 : String} {after after2 : Array Edge} {g g2 : Option (Nat × Bool)} {d d2 : Nat}
end
section
variable {B : Nat → Prop} {ep ec ei m0 m1 m2 bq : Nat} {w w' : World} {vo vp vc : Value} {ord : List Int} {rp : List (Value × List Int)} {gs : List (Value × List (Value × List Int))}
/-- The first two lists of a presentation that is being copied into a variable. -/
structure Hd (ep m0 m1 m2 bq : Nat) (w : World) (vo : Value) (ord : List Int) (vp : Value) (rp : List (Value × List Int)) : Prop where
  o : Fr m0 w vo ord
  ol : ord ≠ [] → ∀ b, vo.ownBlock = some b → b < m1 ∧ b ≠ bq
  p : GrL ep m1 w vp rp
  pl : ∀ b, FL vp rp b → b < m2 ∧ b ≠ bq
  l1 : m0 ≤ m1
  l2 : m1 ≤ m2
  l3 : m2 ≤ w.heap.size
theorem Hd.wr (h : Hd ep m0 m1 m2 bq w vo ord vp rp) (k : Wrt B w w') (hB : ∀ b, B b → b = bq ∨ m2 ≤ b) : Hd ep m0 m1 m2 bq w' vo ord vp rp :=
  ⟨h.o.wr k fun hn b hb hb' => by
    have h1 := h.ol hn b hb
    have h2 := h.l2
    rcases hB b hb' with e | e
    · exact h1.2 e
    · omega, h.ol, h.p.wr k fun b hb hb' => by
    have h1 := h.pl b hb
    rcases hB b hb' with e | e
    · exact h1.2 e
    · omega, h.pl, h.l1, h.l2, Nat.le_trans h.l3 k.size⟩
theorem Hd.ext (h : Hd ep m0 m1 m2 bq w vo ord vp rp) (x : Ext w w') : Hd ep m0 m1 m2 bq w' vo ord vp rp := h.wr (.ofExt (B := fun _ => False) x) fun b hb => hb.elim
/-- One more list of rows. -/
theorem GrC.field {w1 w2 w3 : World} {s bo : Nat} {u : Value} {rs : List (Value × List Int)} {vc' : Value} (h : GrC ec ei s w vc gs) (hs : s ≤ w.heap.size) (x : Ext w w1) (hL : GrL ei w.heap.size w1 u rs) (hO : OwnN ec s w2 vc' (gs.map (·.1) ++ [u])) (hst : GStep w1 w2 vc vc') (c : Chg bo w2 w3) (hb : bo < s) : GrC ec ei s w3 vc' (gs ++ [(u, rs)]) := by
  obtain ⟨w5, x5, hg, ha⟩ := hst.ex
  exact (h.push x hL hs x5 hO hg ha).wr (.one (B := fun g => g = bo) rfl c) fun b hb' e => by
    have h1 := (h.push x hL hs x5 hO hg ha).lt hb'
    omega
theorem Hd.of {sA : Nat} {wB wC wD w6 : World} (hf : Fr sA wB vo ord) (h0 : m0 ≤ sA) (hA : sA ≤ wC.heap.size) (hBC : wB.heap.size ≤ wC.heap.size) (hG : GrowL ep wC.heap.size wD vp rp) (xB : Ext wB w6) (xD : Ext wD w6) (hCD : wC.heap.size ≤ wD.heap.size) (hq : bq < sA ∨ (wB.heap.size ≤ bq ∧ bq < wC.heap.size) ∨ wD.heap.size ≤ bq) : Hd ep m0 wC.heap.size w6.heap.size bq w6 vo ord vp rp := by
  have z1 := xB.size
  have z2 := xD.size
  have hL := GrL.of hG
  refine ⟨(hf.ext' xB).mono h0, fun hn b hb => ?_, hL.wr (.ofExt (B := fun _ => False) xD) fun b _ hb => hb.elim, fun b hb => ?_, by omega, by omega, Nat.le_refl _⟩
  · obtain ⟨g, e1, l1, l2⟩ := hf.block hn
    rw [hb] at e1; injection e1 with e1
    omega
  · have := hL.lt hb
    omega
end
end Go.Pc

/-
  Homomorphisms by images: what the tests ask for.
  Conditions: none.
-/
namespace Go.Proofs.Ytjljbfcdpdckeaa
open Go Go.Pc
end Go.Proofs.Ytjljbfcdpdckeaa

/-
  Walks: the statement's own helpers on lists: sizes, copies, comparisons (szInt64S, .., toInt64S, .., eqInt64SSS).
  Conditions: stated at each theorem.
-/
namespace Go.Proofs.Ytjljbfcdpdckeaa
open Go Go.Pc
theorem szInt64S_ok {w : World} {v : Value} {xs : List Int} {k : Int} {lo hi : Nat} [hx : Ints lo hi w v xs] (hk : 0 ≤ k ∧ k ≤ 2000000) :
    Calls Try.prog 57 #[v, .int .i64 k] w (Ret fun v w' => ∃ j : Int, v = .int .i64 j ∧ (j < 0 ∨ 0 ≤ j ∧ j ≤ k ∧ (xs.length : Int) ≤ k) ∧ Ext w w') := by
  have hl : xs.length ≤ 9223372036854775807 := by
    obtain ⟨A, c, _, hc, hm, _⟩ := hx.sl.ex
    simp at hc; omega
  refine enter (args := [v, .int .i64 k]) (l := [.tmp 4]) Try.func57 rfl rfl Try.ntmps57 (by simp) ?_
  refine go ?_
  refine c_if (fun h4 => ?_) (fun h4 => ?_)
  · refine go ?_
    exact ret1 ⟨-1, rfl, .inl (by omega), Ext.refl _⟩
  · refine go ?_
    exact ret1 ⟨k - xs.length, rfl, .inr ⟨by omega, by omega, by omega⟩, Ext.refl _⟩
theorem sl_len {lo hi : Nat} {w : World} {v : Value} {us : List Value} (h : Sl lo hi w v us) : us.length ≤ 9223372036854775807 := by
  obtain ⟨A, c, _, hc, hm, _⟩ := h.ex
  omega
set_option maxHeartbeats 1000000 in
theorem szInt64SS_ok {w : World} {v : Value} {us : List Value} {xss : List (List Int)} {k : Int} {lo hi : Nat} [hx : Pc.Rows lo hi w v us xss] (hk : 0 ≤ k ∧ k ≤ 2000000) :
    Calls Try.prog 58 #[v, .int .i64 k] w (Ret fun v w' => ∃ j : Int, v = .int .i64 j ∧ (j < 0 ∨ 0 ≤ j ∧ j ≤ k ∧ (xss.length : Int) ≤ k ∧ ∀ i, ((xss.getD i []).length : Int) ≤ k) ∧ Ext w w') := by
  have hl := sl_len hx.sl
  have hul := hx.vals.len
  refine enter (args := [v, .int .i64 k]) (l := [.tmp 4]) Try.func58 rfl rfl Try.ntmps58 (by simp) ?_
  refine go ?_
  refine c_if (fun h4 => ?_) (fun h4 => ?_)
  · refine go ?_
    exact ret1 ⟨-1, rfl, .inl (by omega), Ext.refl _⟩
  refine go ?_
  refine r_for xss.length (fun q ρ w' => ∃ j : Int, Has ρ [(0, v), (1, .int .i64 j), (5, .int .i64 q)] ∧ Ext w w' ∧ 0 ≤ j ∧ j ≤ k ∧ ∀ i, i < q → ((xss.getD i []).length : Int) ≤ k) ?_ ?_
  · refine ⟨k - xss.length, ?_, Ext.refl _, by omega, by omega, fun i hi => by omega⟩
    exact hasP
  rintro q ρ w2 hq ⟨j, hH, he2, hj0, hjk, hI⟩
  refine rwp_has hH fun ρ0 => ?_
  refine go ?_
  refine c_if (fun h5 => ?_) (fun h5 => ?_)
  · refine go ?_
    refine rc (szInt64S_ok (xs := xss.getD q []) (k := j) ?_) (next := fun v3 w3 h3 => ?_)
    · omega
    obtain ⟨j3, rfl, hj3, he3⟩ := h3
    refine go ?_
    refine c_if (fun h6 => ?_) (fun h6 => ?_)
    · refine go ?_
      exact ret1 ⟨-1, rfl, .inl (by omega), he2.trans he3⟩
    · have h7 : 0 ≤ j3 ∧ j3 ≤ j ∧ ((xss.getD q []).length : Int) ≤ j := by
        rcases hj3 with h | h
        · omega
        · exact h
      refine go ?_
      refine forQ_normal (by omega) ⟨j3, ?_, he2.trans he3, by omega, by omega, fun i hi => ?_⟩
      · exact hasP
      · by_cases e : i = q
        · subst e; omega
        · exact hI i (by omega)
  · refine go ?_
    refine ret1 ⟨j, rfl, .inr ⟨hj0, hjk, by omega, fun i => ?_⟩, he2⟩
    by_cases hi : i < xss.length
    · exact hI i (by omega)
    · rw [List.getD_eq_getElem?_getD, List.getElem?_eq_none (by omega)]; simp; omega
set_option maxHeartbeats 1000000 in
theorem szInt64SSS_ok {w : World} {v : Value} {us : List Value} {uss : List (List Value)} {xsss : List (List (List Int))} {k : Int} {lo hi : Nat} [hx : Rowss lo hi w v us uss xsss] (hk : 0 ≤ k ∧ k ≤ 2000000) :
    Calls Try.prog 59 #[v, .int .i64 k] w (Ret fun v w' => ∃ j : Int, v = .int .i64 j ∧ (j < 0 ∨ 0 ≤ j ∧ j ≤ k ∧ (xsss.length : Int) ≤ k ∧ ∀ i, ((xsss.getD i []).length : Int) ≤ k ∧ ∀ h, (((xsss.getD i []).getD h []).length : Int) ≤ k) ∧ Ext w w') := by
  have hl := sl_len hx.sl
  have hul := hx.vals.len
  refine enter (args := [v, .int .i64 k]) (l := [.tmp 4]) Try.func59 rfl rfl Try.ntmps59 (by simp) ?_
  refine go ?_
  refine c_if (fun h4 => ?_) (fun h4 => ?_)
  · refine go ?_
    exact ret1 ⟨-1, rfl, .inl (by omega), Ext.refl _⟩
  refine go ?_
  refine r_for xsss.length (fun q ρ w' => ∃ j : Int, Has ρ [(0, v), (1, .int .i64 j), (5, .int .i64 q)] ∧ Ext w w' ∧ 0 ≤ j ∧ j ≤ k ∧ ∀ i, i < q → ((xsss.getD i []).length : Int) ≤ k ∧ ∀ h, (((xsss.getD i []).getD h []).length : Int) ≤ k) ?_ ?_
  · refine ⟨k - xsss.length, ?_, Ext.refl _, by omega, by omega, fun i hi => by omega⟩
    exact hasP
  rintro q ρ w2 hq ⟨j, hH, he2, hj0, hjk, hI⟩
  refine rwp_has hH fun ρ0 => ?_
  refine go ?_
  refine c_if (fun h5 => ?_) (fun h5 => ?_)
  · refine go ?_
    refine rc (szInt64SS_ok (xss := xsss.getD q []) (k := j) ?_) (next := fun v3 w3 h3 => ?_)
    · omega
    obtain ⟨j3, rfl, hj3, he3⟩ := h3
    refine go ?_
    refine c_if (fun h6 => ?_) (fun h6 => ?_)
    · refine go ?_
      exact ret1 ⟨-1, rfl, .inl (by omega), he2.trans he3⟩
    · have h7 : 0 ≤ j3 ∧ j3 ≤ j ∧ ((xsss.getD q []).length : Int) ≤ j ∧ ∀ i, (((xsss.getD q []).getD i []).length : Int) ≤ j := by
        rcases hj3 with h | h
        · omega
        · exact h
      refine go ?_
      refine forQ_normal (by omega) ⟨j3, ?_, he2.trans he3, by omega, by omega, fun i hi => ?_⟩
      · exact hasP
      · by_cases e : i = q
        · subst e; exact ⟨by omega, fun h => by have := h7.2.2.2 h; omega⟩
        · exact hI i (by omega)
  · refine go ?_
    refine ret1 ⟨j, rfl, .inr ⟨hj0, hjk, by omega, fun i => ?_⟩, he2⟩
    by_cases hi : i < xsss.length
    · exact hI i (by omega)
    · rw [List.getD_eq_getElem?_getD, List.getElem?_eq_none (by omega)]; simp; omega
set_option maxHeartbeats 1000000 in
theorem toInt64S_ok {w : World} {v : Value} {xs : List Int} {lo hi : Nat} [hx : Ints lo hi w v xs] (hl : xs.length ≤ 2000000) :
    Calls Try.prog 14 #[v] w (Ret fun v' w' => Ext w w' ∧ Fr w.heap.size w' v' xs) := by
  refine enter (args := [v]) (l := [.tmp 2]) Try.func14 rfl rfl Try.ntmps14 (by simp) ?_
  refine go ?_
  refine st_make_int (by ((try simp only [ev_tmp, ev_const, ev_func, get_put, get_args, get_putL, get_putL_nil, Nat.reduceEqDiff, reduceIte, List.getD_cons_zero, List.getD_cons_succ, List.getD_nil]); first | done | with_reducible rfl)) (by ((try simp only [ev_tmp, ev_const, ev_func, get_put, get_args, get_putL, get_putL_nil, Nat.reduceEqDiff, reduceIte, List.getD_cons_zero, List.getD_cons_succ, List.getD_nil]); first | done | with_reducible rfl)) (by omega) (by omega) (by first | exact True.intro | exact ⟨_, rfl, by ((try simp only [ev_tmp, ev_const, ev_func, get_put, get_args, get_putL, get_putL_nil, Nat.reduceEqDiff, reduceIte, List.getD_cons_zero, List.getD_cons_succ, List.getD_nil, Bool.not_true, Bool.not_false]); first | done | with_reducible rfl)⟩) fun w1 v1 he1 hs1 ho1 => ?_
  replace hx := hx.wide
  have ap : Apart 0 w.heap.size w.heap.size := ⟨.inr (Nat.le_refl _)⟩
  refine go ?_
  refine r_for xs.length (fun k ρ w' => ∃ ys, Has ρ [(0, v), (3, v1), (4, .int .i64 k)] ∧ Chg w.heap.size w1 w' ∧ OwnI 2 w.heap.size w' v1 ys ∧ ys.length = xs.length ∧ ∀ i, i < k → ys.getD i 0 = xs.getD i 0) ?_ ?_
  · refine ⟨_, ?_, Chg.refl _ _, ho1, by simp, fun i hi => by omega⟩
    exact hasP
  clear ho1
  rintro k ρ w2 hk ⟨ys, hH, hc2, ho2, hl2, hI⟩
  refine rwp_has hH fun ρ0 => ?_
  refine go ?_
  refine c_if (fun h4 => ?_) (fun h4 => ?_)
  · refine go ?_
    refine st_store_int (by ((try simp only [ev_tmp, ev_const, ev_func, get_put, get_args, get_putL, get_putL_nil, Nat.reduceEqDiff, reduceIte, List.getD_cons_zero, List.getD_cons_succ, List.getD_nil]); first | done | with_reducible rfl)) (by ((try simp only [ev_tmp, ev_const, ev_func, get_put, get_args, get_putL, get_putL_nil, Nat.reduceEqDiff, reduceIte, List.getD_cons_zero, List.getD_cons_succ, List.getD_nil]); first | done | with_reducible rfl)) ?_ (by first | exact True.intro | exact ⟨_, rfl, by ((try simp only [ev_tmp, ev_const, ev_func, get_put, get_args, get_putL, get_putL_nil, Nat.reduceEqDiff, reduceIte, List.getD_cons_zero, List.getD_cons_succ, List.getD_nil, Bool.not_true, Bool.not_false]); first | done | with_reducible rfl)⟩) fun w3 hc3 hs3 ho3 => ?_
    · omega
    refine go ?_
    refine forQ_normal (by omega) ⟨_, ?_, hc2.trans hc3, ho3, by simp [hl2], fun i hi => ?_⟩
    · exact hasP
    · by_cases e : k = i
      · subst e; rw [Pc.getD_set_eq _ _ _ (by omega)]
      · rw [Pc.getD_set_ne _ _ _ _ e]; exact hI i (by omega)
  · refine go ?_
    have hy : ys = xs := list_ext0 hl2 fun i hi => hI i (by omega)
    subst hy
    exact ret1 ⟨hc2.ext he1 (Nat.le_refl _), ho2.toFr (Nat.le_refl _)⟩
theorem set_nils {α : Type} (l : List α) (z u : α) (m : Nat) : (l ++ List.replicate (m + 1) z).set l.length u = (l ++ [u]) ++ List.replicate m z := by
  simp [List.replicate_succ]
set_option maxHeartbeats 1000000 in
theorem toInt64SSO_ok {w : World} {v : Value} {us : List Value} {xss : List (List Int)} {lo hi : Nat} [hx : Pc.Rows lo hi w v us xss] (hl : xss.length ≤ 2000000) (hr : ∀ i, (xss.getD i []).length ≤ 2000000) :
    Calls Try.prog 63 #[v] w (Ret fun v' w' => Ext w w' ∧ ∃ rs, Lst 22 w.heap.size (· < w.heap.size) w' v' (rs.map (·.1)) xss ∧ xss = rs.map (·.2) ∧ RowsO w.heap.size w' rs) := by
  refine enter (args := [v]) (l := [.tmp 2]) Try.func63 rfl rfl Try.ntmps63 (by simp) ?_
  refine go ?_
  refine st_make_nil (by ((try simp only [ev_tmp, ev_const, ev_func, get_put, get_args, get_putL, get_putL_nil, Nat.reduceEqDiff, reduceIte, List.getD_cons_zero, List.getD_cons_succ, List.getD_nil]); first | done | with_reducible rfl)) (by ((try simp only [ev_tmp, ev_const, ev_func, get_put, get_args, get_putL, get_putL_nil, Nat.reduceEqDiff, reduceIte, List.getD_cons_zero, List.getD_cons_succ, List.getD_nil]); first | done | with_reducible rfl)) (by omega) (by omega) (by first | exact True.intro | exact ⟨_, rfl, by ((try simp only [ev_tmp, ev_const, ev_func, get_put, get_args, get_putL, get_putL_nil, Nat.reduceEqDiff, reduceIte, List.getD_cons_zero, List.getD_cons_succ, List.getD_nil, Bool.not_true, Bool.not_false]); first | done | with_reducible rfl)⟩) fun w1 v1 he1 hs1 ho1 => ?_
  have hvb := ho1.toN_block
  have hL1 : Lst 22 w.heap.size (· < w.heap.size) w1 v1 _ _ := Lst.ofNils ho1 (Nat.le_refl _) (by omega) (fun g hg => by omega)
  refine go ?_
  refine r_for xss.length (fun k ρ w' => ∃ rs : List (Value × List Int), Has ρ [(0, v), (3, v1), (4, .int .i64 k)] ∧ Ext w w' ∧ Lst 22 w.heap.size (· < w.heap.size) w' v1 (rs.map (·.1) ++ List.replicate (xss.length - k) nilv) (rs.map (·.2) ++ List.replicate (xss.length - k) []) ∧ rs.length = k ∧ rs.map (·.2) = xss.take k ∧ RowsO (w.heap.size + 1) w' rs ∧ w.heap.size + 1 ≤ w'.heap.size) ?_ ?_
  · refine ⟨[], ?_, he1, by simpa using hL1, rfl, by simp, RowsO.nil _ _, by omega⟩
    exact hasP
  clear hL1 ho1
  rintro k ρ w2 hk ⟨rs, hH, he2, hL2, hl2, hI, hO2, hsz2⟩
  refine rwp_has hH fun ρ0 => ?_
  have hLr := hL2.toRows
  refine go ?_
  refine c_if (fun h4 => ?_) (fun h4 => ?_)
  · refine go ?_
    refine rc (toInt64S_ok (xs := xss.getD k []) (hr k)) (next := fun v3 w3 h3 => ?_)
    obtain ⟨he3, hf3⟩ := h3
    have hL3 := hL2.ext he3
    have hO3 := hL3.toOwn hvb
    have hz2 := he2.size
    have hul : (rs.map (·.1) ++ List.replicate (xss.length - k) nilv).length = xss.length := by simp; omega
    have hul2 : (rs.map (·.2) ++ List.replicate (xss.length - k) ([] : List Int)).length = xss.length := by simp; omega
    refine go ?_
    refine st_store_val (h := hO3) (by ((try simp only [ev_tmp, ev_const, ev_func, get_put, get_args, get_putL, get_putL_nil, Nat.reduceEqDiff, reduceIte, List.getD_cons_zero, List.getD_cons_succ, List.getD_nil]); first | done | with_reducible rfl)) (by ((try simp only [ev_tmp, ev_const, ev_func, get_put, get_args, get_putL, get_putL_nil, Nat.reduceEqDiff, reduceIte, List.getD_cons_zero, List.getD_cons_succ, List.getD_nil]); first | done | with_reducible rfl)) ?_ ?_ (by first | exact True.intro | exact ⟨_, rfl, by ((try simp only [ev_tmp, ev_const, ev_func, get_put, get_args, get_putL, get_putL_nil, Nat.reduceEqDiff, reduceIte, List.getD_cons_zero, List.getD_cons_succ, List.getD_nil, Bool.not_true, Bool.not_false]); first | done | with_reducible rfl)⟩) fun w4 hc4 hs4 ho4 => ?_
    · exact hf3.ints.sl.one
    · omega
    have hL4 := hL3.set hvb (IntsAp.ofFr hf3 (fun g hg => by
      rcases hg with hg | hg
      · omega
      · exact (hL2.lt hg).2)) hc4 ho4 (by omega)
    have hkn : k < xss.length := by omega
    have e0 : xss.length - k = (xss.length - (k + 1)) + 1 := by omega
    have e1 := set_nils (rs.map (·.1)) nilv v3 (xss.length - (k + 1))
    have e2 := set_nils (rs.map (·.2)) [] (xss.getD k []) (xss.length - (k + 1))
    rw [List.length_map, hl2, ← e0] at e1 e2
    rw [e1, e2] at hL4
    have hO4 := hO2.push he3 hsz2 hf3
    have hO5 := hO4.wr (.one (B := fun b => b = w.heap.size) rfl hc4) fun b hb e => by have := (hO4.blk hb).1; omega
    have hz3 := he3.size
    refine go ?_
    refine forQ_normal (by omega) ⟨rs ++ [(v3, xss.getD k [])], ?_, hc4.ext (he2.trans he3) (Nat.le_refl _), by simpa using hL4, by simp [hl2], ?_, hO5, by omega⟩
    · exact hasP
    · rw [List.take_succ_eq_append_getElem hkn, List.map_append, hI]; simp [hkn]
  · refine go ?_
    obtain rfl : k = xss.length := by omega
    rw [List.take_length] at hI
    refine ret1 ⟨he2, rs, ?_, hI.symm, hO2.mono (by omega)⟩
    simpa [hI] using hL2
theorem toInt64SS_ok {w : World} {v : Value} {us : List Value} {xss : List (List Int)} {lo hi : Nat} [hx : Pc.Rows lo hi w v us xss] (hl : xss.length ≤ 2000000) (hr : ∀ i, (xss.getD i []).length ≤ 2000000) :
    Calls Try.prog 63 #[v] w (Ret fun v' w' => Ext w w' ∧ ∃ us', Lst 22 w.heap.size (· < w.heap.size) w' v' us' xss) :=
  Pc.Calls.ret_mono (toInt64SSO_ok hl hr) fun _ _ ⟨h1, _, h2, _⟩ => ⟨h1, _, h2⟩
end Go.Proofs.Ytjljbfcdpdckeaa
