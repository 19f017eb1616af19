/-
  Texts of one proof, put together by program: W58, Str, W59, W60, W61, W62, W63, W64, W65, W66.
  Conditions: those told at each part.
-/
import Derived.Test.YtflniifngfiekaaB4
import Derived.Laws.BytesString
import Derived.Laws.Strings3
import Derived.Laws.Concat
set_option linter.unusedVariables false
set_option linter.unusedSimpArgs false
set_option linter.unusedSectionVars false
set_option linter.constructorNameAsVariable false
set_option linter.unnecessarySimpa false
set_option linter.deprecated false
/-
  Walk: the reference's l07Both.
  Conditions: stated at the theorem.
-/
namespace Go.Pc
open Go Go.RowKit
section
variable {P : Program} {N : Nat} {ops : Array Oper} {π : List Nat} {K : Env → World → Prop} {ρ : Env} {w w0 : World}
variable {i : Nat} {d : Nat} {ty : TypeId} {pos : String} {after : Array Edge} {g : Option (Nat × Bool)}
theorem ds_append {s x : Operand} {t e bytes lo hi' base : Nat} {z v y : Value} {us news : List Value} [ht : SlT P t e] [he : ElT P e 1 bytes z] [hv : OwnN e base w v us] [hy : Sl lo hi' w y news] (hi : opAt ops π i = some ⟨some d, .call { callee := .builtin .append, args := #[s, x], argTypes := #[t, t] }, ty, pos, after, g⟩ := by exact rfl)
    (hs : ev ρ s = v) (hx : ev ρ x = y) (hz : z.cells.size = 1) (h1 : ∀ u ∈ news, u.oneCell' = true) (hb : (us.length + news.length) * bytes ≤ 140737488355328) (hl : us.length + news.length ≤ maxLen) (hbase : base ≤ w.heap.size) (hvb : ∀ g, v.ownBlock = some g → w0.heap.size ≤ g)
    (next : ∀ v' w', OwnN e base w' v' (us ++ news) → w.grownBy w' v.ownBlock → (v'.ownBlock = v.ownBlock ∨ v'.ownBlock = some w.heap.size) → dops P N ops π (Ext w0) K (i + 1) (put ρ d v') w')
    (hd : d < N := by decide) (hg : Wants ops ρ g := by first | exact True.intro | exact ⟨_, rfl, by ((try simp only [ev_tmp, ev_const, ev_func, get_put, get_args, get_putL, get_putL_nil, Nat.reduceEqDiff, reduceIte, List.getD_cons_zero, List.getD_cons_succ, List.getD_nil, Bool.not_true, Bool.not_false]); first | done | with_reducible rfl)⟩) :
    dstp P N ops π (Ext w0) K i ρ w := by
  obtain ⟨v', w', hrun, h2, h3, h4⟩ := run_append (P := P) (ty := ty) ht.eq he hz hv hy h1 hb hl hbase
  have hex : Ex P (.call { callee := .builtin .append, args := #[s, x], argTypes := #[t, t] }) ty ρ w v' w' := by
    constructor; intro _ _ _ _
    simp [execOp, resolve, invoke, builtin, hs, hx, hrun]
  exact dstp_ex hi hd hg hex (fun hS => hS.app h3 hvb) (next v' w' h2 h3 h4)
end
end Go.Pc
namespace Go.Proofs.Ytflniifngfiekaa
open Go Go.Pc
theorem _root_.Go.Pc.Blk.grownBy {w w' : World} {b : Nat} {cs : List Value} {ob : Option Nat} (h : Blk w b cs) (hg : w.grownBy w' ob) (hb : ob ≠ some b) : Blk w' b cs := by
  obtain ⟨tb, e⟩ := h.ex
  have hl := h.lt
  exact ⟨tb, by rw [hg.block b hl (fun e => hb e.symm)]; exact e⟩
theorem PBx.start {s s0 b : Nat} {w0 w1 w2 : World} {vo vp vc : Value} {ord : List Int} {rp : RL} {gs : List (Value × RL)} (hO : O3 (fun _ => False) s w0 vo vp vc ord rp gs) (hS : Sh3 ord rp gs) (x : Ext w0 w1) (hb : b < s ∨ w0.heap.size ≤ b) (c : Chg b w1 w2) (hB : Blk w2 b [vo, vp, vc]) (hs : s0 ≤ s) : PBx s0 w2 b ord :=
  ⟨vo, vp, vc, rp, gs, hB, (((hO.weak (Y := fun g => g = b) fun g e => by subst e; exact .inr hb).ext x).mono hs).chg c (.inl rfl), hS⟩
set_option maxHeartbeats 16000000 in
theorem l07Both_ok {w : World} {va vb : Value} {p q : Pr} {lo hi lo1 hi1 : Nat} [hp : Pres lo hi w va p] [hq : Pres lo1 hi1 w vb q] (hsp : ShP p) (hsq : ShP q) (hlp : p.ord.length ≤ 30) (hlq : q.ord.length ≤ 30) :
    Calls Try.prog 57 #[va, vb] w (Ret fun v w' => Ext w w' ∧ NewP w.heap.size w' v (p.ord ++ q.ord)) := by
  replace hp := hp.wide
  replace hq := hq.wide
  obtain ⟨vo, vpw, vc, ps, cs, css, rfl, h1, h2, h3⟩ := hp.ex
  obtain ⟨uo, upw, uc, qs, ds, dss, rfl, k1, k2, k3⟩ := hq.ex
  refine enter (args := [.agg #[vo, vpw, vc], .agg #[uo, upw, uc]]) (l := [.cell 4 28]) Try.func57 rfl rfl Try.ntmps57 (by simp) ?_
  refine go ?_
  refine st_box3 (by ((try simp only [ev_tmp, ev_const, ev_func, get_put, get_args, get_putL, get_putL_nil, Nat.reduceEqDiff, reduceIte, List.getD_cons_zero, List.getD_cons_succ, List.getD_nil]); first | done | with_reducible rfl)) (by first | exact True.intro | exact ⟨_, rfl, by ((try simp only [ev_tmp, ev_const, ev_func, get_put, get_args, get_putL, get_putL_nil, Nat.reduceEqDiff, reduceIte, List.getD_cons_zero, List.getD_cons_succ, List.getD_nil, Bool.not_true, Bool.not_false]); first | done | with_reducible rfl)⟩) fun w1 ba he1 hb1 hs1 hc0 hc1 hc2 => ?_
  refine st_box3 (by ((try simp only [ev_tmp, ev_const, ev_func, get_put, get_args, get_putL, get_putL_nil, Nat.reduceEqDiff, reduceIte, List.getD_cons_zero, List.getD_cons_succ, List.getD_nil]); first | done | with_reducible rfl)) (by first | exact True.intro | exact ⟨_, rfl, by ((try simp only [ev_tmp, ev_const, ev_func, get_put, get_args, get_putL, get_putL_nil, Nat.reduceEqDiff, reduceIte, List.getD_cons_zero, List.getD_cons_succ, List.getD_nil, Bool.not_true, Bool.not_false]); first | done | with_reducible rfl)⟩) fun w2 bb he2 hb2 hs2 hd0 hd1 hd2 => ?_
  refine st_alloc (by first | exact True.intro | exact ⟨_, rfl, by ((try simp only [ev_tmp, ev_const, ev_func, get_put, get_args, get_putL, get_putL_nil, Nat.reduceEqDiff, reduceIte, List.getD_cons_zero, List.getD_cons_succ, List.getD_nil, Bool.not_true, Bool.not_false]); first | done | with_reducible rfl)⟩) fun w3 br he3 hbr hs3 hbk3 => ?_
  have hE3 := (he1.trans he2).trans he3
  have hz3 := hE3.size
  refine go ?_
  refine d_region (h := fun w4 he4 _ => ?_)
  refine dgo ?_
  refine d_end (h := ?_)
  refine go ?_
  refine d_post (fun ρ' w' => ∃ bp, Has ρ' [(2, .pointer (some ⟨ba, 0, none⟩)), (3, .pointer (some ⟨bb, 0, none⟩)), (4, .pointer (some ⟨br, 0, none⟩)), (5, .int .i64 p.ord.length), (6, .int .i64 q.ord.length), (7, .pointer (some ⟨bp, 0, none⟩))] ∧ Ext w3 w' ∧ w3.heap.size ≤ bp ∧ PBx w3.heap.size w' bp (p.ord ++ q.ord)) ?_ ?_
  · refine d_order [0, 1, 3, 4, 2, 5, 6, 7, 8] (h := fun w5 he5 _ => ?_)
    have hx5 := he4.trans he5
    have hz5 := hx5.size
    have hi5 : Ints _ _ w5 vo p.ord := @Ints.ext _ _ _ _ _ _ (hE3.trans hx5) h1
    have hj5 : Ints _ _ w5 uo q.ord := @Ints.ext _ _ _ _ _ _ (hE3.trans hx5) k1
    refine dgo ?_
    refine dt_fork (π' := [0, 1, 3, 4, 7, 2, 5, 6, 8]) (by decide) rfl rfl (by decide +kernel) ?_ ?_
    · skip
      refine ds_call (l01OwnN_ok (xs := p.ord) (by omega)) (next := fun vq w6 hh => ?_)
      obtain ⟨he6, hN⟩ := hh
      have hz6 : w5.heap.size ≤ w6.heap.size := he6.size
      refine dt_fork (π' := [0, 1, 3, 4, 2, 7, 5, 6, 8]) (by decide) rfl rfl (by decide +kernel) ?_ ?_
      · skip
        have hsl : Sl _ _ w6 uo _ := (@Ints.ext _ _ _ _ _ _ (he6) hj5).sl
        refine ds_append (hv := hN) (hy := hsl) (hs := (by ((try simp only [ev_tmp, ev_const, ev_func, get_put, get_args, get_putL, get_putL_nil, Nat.reduceEqDiff, reduceIte, List.getD_cons_zero, List.getD_cons_succ, List.getD_nil]); first | done | with_reducible rfl))) (hx := (by ((try simp only [ev_tmp, ev_const, ev_func, get_put, get_args, get_putL, get_putL_nil, Nat.reduceEqDiff, reduceIte, List.getD_cons_zero, List.getD_cons_succ, List.getD_nil]); first | done | with_reducible rfl))) (hz := rfl) (h1 := oneCells q.ord) (hb := by simp; omega) (hl := by simp [maxLen]; omega) (hbase := by omega) (hvb := fun g hg => by have := (hN.lt g hg).1; omega) (next := fun vr w7 ho hg hA => ?_)
        have he7x : Ext w5 w7 := Ext.app (he6) hg fun k hk => (hN.lt k hk).1
        have ho : OwnN 2 w5.heap.size w7 vr ((p.ord ++ q.ord).map (Value.int .i64)) := by simpa using ho
        have hio := ho.toFr.ints
        have hz7 : w6.heap.size ≤ w7.heap.size := hg.size
        refine dt_fork (π' := [0, 1, 3, 4, 2, 5, 7, 6, 8]) (by decide) rfl rfl (by decide +kernel) ?_ ?_
        · skip
          refine ds_call (l07Trivial_ok (xs := p.ord ++ q.ord) (by simp; omega)) (hR := by rintro _ _ ⟨_, _, _, _, _, _, h, _⟩; exact h) (next := fun vt w8 hh => ?_)
          obtain ⟨to, tp, tc, rp, gs, rfl, he8, hO, hS⟩ := hh
          have hz8 : w7.heap.size ≤ w8.heap.size := he8.size
          refine d_alloc (next := fun w9 bp he9 hbp hs9 hbk => ?_)
          have hz9 : w8.heap.size ≤ w9.heap.size := he9.size
          have hbkL := hbk
          refine d_store_agg (vs := [to, tp, tc]) (cs := _) hbkL (by omega) rfl rfl hO.one3 (next := fun wL hcL hsL hBL => ?_)
          refine d_end (h := ?_)
          refine ⟨rfl, bp, ?_, hcL.ext ((((he4.trans he5).trans he7x).trans he8).trans he9) (by omega), by omega, PBx.start hO hS (he9) (by omega) hcL hBL (by omega)⟩
          exact hasP
        · skip
          refine ds_alloc (next := fun w8 bp he8 hbp hs8 hbk => ?_)
          have hz8 : w7.heap.size ≤ w8.heap.size := he8.size
          have hio : Ints _ _ w8 vr _ := @Ints.ext _ _ _ _ _ _ (he8) hio
          refine dce (l07Trivial_ok (xs := p.ord ++ q.ord) (by simp; omega)) (hR := by rintro _ _ ⟨_, _, _, _, _, _, h, _⟩; exact h) (next := fun vt w9 hh => ?_)
          obtain ⟨to, tp, tc, rp, gs, rfl, he9, hO, hS⟩ := hh
          have hz9 : w8.heap.size ≤ w9.heap.size := he9.size
          have hbkL : Blk w9 bp _ := @Blk.ext _ _ _ _ (he9) hbk
          refine d_store_agg (vs := [to, tp, tc]) (cs := _) hbkL (by omega) rfl rfl hO.one3 (next := fun wL hcL hsL hBL => ?_)
          refine d_end (h := ?_)
          refine ⟨rfl, bp, ?_, hcL.ext ((((he4.trans he5).trans he7x).trans he8).trans he9) (by omega), by omega, PBx.start hO hS (Ext.refl _) (by omega) hcL hBL (by omega)⟩
          exact hasP
      · skip
        refine ds_alloc (next := fun w7 bp he7 hbp hs7 hbk => ?_)
        have hz7 : w6.heap.size ≤ w7.heap.size := he7.size
        have hN1 : OwnN 2 w5.heap.size w7 vq _ := @OwnN.ext _ _ _ _ _ _ (he7) hN
        have hsl : Sl _ _ w7 uo _ := (@Ints.ext _ _ _ _ _ _ ((he6.trans he7)) hj5).sl
        refine d_append (hv := hN1) (hy := hsl) (hs := (by ((try simp only [ev_tmp, ev_const, ev_func, get_put, get_args, get_putL, get_putL_nil, Nat.reduceEqDiff, reduceIte, List.getD_cons_zero, List.getD_cons_succ, List.getD_nil]); first | done | with_reducible rfl))) (hx := (by ((try simp only [ev_tmp, ev_const, ev_func, get_put, get_args, get_putL, get_putL_nil, Nat.reduceEqDiff, reduceIte, List.getD_cons_zero, List.getD_cons_succ, List.getD_nil]); first | done | with_reducible rfl))) (hz := rfl) (h1 := oneCells q.ord) (hb := by simp; omega) (hl := by simp [maxLen]; omega) (hbase := by omega) (hvb := fun g hg => by have := (hN1.lt g hg).1; omega) (next := fun vr w8 ho hg hA => ?_)
        have he8x : Ext w5 w8 := Ext.app ((he6.trans he7)) hg fun k hk => (hN1.lt k hk).1
        have ho : OwnN 2 w5.heap.size w8 vr ((p.ord ++ q.ord).map (Value.int .i64)) := by simpa using ho
        have hio := ho.toFr.ints
        have hz8 : w7.heap.size ≤ w8.heap.size := hg.size
        refine dce (l07Trivial_ok (xs := p.ord ++ q.ord) (by simp; omega)) (hR := by rintro _ _ ⟨_, _, _, _, _, _, h, _⟩; exact h) (next := fun vt w9 hh => ?_)
        obtain ⟨to, tp, tc, rp, gs, rfl, he9, hO, hS⟩ := hh
        have hz9 : w8.heap.size ≤ w9.heap.size := he9.size
        have hbkp : Blk w8 bp _ := hbk.grownBy hg (fun h => (by have := (hN.lt _ h).2; omega))
        have hbkL : Blk w9 bp _ := @Blk.ext _ _ _ _ (he9) hbkp
        refine d_store_agg (vs := [to, tp, tc]) (cs := _) hbkL (by omega) rfl rfl hO.one3 (next := fun wL hcL hsL hBL => ?_)
        refine d_end (h := ?_)
        refine ⟨rfl, bp, ?_, hcL.ext (((he4.trans he5).trans he8x).trans he9) (by omega), by omega, PBx.start hO hS (Ext.refl _) (by omega) hcL hBL (by omega)⟩
        exact hasP
    · skip
      refine ds_alloc (next := fun w6 bp he6 hbp hs6 hbk => ?_)
      have hz6 : w5.heap.size ≤ w6.heap.size := he6.size
      refine dce (l01OwnN_ok (xs := p.ord) (by omega)) (next := fun vq w7 hh => ?_)
      obtain ⟨he7, hN⟩ := hh
      have hz7 : w6.heap.size ≤ w7.heap.size := he7.size
      have hsl : Sl _ _ w7 uo _ := (@Ints.ext _ _ _ _ _ _ ((he6.trans he7)) hj5).sl
      refine d_append (hv := hN) (hy := hsl) (hs := (by ((try simp only [ev_tmp, ev_const, ev_func, get_put, get_args, get_putL, get_putL_nil, Nat.reduceEqDiff, reduceIte, List.getD_cons_zero, List.getD_cons_succ, List.getD_nil]); first | done | with_reducible rfl))) (hx := (by ((try simp only [ev_tmp, ev_const, ev_func, get_put, get_args, get_putL, get_putL_nil, Nat.reduceEqDiff, reduceIte, List.getD_cons_zero, List.getD_cons_succ, List.getD_nil]); first | done | with_reducible rfl))) (hz := rfl) (h1 := oneCells q.ord) (hb := by simp; omega) (hl := by simp [maxLen]; omega) (hbase := by omega) (hvb := fun g hg => by have := (hN.lt g hg).1; omega) (next := fun vr w8 ho hg hA => ?_)
      have he8x : Ext w6 w8 := Ext.app (he7) hg fun k hk => (hN.lt k hk).1
      have ho : OwnN 2 w6.heap.size w8 vr ((p.ord ++ q.ord).map (Value.int .i64)) := by simpa using ho
      have hio := ho.toFr.ints
      have hz8 : w7.heap.size ≤ w8.heap.size := hg.size
      refine dce (l07Trivial_ok (xs := p.ord ++ q.ord) (by simp; omega)) (hR := by rintro _ _ ⟨_, _, _, _, _, _, h, _⟩; exact h) (next := fun vt w9 hh => ?_)
      obtain ⟨to, tp, tc, rp, gs, rfl, he9, hO, hS⟩ := hh
      have hz9 : w8.heap.size ≤ w9.heap.size := he9.size
      have hbkL : Blk w9 bp _ := @Blk.ext _ _ _ _ ((he8x.trans he9)) hbk
      refine d_store_agg (vs := [to, tp, tc]) (cs := _) hbkL (by omega) rfl rfl hO.one3 (next := fun wL hcL hsL hBL => ?_)
      refine d_end (h := ?_)
      refine ⟨rfl, bp, ?_, hcL.ext ((((he4.trans he5).trans he6).trans he8x).trans he9) (by omega), by omega, PBx.start hO hS (Ext.refl _) (by omega) hcL hBL (by omega)⟩
      exact hasP
  -- REST
  rintro ρ w5 ⟨bp, hH, hx5, hbp5, hP5⟩
  refine thn_normal (rwp_has hH fun ρ0 => ?_)
  obtain ⟨xs, hxs⟩ : ∃ xs, p.ord ++ q.ord = xs := ⟨_, rfl⟩
  have hxl : xs.length = p.ord.length + q.ord.length := by rw [← hxs]; simp
  rw [hxs] at hP5 ⊢
  have hpp := hsp.pow
  have hpc := hsp.cnj
  have hqp := hsq.pow
  have hqc := hsq.cnj
  refine go ?_
  refine r_for p.ord.length (fun i ρ w' => Has ρ [(2, .pointer (some ⟨ba, 0, none⟩)), (3, .pointer (some ⟨bb, 0, none⟩)), (4, .pointer (some ⟨br, 0, none⟩)), (5, .int .i64 p.ord.length), (6, .int .i64 q.ord.length), (7, .pointer (some ⟨bp, 0, none⟩)), (8, .int .i64 i)] ∧ Ext w3 w' ∧ PBx w3.heap.size w' bp xs) ?_ ?_
  · refine ⟨?_, hx5, hP5⟩
    exact hasP
  clear hP5 hx5
  rintro i ρ w5 hi ⟨hH, hx5, hP5⟩
  refine rwp_has hH fun ρ1 => ?_
  have hz5 := hx5.size
  have hbp7 := hP5.lt
  have fa1 : Cell w5 ba 1 vpw := @Cell.ext _ _ _ _ _ ((he2.trans he3).trans hx5) hc1
  have fa2 : Cell w5 ba 2 vc := @Cell.ext _ _ _ _ _ ((he2.trans he3).trans hx5) hc2
  have fb1 : Cell w5 bb 1 upw := @Cell.ext _ _ _ _ _ (he3.trans hx5) hd1
  have fb2 : Cell w5 bb 2 uc := @Cell.ext _ _ _ _ _ (he3.trans hx5) hd2
  have ra1 : Pc.Rows _ _ w5 vpw ps p.pow := @Rows.ext _ _ _ _ _ _ _ (hE3.trans hx5) h2
  have ra2 : Pc.Rowss _ _ w5 vc cs css p.cnj := @Rowss.ext _ _ _ _ _ _ _ _ (hE3.trans hx5) h3
  have rb1 : Pc.Rows _ _ w5 upw qs q.pow := @Rows.ext _ _ _ _ _ _ _ (hE3.trans hx5) k2
  have rb2 : Pc.Rowss _ _ w5 uc ds dss q.cnj := @Rowss.ext _ _ _ _ _ _ _ _ (hE3.trans hx5) k3
  refine go ?_
  refine c_if (fun h8 => ?_) (fun h8 => ?_)
  · have hpi := hsp.pl i (by omega)
    have hci := hsp.cnji i (by omega)
    obtain ⟨vo', vp', vc', rp, gs, hB7, hO7, hS7⟩ := hP5.ex
    have hrl7 := hS7.lp
    obtain ⟨bq, hbq, hxq, hvq, hoq⟩ := hO7.ownP (fun e => by rw [e] at hrl7; simp at hrl7; omega)
    have c1 : Cell w5 bp 1 vp' := hB7.cell rfl
    refine go ?_
    refine d_region (h := fun w8 he8 _ => ?_)
    have hln : Len w8 vp' rp.length := by have := hoq.toSl.toLen; simpa using (⟨this.ex⟩ : Len w8 vp' _)
    have rx8 : Pc.Rows _ _ w8 vpw ps p.pow := @Rows.ext _ _ _ _ _ _ _ he8 ra1
    refine dgo ?_
    refine dc (l07Shift_ok (m := 0) (n := q.ord.length) (xs := p.pow.getD i []) rfl rfl (by omega) (by omega) (by omega)) (next := fun v9 w9 h9 => ⟨fun h => h.trans (by obtain ⟨_, h, _⟩ := h9; exact h), ?_⟩)
    obtain ⟨ys9, he9, hf9, hyl9⟩ := h9
    refine dgo ?_
    refine l_store_val (@Own.ext _ _ _ _ _ _ (he8.trans he9) hoq) hf9.ints.sl.one (m := i) (by rw [List.length_map]; omega) (next := fun w10 hc10 hs10 ho10 => ?_)
    have hP10 := PBx.putP (@Blk.ext _ _ _ _ he8 hB7) (hO7.ext he8) hS7 (i := i) (by omega) hvq hxq he9 hf9 (by omega) hc10 ho10
    have hx10 := hc10.ext (hx5.trans (he8.trans he9)) (by omega)
    clear c1 hB7 hO7 hS7 hoq hln rx8 fa1 fa2 fb1 fb2 ra1 ra2 rb1 rb2
    refine go ?_
    refine r_for (p.ord.length - 1 - i) (fun j ρ w' => Has ρ [(2, .pointer (some ⟨ba, 0, none⟩)), (3, .pointer (some ⟨bb, 0, none⟩)), (4, .pointer (some ⟨br, 0, none⟩)), (5, .int .i64 p.ord.length), (6, .int .i64 q.ord.length), (7, .pointer (some ⟨bp, 0, none⟩)), (8, .int .i64 i), (9, .int .i64 j)] ∧ Ext w3 w' ∧ PBx w3.heap.size w' bp xs) ?_ ?_
    · refine ⟨?_, hx10, hP10⟩
      exact hasP
    clear hP10 hx10 hP5 hx5 hc10 ho10 hH hbp7 hz5
    rintro j ρ w5 hj ⟨hH, hx5, hP5⟩
    refine rwp_has hH fun ρ2 => ?_
    have hz5 := hx5.size
    have hbp7 := hP5.lt
    have fa1 : Cell w5 ba 1 vpw := @Cell.ext _ _ _ _ _ ((he2.trans he3).trans hx5) hc1
    have fa2 : Cell w5 ba 2 vc := @Cell.ext _ _ _ _ _ ((he2.trans he3).trans hx5) hc2
    have fb1 : Cell w5 bb 1 upw := @Cell.ext _ _ _ _ _ (he3.trans hx5) hd1
    have fb2 : Cell w5 bb 2 uc := @Cell.ext _ _ _ _ _ (he3.trans hx5) hd2
    have ra1 : Pc.Rows _ _ w5 vpw ps p.pow := @Rows.ext _ _ _ _ _ _ _ (hE3.trans hx5) h2
    have ra2 : Pc.Rowss _ _ w5 vc cs css p.cnj := @Rowss.ext _ _ _ _ _ _ _ _ (hE3.trans hx5) h3
    have rb1 : Pc.Rows _ _ w5 upw qs q.pow := @Rows.ext _ _ _ _ _ _ _ (hE3.trans hx5) k2
    have rb2 : Pc.Rowss _ _ w5 uc ds dss q.cnj := @Rowss.ext _ _ _ _ _ _ _ _ (hE3.trans hx5) k3
    refine go ?_
    refine c_if (fun h9 => ?_) (fun h9 => ?_)
    · have hcj := hsp.cl i j (by omega) (by omega)
      obtain ⟨vo', vp', vc', rp, gs, hB7, hO7, hS7⟩ := hP5.ex
      have hgl := hS7.lg
      have hgi : i < gs.length := by omega
      have hli := hS7.li (i) hgi
      have hlc := hS7.lenC hgi
      have hgm : (gs.map fun q => q.2.map (·.2)).length = xs.length := by rw [List.length_map]; exact hgl
      obtain ⟨bq, hbq, hxq, hvq, hoq⟩ := hO7.ownC' hgi (by omega)
      have c2 : Cell w5 bp 2 vc' := hB7.cell rfl
      have hrs := hO7.rowss
      refine go ?_
      refine d_region (h := fun w8 he8 _ => ?_)
      have hrs8 : Pc.Rowss _ _ w8 vc' _ _ _ := @Rowss.ext _ _ _ _ _ _ _ _ he8 hrs
      have rx8 : Pc.Rowss _ _ w8 vc cs css p.cnj := @Rowss.ext _ _ _ _ _ _ _ _ he8 ra2
      refine dgo ?_
      refine dc (l07Shift_ok (m := 0) (n := q.ord.length) (xs := (p.cnj.getD i []).getD j []) rfl rfl (by omega) (by omega) (by omega)) (next := fun v9 w9 h9 => ⟨fun h => h.trans (by obtain ⟨_, h, _⟩ := h9; exact h), ?_⟩)
      obtain ⟨ys9, he9, hf9, hyl9⟩ := h9
      refine dgo ?_
      refine l_store_val (@Own.ext _ _ _ _ _ _ (he8.trans he9) hoq) hf9.ints.sl.one (m := j) (by rw [List.length_map]; omega) (next := fun w10 hc10 hs10 ho10 => ?_)
      have hP10 := PBx.putC (@Blk.ext _ _ _ _ he8 hB7) (hO7.ext he8) hS7 (i := i) (j := j) hgi (by omega) hvq hxq he9 hf9 (by omega) hc10 ho10
      refine go ?_
      refine forQ_normal (by omega) ⟨?_, hc10.ext (hx5.trans (he8.trans he9)) (by omega), hP10⟩
      exact hasP
    · refine go ?_
      refine forQ_normal (by omega) ⟨?_, hx5, hP5⟩
      exact hasP
  refine go ?_
  refine r_for q.ord.length (fun i ρ w' => Has ρ [(3, .pointer (some ⟨bb, 0, none⟩)), (4, .pointer (some ⟨br, 0, none⟩)), (5, .int .i64 p.ord.length), (6, .int .i64 q.ord.length), (7, .pointer (some ⟨bp, 0, none⟩)), (10, .int .i64 i)] ∧ Ext w3 w' ∧ PBx w3.heap.size w' bp xs) ?_ ?_
  · refine ⟨?_, hx5, hP5⟩
    exact hasP
  clear hP5 hx5
  rintro i ρ w5 hi ⟨hH, hx5, hP5⟩
  refine rwp_has hH fun ρ1 => ?_
  have hz5 := hx5.size
  have hbp7 := hP5.lt
  have fa1 : Cell w5 ba 1 vpw := @Cell.ext _ _ _ _ _ ((he2.trans he3).trans hx5) hc1
  have fa2 : Cell w5 ba 2 vc := @Cell.ext _ _ _ _ _ ((he2.trans he3).trans hx5) hc2
  have fb1 : Cell w5 bb 1 upw := @Cell.ext _ _ _ _ _ (he3.trans hx5) hd1
  have fb2 : Cell w5 bb 2 uc := @Cell.ext _ _ _ _ _ (he3.trans hx5) hd2
  have ra1 : Pc.Rows _ _ w5 vpw ps p.pow := @Rows.ext _ _ _ _ _ _ _ (hE3.trans hx5) h2
  have ra2 : Pc.Rowss _ _ w5 vc cs css p.cnj := @Rowss.ext _ _ _ _ _ _ _ _ (hE3.trans hx5) h3
  have rb1 : Pc.Rows _ _ w5 upw qs q.pow := @Rows.ext _ _ _ _ _ _ _ (hE3.trans hx5) k2
  have rb2 : Pc.Rowss _ _ w5 uc ds dss q.cnj := @Rowss.ext _ _ _ _ _ _ _ _ (hE3.trans hx5) k3
  refine go ?_
  refine c_if (fun h8 => ?_) (fun h8 => ?_)
  · have hpi := hsq.pl i (by omega)
    have hci := hsq.cnji i (by omega)
    obtain ⟨vo', vp', vc', rp, gs, hB7, hO7, hS7⟩ := hP5.ex
    have hrl7 := hS7.lp
    obtain ⟨bq, hbq, hxq, hvq, hoq⟩ := hO7.ownP (fun e => by rw [e] at hrl7; simp at hrl7; omega)
    have c1 : Cell w5 bp 1 vp' := hB7.cell rfl
    refine go ?_
    refine d_region (h := fun w8 he8 _ => ?_)
    have hln : Len w8 vp' rp.length := by have := hoq.toSl.toLen; simpa using (⟨this.ex⟩ : Len w8 vp' _)
    have rx8 : Pc.Rows _ _ w8 upw qs q.pow := @Rows.ext _ _ _ _ _ _ _ he8 rb1
    refine dgo ?_
    refine dc (l07Shift_ok (m := p.ord.length) (n := 0) (xs := q.pow.getD i []) rfl rfl (by omega) (by omega) (by omega)) (next := fun v9 w9 h9 => ⟨fun h => h.trans (by obtain ⟨_, h, _⟩ := h9; exact h), ?_⟩)
    obtain ⟨ys9, he9, hf9, hyl9⟩ := h9
    refine dgo ?_
    refine l_store_val (@Own.ext _ _ _ _ _ _ (he8.trans he9) hoq) hf9.ints.sl.one (m := p.ord.length + i) (by rw [List.length_map]; omega) (next := fun w10 hc10 hs10 ho10 => ?_)
    have hP10 := PBx.putP (@Blk.ext _ _ _ _ he8 hB7) (hO7.ext he8) hS7 (i := p.ord.length + i) (by omega) hvq hxq he9 hf9 (by omega) hc10 ho10
    have hx10 := hc10.ext (hx5.trans (he8.trans he9)) (by omega)
    clear c1 hB7 hO7 hS7 hoq hln rx8 fa1 fa2 fb1 fb2 ra1 ra2 rb1 rb2
    refine go ?_
    refine r_for (q.ord.length - 1 - i) (fun j ρ w' => Has ρ [(3, .pointer (some ⟨bb, 0, none⟩)), (4, .pointer (some ⟨br, 0, none⟩)), (5, .int .i64 p.ord.length), (6, .int .i64 q.ord.length), (7, .pointer (some ⟨bp, 0, none⟩)), (10, .int .i64 i), (11, .int .i64 j)] ∧ Ext w3 w' ∧ PBx w3.heap.size w' bp xs) ?_ ?_
    · refine ⟨?_, hx10, hP10⟩
      exact hasP
    clear hP10 hx10 hP5 hx5 hc10 ho10 hH hbp7 hz5
    rintro j ρ w5 hj ⟨hH, hx5, hP5⟩
    refine rwp_has hH fun ρ2 => ?_
    have hz5 := hx5.size
    have hbp7 := hP5.lt
    have fa1 : Cell w5 ba 1 vpw := @Cell.ext _ _ _ _ _ ((he2.trans he3).trans hx5) hc1
    have fa2 : Cell w5 ba 2 vc := @Cell.ext _ _ _ _ _ ((he2.trans he3).trans hx5) hc2
    have fb1 : Cell w5 bb 1 upw := @Cell.ext _ _ _ _ _ (he3.trans hx5) hd1
    have fb2 : Cell w5 bb 2 uc := @Cell.ext _ _ _ _ _ (he3.trans hx5) hd2
    have ra1 : Pc.Rows _ _ w5 vpw ps p.pow := @Rows.ext _ _ _ _ _ _ _ (hE3.trans hx5) h2
    have ra2 : Pc.Rowss _ _ w5 vc cs css p.cnj := @Rowss.ext _ _ _ _ _ _ _ _ (hE3.trans hx5) h3
    have rb1 : Pc.Rows _ _ w5 upw qs q.pow := @Rows.ext _ _ _ _ _ _ _ (hE3.trans hx5) k2
    have rb2 : Pc.Rowss _ _ w5 uc ds dss q.cnj := @Rowss.ext _ _ _ _ _ _ _ _ (hE3.trans hx5) k3
    refine go ?_
    refine c_if (fun h9 => ?_) (fun h9 => ?_)
    · have hcj := hsq.cl i j (by omega) (by omega)
      obtain ⟨vo', vp', vc', rp, gs, hB7, hO7, hS7⟩ := hP5.ex
      have hgl := hS7.lg
      have hgi : p.ord.length + i < gs.length := by omega
      have hli := hS7.li (p.ord.length + i) hgi
      have hlc := hS7.lenC hgi
      have hgm : (gs.map fun q => q.2.map (·.2)).length = xs.length := by rw [List.length_map]; exact hgl
      obtain ⟨bq, hbq, hxq, hvq, hoq⟩ := hO7.ownC' hgi (by omega)
      have c2 : Cell w5 bp 2 vc' := hB7.cell rfl
      have hrs := hO7.rowss
      refine go ?_
      refine d_region (h := fun w8 he8 _ => ?_)
      have hrs8 : Pc.Rowss _ _ w8 vc' _ _ _ := @Rowss.ext _ _ _ _ _ _ _ _ he8 hrs
      have rx8 : Pc.Rowss _ _ w8 uc ds dss q.cnj := @Rowss.ext _ _ _ _ _ _ _ _ he8 rb2
      refine dgo ?_
      refine dc (l07Shift_ok (m := p.ord.length) (n := 0) (xs := (q.cnj.getD i []).getD j []) rfl rfl (by omega) (by omega) (by omega)) (next := fun v9 w9 h9 => ⟨fun h => h.trans (by obtain ⟨_, h, _⟩ := h9; exact h), ?_⟩)
      obtain ⟨ys9, he9, hf9, hyl9⟩ := h9
      refine dgo ?_
      refine l_store_val (@Own.ext _ _ _ _ _ _ (he8.trans he9) hoq) hf9.ints.sl.one (m := j) (by rw [List.length_map]; omega) (next := fun w10 hc10 hs10 ho10 => ?_)
      have hP10 := PBx.putC (@Blk.ext _ _ _ _ he8 hB7) (hO7.ext he8) hS7 (i := p.ord.length + i) (j := j) hgi (by omega) hvq hxq he9 hf9 (by omega) hc10 ho10
      refine go ?_
      refine forQ_normal (by omega) ⟨?_, hc10.ext (hx5.trans (he8.trans he9)) (by omega), hP10⟩
      exact hasP
    · refine go ?_
      refine forQ_normal (by omega) ⟨?_, hx5, hP5⟩
      exact hasP
  obtain ⟨vo', vp', vc', rp, gs, hB7, hO7, hS7⟩ := hP5.ex
  have hbr7 : Blk w5 br _ := @Blk.ext _ _ _ _ hx5 hbk3
  refine go ?_
  refine ra (v := .agg #[vo', vp', vc']) (h := rd_load_blk (hb := hB7) (by ((try simp only [ev_tmp, ev_const, ev_func, get_put, get_args, get_putL, get_putL_nil, Nat.reduceEqDiff, reduceIte, List.getD_cons_zero, List.getD_cons_succ, List.getD_nil]); first | done | with_reducible rfl)) rfl) (next := ?_)
  refine st_store_agg (vs := [vo', vp', vc']) (cs := _) (hb := hbr7) (by ((try simp only [ev_tmp, ev_const, ev_func, get_put, get_args, get_putL, get_putL_nil, Nat.reduceEqDiff, reduceIte, List.getD_cons_zero, List.getD_cons_succ, List.getD_nil]); first | done | with_reducible rfl)) (by ((try simp only [ev_tmp, ev_const, ev_func, get_put, get_args, get_putL, get_putL_nil, Nat.reduceEqDiff, reduceIte, List.getD_cons_zero, List.getD_cons_succ, List.getD_nil]); first | done | with_reducible rfl)) rfl ?_ hO7.one3 (by first | exact True.intro | exact ⟨_, rfl, by ((try simp only [ev_tmp, ev_const, ev_func, get_put, get_args, get_putL, get_putL_nil, Nat.reduceEqDiff, reduceIte, List.getD_cons_zero, List.getD_cons_succ, List.getD_nil, Bool.not_true, Bool.not_false]); first | done | with_reducible rfl)⟩) fun w8 hc8 hs8 hB8 => ?_
  · rfl
  refine go ?_
  refine retc (b := br) (hb := hB8) ⟨hc8.ext (hE3.trans hx5) (by omega), NewP.of (((hO7.chg hc8 (.inr (by omega))).weak (fun b hb => hb.elim)).mono (by omega)) hS7⟩ rfl
end Go.Proofs.Ytflniifngfiekaa

/-
  Rules: strings and bytes.
  Conditions: none; nothing of the program stands here but its types.
-/
namespace Go.Pc
open Go Go.RowKit
class StrT (P : Program) (t : TypeId) : Prop where eq : P.underlying t = some .string
class IntT (P : Program) (t : TypeId) (k : IntKind) : Prop where eq : P.underlying t = some (.int k)
/-- The byte at a place, 0 behind the end. -/
def chr (s : ByteArray) (i : Nat) : Int := (s.data.toList.getD i 0).toNat
theorem chr_rng (s : ByteArray) (i : Nat) : 0 ≤ chr s i ∧ chr s i < 256 := by
  have := (s.data.toList.getD i 0).toNat_lt
  simp only [chr]; omega
section
variable {P : Program} {ρ : Env} {w : World} {ty : TypeId}
theorem rd_lens {x : Operand} {s : ByteArray} {t : TypeId} (h : ev ρ x = .string s) [ht : StrT P t] (hb : s.size ≤ 9223372036854775807) : Rd P (.call { callee := .builtin .len, args := #[x], argTypes := #[t] }) ty ρ w (.int .i64 s.size) := by
  have hw : IntKind.i64.wrap (s.size : Int) = s.size := IntWalk.i64_in _ (by omega)
  constructor; intro _ _ _ _
  simp [execOp, resolve, invoke, builtin, h, Builtin.len_, run_underlying ht.eq, goInt, hw]
theorem rd_indexs {x ix : Operand} {s : ByteArray} {k : Int} {t : TypeId} (h : ev ρ x = .string s) (hk : ev ρ ix = .int .i64 k) [ht : StrT P t] (hb : 0 ≤ k ∧ k < s.size) : Rd P (.index t x ix) ty ρ w (.int .u8 (chr s k.toNat)) := by
  constructor; intro _ _ _ _
  have := run_index_string (P := P) w t s .i64 k ht.eq
  rw [dif_pos hb] at this
  have hk2 : k.toNat < s.size := by omega
  have e : ((s[k.toNat]'hk2).toNat : Int) = chr s k.toNat := by
    have h3 : k.toNat < s.data.toList.length := by simpa using hk2
    rw [chr, List.getD_eq_getElem?_getD, List.getElem?_eq_getElem h3]
    simp [ByteArray.getElem_eq_getElem_data]
  rw [e] at this
  simp [execOp, h, hk, this]
theorem rd_slices_lh {x y u : Operand} {s : ByteArray} {k j : Int} {t : TypeId} (h : ev ρ x = .string s) (hk : ev ρ y = .int .i64 k) (hj : ev ρ u = .int .i64 j) [ht : StrT P t] (hb : 0 ≤ k ∧ k ≤ j ∧ j ≤ s.size) : Rd P (.slice t x (some y) (some u) none) ty ρ w (.string (s.extract k.toNat j.toNat)) := by
  constructor; intro _ _ _ _
  have := run_slice_string (P := P) w t s .i64 .i64 k j ht.eq hb.1 hb.2.1 hb.2.2
  simp [execOp, h, hk, hj, run_sliceAt_string w t _ _ _ _ ht.eq, this]
theorem rd_slices_l {x y : Operand} {s : ByteArray} {k : Int} {t : TypeId} (h : ev ρ x = .string s) (hk : ev ρ y = .int .i64 k) [ht : StrT P t] (hb : 0 ≤ k ∧ k ≤ s.size) : Rd P (.slice t x (some y) none none) ty ρ w (.string (s.extract k.toNat s.size)) := by
  constructor; intro _ _ _ _
  have := run_slice_string_from_if (P := P) w t s .i64 k ht.eq
  rw [if_pos hb] at this
  simp [execOp, h, hk, run_sliceAt_string w t _ _ _ _ ht.eq, this]
theorem rd_eql8 {x y : Operand} {a b : Int} {tx tyy : TypeId} (h : ev ρ x = .int .u8 a) (k : ev ρ y = .int .u8 b) : Rd P (.binOp .eql tx x y tyy) ty ρ w (.bool (decide (a = b))) := by
  constructor; intro _ _ _ _; simp [execOp, h, k, binOp, Op.intCmp, eqGuard]; rfl
theorem rd_neq8 {x y : Operand} {a b : Int} {tx tyy : TypeId} (h : ev ρ x = .int .u8 a) (k : ev ρ y = .int .u8 b) : Rd P (.binOp .neq tx x y tyy) ty ρ w (.bool (decide (a ≠ b))) := by
  constructor; intro _ _ _ _; simp [execOp, h, k, binOp, Op.intCmp, eqGuard, bne]; rfl
theorem rd_lss8 {x y : Operand} {a b : Int} {tx tyy : TypeId} (h : ev ρ x = .int .u8 a) (k : ev ρ y = .int .u8 b) : Rd P (.binOp .lss tx x y tyy) ty ρ w (.bool (decide (a < b))) := by
  constructor; intro _ _ _ _; simp [execOp, h, k, binOp, Op.intCmp, eqGuard]
theorem rd_gtr8 {x y : Operand} {a b : Int} {tx tyy : TypeId} (h : ev ρ x = .int .u8 a) (k : ev ρ y = .int .u8 b) : Rd P (.binOp .gtr tx x y tyy) ty ρ w (.bool (decide (b < a))) := by
  constructor; intro _ _ _ _; simp [execOp, h, k, binOp, Op.intCmp, eqGuard]
theorem u8_in {n : Int} (h : 0 ≤ n ∧ n < 256) : IntKind.u8.wrap n = n := by
  simp [IntKind.wrap, IntKind.bits, IntKind.signed]
  omega
theorem rd_sub8 {x y : Operand} {a b : Int} {tx tyy : TypeId} (h : ev ρ x = .int .u8 a) (k : ev ρ y = .int .u8 b) (hb : 0 ≤ a - b ∧ a - b < 256) : Rd P (.binOp .sub tx x y tyy) ty ρ w (.int .u8 (a - b)) := by
  constructor; intro _ _ _ _; simp [execOp, h, k, binOp, Op.intArith, eqGuard, u8_in hb]
theorem rd_eqls {x y : Operand} {a b : ByteArray} {tx tyy : TypeId} (h : ev ρ x = .string a) (k : ev ρ y = .string b) : Rd P (.binOp .eql tx x y tyy) ty ρ w (.bool (a.toList == b.toList)) := by
  constructor; intro _ _ _ _; simp [execOp, h, k, binOp, Op.stringOp, eqGuard]
theorem rd_neqs {x y : Operand} {a b : ByteArray} {tx tyy : TypeId} (h : ev ρ x = .string a) (k : ev ρ y = .string b) : Rd P (.binOp .neq tx x y tyy) ty ρ w (.bool !(a.toList == b.toList)) := by
  constructor; intro _ _ _ _; simp [execOp, h, k, binOp, Op.stringOp, eqGuard]
theorem rd_adds {x y : Operand} {a b : ByteArray} {tx tyy : TypeId} (h : ev ρ x = .string a) (k : ev ρ y = .string b) (hb : a.size + b.size ≤ 9223372036854775807) : Rd P (.binOp .add tx x y tyy) ty ρ w (.string (a ++ b)) := by
  constructor; intro _ _ _ _
  have := run_string_add_sum (P := P) (w := w) a b hb
  simp [execOp, h, k, binOp, eqGuard, this]
theorem rd_conv_i {x : Operand} {n : Int} {src dst : TypeId} (h : ev ρ x = .int .u8 n) [hs : IntT P src .u8] [hd : IntT P dst .i64] (hb : 0 ≤ n ∧ n < 256) : Rd P (.convert src dst x) ty ρ w (.int .i64 n) := rd_conv h hs.eq hd.eq (IntWalk.i64_in _ (by omega))
theorem rd_conv_b {x : Operand} {n : Int} {src dst : TypeId} (h : ev ρ x = .int .i64 n) [hs : IntT P src .i64] [hd : IntT P dst .u8] (hb : 0 ≤ n ∧ n < 256) : Rd P (.convert src dst x) ty ρ w (.int .u8 n) := rd_conv h hs.eq hd.eq (u8_in hb)
/-- The string of some bytes. -/
def bts (ns : List Int) : ByteArray := ns.foldl (fun r n => r.push (UInt8.ofNat n.toNat)) ByteArray.empty
theorem bts_size (ns : List Int) : (bts ns).size = ns.length := by
  have : ∀ (ns : List Int) (s : ByteArray), (ns.foldl (fun r n => r.push (UInt8.ofNat n.toNat)) s).size = s.size + ns.length := by
    intro ns
    induction ns with
    | nil => intro s; rfl
    | cons n ns ih => intro s; rw [List.foldl_cons, ih]; simp; omega
  have h := this ns ByteArray.empty
  rw [bts, h]; simp
/-- A list of bytes. -/
class Byts (lo hi : outParam Nat) (w : World) (v : Value) (ns : outParam (List Int)) : Prop where
  sl : Sl lo hi w v (ns.map (Value.int .u8))
theorem rd_bts {x : Operand} {v : Value} {src dst e lo hi : Nat} {ns : List Int} (h : ev ρ x = v) [hs : SlT P src e] [he : IntT P e .u8] [hd : StrT P dst] [hv : Byts lo hi w v ns] : Rd P (.convert src dst x) ty ρ w (.string (bts ns)) := by
  constructor; intro _ _ _ _
  obtain ⟨A, c, rfl, _, _, hcell⟩ := hv.sl.ex
  have hr := run_convert_bytes_string (P := P) w src dst e A (ns.map (Value.int .u8)).length c hs.eq he.eq hd.eq
  simp only [execOp, h, Sem.run_bind, hr]
  cases A with
  | none =>
    by_cases h0 : ns = []
    · subst h0
      rfl
    · exfalso
      obtain ⟨n, ns', rfl⟩ := List.exists_cons_of_ne_nil h0
      obtain ⟨a, e1, _⟩ := hcell 0 (.int .u8 n) rfl
      cases e1
  | some a =>
    rw [run_bytesToString w a _ c ns]
    · rfl
    · have := run_loadCells_list (P := P) (w := w) a (ns.map (Value.int .u8)) (fun j u hu => by
        obtain ⟨a', e1, _, _, hcl⟩ := hcell j u hu
        injection e1 with e1
        subst e1
        exact hcl)
      simpa using this
/-- A list of strings. -/
class Strs (lo hi : outParam Nat) (w : World) (v : Value) (us : outParam (List ByteArray)) : Prop where
  sl : Sl lo hi w v (us.map Value.string)
instance Strs.toLen {lo hi : Nat} {v : Value} {us : List ByteArray} [h : Strs lo hi w v us] : Len w v us.length := by have := h.sl.toLen; simpa using this
theorem Strs.same {lo hi : Nat} {w' : World} {v : Value} {us : List ByteArray} (h : Strs lo hi w v us) (k : Same lo hi w w') : Strs lo hi w' v us := ⟨h.sl.same k⟩
instance (priority := low) Strs.ext {lo hi : Nat} {w' : World} {v : Value} {us : List ByteArray} [x : Ext w w'] [h : Strs lo hi w v us] : Strs lo hi w' v us := h.same (x.same _ _)
theorem rd_load_strs {x : Operand} {v : Value} {t lo hi m : Nat} {us : List ByteArray} (h : ev ρ x = eptr v m) [hp : PlainT P t] [hx : Strs lo hi w v us] (hm : m < us.length) : Rd P (.load t x) ty ρ w (.string (us.getD m ByteArray.empty)) := by
  obtain ⟨A, c, rfl, hc, _, hcell⟩ := hx.sl.ex
  obtain ⟨a, rfl, _, _, hcl⟩ := hcell m (.string us[m]) (by simp [hm])
  constructor; intro _ _ _ _
  simp [execOp, h, eptr, Instr.loadAt, Instr.sureAddr, run_load_plain hcl, hm]
theorem rs_load_strs {x : Operand} {v : Value} {t lo hi m : Nat} {us : List ByteArray} (h : ev ρ x = eptr v m) [hp : PlainT P t] [hx : Strs lo hi w v us] (hm : m < us.length) : RdS P (.load t x) ty ρ w (.string (us.getD m ByteArray.empty)) :=
  ⟨fun w' he => @id (Rd P (.load t x) ty ρ w' (.string (us.getD m ByteArray.empty))) (by have hv : Strs lo hi w' v us := hx.same (he.same _ _); exact rd_load_strs h hm)⟩
theorem rs_lens {x : Operand} {s : ByteArray} {t : TypeId} (h : ev ρ x = .string s) [ht : StrT P t] (hb : s.size ≤ 9223372036854775807) : RdS P (.call { callee := .builtin .len, args := #[x], argTypes := #[t] }) ty ρ w (.int .i64 s.size) := ⟨fun _ _ => rd_lens h hb⟩
theorem rs_indexs {x ix : Operand} {s : ByteArray} {k : Int} {t : TypeId} (h : ev ρ x = .string s) (hk : ev ρ ix = .int .i64 k) [ht : StrT P t] (hb : 0 ≤ k ∧ k < s.size) : RdS P (.index t x ix) ty ρ w (.int .u8 (chr s k.toNat)) := ⟨fun _ _ => rd_indexs h hk hb⟩
theorem rs_slices_lh {x y u : Operand} {s : ByteArray} {k j : Int} {t : TypeId} (h : ev ρ x = .string s) (hk : ev ρ y = .int .i64 k) (hj : ev ρ u = .int .i64 j) [ht : StrT P t] (hb : 0 ≤ k ∧ k ≤ j ∧ j ≤ s.size) : RdS P (.slice t x (some y) (some u) none) ty ρ w (.string (s.extract k.toNat j.toNat)) := ⟨fun _ _ => rd_slices_lh h hk hj hb⟩
theorem rs_slices_l {x y : Operand} {s : ByteArray} {k : Int} {t : TypeId} (h : ev ρ x = .string s) (hk : ev ρ y = .int .i64 k) [ht : StrT P t] (hb : 0 ≤ k ∧ k ≤ s.size) : RdS P (.slice t x (some y) none none) ty ρ w (.string (s.extract k.toNat s.size)) := ⟨fun _ _ => rd_slices_l h hk hb⟩
theorem rs_eql8 {x y : Operand} {a b : Int} {tx tyy : TypeId} (h : ev ρ x = .int .u8 a) (k : ev ρ y = .int .u8 b) : RdS P (.binOp .eql tx x y tyy) ty ρ w (.bool (decide (a = b))) := ⟨fun _ _ => rd_eql8 h k⟩
theorem rs_neq8 {x y : Operand} {a b : Int} {tx tyy : TypeId} (h : ev ρ x = .int .u8 a) (k : ev ρ y = .int .u8 b) : RdS P (.binOp .neq tx x y tyy) ty ρ w (.bool (decide (a ≠ b))) := ⟨fun _ _ => rd_neq8 h k⟩
theorem rs_lss8 {x y : Operand} {a b : Int} {tx tyy : TypeId} (h : ev ρ x = .int .u8 a) (k : ev ρ y = .int .u8 b) : RdS P (.binOp .lss tx x y tyy) ty ρ w (.bool (decide (a < b))) := ⟨fun _ _ => rd_lss8 h k⟩
theorem rs_gtr8 {x y : Operand} {a b : Int} {tx tyy : TypeId} (h : ev ρ x = .int .u8 a) (k : ev ρ y = .int .u8 b) : RdS P (.binOp .gtr tx x y tyy) ty ρ w (.bool (decide (b < a))) := ⟨fun _ _ => rd_gtr8 h k⟩
theorem rs_sub8 {x y : Operand} {a b : Int} {tx tyy : TypeId} (h : ev ρ x = .int .u8 a) (k : ev ρ y = .int .u8 b) (hb : 0 ≤ a - b ∧ a - b < 256) : RdS P (.binOp .sub tx x y tyy) ty ρ w (.int .u8 (a - b)) := ⟨fun _ _ => rd_sub8 h k hb⟩
theorem rs_eqls {x y : Operand} {a b : ByteArray} {tx tyy : TypeId} (h : ev ρ x = .string a) (k : ev ρ y = .string b) : RdS P (.binOp .eql tx x y tyy) ty ρ w (.bool (a.toList == b.toList)) := ⟨fun _ _ => rd_eqls h k⟩
theorem rs_neqs {x y : Operand} {a b : ByteArray} {tx tyy : TypeId} (h : ev ρ x = .string a) (k : ev ρ y = .string b) : RdS P (.binOp .neq tx x y tyy) ty ρ w (.bool !(a.toList == b.toList)) := ⟨fun _ _ => rd_neqs h k⟩
theorem rs_adds {x y : Operand} {a b : ByteArray} {tx tyy : TypeId} (h : ev ρ x = .string a) (k : ev ρ y = .string b) (hb : a.size + b.size ≤ 9223372036854775807) : RdS P (.binOp .add tx x y tyy) ty ρ w (.string (a ++ b)) := ⟨fun _ _ => rd_adds h k hb⟩
theorem rs_conv_i {x : Operand} {n : Int} {src dst : TypeId} (h : ev ρ x = .int .u8 n) [hs : IntT P src .u8] [hd : IntT P dst .i64] (hb : 0 ≤ n ∧ n < 256) : RdS P (.convert src dst x) ty ρ w (.int .i64 n) := ⟨fun _ _ => rd_conv_i h hb⟩
theorem rs_conv_b {x : Operand} {n : Int} {src dst : TypeId} (h : ev ρ x = .int .i64 n) [hs : IntT P src .i64] [hd : IntT P dst .u8] (hb : 0 ≤ n ∧ n < 256) : RdS P (.convert src dst x) ty ρ w (.int .u8 n) := ⟨fun _ _ => rd_conv_b h hb⟩
theorem rs_bts {x : Operand} {v : Value} {src dst e lo hi : Nat} {ns : List Int} (h : ev ρ x = v) [hs : SlT P src e] [he : IntT P e .u8] [hd : StrT P dst] [hv : Byts lo hi w v ns] : RdS P (.convert src dst x) ty ρ w (.string (bts ns)) := ⟨fun w' hx => @id (Rd P (.convert src dst x) ty ρ w' (.string (bts ns))) (by have hv2 : Byts lo hi w' v ns := ⟨hv.sl.same (hx.same _ _)⟩; exact rd_bts h)⟩
end
section
variable {P : Program} {N : Nat} {ops : Array Oper} {π : List Nat} {K : Env → World → Prop} {ρ : Env} {w : World} {l : List Oper}
variable {i : Nat} {op : Op} {ty : TypeId} {pos : String} {after : Array Edge} {g : Option (Nat × Bool)} {d : Nat}
theorem rat {v : Value} (h : Rd P op ty ρ w v := by first | exact rd_move (by ((try simp only [ev_tmp, ev_const, ev_func, get_put, get_args, get_putL, get_putL_nil, Nat.reduceEqDiff, reduceIte, List.getD_cons_zero, List.getD_cons_succ, List.getD_nil]); first | done | with_reducible rfl)) | exact rd_assign (by ((try simp only [ev_tmp, ev_const, ev_func, get_put, get_args, get_putL, get_putL_nil, Nat.reduceEqDiff, reduceIte, List.getD_cons_zero, List.getD_cons_succ, List.getD_nil]); first | done | with_reducible rfl)) | (refine rd_index (by ((try simp only [ev_tmp, ev_const, ev_func, get_put, get_args, get_putL, get_putL_nil, Nat.reduceEqDiff, reduceIte, List.getD_cons_zero, List.getD_cons_succ, List.getD_nil]); first | done | with_reducible rfl)) (by ((try simp only [ev_tmp, ev_const, ev_func, get_put, get_args, get_putL, get_putL_nil, Nat.reduceEqDiff, reduceIte, List.getD_cons_zero, List.getD_cons_succ, List.getD_nil]); first | done | with_reducible rfl)) ?_ ?_ <;> omega) | (refine rd_load_ints (by ((try simp only [ev_tmp, ev_const, ev_func, get_put, get_args, get_putL, get_putL_nil, Nat.reduceEqDiff, reduceIte, List.getD_cons_zero, List.getD_cons_succ, List.getD_nil]); first | done | with_reducible rfl)) ?_ <;> omega) | (refine rd_load_rows (by ((try simp only [ev_tmp, ev_const, ev_func, get_put, get_args, get_putL, get_putL_nil, Nat.reduceEqDiff, reduceIte, List.getD_cons_zero, List.getD_cons_succ, List.getD_nil]); first | done | with_reducible rfl)) ?_ <;> omega) | (refine rd_load_rowss (by ((try simp only [ev_tmp, ev_const, ev_func, get_put, get_args, get_putL, get_putL_nil, Nat.reduceEqDiff, reduceIte, List.getD_cons_zero, List.getD_cons_succ, List.getD_nil]); first | done | with_reducible rfl)) ?_ <;> omega) | exact rd_load_cell (by ((try simp only [ev_tmp, ev_const, ev_func, get_put, get_args, get_putL, get_putL_nil, Nat.reduceEqDiff, reduceIte, List.getD_cons_zero, List.getD_cons_succ, List.getD_nil]); first | done | with_reducible rfl)) | exact rd_load_agg3 (by ((try simp only [ev_tmp, ev_const, ev_func, get_put, get_args, get_putL, get_putL_nil, Nat.reduceEqDiff, reduceIte, List.getD_cons_zero, List.getD_cons_succ, List.getD_nil]); first | done | with_reducible rfl)) | exact rd_field (by ((try simp only [ev_tmp, ev_const, ev_func, get_put, get_args, get_putL, get_putL_nil, Nat.reduceEqDiff, reduceIte, List.getD_cons_zero, List.getD_cons_succ, List.getD_nil]); first | done | with_reducible rfl)) | exact rd_load_agg3o (by ((try simp only [ev_tmp, ev_const, ev_func, get_put, get_args, get_putL, get_putL_nil, Nat.reduceEqDiff, reduceIte, List.getD_cons_zero, List.getD_cons_succ, List.getD_nil]); first | done | with_reducible rfl)) | exact rd_fieldo0 (by ((try simp only [ev_tmp, ev_const, ev_func, get_put, get_args, get_putL, get_putL_nil, Nat.reduceEqDiff, reduceIte, List.getD_cons_zero, List.getD_cons_succ, List.getD_nil]); first | done | with_reducible rfl)) | exact rd_fieldo (by ((try simp only [ev_tmp, ev_const, ev_func, get_put, get_args, get_putL, get_putL_nil, Nat.reduceEqDiff, reduceIte, List.getD_cons_zero, List.getD_cons_succ, List.getD_nil]); first | done | with_reducible rfl)) | exact rd_load_agg7 (by ((try simp only [ev_tmp, ev_const, ev_func, get_put, get_args, get_putL, get_putL_nil, Nat.reduceEqDiff, reduceIte, List.getD_cons_zero, List.getD_cons_succ, List.getD_nil]); first | done | with_reducible rfl)) | exact rd_len (by ((try simp only [ev_tmp, ev_const, ev_func, get_put, get_args, get_putL, get_putL_nil, Nat.reduceEqDiff, reduceIte, List.getD_cons_zero, List.getD_cons_succ, List.getD_nil]); first | done | with_reducible rfl)) | (refine rd_add (by ((try simp only [ev_tmp, ev_const, ev_func, get_put, get_args, get_putL, get_putL_nil, Nat.reduceEqDiff, reduceIte, List.getD_cons_zero, List.getD_cons_succ, List.getD_nil]); first | done | with_reducible rfl)) (by ((try simp only [ev_tmp, ev_const, ev_func, get_put, get_args, get_putL, get_putL_nil, Nat.reduceEqDiff, reduceIte, List.getD_cons_zero, List.getD_cons_succ, List.getD_nil]); first | done | with_reducible rfl)) ?_ <;> omega) | (refine rd_sub (by ((try simp only [ev_tmp, ev_const, ev_func, get_put, get_args, get_putL, get_putL_nil, Nat.reduceEqDiff, reduceIte, List.getD_cons_zero, List.getD_cons_succ, List.getD_nil]); first | done | with_reducible rfl)) (by ((try simp only [ev_tmp, ev_const, ev_func, get_put, get_args, get_putL, get_putL_nil, Nat.reduceEqDiff, reduceIte, List.getD_cons_zero, List.getD_cons_succ, List.getD_nil]); first | done | with_reducible rfl)) ?_ <;> omega) | exact rd_lss (by ((try simp only [ev_tmp, ev_const, ev_func, get_put, get_args, get_putL, get_putL_nil, Nat.reduceEqDiff, reduceIte, List.getD_cons_zero, List.getD_cons_succ, List.getD_nil]); first | done | with_reducible rfl)) (by ((try simp only [ev_tmp, ev_const, ev_func, get_put, get_args, get_putL, get_putL_nil, Nat.reduceEqDiff, reduceIte, List.getD_cons_zero, List.getD_cons_succ, List.getD_nil]); first | done | with_reducible rfl)) | exact rd_geq (by ((try simp only [ev_tmp, ev_const, ev_func, get_put, get_args, get_putL, get_putL_nil, Nat.reduceEqDiff, reduceIte, List.getD_cons_zero, List.getD_cons_succ, List.getD_nil]); first | done | with_reducible rfl)) (by ((try simp only [ev_tmp, ev_const, ev_func, get_put, get_args, get_putL, get_putL_nil, Nat.reduceEqDiff, reduceIte, List.getD_cons_zero, List.getD_cons_succ, List.getD_nil]); first | done | with_reducible rfl)) | exact rd_leq (by ((try simp only [ev_tmp, ev_const, ev_func, get_put, get_args, get_putL, get_putL_nil, Nat.reduceEqDiff, reduceIte, List.getD_cons_zero, List.getD_cons_succ, List.getD_nil]); first | done | with_reducible rfl)) (by ((try simp only [ev_tmp, ev_const, ev_func, get_put, get_args, get_putL, get_putL_nil, Nat.reduceEqDiff, reduceIte, List.getD_cons_zero, List.getD_cons_succ, List.getD_nil]); first | done | with_reducible rfl)) | exact rd_gtr (by ((try simp only [ev_tmp, ev_const, ev_func, get_put, get_args, get_putL, get_putL_nil, Nat.reduceEqDiff, reduceIte, List.getD_cons_zero, List.getD_cons_succ, List.getD_nil]); first | done | with_reducible rfl)) (by ((try simp only [ev_tmp, ev_const, ev_func, get_put, get_args, get_putL, get_putL_nil, Nat.reduceEqDiff, reduceIte, List.getD_cons_zero, List.getD_cons_succ, List.getD_nil]); first | done | with_reducible rfl)) | exact rd_eql (by ((try simp only [ev_tmp, ev_const, ev_func, get_put, get_args, get_putL, get_putL_nil, Nat.reduceEqDiff, reduceIte, List.getD_cons_zero, List.getD_cons_succ, List.getD_nil]); first | done | with_reducible rfl)) (by ((try simp only [ev_tmp, ev_const, ev_func, get_put, get_args, get_putL, get_putL_nil, Nat.reduceEqDiff, reduceIte, List.getD_cons_zero, List.getD_cons_succ, List.getD_nil]); first | done | with_reducible rfl)) | exact rd_neq (by ((try simp only [ev_tmp, ev_const, ev_func, get_put, get_args, get_putL, get_putL_nil, Nat.reduceEqDiff, reduceIte, List.getD_cons_zero, List.getD_cons_succ, List.getD_nil]); first | done | with_reducible rfl)) (by ((try simp only [ev_tmp, ev_const, ev_func, get_put, get_args, get_putL, get_putL_nil, Nat.reduceEqDiff, reduceIte, List.getD_cons_zero, List.getD_cons_succ, List.getD_nil]); first | done | with_reducible rfl)) | exact rd_not (by ((try simp only [ev_tmp, ev_const, ev_func, get_put, get_args, get_putL, get_putL_nil, Nat.reduceEqDiff, reduceIte, List.getD_cons_zero, List.getD_cons_succ, List.getD_nil]); first | done | with_reducible rfl)) | (refine rd_neg (by ((try simp only [ev_tmp, ev_const, ev_func, get_put, get_args, get_putL, get_putL_nil, Nat.reduceEqDiff, reduceIte, List.getD_cons_zero, List.getD_cons_succ, List.getD_nil]); first | done | with_reducible rfl)) ?_ <;> omega) | exact rd_nilCheck (by ((try simp only [ev_tmp, ev_const, ev_func, get_put, get_args, get_putL, get_putL_nil, Nat.reduceEqDiff, reduceIte, List.getD_cons_zero, List.getD_cons_succ, List.getD_nil]); first | done | with_reducible rfl)) | exact rd_pick_t (by ((try simp only [ev_tmp, ev_const, ev_func, get_put, get_args, get_putL, get_putL_nil, Nat.reduceEqDiff, reduceIte, List.getD_cons_zero, List.getD_cons_succ, List.getD_nil]); first | done | with_reducible rfl)) (by ((try simp only [ev_tmp, ev_const, ev_func, get_put, get_args, get_putL, get_putL_nil, Nat.reduceEqDiff, reduceIte, List.getD_cons_zero, List.getD_cons_succ, List.getD_nil]); first | done | with_reducible rfl)) | exact rd_pick_f (by ((try simp only [ev_tmp, ev_const, ev_func, get_put, get_args, get_putL, get_putL_nil, Nat.reduceEqDiff, reduceIte, List.getD_cons_zero, List.getD_cons_succ, List.getD_nil]); first | done | with_reducible rfl)) (by ((try simp only [ev_tmp, ev_const, ev_func, get_put, get_args, get_putL, get_putL_nil, Nat.reduceEqDiff, reduceIte, List.getD_cons_zero, List.getD_cons_succ, List.getD_nil]); first | done | with_reducible rfl)) | exact rd_ext2a (by ((try simp only [ev_tmp, ev_const, ev_func, get_put, get_args, get_putL, get_putL_nil, Nat.reduceEqDiff, reduceIte, List.getD_cons_zero, List.getD_cons_succ, List.getD_nil]); first | done | with_reducible rfl)) | exact rd_ext2b (by ((try simp only [ev_tmp, ev_const, ev_func, get_put, get_args, get_putL, get_putL_nil, Nat.reduceEqDiff, reduceIte, List.getD_cons_zero, List.getD_cons_succ, List.getD_nil]); first | done | with_reducible rfl)) | exact rd_ext3a (by ((try simp only [ev_tmp, ev_const, ev_func, get_put, get_args, get_putL, get_putL_nil, Nat.reduceEqDiff, reduceIte, List.getD_cons_zero, List.getD_cons_succ, List.getD_nil]); first | done | with_reducible rfl)) | exact rd_ext3b (by ((try simp only [ev_tmp, ev_const, ev_func, get_put, get_args, get_putL, get_putL_nil, Nat.reduceEqDiff, reduceIte, List.getD_cons_zero, List.getD_cons_succ, List.getD_nil]); first | done | with_reducible rfl)) | exact rd_ext3c (by ((try simp only [ev_tmp, ev_const, ev_func, get_put, get_args, get_putL, get_putL_nil, Nat.reduceEqDiff, reduceIte, List.getD_cons_zero, List.getD_cons_succ, List.getD_nil]); first | done | with_reducible rfl)) | exact rd_ext4a (by ((try simp only [ev_tmp, ev_const, ev_func, get_put, get_args, get_putL, get_putL_nil, Nat.reduceEqDiff, reduceIte, List.getD_cons_zero, List.getD_cons_succ, List.getD_nil]); first | done | with_reducible rfl)) | exact rd_ext4b (by ((try simp only [ev_tmp, ev_const, ev_func, get_put, get_args, get_putL, get_putL_nil, Nat.reduceEqDiff, reduceIte, List.getD_cons_zero, List.getD_cons_succ, List.getD_nil]); first | done | with_reducible rfl)) | exact rd_ext4c (by ((try simp only [ev_tmp, ev_const, ev_func, get_put, get_args, get_putL, get_putL_nil, Nat.reduceEqDiff, reduceIte, List.getD_cons_zero, List.getD_cons_succ, List.getD_nil]); first | done | with_reducible rfl)) | exact rd_ext4d (by ((try simp only [ev_tmp, ev_const, ev_func, get_put, get_args, get_putL, get_putL_nil, Nat.reduceEqDiff, reduceIte, List.getD_cons_zero, List.getD_cons_succ, List.getD_nil]); first | done | with_reducible rfl)) | exact rd_eqnil (by ((try simp only [ev_tmp, ev_const, ev_func, get_put, get_args, get_putL, get_putL_nil, Nat.reduceEqDiff, reduceIte, List.getD_cons_zero, List.getD_cons_succ, List.getD_nil]); first | done | with_reducible rfl)) | exact rd_neqnil_t (by ((try simp only [ev_tmp, ev_const, ev_func, get_put, get_args, get_putL, get_putL_nil, Nat.reduceEqDiff, reduceIte, List.getD_cons_zero, List.getD_cons_succ, List.getD_nil]); first | done | with_reducible rfl)) | exact rd_neqnil_f (by ((try simp only [ev_tmp, ev_const, ev_func, get_put, get_args, get_putL, get_putL_nil, Nat.reduceEqDiff, reduceIte, List.getD_cons_zero, List.getD_cons_succ, List.getD_nil]); first | done | with_reducible rfl)) | (refine rd_slice_l (by ((try simp only [ev_tmp, ev_const, ev_func, get_put, get_args, get_putL, get_putL_nil, Nat.reduceEqDiff, reduceIte, List.getD_cons_zero, List.getD_cons_succ, List.getD_nil]); first | done | with_reducible rfl)) (by ((try simp only [ev_tmp, ev_const, ev_func, get_put, get_args, get_putL, get_putL_nil, Nat.reduceEqDiff, reduceIte, List.getD_cons_zero, List.getD_cons_succ, List.getD_nil]); first | done | with_reducible rfl)) ?_ ?_ <;> omega) | (refine rd_slice_h (by ((try simp only [ev_tmp, ev_const, ev_func, get_put, get_args, get_putL, get_putL_nil, Nat.reduceEqDiff, reduceIte, List.getD_cons_zero, List.getD_cons_succ, List.getD_nil]); first | done | with_reducible rfl)) (by ((try simp only [ev_tmp, ev_const, ev_func, get_put, get_args, get_putL, get_putL_nil, Nat.reduceEqDiff, reduceIte, List.getD_cons_zero, List.getD_cons_succ, List.getD_nil]); first | done | with_reducible rfl)) ?_ ?_ <;> omega) | (refine rd_slice_lh (by ((try simp only [ev_tmp, ev_const, ev_func, get_put, get_args, get_putL, get_putL_nil, Nat.reduceEqDiff, reduceIte, List.getD_cons_zero, List.getD_cons_succ, List.getD_nil]); first | done | with_reducible rfl)) (by ((try simp only [ev_tmp, ev_const, ev_func, get_put, get_args, get_putL, get_putL_nil, Nat.reduceEqDiff, reduceIte, List.getD_cons_zero, List.getD_cons_succ, List.getD_nil]); first | done | with_reducible rfl)) (by ((try simp only [ev_tmp, ev_const, ev_func, get_put, get_args, get_putL, get_putL_nil, Nat.reduceEqDiff, reduceIte, List.getD_cons_zero, List.getD_cons_succ, List.getD_nil]); first | done | with_reducible rfl)) ?_ ?_ ?_ <;> omega) | (refine rd_quo (by ((try simp only [ev_tmp, ev_const, ev_func, get_put, get_args, get_putL, get_putL_nil, Nat.reduceEqDiff, reduceIte, List.getD_cons_zero, List.getD_cons_succ, List.getD_nil]); first | done | with_reducible rfl)) (by ((try simp only [ev_tmp, ev_const, ev_func, get_put, get_args, get_putL, get_putL_nil, Nat.reduceEqDiff, reduceIte, List.getD_cons_zero, List.getD_cons_succ, List.getD_nil]); first | done | with_reducible rfl)) ?_ <;> omega) | (refine rd_rem (by ((try simp only [ev_tmp, ev_const, ev_func, get_put, get_args, get_putL, get_putL_nil, Nat.reduceEqDiff, reduceIte, List.getD_cons_zero, List.getD_cons_succ, List.getD_nil]); first | done | with_reducible rfl)) (by ((try simp only [ev_tmp, ev_const, ev_func, get_put, get_args, get_putL, get_putL_nil, Nat.reduceEqDiff, reduceIte, List.getD_cons_zero, List.getD_cons_succ, List.getD_nil]); first | done | with_reducible rfl)) ?_ <;> omega) | (refine rd_lens (by ((try simp only [ev_tmp, ev_const, ev_func, get_put, get_args, get_putL, get_putL_nil, Nat.reduceEqDiff, reduceIte, List.getD_cons_zero, List.getD_cons_succ, List.getD_nil]); first | done | with_reducible rfl)) ?_ <;> omega) | (refine rd_indexs (by ((try simp only [ev_tmp, ev_const, ev_func, get_put, get_args, get_putL, get_putL_nil, Nat.reduceEqDiff, reduceIte, List.getD_cons_zero, List.getD_cons_succ, List.getD_nil]); first | done | with_reducible rfl)) (by ((try simp only [ev_tmp, ev_const, ev_func, get_put, get_args, get_putL, get_putL_nil, Nat.reduceEqDiff, reduceIte, List.getD_cons_zero, List.getD_cons_succ, List.getD_nil]); first | done | with_reducible rfl)) ?_ <;> omega) | (refine rd_slices_lh (by ((try simp only [ev_tmp, ev_const, ev_func, get_put, get_args, get_putL, get_putL_nil, Nat.reduceEqDiff, reduceIte, List.getD_cons_zero, List.getD_cons_succ, List.getD_nil]); first | done | with_reducible rfl)) (by ((try simp only [ev_tmp, ev_const, ev_func, get_put, get_args, get_putL, get_putL_nil, Nat.reduceEqDiff, reduceIte, List.getD_cons_zero, List.getD_cons_succ, List.getD_nil]); first | done | with_reducible rfl)) (by ((try simp only [ev_tmp, ev_const, ev_func, get_put, get_args, get_putL, get_putL_nil, Nat.reduceEqDiff, reduceIte, List.getD_cons_zero, List.getD_cons_succ, List.getD_nil]); first | done | with_reducible rfl)) ?_ <;> omega) | (refine rd_slices_l (by ((try simp only [ev_tmp, ev_const, ev_func, get_put, get_args, get_putL, get_putL_nil, Nat.reduceEqDiff, reduceIte, List.getD_cons_zero, List.getD_cons_succ, List.getD_nil]); first | done | with_reducible rfl)) (by ((try simp only [ev_tmp, ev_const, ev_func, get_put, get_args, get_putL, get_putL_nil, Nat.reduceEqDiff, reduceIte, List.getD_cons_zero, List.getD_cons_succ, List.getD_nil]); first | done | with_reducible rfl)) ?_ <;> omega) | exact rd_eql8 (by ((try simp only [ev_tmp, ev_const, ev_func, get_put, get_args, get_putL, get_putL_nil, Nat.reduceEqDiff, reduceIte, List.getD_cons_zero, List.getD_cons_succ, List.getD_nil]); first | done | with_reducible rfl)) (by ((try simp only [ev_tmp, ev_const, ev_func, get_put, get_args, get_putL, get_putL_nil, Nat.reduceEqDiff, reduceIte, List.getD_cons_zero, List.getD_cons_succ, List.getD_nil]); first | done | with_reducible rfl)) | exact rd_neq8 (by ((try simp only [ev_tmp, ev_const, ev_func, get_put, get_args, get_putL, get_putL_nil, Nat.reduceEqDiff, reduceIte, List.getD_cons_zero, List.getD_cons_succ, List.getD_nil]); first | done | with_reducible rfl)) (by ((try simp only [ev_tmp, ev_const, ev_func, get_put, get_args, get_putL, get_putL_nil, Nat.reduceEqDiff, reduceIte, List.getD_cons_zero, List.getD_cons_succ, List.getD_nil]); first | done | with_reducible rfl)) | exact rd_lss8 (by ((try simp only [ev_tmp, ev_const, ev_func, get_put, get_args, get_putL, get_putL_nil, Nat.reduceEqDiff, reduceIte, List.getD_cons_zero, List.getD_cons_succ, List.getD_nil]); first | done | with_reducible rfl)) (by ((try simp only [ev_tmp, ev_const, ev_func, get_put, get_args, get_putL, get_putL_nil, Nat.reduceEqDiff, reduceIte, List.getD_cons_zero, List.getD_cons_succ, List.getD_nil]); first | done | with_reducible rfl)) | exact rd_gtr8 (by ((try simp only [ev_tmp, ev_const, ev_func, get_put, get_args, get_putL, get_putL_nil, Nat.reduceEqDiff, reduceIte, List.getD_cons_zero, List.getD_cons_succ, List.getD_nil]); first | done | with_reducible rfl)) (by ((try simp only [ev_tmp, ev_const, ev_func, get_put, get_args, get_putL, get_putL_nil, Nat.reduceEqDiff, reduceIte, List.getD_cons_zero, List.getD_cons_succ, List.getD_nil]); first | done | with_reducible rfl)) | (refine rd_sub8 (by ((try simp only [ev_tmp, ev_const, ev_func, get_put, get_args, get_putL, get_putL_nil, Nat.reduceEqDiff, reduceIte, List.getD_cons_zero, List.getD_cons_succ, List.getD_nil]); first | done | with_reducible rfl)) (by ((try simp only [ev_tmp, ev_const, ev_func, get_put, get_args, get_putL, get_putL_nil, Nat.reduceEqDiff, reduceIte, List.getD_cons_zero, List.getD_cons_succ, List.getD_nil]); first | done | with_reducible rfl)) ?_ <;> omega) | exact rd_eqls (by ((try simp only [ev_tmp, ev_const, ev_func, get_put, get_args, get_putL, get_putL_nil, Nat.reduceEqDiff, reduceIte, List.getD_cons_zero, List.getD_cons_succ, List.getD_nil]); first | done | with_reducible rfl)) (by ((try simp only [ev_tmp, ev_const, ev_func, get_put, get_args, get_putL, get_putL_nil, Nat.reduceEqDiff, reduceIte, List.getD_cons_zero, List.getD_cons_succ, List.getD_nil]); first | done | with_reducible rfl)) | exact rd_neqs (by ((try simp only [ev_tmp, ev_const, ev_func, get_put, get_args, get_putL, get_putL_nil, Nat.reduceEqDiff, reduceIte, List.getD_cons_zero, List.getD_cons_succ, List.getD_nil]); first | done | with_reducible rfl)) (by ((try simp only [ev_tmp, ev_const, ev_func, get_put, get_args, get_putL, get_putL_nil, Nat.reduceEqDiff, reduceIte, List.getD_cons_zero, List.getD_cons_succ, List.getD_nil]); first | done | with_reducible rfl)) | (refine rd_adds (by ((try simp only [ev_tmp, ev_const, ev_func, get_put, get_args, get_putL, get_putL_nil, Nat.reduceEqDiff, reduceIte, List.getD_cons_zero, List.getD_cons_succ, List.getD_nil]); first | done | with_reducible rfl)) (by ((try simp only [ev_tmp, ev_const, ev_func, get_put, get_args, get_putL, get_putL_nil, Nat.reduceEqDiff, reduceIte, List.getD_cons_zero, List.getD_cons_succ, List.getD_nil]); first | done | with_reducible rfl)) ?_ <;> omega) | (refine rd_conv_i (by ((try simp only [ev_tmp, ev_const, ev_func, get_put, get_args, get_putL, get_putL_nil, Nat.reduceEqDiff, reduceIte, List.getD_cons_zero, List.getD_cons_succ, List.getD_nil]); first | done | with_reducible rfl)) ?_ <;> omega) | (refine rd_conv_b (by ((try simp only [ev_tmp, ev_const, ev_func, get_put, get_args, get_putL, get_putL_nil, Nat.reduceEqDiff, reduceIte, List.getD_cons_zero, List.getD_cons_succ, List.getD_nil]); first | done | with_reducible rfl)) ?_ <;> omega) | exact rd_bts (by ((try simp only [ev_tmp, ev_const, ev_func, get_put, get_args, get_putL, get_putL_nil, Nat.reduceEqDiff, reduceIte, List.getD_cons_zero, List.getD_cons_succ, List.getD_nil]); first | done | with_reducible rfl)) | (refine rd_load_strs (by ((try simp only [ev_tmp, ev_const, ev_func, get_put, get_args, get_putL, get_putL_nil, Nat.reduceEqDiff, reduceIte, List.getD_cons_zero, List.getD_cons_succ, List.getD_nil]); first | done | with_reducible rfl)) ?_ <;> omega)) (hg : Wants ops ρ g := by first | exact True.intro | exact ⟨_, rfl, by ((try simp only [ev_tmp, ev_const, ev_func, get_put, get_args, get_putL, get_putL_nil, Nat.reduceEqDiff, reduceIte, List.getD_cons_zero, List.getD_cons_succ, List.getD_nil, Bool.not_true, Bool.not_false]); first | done | with_reducible rfl)⟩)
    (next : rops P N ops K l (put ρ d v) w) : rops P N ops K (⟨some d, op, ty, pos, after, g⟩ :: l) ρ w := st_rd hg h next
theorem dat {v : Value} {w0 : World} (hi : opAt ops π i = some ⟨some d, op, ty, pos, after, g⟩ := by exact rfl) (hs : Region.noSelect ops = true := by decide +kernel) (ht : takeOk ops π i = true := by decide +kernel) (hd : d < N := by decide) (hg : Wants ops ρ g := by first | exact True.intro | exact ⟨_, rfl, by ((try simp only [ev_tmp, ev_const, ev_func, get_put, get_args, get_putL, get_putL_nil, Nat.reduceEqDiff, reduceIte, List.getD_cons_zero, List.getD_cons_succ, List.getD_nil, Bool.not_true, Bool.not_false]); first | done | with_reducible rfl)⟩)
    (h : RdS P op ty ρ w0 v := by first | exact rs_move (by ((try simp only [ev_tmp, ev_const, ev_func, get_put, get_args, get_putL, get_putL_nil, Nat.reduceEqDiff, reduceIte, List.getD_cons_zero, List.getD_cons_succ, List.getD_nil]); first | done | with_reducible rfl)) | exact rs_assign (by ((try simp only [ev_tmp, ev_const, ev_func, get_put, get_args, get_putL, get_putL_nil, Nat.reduceEqDiff, reduceIte, List.getD_cons_zero, List.getD_cons_succ, List.getD_nil]); first | done | with_reducible rfl)) | (refine rs_index (by ((try simp only [ev_tmp, ev_const, ev_func, get_put, get_args, get_putL, get_putL_nil, Nat.reduceEqDiff, reduceIte, List.getD_cons_zero, List.getD_cons_succ, List.getD_nil]); first | done | with_reducible rfl)) (by ((try simp only [ev_tmp, ev_const, ev_func, get_put, get_args, get_putL, get_putL_nil, Nat.reduceEqDiff, reduceIte, List.getD_cons_zero, List.getD_cons_succ, List.getD_nil]); first | done | with_reducible rfl)) ?_ ?_ <;> omega) | (refine rs_load_ints (by ((try simp only [ev_tmp, ev_const, ev_func, get_put, get_args, get_putL, get_putL_nil, Nat.reduceEqDiff, reduceIte, List.getD_cons_zero, List.getD_cons_succ, List.getD_nil]); first | done | with_reducible rfl)) ?_ <;> omega) | (refine rs_load_rows (by ((try simp only [ev_tmp, ev_const, ev_func, get_put, get_args, get_putL, get_putL_nil, Nat.reduceEqDiff, reduceIte, List.getD_cons_zero, List.getD_cons_succ, List.getD_nil]); first | done | with_reducible rfl)) ?_ <;> omega) | (refine rs_load_rowss (by ((try simp only [ev_tmp, ev_const, ev_func, get_put, get_args, get_putL, get_putL_nil, Nat.reduceEqDiff, reduceIte, List.getD_cons_zero, List.getD_cons_succ, List.getD_nil]); first | done | with_reducible rfl)) ?_ <;> omega) | exact rs_load_cell (by ((try simp only [ev_tmp, ev_const, ev_func, get_put, get_args, get_putL, get_putL_nil, Nat.reduceEqDiff, reduceIte, List.getD_cons_zero, List.getD_cons_succ, List.getD_nil]); first | done | with_reducible rfl)) | exact rs_load_agg3 (by ((try simp only [ev_tmp, ev_const, ev_func, get_put, get_args, get_putL, get_putL_nil, Nat.reduceEqDiff, reduceIte, List.getD_cons_zero, List.getD_cons_succ, List.getD_nil]); first | done | with_reducible rfl)) | exact rs_field (by ((try simp only [ev_tmp, ev_const, ev_func, get_put, get_args, get_putL, get_putL_nil, Nat.reduceEqDiff, reduceIte, List.getD_cons_zero, List.getD_cons_succ, List.getD_nil]); first | done | with_reducible rfl)) | exact rs_load_agg3o (by ((try simp only [ev_tmp, ev_const, ev_func, get_put, get_args, get_putL, get_putL_nil, Nat.reduceEqDiff, reduceIte, List.getD_cons_zero, List.getD_cons_succ, List.getD_nil]); first | done | with_reducible rfl)) | exact rs_fieldo0 (by ((try simp only [ev_tmp, ev_const, ev_func, get_put, get_args, get_putL, get_putL_nil, Nat.reduceEqDiff, reduceIte, List.getD_cons_zero, List.getD_cons_succ, List.getD_nil]); first | done | with_reducible rfl)) | exact rs_fieldo (by ((try simp only [ev_tmp, ev_const, ev_func, get_put, get_args, get_putL, get_putL_nil, Nat.reduceEqDiff, reduceIte, List.getD_cons_zero, List.getD_cons_succ, List.getD_nil]); first | done | with_reducible rfl)) | exact rs_load_agg7 (by ((try simp only [ev_tmp, ev_const, ev_func, get_put, get_args, get_putL, get_putL_nil, Nat.reduceEqDiff, reduceIte, List.getD_cons_zero, List.getD_cons_succ, List.getD_nil]); first | done | with_reducible rfl)) | exact rs_len (by ((try simp only [ev_tmp, ev_const, ev_func, get_put, get_args, get_putL, get_putL_nil, Nat.reduceEqDiff, reduceIte, List.getD_cons_zero, List.getD_cons_succ, List.getD_nil]); first | done | with_reducible rfl)) | (refine rs_add (by ((try simp only [ev_tmp, ev_const, ev_func, get_put, get_args, get_putL, get_putL_nil, Nat.reduceEqDiff, reduceIte, List.getD_cons_zero, List.getD_cons_succ, List.getD_nil]); first | done | with_reducible rfl)) (by ((try simp only [ev_tmp, ev_const, ev_func, get_put, get_args, get_putL, get_putL_nil, Nat.reduceEqDiff, reduceIte, List.getD_cons_zero, List.getD_cons_succ, List.getD_nil]); first | done | with_reducible rfl)) ?_ <;> omega) | (refine rs_sub (by ((try simp only [ev_tmp, ev_const, ev_func, get_put, get_args, get_putL, get_putL_nil, Nat.reduceEqDiff, reduceIte, List.getD_cons_zero, List.getD_cons_succ, List.getD_nil]); first | done | with_reducible rfl)) (by ((try simp only [ev_tmp, ev_const, ev_func, get_put, get_args, get_putL, get_putL_nil, Nat.reduceEqDiff, reduceIte, List.getD_cons_zero, List.getD_cons_succ, List.getD_nil]); first | done | with_reducible rfl)) ?_ <;> omega) | exact rs_lss (by ((try simp only [ev_tmp, ev_const, ev_func, get_put, get_args, get_putL, get_putL_nil, Nat.reduceEqDiff, reduceIte, List.getD_cons_zero, List.getD_cons_succ, List.getD_nil]); first | done | with_reducible rfl)) (by ((try simp only [ev_tmp, ev_const, ev_func, get_put, get_args, get_putL, get_putL_nil, Nat.reduceEqDiff, reduceIte, List.getD_cons_zero, List.getD_cons_succ, List.getD_nil]); first | done | with_reducible rfl)) | exact rs_geq (by ((try simp only [ev_tmp, ev_const, ev_func, get_put, get_args, get_putL, get_putL_nil, Nat.reduceEqDiff, reduceIte, List.getD_cons_zero, List.getD_cons_succ, List.getD_nil]); first | done | with_reducible rfl)) (by ((try simp only [ev_tmp, ev_const, ev_func, get_put, get_args, get_putL, get_putL_nil, Nat.reduceEqDiff, reduceIte, List.getD_cons_zero, List.getD_cons_succ, List.getD_nil]); first | done | with_reducible rfl)) | exact rs_leq (by ((try simp only [ev_tmp, ev_const, ev_func, get_put, get_args, get_putL, get_putL_nil, Nat.reduceEqDiff, reduceIte, List.getD_cons_zero, List.getD_cons_succ, List.getD_nil]); first | done | with_reducible rfl)) (by ((try simp only [ev_tmp, ev_const, ev_func, get_put, get_args, get_putL, get_putL_nil, Nat.reduceEqDiff, reduceIte, List.getD_cons_zero, List.getD_cons_succ, List.getD_nil]); first | done | with_reducible rfl)) | exact rs_gtr (by ((try simp only [ev_tmp, ev_const, ev_func, get_put, get_args, get_putL, get_putL_nil, Nat.reduceEqDiff, reduceIte, List.getD_cons_zero, List.getD_cons_succ, List.getD_nil]); first | done | with_reducible rfl)) (by ((try simp only [ev_tmp, ev_const, ev_func, get_put, get_args, get_putL, get_putL_nil, Nat.reduceEqDiff, reduceIte, List.getD_cons_zero, List.getD_cons_succ, List.getD_nil]); first | done | with_reducible rfl)) | exact rs_eql (by ((try simp only [ev_tmp, ev_const, ev_func, get_put, get_args, get_putL, get_putL_nil, Nat.reduceEqDiff, reduceIte, List.getD_cons_zero, List.getD_cons_succ, List.getD_nil]); first | done | with_reducible rfl)) (by ((try simp only [ev_tmp, ev_const, ev_func, get_put, get_args, get_putL, get_putL_nil, Nat.reduceEqDiff, reduceIte, List.getD_cons_zero, List.getD_cons_succ, List.getD_nil]); first | done | with_reducible rfl)) | exact rs_neq (by ((try simp only [ev_tmp, ev_const, ev_func, get_put, get_args, get_putL, get_putL_nil, Nat.reduceEqDiff, reduceIte, List.getD_cons_zero, List.getD_cons_succ, List.getD_nil]); first | done | with_reducible rfl)) (by ((try simp only [ev_tmp, ev_const, ev_func, get_put, get_args, get_putL, get_putL_nil, Nat.reduceEqDiff, reduceIte, List.getD_cons_zero, List.getD_cons_succ, List.getD_nil]); first | done | with_reducible rfl)) | exact rs_not (by ((try simp only [ev_tmp, ev_const, ev_func, get_put, get_args, get_putL, get_putL_nil, Nat.reduceEqDiff, reduceIte, List.getD_cons_zero, List.getD_cons_succ, List.getD_nil]); first | done | with_reducible rfl)) | (refine rs_neg (by ((try simp only [ev_tmp, ev_const, ev_func, get_put, get_args, get_putL, get_putL_nil, Nat.reduceEqDiff, reduceIte, List.getD_cons_zero, List.getD_cons_succ, List.getD_nil]); first | done | with_reducible rfl)) ?_ <;> omega) | exact rs_nilCheck (by ((try simp only [ev_tmp, ev_const, ev_func, get_put, get_args, get_putL, get_putL_nil, Nat.reduceEqDiff, reduceIte, List.getD_cons_zero, List.getD_cons_succ, List.getD_nil]); first | done | with_reducible rfl)) | exact rs_pick_t (by ((try simp only [ev_tmp, ev_const, ev_func, get_put, get_args, get_putL, get_putL_nil, Nat.reduceEqDiff, reduceIte, List.getD_cons_zero, List.getD_cons_succ, List.getD_nil]); first | done | with_reducible rfl)) (by ((try simp only [ev_tmp, ev_const, ev_func, get_put, get_args, get_putL, get_putL_nil, Nat.reduceEqDiff, reduceIte, List.getD_cons_zero, List.getD_cons_succ, List.getD_nil]); first | done | with_reducible rfl)) | exact rs_pick_f (by ((try simp only [ev_tmp, ev_const, ev_func, get_put, get_args, get_putL, get_putL_nil, Nat.reduceEqDiff, reduceIte, List.getD_cons_zero, List.getD_cons_succ, List.getD_nil]); first | done | with_reducible rfl)) (by ((try simp only [ev_tmp, ev_const, ev_func, get_put, get_args, get_putL, get_putL_nil, Nat.reduceEqDiff, reduceIte, List.getD_cons_zero, List.getD_cons_succ, List.getD_nil]); first | done | with_reducible rfl)) | exact rs_ext2a (by ((try simp only [ev_tmp, ev_const, ev_func, get_put, get_args, get_putL, get_putL_nil, Nat.reduceEqDiff, reduceIte, List.getD_cons_zero, List.getD_cons_succ, List.getD_nil]); first | done | with_reducible rfl)) | exact rs_ext2b (by ((try simp only [ev_tmp, ev_const, ev_func, get_put, get_args, get_putL, get_putL_nil, Nat.reduceEqDiff, reduceIte, List.getD_cons_zero, List.getD_cons_succ, List.getD_nil]); first | done | with_reducible rfl)) | exact rs_ext3a (by ((try simp only [ev_tmp, ev_const, ev_func, get_put, get_args, get_putL, get_putL_nil, Nat.reduceEqDiff, reduceIte, List.getD_cons_zero, List.getD_cons_succ, List.getD_nil]); first | done | with_reducible rfl)) | exact rs_ext3b (by ((try simp only [ev_tmp, ev_const, ev_func, get_put, get_args, get_putL, get_putL_nil, Nat.reduceEqDiff, reduceIte, List.getD_cons_zero, List.getD_cons_succ, List.getD_nil]); first | done | with_reducible rfl)) | exact rs_ext3c (by ((try simp only [ev_tmp, ev_const, ev_func, get_put, get_args, get_putL, get_putL_nil, Nat.reduceEqDiff, reduceIte, List.getD_cons_zero, List.getD_cons_succ, List.getD_nil]); first | done | with_reducible rfl)) | exact rs_ext4a (by ((try simp only [ev_tmp, ev_const, ev_func, get_put, get_args, get_putL, get_putL_nil, Nat.reduceEqDiff, reduceIte, List.getD_cons_zero, List.getD_cons_succ, List.getD_nil]); first | done | with_reducible rfl)) | exact rs_ext4b (by ((try simp only [ev_tmp, ev_const, ev_func, get_put, get_args, get_putL, get_putL_nil, Nat.reduceEqDiff, reduceIte, List.getD_cons_zero, List.getD_cons_succ, List.getD_nil]); first | done | with_reducible rfl)) | exact rs_ext4c (by ((try simp only [ev_tmp, ev_const, ev_func, get_put, get_args, get_putL, get_putL_nil, Nat.reduceEqDiff, reduceIte, List.getD_cons_zero, List.getD_cons_succ, List.getD_nil]); first | done | with_reducible rfl)) | exact rs_ext4d (by ((try simp only [ev_tmp, ev_const, ev_func, get_put, get_args, get_putL, get_putL_nil, Nat.reduceEqDiff, reduceIte, List.getD_cons_zero, List.getD_cons_succ, List.getD_nil]); first | done | with_reducible rfl)) | exact rs_eqnil (by ((try simp only [ev_tmp, ev_const, ev_func, get_put, get_args, get_putL, get_putL_nil, Nat.reduceEqDiff, reduceIte, List.getD_cons_zero, List.getD_cons_succ, List.getD_nil]); first | done | with_reducible rfl)) | exact rs_neqnil_t (by ((try simp only [ev_tmp, ev_const, ev_func, get_put, get_args, get_putL, get_putL_nil, Nat.reduceEqDiff, reduceIte, List.getD_cons_zero, List.getD_cons_succ, List.getD_nil]); first | done | with_reducible rfl)) | exact rs_neqnil_f (by ((try simp only [ev_tmp, ev_const, ev_func, get_put, get_args, get_putL, get_putL_nil, Nat.reduceEqDiff, reduceIte, List.getD_cons_zero, List.getD_cons_succ, List.getD_nil]); first | done | with_reducible rfl)) | (refine rs_slice_l (by ((try simp only [ev_tmp, ev_const, ev_func, get_put, get_args, get_putL, get_putL_nil, Nat.reduceEqDiff, reduceIte, List.getD_cons_zero, List.getD_cons_succ, List.getD_nil]); first | done | with_reducible rfl)) (by ((try simp only [ev_tmp, ev_const, ev_func, get_put, get_args, get_putL, get_putL_nil, Nat.reduceEqDiff, reduceIte, List.getD_cons_zero, List.getD_cons_succ, List.getD_nil]); first | done | with_reducible rfl)) ?_ ?_ <;> omega) | (refine rs_slice_h (by ((try simp only [ev_tmp, ev_const, ev_func, get_put, get_args, get_putL, get_putL_nil, Nat.reduceEqDiff, reduceIte, List.getD_cons_zero, List.getD_cons_succ, List.getD_nil]); first | done | with_reducible rfl)) (by ((try simp only [ev_tmp, ev_const, ev_func, get_put, get_args, get_putL, get_putL_nil, Nat.reduceEqDiff, reduceIte, List.getD_cons_zero, List.getD_cons_succ, List.getD_nil]); first | done | with_reducible rfl)) ?_ ?_ <;> omega) | (refine rs_slice_lh (by ((try simp only [ev_tmp, ev_const, ev_func, get_put, get_args, get_putL, get_putL_nil, Nat.reduceEqDiff, reduceIte, List.getD_cons_zero, List.getD_cons_succ, List.getD_nil]); first | done | with_reducible rfl)) (by ((try simp only [ev_tmp, ev_const, ev_func, get_put, get_args, get_putL, get_putL_nil, Nat.reduceEqDiff, reduceIte, List.getD_cons_zero, List.getD_cons_succ, List.getD_nil]); first | done | with_reducible rfl)) (by ((try simp only [ev_tmp, ev_const, ev_func, get_put, get_args, get_putL, get_putL_nil, Nat.reduceEqDiff, reduceIte, List.getD_cons_zero, List.getD_cons_succ, List.getD_nil]); first | done | with_reducible rfl)) ?_ ?_ ?_ <;> omega) | (refine rs_quo (by ((try simp only [ev_tmp, ev_const, ev_func, get_put, get_args, get_putL, get_putL_nil, Nat.reduceEqDiff, reduceIte, List.getD_cons_zero, List.getD_cons_succ, List.getD_nil]); first | done | with_reducible rfl)) (by ((try simp only [ev_tmp, ev_const, ev_func, get_put, get_args, get_putL, get_putL_nil, Nat.reduceEqDiff, reduceIte, List.getD_cons_zero, List.getD_cons_succ, List.getD_nil]); first | done | with_reducible rfl)) ?_ <;> omega) | (refine rs_rem (by ((try simp only [ev_tmp, ev_const, ev_func, get_put, get_args, get_putL, get_putL_nil, Nat.reduceEqDiff, reduceIte, List.getD_cons_zero, List.getD_cons_succ, List.getD_nil]); first | done | with_reducible rfl)) (by ((try simp only [ev_tmp, ev_const, ev_func, get_put, get_args, get_putL, get_putL_nil, Nat.reduceEqDiff, reduceIte, List.getD_cons_zero, List.getD_cons_succ, List.getD_nil]); first | done | with_reducible rfl)) ?_ <;> omega) | (refine rs_lens (by ((try simp only [ev_tmp, ev_const, ev_func, get_put, get_args, get_putL, get_putL_nil, Nat.reduceEqDiff, reduceIte, List.getD_cons_zero, List.getD_cons_succ, List.getD_nil]); first | done | with_reducible rfl)) ?_ <;> omega) | (refine rs_indexs (by ((try simp only [ev_tmp, ev_const, ev_func, get_put, get_args, get_putL, get_putL_nil, Nat.reduceEqDiff, reduceIte, List.getD_cons_zero, List.getD_cons_succ, List.getD_nil]); first | done | with_reducible rfl)) (by ((try simp only [ev_tmp, ev_const, ev_func, get_put, get_args, get_putL, get_putL_nil, Nat.reduceEqDiff, reduceIte, List.getD_cons_zero, List.getD_cons_succ, List.getD_nil]); first | done | with_reducible rfl)) ?_ <;> omega) | (refine rs_slices_lh (by ((try simp only [ev_tmp, ev_const, ev_func, get_put, get_args, get_putL, get_putL_nil, Nat.reduceEqDiff, reduceIte, List.getD_cons_zero, List.getD_cons_succ, List.getD_nil]); first | done | with_reducible rfl)) (by ((try simp only [ev_tmp, ev_const, ev_func, get_put, get_args, get_putL, get_putL_nil, Nat.reduceEqDiff, reduceIte, List.getD_cons_zero, List.getD_cons_succ, List.getD_nil]); first | done | with_reducible rfl)) (by ((try simp only [ev_tmp, ev_const, ev_func, get_put, get_args, get_putL, get_putL_nil, Nat.reduceEqDiff, reduceIte, List.getD_cons_zero, List.getD_cons_succ, List.getD_nil]); first | done | with_reducible rfl)) ?_ <;> omega) | (refine rs_slices_l (by ((try simp only [ev_tmp, ev_const, ev_func, get_put, get_args, get_putL, get_putL_nil, Nat.reduceEqDiff, reduceIte, List.getD_cons_zero, List.getD_cons_succ, List.getD_nil]); first | done | with_reducible rfl)) (by ((try simp only [ev_tmp, ev_const, ev_func, get_put, get_args, get_putL, get_putL_nil, Nat.reduceEqDiff, reduceIte, List.getD_cons_zero, List.getD_cons_succ, List.getD_nil]); first | done | with_reducible rfl)) ?_ <;> omega) | exact rs_eql8 (by ((try simp only [ev_tmp, ev_const, ev_func, get_put, get_args, get_putL, get_putL_nil, Nat.reduceEqDiff, reduceIte, List.getD_cons_zero, List.getD_cons_succ, List.getD_nil]); first | done | with_reducible rfl)) (by ((try simp only [ev_tmp, ev_const, ev_func, get_put, get_args, get_putL, get_putL_nil, Nat.reduceEqDiff, reduceIte, List.getD_cons_zero, List.getD_cons_succ, List.getD_nil]); first | done | with_reducible rfl)) | exact rs_neq8 (by ((try simp only [ev_tmp, ev_const, ev_func, get_put, get_args, get_putL, get_putL_nil, Nat.reduceEqDiff, reduceIte, List.getD_cons_zero, List.getD_cons_succ, List.getD_nil]); first | done | with_reducible rfl)) (by ((try simp only [ev_tmp, ev_const, ev_func, get_put, get_args, get_putL, get_putL_nil, Nat.reduceEqDiff, reduceIte, List.getD_cons_zero, List.getD_cons_succ, List.getD_nil]); first | done | with_reducible rfl)) | exact rs_lss8 (by ((try simp only [ev_tmp, ev_const, ev_func, get_put, get_args, get_putL, get_putL_nil, Nat.reduceEqDiff, reduceIte, List.getD_cons_zero, List.getD_cons_succ, List.getD_nil]); first | done | with_reducible rfl)) (by ((try simp only [ev_tmp, ev_const, ev_func, get_put, get_args, get_putL, get_putL_nil, Nat.reduceEqDiff, reduceIte, List.getD_cons_zero, List.getD_cons_succ, List.getD_nil]); first | done | with_reducible rfl)) | exact rs_gtr8 (by ((try simp only [ev_tmp, ev_const, ev_func, get_put, get_args, get_putL, get_putL_nil, Nat.reduceEqDiff, reduceIte, List.getD_cons_zero, List.getD_cons_succ, List.getD_nil]); first | done | with_reducible rfl)) (by ((try simp only [ev_tmp, ev_const, ev_func, get_put, get_args, get_putL, get_putL_nil, Nat.reduceEqDiff, reduceIte, List.getD_cons_zero, List.getD_cons_succ, List.getD_nil]); first | done | with_reducible rfl)) | (refine rs_sub8 (by ((try simp only [ev_tmp, ev_const, ev_func, get_put, get_args, get_putL, get_putL_nil, Nat.reduceEqDiff, reduceIte, List.getD_cons_zero, List.getD_cons_succ, List.getD_nil]); first | done | with_reducible rfl)) (by ((try simp only [ev_tmp, ev_const, ev_func, get_put, get_args, get_putL, get_putL_nil, Nat.reduceEqDiff, reduceIte, List.getD_cons_zero, List.getD_cons_succ, List.getD_nil]); first | done | with_reducible rfl)) ?_ <;> omega) | exact rs_eqls (by ((try simp only [ev_tmp, ev_const, ev_func, get_put, get_args, get_putL, get_putL_nil, Nat.reduceEqDiff, reduceIte, List.getD_cons_zero, List.getD_cons_succ, List.getD_nil]); first | done | with_reducible rfl)) (by ((try simp only [ev_tmp, ev_const, ev_func, get_put, get_args, get_putL, get_putL_nil, Nat.reduceEqDiff, reduceIte, List.getD_cons_zero, List.getD_cons_succ, List.getD_nil]); first | done | with_reducible rfl)) | exact rs_neqs (by ((try simp only [ev_tmp, ev_const, ev_func, get_put, get_args, get_putL, get_putL_nil, Nat.reduceEqDiff, reduceIte, List.getD_cons_zero, List.getD_cons_succ, List.getD_nil]); first | done | with_reducible rfl)) (by ((try simp only [ev_tmp, ev_const, ev_func, get_put, get_args, get_putL, get_putL_nil, Nat.reduceEqDiff, reduceIte, List.getD_cons_zero, List.getD_cons_succ, List.getD_nil]); first | done | with_reducible rfl)) | (refine rs_adds (by ((try simp only [ev_tmp, ev_const, ev_func, get_put, get_args, get_putL, get_putL_nil, Nat.reduceEqDiff, reduceIte, List.getD_cons_zero, List.getD_cons_succ, List.getD_nil]); first | done | with_reducible rfl)) (by ((try simp only [ev_tmp, ev_const, ev_func, get_put, get_args, get_putL, get_putL_nil, Nat.reduceEqDiff, reduceIte, List.getD_cons_zero, List.getD_cons_succ, List.getD_nil]); first | done | with_reducible rfl)) ?_ <;> omega) | (refine rs_conv_i (by ((try simp only [ev_tmp, ev_const, ev_func, get_put, get_args, get_putL, get_putL_nil, Nat.reduceEqDiff, reduceIte, List.getD_cons_zero, List.getD_cons_succ, List.getD_nil]); first | done | with_reducible rfl)) ?_ <;> omega) | (refine rs_conv_b (by ((try simp only [ev_tmp, ev_const, ev_func, get_put, get_args, get_putL, get_putL_nil, Nat.reduceEqDiff, reduceIte, List.getD_cons_zero, List.getD_cons_succ, List.getD_nil]); first | done | with_reducible rfl)) ?_ <;> omega) | exact rs_bts (by ((try simp only [ev_tmp, ev_const, ev_func, get_put, get_args, get_putL, get_putL_nil, Nat.reduceEqDiff, reduceIte, List.getD_cons_zero, List.getD_cons_succ, List.getD_nil]); first | done | with_reducible rfl)) | (refine rs_load_strs (by ((try simp only [ev_tmp, ev_const, ev_func, get_put, get_args, get_putL, get_putL_nil, Nat.reduceEqDiff, reduceIte, List.getD_cons_zero, List.getD_cons_succ, List.getD_nil]); first | done | with_reducible rfl)) ?_ <;> omega)) (next : dops P N ops π (Ext w0) K (i + 1) (put ρ d v) w) : dops P N ops π (Ext w0) K i ρ w := dt_rd hi hs ht hd hg h.at_ next
theorem got {G X : Prop} (k : X) (h : Keep X → G := by intro k; (repeat (first | (show rops _ _ _ _ (_ :: _) _ _; first | refine rat (next := ?_) | refine rk (next := ?_) | refine rku (next := ?_)) | refine st_end ?_ | refine thn_normal ?_ | refine r_seq ?_ | refine r_region rfl ?_ | refine thn_exit ?_ | refine thn_ret ?_ | refine inBlk_normal ?_ | refine inBlk_ret ?_ | refine inBlk_hit ?_ | refine inBlk_miss (by decide) ?_ | refine forQ_exit ?_ | refine forQ_ret ?_ | refine loopQ_exit ?_ | refine loopQ_ret ?_ | refine r_block ?_ | refine r_skip ?_ | refine r_exit ?_ | refine r_ret ?_ | (show rwp _ _ (.cond _ _ _) _ _ _; first | refine c_t (h := ?_) | refine c_f (h := ?_)))); exact k.out) : G := h ⟨k⟩
theorem dgot {G X : Prop} (k : X) (h : Keep X → G := by intro k; (repeat (first | refine dat (next := ?_) | refine dsk (next := ?_) | refine dsku (next := ?_))); exact k.out) : G := h ⟨k⟩
end
end Go.Pc
namespace Go.Proofs.Ytflniifngfiekaa
open Go Go.Pc
instance : StrT Try.prog 9 := ⟨by kernel_rfl⟩
instance : IntT Try.prog 5 .u8 := ⟨by kernel_rfl⟩
instance : IntT Try.prog 2 .i64 := ⟨by kernel_rfl⟩
instance : IntT Try.prog 3 .i64 := ⟨by kernel_rfl⟩
end Go.Proofs.Ytflniifngfiekaa

/-
  Walks: the reference's texts (l01Split, l01Value, l07Orders, l06Parse, l07Vector, l01Dec, l06Text, l07Letter).
  Conditions: stated at each theorem.
-/
namespace Go.Proofs.Ytflniifngfiekaa
open Go Go.Pc
theorem cut_size (s : ByteArray) (a b : Nat) : (s.extract a b).size ≤ s.size := by
  rw [ByteArray.size_extract]; omega
def Szs (n : Nat) (us : List ByteArray) : Prop := ∀ j, (us.getD j ByteArray.empty).size ≤ n
theorem Szs.nil {n : Nat} : Szs n [] := fun j => by simp
theorem Szs.push {n : Nat} {us : List ByteArray} {s : ByteArray} (h : Szs n us) (hs : s.size ≤ n) : Szs n (us ++ [s]) := fun j => by
  by_cases hj : j < us.length
  · have := h j
    rw [List.getD_eq_getElem?_getD, List.getElem?_append_left hj, ← List.getD_eq_getElem?_getD]
    exact this
  · by_cases e : j = us.length
    · subst e; simpa using hs
    · rw [List.getD_eq_getElem?_getD, List.getElem?_eq_none (by simp; omega)]
      simp
set_option maxHeartbeats 4000000 in
theorem l01Split_ok {w : World} {s : ByteArray} {c : Int} (hs : s.size ≤ 1000) :
    Calls Try.prog 88 #[.string s, .int .u8 c] w (Ret fun v w' => ∃ us, Ext w w' ∧ Strs w.heap.size w'.heap.size w' v us ∧ 0 < us.length ∧ us.length ≤ 1001 ∧ Szs s.size us) := by
  refine enter (args := [.string s, .int .u8 c]) (l := [.tmp 4]) Try.func88 rfl rfl Try.ntmps88 (by simp) ?_
  refine go ?_
  refine st_slice0 (by first | exact True.intro | exact ⟨_, rfl, by ((try simp only [ev_tmp, ev_const, ev_func, get_put, get_args, get_putL, get_putL_nil, Nat.reduceEqDiff, reduceIte, List.getD_cons_zero, List.getD_cons_succ, List.getD_nil, Bool.not_true, Bool.not_false]); first | done | with_reducible rfl)⟩) fun w1 v1 he1 hs1 ho1 => ?_
  have hz1 := he1.size
  refine go ?_
  refine r_for s.size (fun i ρ w' => ∃ (vl : Value) (us : List ByteArray) (f : Nat), Has ρ [(0, .string s), (1, .int .u8 c), (5, vl), (6, .int .i64 f), (7, .int .i64 i)] ∧ Ext w w' ∧ OwnN 9 w.heap.size w' vl (us.map Value.string) ∧ us.length ≤ i ∧ f ≤ i ∧ Szs s.size us) ?_ ?_
  · refine ⟨v1, [], 0, ?_, he1, ho1.toN, Nat.le_refl _, Nat.le_refl _, Szs.nil⟩
    exact hasP
  clear ho1
  rintro i ρ w2 hi ⟨vl, us, f, hH, hx2, hN2, hul, hf, hsz⟩
  refine rwp_has hH fun ρ0 => ?_
  have hz2 := hx2.size
  refine got ?_
  refine c_if (fun h3 => ?_) (fun h3 => ?_)
  · refine got ?_
    refine c_if (fun h4 => ?_) (fun h4 => ?_)
    · refine got ?_
      refine st_growu hN2 rfl rfl (by omega) (by rw [List.length_map]; omega) (fun v4 v5 w5 ho5 hx5 hz5 hst5 => ?_)
      refine got ?_
      refine forQ_normal (by omega) ⟨v5, us ++ [s.extract f i], i + 1, ?_, hx5 w hx2 (Nat.le_refl _), ?_, by simp; omega, Nat.le_refl _, hsz.push (cut_size _ _ _)⟩
      · exact hasP
      · simpa using ho5
    · refine got ?_
      refine forQ_normal (by omega) ⟨vl, us, f, ?_, hx2, hN2, by omega, by omega, hsz⟩
      exact hasP
  · refine got ?_
    refine st_growu hN2 rfl rfl (by omega) (by rw [List.length_map]; omega) (fun v4 v5 w5 ho5 hx5 hz5 hst5 => ?_)
    refine got ?_
    have ho6 : OwnN 9 w.heap.size w5 v5 ((us ++ [s.extract f s.size]).map Value.string) := by simpa using ho5
    exact ret1 ⟨us ++ [s.extract f s.size], hx5 w hx2 (Nat.le_refl _), ⟨ho6.toSl⟩, by simp, by simp; omega, hsz.push (cut_size _ _ _)⟩
set_option maxHeartbeats 4000000 in
theorem l01Value_ok {w : World} {s : ByteArray} (hs : s.size ≤ 1000) :
    Calls Try.prog 93 #[.string s] w (Ret fun v w' => ∃ k : Int, v = .int .i64 k ∧ Ext w w' ∧ -1 ≤ k ∧ k ≤ 100000000) := by
  have bad : ∀ w', Ext w w' → ∃ k : Int, Value.int .i64 (-1) = .int .i64 k ∧ Ext w w' ∧ -1 ≤ k ∧ k ≤ 100000000 := fun w' h => ⟨-1, rfl, h, by omega, by omega⟩
  refine enter (args := [.string s]) (l := [.tmp 2]) Try.func93 rfl rfl Try.ntmps93 (by simp) ?_
  refine got ?_
  refine spd (fun h1 => ?_) (fun h1 => ?_)
  · refine got ?_
    exact ret1 (bad _ (Ext.refl _))
  refine got ?_
  refine spd (fun h2 => ?_) (fun h2 => ?_)
  · refine got ?_
    exact ret1 (bad _ (Ext.refl _))
  refine got ?_
  refine spd (fun h3 => ?ca) (fun h3 => ?cb)
  case' ca =>
    refine got ?_
    refine c_if (fun h4 => ?cc) (fun h4 => ?cd)
  case cc =>
    refine got ?_
    exact ret1 (bad _ (Ext.refl _))
  all_goals
    refine got ?_
    refine r_for s.size (fun i ρ w' => ∃ (n : Int), Has ρ [(0, .string s), (3, .int .i64 n), (4, .int .i64 i)] ∧ Ext w w' ∧ 0 ≤ n ∧ n + 1 ≤ 10 ^ i) ?_ ?_
    · refine ⟨0, ?_, Ext.refl _, Int.le_refl _, by simp⟩
      exact hasP
    rintro i ρ w2 hi ⟨n, hH, hx2, hn0, hn1⟩
    refine rwp_has hH fun ρ0 => ?_
    have hc := chr_rng s ((i : Int).toNat)
    have hp : (10 : Int) ^ i ≤ 10 ^ 6 := by
      have h : (10 : Nat) ^ i ≤ 10 ^ 6 := Nat.pow_le_pow_right (by omega) (by omega)
      exact_mod_cast h
    have hs1 : (10 : Int) ^ (i + 1) = 10 ^ i * 10 := Int.pow_succ 10 i
    refine got ?_
    refine c_if (fun h5 => ?_) (fun h5 => ?_)
    · refine got ?_
      refine spd (fun h6 => ?_) (fun h6 => ?_)
      · refine got ?_
        exact ret1 (bad _ hx2)
      refine got ?_
      refine c_if (fun h7 => ?_) (fun h7 => ?_)
      · refine got ?_
        exact ret1 (bad _ hx2)
      refine got ?_
      refine ra (h := rd_mul (by ((try simp only [ev_tmp, ev_const, ev_func, get_put, get_args, get_putL, get_putL_nil, Nat.reduceEqDiff, reduceIte, List.getD_cons_zero, List.getD_cons_succ, List.getD_nil]); first | done | with_reducible rfl)) (by ((try simp only [ev_tmp, ev_const, ev_func, get_put, get_args, get_putL, get_putL_nil, Nat.reduceEqDiff, reduceIte, List.getD_cons_zero, List.getD_cons_succ, List.getD_nil]); first | done | with_reducible rfl)) (by omega)) (next := ?_)
      refine got ?_
      refine forQ_normal (by omega) ⟨10 * n + (chr s ((i : Int).toNat) - 48), ?_, hx2, ?_, ?_⟩
      · exact hasP
      · omega
      · omega
    · refine got ?_
      exact ret1 ⟨n, rfl, hx2, by omega, by omega⟩
set_option maxHeartbeats 4000000 in
theorem l07Orders_ok {w : World} {s : ByteArray} (hs : s.size ≤ 1000) :
    Calls Try.prog 89 #[.string s] w (Ret fun v w' => ∃ (vl : Value) (xs : List Int) (b : Bool), v = .tuple #[vl, .bool b] ∧ Ext w w' ∧ Fr w.heap.size w' vl xs ∧ Few 6 xs) := by
  refine enter (args := [.string s]) (l := [.tmp 2, .tmp 3]) Try.func89 rfl rfl Try.ntmps89 (by simp) ?_
  refine got ?_
  refine st_slice0 (by first | exact True.intro | exact ⟨_, rfl, by ((try simp only [ev_tmp, ev_const, ev_func, get_put, get_args, get_putL, get_putL_nil, Nat.reduceEqDiff, reduceIte, List.getD_cons_zero, List.getD_cons_succ, List.getD_nil, Bool.not_true, Bool.not_false]); first | done | with_reducible rfl)⟩) fun w1 v1 he1 hs1 ho1 => ?_
  have hg1 : GrowI 2 w.heap.size w1 v1 [] := GrowI.start ho1 (Nat.le_refl _)
  have hvb1 := ho1.toN_block
  clear ho1
  have hz1 := he1.size
  refine got ?_
  refine c_b (fun h1 => ?_) (fun h1 => ?_)
  · refine got ?_
    exact ret2 ⟨v1, [], true, rfl, he1, hg1.fr, Few.nil⟩
  refine got ?_
  refine rc (l01Split_ok hs) (next := fun v2 w2 h => ?_)
  obtain ⟨us, he2, hp2, hl0, hl1, hsz⟩ := h
  have hz2 := he2.size
  refine got ?_
  refine r_for us.length (fun i ρ w' => ∃ (vl : Value) (xs : List Int), Has ρ [(4, vl), (5, v2), (6, .int .i64 i)] ∧ Ext w w' ∧ w2.heap.size ≤ w'.heap.size ∧ Strs w1.heap.size w2.heap.size w' v2 us ∧ (∀ g, vl.ownBlock = some g → g < w1.heap.size ∨ w2.heap.size ≤ g) ∧ GrowI 2 w.heap.size w' vl xs ∧ xs.length = i ∧ Few 6 xs) ?_ ?_
  · refine ⟨v1, [], ?_, he1.trans he2, Nat.le_refl _, hp2, fun g hg => ?_, @GrowI.ext _ _ _ _ _ _ he2 hg1, rfl, Few.nil⟩
    · exact hasP
    · rw [hvb1] at hg; injection hg with hg; omega
  clear hg1
  rintro i ρ w3 hi ⟨vl, xs, hH, hX, hz3, hp3, hvb3, hg3, hxl, hF⟩
  refine rwp_has hH fun ρ0 => ?_
  refine got ?_
  refine c_if (fun h3 => ?_) (fun h3 => ?_)
  · have hszi := hsz i
    refine got ?_
    refine rc (l01Value_ok (s := us.getD i ByteArray.empty) (by omega)) (next := fun v4 w4 h => ?_)
    obtain ⟨k, rfl, he4, hk0, hk1⟩ := h
    refine got ?_
    refine rc l01Prime_ok (next := fun v5 w5 h5 => ?_)
    obtain ⟨b, rfl, hb, he5⟩ := h5
    have hx5 := he4.trans he5
    have hX5 : Ext w w5 := (hX.trans he4).trans he5
    have hg5 : GrowI 2 w.heap.size w5 vl xs := @GrowI.ext _ _ _ _ _ _ (he4.trans he5) hg3
    have hz5 := hx5.size
    refine got ?_
    refine sp (fun h6 => ?_) (fun h6 => ?_)
    · refine got ?_
      exact ret2 ⟨nilv, [], false, rfl, hX5, Fr.nilR _ _, Few.nil⟩
    have hpr : Grp4 k := hb.1 (by simpa using h6)
    refine got ?_
    refine c_if (fun h7 => ?_) (fun h7 => ?_)
    · refine got ?_
      exact ret2 ⟨nilv, [], false, rfl, hX5, Fr.nilR _ _, Few.nil⟩
    refine got ?_
    refine st_growi hg5 (by omega) (by omega) (next := fun v7 v8 w8 hg8 hx8 hz8 hst8 => ?_)
    refine got ?_
    obtain ⟨w6, x6, hgr, hwa⟩ := hst8.ex
    have hz6 := x6.size
    refine forQ_normal (by omega) ⟨v8, xs ++ [k], ?_, hx8 w hX5 (by omega), by omega, (@Strs.ext _ _ _ _ _ _ hx5 hp3).same (hst8.wrt.same fun g hg => hvb3 g hg), fun g hg => ?_, hg8, by simp [hxl], by simp; omega, fun e he => ?_⟩
    · exact hasP
    · rcases hwa with e | e
      · exact hvb3 g (e ▸ hg)
      · rw [e] at hg; injection hg with hg; omega
    · rcases List.mem_append.1 he with he | he
      · exact hF.2 e he
      · rw [List.mem_singleton.1 he]; exact hpr
  · have hi3 := hg3.fr.ints
    refine got ?_
    refine rc (l07Product_ok (xs := xs) (fun o ho => by have := (hF.2 o ho).le; omega) (by have := hF.1; omega)) (next := fun v4 w4 h => ?_)
    obtain ⟨rfl, he4⟩ := h
    refine got ?_
    exact ret2 ⟨vl, xs, _, rfl, hX.trans he4, hg3.fr.ext' he4, hF⟩
end Go.Proofs.Ytflniifngfiekaa

/-
  Walks: the reference's l06Parse, l07Vector, l01Dec, l06Text, l07Letter.
  Conditions: stated at each theorem.
-/
namespace Go.Proofs.Ytflniifngfiekaa
open Go Go.Pc
def Lets (n : Nat) (xs : List Int) : Prop := ∀ e, e ∈ xs → (1 ≤ e ∧ e ≤ n) ∨ (-(n : Int) ≤ e ∧ e ≤ -1)
theorem Lets.nil {n : Nat} : Lets n [] := fun e he => (by cases he)
theorem Lets.push {n : Nat} {xs : List Int} {k : Int} (h : Lets n xs) (hk : (1 ≤ k ∧ k ≤ n) ∨ (-(n : Int) ≤ k ∧ k ≤ -1)) : Lets n (xs ++ [k]) := fun e he => by
  rcases List.mem_append.1 he with he | he
  · exact h e he
  · rw [List.mem_singleton.1 he]; exact hk
theorem Lets.at {n : Nat} {xs : List Int} (h : Lets n xs) {i : Nat} (hi : i < xs.length) : (1 ≤ xs.getD i 0 ∧ xs.getD i 0 ≤ n) ∨ (-(n : Int) ≤ xs.getD i 0 ∧ xs.getD i 0 ≤ -1) := by
  have := h _ (List.getElem_mem hi)
  simpa [hi] using this
set_option maxHeartbeats 4000000 in
theorem l06Parse_ok {w : World} {s : ByteArray} {n : Nat} {k : Int} (hs : s.size ≤ 1000) (hn : n ≤ 100) (hk : k = n) :
    Calls Try.prog 94 #[.int .i64 k, .string s] w (Ret fun v w' => ∃ (vl : Value) (xs : List Int) (b : Bool), v = .tuple #[vl, .bool b] ∧ Ext w w' ∧ Fr w.heap.size w' vl xs ∧ xs.length ≤ 1000 ∧ Lets n xs) := by
  subst hk
  refine enter (args := [.int .i64 n, .string s]) (l := [.tmp 4, .tmp 5]) Try.func94 rfl rfl Try.ntmps94 (by simp) ?_
  refine got ?_
  refine c_b (fun h1 => ?_) (fun h1 => ?_)
  · refine got ?_
    refine st_slice0 (by first | exact True.intro | exact ⟨_, rfl, by ((try simp only [ev_tmp, ev_const, ev_func, get_put, get_args, get_putL, get_putL_nil, Nat.reduceEqDiff, reduceIte, List.getD_cons_zero, List.getD_cons_succ, List.getD_nil, Bool.not_true, Bool.not_false]); first | done | with_reducible rfl)⟩) fun w1 v1 he1 hs1 ho1 => ?_
    have hg1 : GrowI 2 w.heap.size w1 v1 [] := GrowI.start ho1 (Nat.le_refl _)
    refine got ?_
    exact ret2 ⟨v1, [], true, rfl, he1, hg1.fr, by simp, Lets.nil⟩
  refine got ?_
  refine st_slice0 (by first | exact True.intro | exact ⟨_, rfl, by ((try simp only [ev_tmp, ev_const, ev_func, get_put, get_args, get_putL, get_putL_nil, Nat.reduceEqDiff, reduceIte, List.getD_cons_zero, List.getD_cons_succ, List.getD_nil, Bool.not_true, Bool.not_false]); first | done | with_reducible rfl)⟩) fun w1 v1 he1 hs1 ho1 => ?_
  have hg1 : GrowI 2 w.heap.size w1 v1 [] := GrowI.start ho1 (Nat.le_refl _)
  clear ho1
  have hz1 := he1.size
  refine got ?_
  refine r_for s.size (fun i ρ w' => ∃ (vl : Value) (xs : List Int), Has ρ [(0, .int .i64 n), (1, .string s), (6, vl), (7, .int .i64 i)] ∧ Ext w w' ∧ GrowI 2 w.heap.size w' vl xs ∧ xs.length = i ∧ Lets n xs) ?_ ?_
  · refine ⟨v1, [], ?_, he1, hg1, rfl, Lets.nil⟩
    exact hasP
  clear hg1
  rintro i ρ w3 hi ⟨vl, xs, hH, hx3, hg3, hxl, hL⟩
  refine rwp_has hH fun ρ0 => ?_
  have hz3 := hx3.size
  have hc := chr_rng s ((i : Int).toNat)
  refine got ?_
  refine c_if (fun h3 => ?_) (fun h3 => ?_)
  · refine got ?_
    refine d_region (h := fun w4 he4 _ => ?_)
    refine dgot ?_
    refine d_end (h := ?_)
    have hx4 := hx3.trans he4
    have hg4 : GrowI 2 w.heap.size w4 vl xs := @GrowI.ext _ _ _ _ _ _ he4 hg3
    refine got ?_
    refine rc l01In_ok (next := fun v5 w5 h5 => ?_)
    obtain ⟨b5, rfl, hb5, he5⟩ := h5
    have hx5 := hx4.trans he5
    have hg5 : GrowI 2 w.heap.size w5 vl xs := @GrowI.ext _ _ _ _ _ _ he5 hg4
    have hz5 := hx5.size
    refine got ?_
    refine c_b (fun h6 => ?_) (fun h6 => ?_)
    · have hr := hb5.1 h6
      refine got ?_
      refine st_growi hg5 (by omega) (by omega) (next := fun v7 v8 w8 hg8 hx8 hz8 hst8 => ?_)
      refine got ?_
      refine forQ_normal (by omega) ⟨v8, _, ?_, hx8 w hx5 (Nat.le_refl _), hg8, by simp [hxl], hL.push (.inl hr)⟩
      exact hasP
    refine got ?_
    refine rc l01In_ok (next := fun v6 w6 h6 => ?_)
    obtain ⟨b6, rfl, hb6, he6⟩ := h6
    have hx6 := hx5.trans he6
    have hg6 : GrowI 2 w.heap.size w6 vl xs := @GrowI.ext _ _ _ _ _ _ he6 hg5
    have hz6 := hx6.size
    refine got ?_
    refine c_b (fun h7 => ?_) (fun h7 => ?_)
    · have hr := hb6.1 h7
      refine got ?_
      refine st_growi hg6 (by omega) (by omega) (next := fun v7 v8 w8 hg8 hx8 hz8 hst8 => ?_)
      refine got ?_
      refine forQ_normal (by omega) ⟨v8, _, ?_, hx8 w hx6 (Nat.le_refl _), hg8, by simp [hxl], hL.push (.inr ?_)⟩
      · exact hasP
      · omega
    refine got ?_
    exact ret2 ⟨nilv, [], false, rfl, hx6, Fr.nilR _ _, by simp, Lets.nil⟩
  · have hi3 := hg3.fr.ints
    refine got ?_
    exact ret2 ⟨vl, xs, _, rfl, hx3, hg3.fr, by omega, hL⟩
def Cnt1 (m : Nat) (xs : List Int) : Prop := ∀ i, 0 ≤ xs.getD i 0 ∧ xs.getD i 0 ≤ m
theorem Cnt1.zeros (n : Nat) : Cnt1 0 (List.replicate n 0) := fun i => by
  by_cases hi : i < n <;> simp [hi, List.getD_eq_getElem?_getD]
theorem Cnt1.set {m j : Nat} {xs : List Int} (h : Cnt1 m xs) : Cnt1 (m + 1) (xs.set j (xs.getD j 0 + 1)) := fun i => by
  have h1 := h j
  have h2 := h i
  by_cases hi : i < xs.length
  · by_cases e : j = i
    · subst e
      simp [hi] at h1 ⊢
      omega
    · simp [hi, e] at h2 ⊢
      omega
  · have : (xs.set j (xs.getD j 0 + 1)).getD i 0 = 0 := by
      rw [List.getD_eq_getElem?_getD, List.getElem?_eq_none (by simp; omega)]; rfl
    rw [this]; omega
set_option maxHeartbeats 4000000 in
theorem l07Vector_ok {w : World} {v : Value} {ws : List Int} {n lo hi : Nat} {k : Int} [hw : Ints lo hi w v ws] (hl : ws.length ≤ 1000) (hn : n ≤ 100) (hL : Lets n ws) (hk : k = n) :
    Calls Try.prog 38 #[.int .i64 k, v] w (Ret fun v w' => ∃ (vl : Value) (xs : List Int) (b : Bool), v = .tuple #[vl, .bool b] ∧ Ext w w' ∧ Fr w.heap.size w' vl xs ∧ (b = true → xs.length = n)) := by
  subst hk
  replace hw := hw.wide
  refine enter (args := [.int .i64 n, v]) (l := [.tmp 4, .tmp 5]) Try.func38 rfl rfl Try.ntmps38 (by simp) ?_
  refine got ?_
  refine st_make_int (n := n) (by ((try simp only [ev_tmp, ev_const, ev_func, get_put, get_args, get_putL, get_putL_nil, Nat.reduceEqDiff, reduceIte, List.getD_cons_zero, List.getD_cons_succ, List.getD_nil]); first | done | with_reducible rfl)) (by ((try simp only [ev_tmp, ev_const, ev_func, get_put, get_args, get_putL, get_putL_nil, Nat.reduceEqDiff, reduceIte, List.getD_cons_zero, List.getD_cons_succ, List.getD_nil]); first | done | with_reducible rfl)) (by omega) (by omega) (by first | exact True.intro | exact ⟨_, rfl, by ((try simp only [ev_tmp, ev_const, ev_func, get_put, get_args, get_putL, get_putL_nil, Nat.reduceEqDiff, reduceIte, List.getD_cons_zero, List.getD_cons_succ, List.getD_nil, Bool.not_true, Bool.not_false]); first | done | with_reducible rfl)⟩) fun w1 v1 he1 hs1 ho1 => ?_
  have hz1 := he1.size
  refine got ?_
  refine r_for ws.length (fun i ρ w' => ∃ (xs : List Int), Has ρ [(1, v), (6, v1), (7, .int .i64 i)] ∧ Ext w w' ∧ OwnI 2 w.heap.size w' v1 xs ∧ xs.length = n ∧ Cnt1 i xs) ?_ ?_
  · refine ⟨_, ?_, he1, ho1, by simp, Cnt1.zeros n⟩
    exact hasP
  clear ho1
  rintro i ρ w3 hi ⟨xs, hH, hx3, ho3, hxl, hc⟩
  refine rwp_has hH fun ρ0 => ?_
  have hz3 := hx3.size
  have hw3 : Ints _ _ w3 v ws := @Ints.ext _ _ _ _ _ _ hx3 hw
  refine got ?_
  refine c_if (fun h3 => ?_) (fun h3 => ?_)
  · have hLi := hL.at (i := i) (by omega)
    refine got ?_
    refine c_if (fun h4 => ?_) (fun h4 => ?_)
    · refine got ?_
      exact ret2 ⟨nilv, [], false, rfl, hx3, Fr.nilR _ _, fun h => by cases h⟩
    · have hcj := hc ((ws.getD i 0).toNat - 1)
      refine got ?_
      refine d_region (h := fun w4 he4 _ => ?_)
      have ho4 : OwnI 2 w.heap.size w4 v1 xs := @OwnI.ext _ _ _ _ _ _ he4 ho3
      have hi4 := (ho4.toFr (Nat.le_refl _)).ints
      refine dgot ?_
      refine l_store_val ho4.own rfl (m := (ws.getD i 0).toNat - 1) (by rw [List.length_map]; omega) (next := fun w5 hc5 hs5 ho5 => ?_)
      rw [← List.map_set] at ho5
      refine got ?_
      refine forQ_normal (by omega) ⟨_, ?_, hc5.ext (hx3.trans he4) (Nat.le_refl _), ⟨ho5⟩, by simp [hxl], hc.set⟩
      exact hasP
  · refine got ?_
    exact ret2 ⟨v1, xs, true, rfl, hx3, ho3.toFr (Nat.le_refl _), fun _ => hxl⟩
set_option maxHeartbeats 4000000 in
theorem l01Dec_ok {w : World} {n : Int} (h0 : 0 ≤ n) (h1 : n < 10) :
    Calls Try.prog 95 #[.int .i64 n] w (Ret fun v w' => ∃ s : ByteArray, v = .string s ∧ Ext w w' ∧ s.size = 1) := by
  refine enter (args := [.int .i64 n]) (l := [.tmp 2]) Try.func95 rfl rfl Try.ntmps95 (by simp) ?_
  refine got ?_
  refine c_if (fun h2 => ?_) (fun h2 => ?_)
  rotate_left
  · exact absurd h1 h2
  refine got ?_
  refine st_slice1 (u := .int .u8 (48 + n)) (by ((try simp only [ev_tmp, ev_const, ev_func, get_put, get_args, get_putL, get_putL_nil, Nat.reduceEqDiff, reduceIte, List.getD_cons_zero, List.getD_cons_succ, List.getD_nil]); first | done | with_reducible rfl)) rfl rfl (by first | exact True.intro | exact ⟨_, rfl, by ((try simp only [ev_tmp, ev_const, ev_func, get_put, get_args, get_putL, get_putL_nil, Nat.reduceEqDiff, reduceIte, List.getD_cons_zero, List.getD_cons_succ, List.getD_nil, Bool.not_true, Bool.not_false]); first | done | with_reducible rfl)⟩) fun w4 v4 he4 hs4 ho4 => ?_
  have hs : Byts _ _ w4 v4 [48 + n] := ⟨ho4⟩
  refine got ?_
  exact ret1 ⟨bts [48 + n], rfl, he4, by rw [bts_size]; rfl⟩
set_option maxHeartbeats 4000000 in
theorem l06Text_ok {w : World} {v : Value} {ws : List Int} {lo hi : Nat} [hw : Ints lo hi w v ws] (hl : ws.length ≤ 10000) (hp : ∀ i, i < ws.length → 1 ≤ ws.getD i 0 ∧ ws.getD i 0 ≤ 100) :
    Calls Try.prog 98 #[v] w (Ret fun v w' => ∃ s : ByteArray, v = .string s ∧ Ext w w' ∧ s.size ≤ ws.length + 1) := by
  replace hw := hw.wide
  have hlen := hw.toLen
  refine enter (args := [v]) (l := [.tmp 2]) Try.func98 rfl rfl Try.ntmps98 (by simp) ?_
  refine got ?_
  refine c_if (fun h1 => ?_) (fun h1 => ?_)
  · refine got ?_
    refine ret1 ⟨_, rfl, Ext.refl _, ?_⟩
    show 1 ≤ _
    omega
  refine got ?_
  refine st_slice0 (by first | exact True.intro | exact ⟨_, rfl, by ((try simp only [ev_tmp, ev_const, ev_func, get_put, get_args, get_putL, get_putL_nil, Nat.reduceEqDiff, reduceIte, List.getD_cons_zero, List.getD_cons_succ, List.getD_nil, Bool.not_true, Bool.not_false]); first | done | with_reducible rfl)⟩) fun w1 v1 he1 hs1 ho1 => ?_
  have hz1 := he1.size
  have hN1 := ho1.toN
  clear ho1
  refine got ?_
  refine r_for ws.length (fun i ρ w' => ∃ (vl : Value) (xs : List Int), Has ρ [(0, v), (3, vl), (4, .int .i64 i)] ∧ Ext w w' ∧ OwnN 5 w.heap.size w' vl (xs.map (Value.int .u8)) ∧ xs.length = i) ?_ ?_
  · refine ⟨v1, [], ?_, he1, hN1, rfl⟩
    exact hasP
  clear hN1
  rintro i ρ w3 hi ⟨vl, xs, hH, hx3, hN3, hxl⟩
  refine rwp_has hH fun ρ0 => ?_
  have hz3 := hx3.size
  have hw3 : Ints _ _ w3 v ws := @Ints.ext _ _ _ _ _ _ hx3 hw
  refine got ?_
  refine c_if (fun h3 => ?_) (fun h3 => ?_)
  · have hpi := hp i (by omega)
    refine got ?_
    refine c_if (fun h4 => ?_) (fun h4 => ?_)
    · refine got ?_
      refine st_growu hN3 rfl rfl (by omega) (by rw [List.length_map]; omega) (fun v4 v5 w5 ho5 hx5 hz5 hst5 => ?_)
      refine got ?_
      refine forQ_normal (by omega) ⟨v5, xs ++ [97 + ws.getD i 0 - 1], ?_, hx5 w hx3 (Nat.le_refl _), ?_, by simp [hxl]⟩
      · exact hasP
      · simpa using ho5
    · omega
  · have hs3 : Byts _ _ w3 vl xs := ⟨hN3.toSl⟩
    refine got ?_
    exact ret1 ⟨bts xs, rfl, hx3, by rw [bts_size]; omega⟩
set_option maxHeartbeats 4000000 in
theorem l07Letter_ok {w : World} {k : Int} (h0 : 0 ≤ k) (h1 : k < 100) :
    Calls Try.prog 97 #[.int .i64 k] w (Ret fun v w' => ∃ s : ByteArray, v = .string s ∧ Ext w w' ∧ s.size ≤ 2) := by
  refine enter (args := [.int .i64 k]) (l := [.tmp 2]) Try.func97 rfl rfl Try.ntmps97 (by simp) ?_
  refine got ?_
  refine st_sliceN (us := [.int .i64 (k + 1)]) (next := fun w4 v4 he4 hz4 ho4 => ?_)
  have ho4' : OwnI 2 w.heap.size w4 v4 [k + 1] := ⟨ho4⟩
  have hi4 := (ho4'.toFr (Nat.le_refl _)).ints
  refine got ?_
  refine rc (l06Text_ok (ws := [k + 1]) (by simp) (fun i hi => ?_)) (next := fun v5 w5 h => ?_)
  · have : i = 0 := by simpa using hi
    subst this
    simp; omega
  obtain ⟨s, rfl, he5, hs⟩ := h
  refine got ?_
  exact ret1 ⟨s, rfl, he4.trans he5, hs⟩
end Go.Proofs.Ytflniifngfiekaa

/-
  Walk: the reference's l07Own, with the result's own blocks.
  Conditions: stated at the theorem.
-/
namespace Go.Proofs.Ytflniifngfiekaa
open Go Go.Pc
section
variable {X : Nat → Prop} {s b : Nat} {w w0 w1 : World} {vo vp vc : Value} {ord : List Int} {rp : RL} {gs : List (Value × RL)}
theorem O3.withP (h : O3 X s w0 vo nilv nilv ord [] []) (x : Ext w0 w1) (hG : GrL 24 w0.heap.size w1 vp rp) (hX : ∀ b, X b → b < w0.heap.size) : O3 X s w1 vo vp nilv ord rp [] := by
  have hn2 : ∀ b, ¬ FC nilv [] b := fun b hb => by
    rcases hb with hb | ⟨q, hq, _⟩ | ⟨r, hr, _⟩
    · cases hb
    · cases hq
    · cases hr
  have hlo := h.lo
  refine ⟨⟨@OwnN.ext _ _ _ _ _ _ x h.tri.o, ⟨hG.own.mono hlo, hG.rows.mono hlo, hG.off⟩, GrC.nil _ _ _ _, fun b hb hf => ?_, fun b _ h => hn2 b h, fun b _ h => hn2 b h, Nat.le_trans hlo x.size⟩, sep_nil, fun b hb hx => ?_⟩
  · have h1 := (h.tri.o.lt b hb).2
    have h2 := (hG.lt hf).1
    omega
  · rcases hb with hb | hb | hb
    · exact h.off b (.inl hb) hx
    · have h1 := (hG.lt hb).1
      have h2 := hX b hx
      omega
    · exact hn2 b hb
theorem O3.cBlk (h : O3 X s w vo vp vc ord rp gs) (hX : X b) (hb : b < w.heap.size) : ∃ b', s ≤ b' ∧ (∀ g, vc.ownBlock = some g → g = b') ∧ b ≠ b' := by
  have hlo := h.lo
  cases e : vc.ownBlock with
  | none => exact ⟨w.heap.size, hlo, fun g e2 => (by cases e2), by omega⟩
  | some g => exact ⟨g, (h.tri.c.own.lt g e).1, fun g' e2 => by injection e2 with e2; exact e2.symm, fun e2 => h.off g (.inr (.inr (.inl e))) (e2 ▸ hX)⟩
theorem ShP.sh3 (h : ShP (prOf ord rp gs)) : Sh3 ord rp gs := by
  have e1 := h.pow
  have e2 := h.cnj
  simp only [prOf, List.length_map] at e1 e2
  refine ⟨e1, e2, fun i hi => ?_, fun r hr => ?_, fun q hq r hr => ?_⟩
  · have := h.cnji i (by simp only [prOf]; omega)
    simpa [prOf, hi] using this
  · obtain ⟨i, hi, rfl⟩ := List.getElem_of_mem hr
    have := h.pl i (by simp only [prOf]; omega)
    simpa [prOf, hi] using this
  · obtain ⟨i, hi, rfl⟩ := List.getElem_of_mem hq
    obtain ⟨j, hj, rfl⟩ := List.getElem_of_mem hr
    have h1 := h.cnji i (by simp only [prOf]; omega)
    simp [prOf, hi] at h1
    have := h.cl i j (by simp only [prOf]; omega) (by simp only [prOf]; omega)
    simpa [prOf, hi, hj] using this
end
set_option maxHeartbeats 8000000 in
theorem l07OwnT_ok {p : Pr} {w : World} {vp : Value} {lo hi : Nat} [hp : Pres lo hi w vp p] (hsz : SizeP p 30) (hsh : ShP p) :
    Calls Try.prog 47 #[vp] w (Ret fun v w' => Ext w w' ∧ NewP w.heap.size w' v p.ord) := by
  have hol := hsz.ord
  have hpl := hsz.pow
  have hcl := hsz.cnj
  replace hp := hp.wide
  obtain ⟨vo, vpw, vc, ps, cs, css, rfl, h1, h2, h3⟩ := hp.ex
  refine enter (args := [.agg #[vo, vpw, vc]]) (l := [.cell 2 28]) Try.func47 rfl rfl Try.ntmps47 (by simp) ?_
  refine go ?_
  refine st_box3 (by ((try simp only [ev_tmp, ev_const, ev_func, get_put, get_args, get_putL, get_putL_nil, Nat.reduceEqDiff, reduceIte, List.getD_cons_zero, List.getD_cons_succ, List.getD_nil]); first | done | with_reducible rfl)) (by first | exact True.intro | exact ⟨_, rfl, by ((try simp only [ev_tmp, ev_const, ev_func, get_put, get_args, get_putL, get_putL_nil, Nat.reduceEqDiff, reduceIte, List.getD_cons_zero, List.getD_cons_succ, List.getD_nil, Bool.not_true, Bool.not_false]); first | done | with_reducible rfl)⟩) fun w1 b he1 hb1 hs1 hc0 hc1 hc2 => ?_
  have hz1 := he1.size
  refine go ?_
  refine st_alloc (by first | exact True.intro | exact ⟨_, rfl, by ((try simp only [ev_tmp, ev_const, ev_func, get_put, get_args, get_putL, get_putL_nil, Nat.reduceEqDiff, reduceIte, List.getD_cons_zero, List.getD_cons_succ, List.getD_nil, Bool.not_true, Bool.not_false]); first | done | with_reducible rfl)⟩) fun w2 br he2 hbr hs2 hbk2 => ?_
  have hz2 := he2.size
  refine go ?_
  refine d_post (fun ρ' w' => ∃ vo' vp' rp bq, Has ρ' [(1, .pointer (some ⟨b, 0, none⟩)), (2, .pointer (some ⟨br, 0, none⟩)), (3, .pointer (some ⟨bq, 0, none⟩))] ∧ Ext w2 w' ∧ Blk w' bq [vo', vp', nilv] ∧ O3 (fun g => g = bq) w2.heap.size w' vo' vp' nilv p.ord rp [] ∧ rp.map (·.2) = p.pow ∧ w2.heap.size ≤ bq ∧ bq < w'.heap.size) ?_ ?_
  · refine d_order [0, 1, 3, 4, 2, 5, 6, 7, 8] (h := fun w3 he3 hs3 => ?_)
    refine dgo ?_
    refine dt_fork (π' := [0, 1, 3, 4, 7, 2, 5, 6, 8]) (by decide) rfl rfl (by decide +kernel) ?_ ?_
    · refine ds_call (l01OwnN_ok (xs := p.ord) (by omega)) (next := fun v4 w4 h4 => ?_)
      obtain ⟨he4, hN4⟩ := h4
      have hf4 := hN4.toFr
      have hz4 := he4.size
      refine dt_fork (π' := [0, 1, 3, 4, 2, 7, 5, 6, 8]) (by decide) rfl rfl (by decide +kernel) ?_ ?_
      · refine ds_call (l01Own2G_ok (xss := p.pow) (fun i => by have := hsz.powi i; omega) (by omega)) (next := fun v5 w5 h5 => ?_)
        obtain ⟨he5, rs5, hG5, hrs5⟩ := h5
        have hz5 := he5.size
        refine da (v := .agg #[v4, v5, nilv]) (h := ⟨fun _ _ => rd_build (by simp only [ev_tmp, ev_const, ev_func, get_put, get_args, get_putL, get_putL_nil, Nat.reduceEqDiff, reduceIte, List.getD_cons_zero, List.getD_cons_succ, List.getD_nil, List.map_toArray, List.map_cons, List.map_nil]; rfl) (fun _ => ?_)⟩) (next := ?_)
        · obtain ⟨A, c, rfl, _⟩ := hf4.ints.sl.ex
          obtain ⟨A', c', rfl, _⟩ := hG5.lst.own.toSl.ex
          kernel_rfl
        refine d_alloc (next := fun w6 bq he6 hbq hs6 hbk6 => ?_)
        refine d_store_agg (vs := [v4, v5, nilv]) (cs := _) hbk6 (by omega) rfl rfl (by simp [hf4.ints.sl.one, hG5.lst.own.toSl.one]; rfl) (next := fun w7 hc7 hs7 hb7 => ?_)
        refine d_end (h := ?_)
        refine ⟨rfl, v4, v5, rs5, bq, ?_, hc7.ext (((he3.trans he4).trans he5).trans he6) (by omega), hb7, ?_, hrs5, by omega, by omega⟩
        · exact hasP
        · exact (((((O3.start (X := fun _ => False) hN4 (by omega) (fun b hb => hb.elim)).withP he5 (GrL.of hG5) (fun b hb => hb.elim)).weak (Y := fun g => g = bq) (fun b hb => .inr (.inr (by omega)))).ext he6).chg hc7 (.inl rfl)).mono (by omega)
      · refine ds_alloc (next := fun w6 bq he6 hbq hs6 hbk6 => ?_)
        refine dce (l01Own2G_ok (xss := p.pow) (fun i => by have := hsz.powi i; omega) (by omega)) (next := fun v5 w5 h5 => ?_)
        obtain ⟨he5, rs5, hG5, hrs5⟩ := h5
        have hz5 := he5.size
        refine da (v := .agg #[v4, v5, nilv]) (h := ⟨fun _ _ => rd_build (by simp only [ev_tmp, ev_const, ev_func, get_put, get_args, get_putL, get_putL_nil, Nat.reduceEqDiff, reduceIte, List.getD_cons_zero, List.getD_cons_succ, List.getD_nil, List.map_toArray, List.map_cons, List.map_nil]; rfl) (fun _ => ?_)⟩) (next := ?_)
        · obtain ⟨A, c, rfl, _⟩ := hf4.ints.sl.ex
          obtain ⟨A', c', rfl, _⟩ := hG5.lst.own.toSl.ex
          kernel_rfl
        have hbk5 : Blk w5 bq _ := @Blk.ext _ _ _ _ he5 hbk6
        refine d_store_agg (vs := [v4, v5, nilv]) (cs := _) hbk5 (by omega) rfl rfl (by simp [hf4.ints.sl.one, hG5.lst.own.toSl.one]; rfl) (next := fun w7 hc7 hs7 hb7 => ?_)
        refine d_end (h := ?_)
        refine ⟨rfl, v4, v5, rs5, bq, ?_, hc7.ext (((he3.trans he4).trans he6).trans he5) (by omega), hb7, ?_, hrs5, by omega, by omega⟩
        · exact hasP
        · exact ((((O3.start (X := fun g => g = bq) hN4 (by omega) (fun b hb => .inr (by omega))).ext he6).withP he5 (GrL.of hG5) (fun b hb => by omega)).chg hc7 (.inl rfl)).mono (by omega)
    · refine ds_alloc (next := fun w6 bq he6 hbq hs6 hbk6 => ?_)
      refine dce (l01OwnN_ok (xs := p.ord) (by omega)) (next := fun v4 w4 h4 => ?_)
      obtain ⟨he4, hN4⟩ := h4
      have hf4 := hN4.toFr
      have hz4 := he4.size
      refine dce (l01Own2G_ok (xss := p.pow) (fun i => by have := hsz.powi i; omega) (by omega)) (next := fun v5 w5 h5 => ?_)
      obtain ⟨he5, rs5, hG5, hrs5⟩ := h5
      have hz5 := he5.size
      refine da (v := .agg #[v4, v5, nilv]) (h := ⟨fun _ _ => rd_build (by simp only [ev_tmp, ev_const, ev_func, get_put, get_args, get_putL, get_putL_nil, Nat.reduceEqDiff, reduceIte, List.getD_cons_zero, List.getD_cons_succ, List.getD_nil, List.map_toArray, List.map_cons, List.map_nil]; rfl) (fun _ => ?_)⟩) (next := ?_)
      · obtain ⟨A, c, rfl, _⟩ := hf4.ints.sl.ex
        obtain ⟨A', c', rfl, _⟩ := hG5.lst.own.toSl.ex
        kernel_rfl
      have hbk5 : Blk w5 bq _ := @Blk.ext _ _ _ _ (he4.trans he5) hbk6
      refine d_store_agg (vs := [v4, v5, nilv]) (cs := _) hbk5 (by omega) rfl rfl (by simp [hf4.ints.sl.one, hG5.lst.own.toSl.one]; rfl) (next := fun w7 hc7 hs7 hb7 => ?_)
      refine d_end (h := ?_)
      refine ⟨rfl, v4, v5, rs5, bq, ?_, hc7.ext (((he3.trans he6).trans he4).trans he5) (by omega), hb7, ?_, hrs5, by omega, by omega⟩
      · exact hasP
      · exact (((O3.start (X := fun g => g = bq) hN4 (by omega) (fun b hb => .inl (by omega))).withP he5 (GrL.of hG5) (fun b hb => by omega)).chg hc7 (.inl rfl)).mono (by omega)
  rintro ρ' w3 ⟨vo', vp', rp, bq, hH, he3, hb3, hD3, hrp, hbq1, hbq2⟩
  refine thn_normal (rwp_has hH fun ρ0 => ?_)
  have hz3 := he3.size
  have hE2 := he1.trans he2
  refine go ?_
  refine r_for p.cnj.length (fun i ρ w' => ∃ vc' gs, Has ρ [(1, .pointer (some ⟨b, 0, none⟩)), (2, .pointer (some ⟨br, 0, none⟩)), (3, .pointer (some ⟨bq, 0, none⟩)), (4, .int .i64 i)] ∧ Ext w2 w' ∧ Blk w' bq [vo', vp', vc'] ∧ O3 (fun g => g = bq) w2.heap.size w' vo' vp' vc' p.ord rp gs ∧ (gs.map fun q => q.2.map (·.2)) = p.cnj.take i) ?_ ?_
  · refine ⟨nilv, [], ?_, he3, hb3, hD3, rfl⟩
    exact hasP
  clear hb3 hD3
  rintro i ρ w4 hi ⟨vc4, gs, hH, he4, hb4, hD4, hgs⟩
  refine rwp_has hH fun ρ0 => ?_
  have hz4 := he4.size
  have hgl : gs.length = i := by have := congrArg List.length hgs; simp at this; omega
  refine go ?_
  refine c_if (fun h4 => ?_) (fun h4 => ?_)
  · have hin : i < p.cnj.length := by omega
    obtain ⟨b', hb', hvb', hbq'⟩ := hD4.cBlk (b := bq) rfl hb4.lt
    have ap1 : Apart 0 w.heap.size b' := ⟨.inr (by omega)⟩
    have ap2 : Apart b (b + 1) b' := ⟨.inr (by omega)⟩
    have ap3 : Apart bq (bq + 1) b' := ⟨by omega⟩
    have k2 : Cell w4 bq 2 vc4 := hb4.cell rfl
    refine go ?_
    refine z_order b' (List.range 12) (h := fun w5 he5 _ => ?_)
    refine zgo ?_
    refine zc (l01Own2G_ok (xss := p.cnj.getD i []) (fun j => by have := hsz.cnjij i j; omega) (by have := hsz.cnji i; omega)) (next := fun v6 w6 h6 => ?_)
    obtain ⟨he6, rs6, hG6, hrs6⟩ := h6
    have hx := he5.trans he6
    have hzx := hx.size
    have hL6 : GrL 24 w4.heap.size w6 v6 rs6 := by
      have h := GrL.of hG6
      exact ⟨h.own.mono (by have := he5.size; omega), h.rows.mono (by have := he5.size; omega), h.off⟩
    have hO6 : OwnN 25 w2.heap.size w6 vc4 _ := @OwnN.ext _ _ _ _ _ _ hx hD4.tri.c.own
    have hb6 : Blk w6 bq [vo', vp', vc4] := @Blk.ext _ _ _ _ hx hb4
    clear k2
    refine z_growu (sb := w2.heap.size) hO6 hG6.lst.own.toSl.cells hG6.lst.own.toSl.one (by omega) (by rw [List.length_map]; omega) hvb' (next := fun v7 v8 w8 hO8 hx8 hz8 hst8 => ?_)
    have hb8 : Blk w8 bq [vo', vp', vc4] := Blk.wr hb6 hst8.wrt fun e => by have := hvb' _ e; omega
    refine zgo ?_
    refine z_stfld (bo := bq) (m := 2) (cs := [vo', vp', vc4]) hb8 hO8.toSl.one (by simp) (next := fun w9 hc9 hs9 hb9 => ?_)
    have hD9 := (hD4.pushC hx hL6 hO8 hst8 (fun b hb => by subst hb; exact hb4.lt)).chg hc9 (.inl rfl)
    have hE9 : Ext w2 w9 := hc9.ext (hx8 w2 (he4.trans hx) (by omega)) (by omega)
    refine go ?_
    refine forQ_normal (by omega) ⟨v8, _, ?_, hE9, hb9, hD9, ?_⟩
    · exact hasP
    · rw [List.take_succ_eq_append_getElem hin, List.map_append, hgs]
      simp only [List.map_cons, List.map_nil, hrs6]
      simp [hin]
  · obtain rfl : i = p.cnj.length := by omega
    rw [List.take_length] at hgs
    have hbr4 : Blk w4 br _ := @Blk.ext _ _ _ _ he4 hbk2
    have hpr : prOf p.ord rp gs = p := by rw [prOf, hrp, hgs]
    have hS4 : Sh3 p.ord rp gs := ShP.sh3 (hpr ▸ hsh)
    refine go ?_
    refine ra (v := .agg #[vo', vp', vc4]) (h := rd_load_blk (hb := hb4) (by ((try simp only [ev_tmp, ev_const, ev_func, get_put, get_args, get_putL, get_putL_nil, Nat.reduceEqDiff, reduceIte, List.getD_cons_zero, List.getD_cons_succ, List.getD_nil]); first | done | with_reducible rfl)) rfl) (next := ?_)
    refine st_store_agg (vs := [vo', vp', vc4]) (cs := _) (hb := hbr4) (by ((try simp only [ev_tmp, ev_const, ev_func, get_put, get_args, get_putL, get_putL_nil, Nat.reduceEqDiff, reduceIte, List.getD_cons_zero, List.getD_cons_succ, List.getD_nil]); first | done | with_reducible rfl)) (by ((try simp only [ev_tmp, ev_const, ev_func, get_put, get_args, get_putL, get_putL_nil, Nat.reduceEqDiff, reduceIte, List.getD_cons_zero, List.getD_cons_succ, List.getD_nil]); first | done | with_reducible rfl)) rfl ?_ hD4.one3 (by first | exact True.intro | exact ⟨_, rfl, by ((try simp only [ev_tmp, ev_const, ev_func, get_put, get_args, get_putL, get_putL_nil, Nat.reduceEqDiff, reduceIte, List.getD_cons_zero, List.getD_cons_succ, List.getD_nil, Bool.not_true, Bool.not_false]); first | done | with_reducible rfl)⟩) fun w7 hc7 hs7 hb7 => ?_
    · rfl
    refine go ?_
    have hE7 : Ext w w7 := hc7.ext (hE2.trans he4) (by omega)
    exact retc (b := br) (hb := hb7) ⟨hE7, NewP.of (((hD4.chg hc7 (.inr (by omega))).weak (fun b hb => hb.elim)).mono (by omega)) hS4⟩ rfl
end Go.Proofs.Ytflniifngfiekaa

/-
  Walk: the reference's l07Text.
  Conditions: stated at the theorem.
-/
namespace Go.Proofs.Ytflniifngfiekaa
open Go Go.Pc
theorem word_text {p : Pr} (hv : Valid p) {e : List Int} (h : InR p e) : e.length ≤ 6 ∧ (wordV e).length ≤ 36 ∧ (∀ i, i < e.length → 0 ≤ e.getD i 0 ∧ e.getD i 0 ≤ 6) ∧ ∀ i, i < (wordV e).length → 1 ≤ (wordV e).getD i 0 ∧ (wordV e).getD i 0 ≤ 100 := by
  obtain ⟨h1, h2, h3⟩ := invec_word hv h
  have hn := hv.n6
  refine ⟨by omega, h2, h3, fun i hi => ?_⟩
  have := wordA_mem e 0 _ (List.getElem_mem (l := wordV e) hi)
  simp [hi] at this ⊢
  omega
theorem add_size (a b : ByteArray) : (a ++ b).size = a.size + b.size := ByteArray.size_append
set_option maxHeartbeats 8000000 in
theorem l07Text_ok {p : Pr} {w : World} {vp : Value} {lo hi : Nat} [hp : Pres lo hi w vp p] (hv : Valid p) :
    Calls Try.prog 91 #[vp] w (Ret fun v w' => ∃ s : ByteArray, v = .string s ∧ Ext w w') := by
  have z1 : (⟨#[32]⟩ : ByteArray).size = 1 := rfl
  have z2 : (⟨#[59, 32]⟩ : ByteArray).size = 2 := rfl
  have z3 : (⟨#[94]⟩ : ByteArray).size = 1 := rfl
  have z4 : (⟨#[61]⟩ : ByteArray).size = 1 := rfl
  have hn6 := hv.n6
  have hol : p.ord.length = p.n := rfl
  have hpl := hv.lenw
  have hcl := hv.lenc
  replace hp := hp.wide
  obtain ⟨vo, vpw, vc, ps, cs, css, rfl, h1, h2, h3⟩ := hp.ex
  refine enter (args := [.agg #[vo, vpw, vc]]) (l := [.tmp 2]) Try.func91 rfl rfl Try.ntmps91 (by simp) ?_
  refine got ?_
  refine st_box3 (by ((try simp only [ev_tmp, ev_const, ev_func, get_put, get_args, get_putL, get_putL_nil, Nat.reduceEqDiff, reduceIte, List.getD_cons_zero, List.getD_cons_succ, List.getD_nil]); first | done | with_reducible rfl)) (by first | exact True.intro | exact ⟨_, rfl, by ((try simp only [ev_tmp, ev_const, ev_func, get_put, get_args, get_putL, get_putL_nil, Nat.reduceEqDiff, reduceIte, List.getD_cons_zero, List.getD_cons_succ, List.getD_nil, Bool.not_true, Bool.not_false]); first | done | with_reducible rfl)⟩) fun w1 b he1 hb1 hs1 hc0 hc1 hc2 => ?_
  refine got ?_
  refine c_if (fun h4 => ?_) (fun h4 => ?_)
  · refine got ?_
    exact ret1 ⟨_, rfl, he1⟩
  refine got ?_
  refine r_for p.n (fun i ρ w' => ∃ s : ByteArray, Has ρ [(1, .pointer (some ⟨b, 0, none⟩)), (3, .int .i64 p.n), (4, .string s), (5, .int .i64 i)] ∧ Ext w1 w' ∧ s.size ≤ 100 * i) ?_ ?_
  · refine ⟨⟨#[]⟩, ?_, Ext.refl _, Nat.zero_le _⟩
    exact hasP
  rintro i ρ w2 hi ⟨s, hH, hx2, hs2⟩
  refine rwp_has hH fun ρ0 => ?_
  refine got ?_
  refine c_if (fun h5 => ?_) (fun h5 => ?_)
  · have hpi := hv.prime i (by omega)
    have hpo : p.o i = p.ord.getD i 0 := rfl
    refine got ?_
    refine r_mid (fun ρ w' => ∃ s : ByteArray, Has ρ [(1, .pointer (some ⟨b, 0, none⟩)), (3, .int .i64 p.n), (4, .string s), (5, .int .i64 i)] ∧ Ext w1 w' ∧ s.size ≤ 100 * i + 1) ?_ ?_
    · refine c_if (fun h6 => ?_) (fun h6 => ?_)
      · refine got ?_
        refine ⟨rfl, s ++ ⟨#[32]⟩, ?_, hx2, ?_⟩
        · exact hasP
        · rw [add_size]; omega
      · refine got ?_
        refine ⟨rfl, s, ?_, hx2, by omega⟩
        exact hasP
    clear hs2 hx2
    rintro ρ w2 ⟨s, hH, hx2, hs2⟩
    refine thn_normal (rwp_has hH fun ρ1 => ?_)
    refine got ?_
    refine rc (l01Dec_ok (n := p.ord.getD i 0) (by omega) (by omega)) (next := fun v3 w3 h => ?_)
    obtain ⟨t, rfl, he3, ht⟩ := h
    refine got ?_
    refine forQ_normal (by omega) ⟨s ++ t, ?_, hx2.trans he3, by rw [add_size]; omega⟩
    exact hasP
  refine got ?_
  refine r_for p.n (fun i ρ w' => ∃ s : ByteArray, Has ρ [(1, .pointer (some ⟨b, 0, none⟩)), (3, .int .i64 p.n), (4, .string s), (6, .int .i64 i)] ∧ Ext w1 w' ∧ s.size ≤ 1000 + 100 * i) ?_ ?_
  · refine ⟨s, ?_, hx2, by omega⟩
    exact hasP
  clear hx2 hi h5 hs2
  rintro i ρ w2 hi ⟨s, hH, hx2, hs2⟩
  refine rwp_has hH fun ρ0 => ?_
  refine got ?_
  refine c_if (fun h5 => ?_) (fun h5 => ?_)
  · have hpi := hv.prime i (by omega)
    have hpo : p.o i = p.ord.getD i 0 := rfl
    obtain ⟨he6, hw36, he0, hwl⟩ := word_text hv (hv.w_in i (by omega))
    have hpw : p.w i = p.pow.getD i [] := rfl
    rw [hpw] at he6 hw36 he0 hwl
    refine got ?_
    refine rc (l01Zero_ok (xs := p.pow.getD i []) (by omega)) (next := fun v3 w3 h => ?_)
    obtain ⟨b3, rfl, hb3, he3⟩ := h
    have hx3 := hx2.trans he3
    refine got ?_
    refine c_b (fun h6 => ?_) (fun h6 => ?_)
    · refine got ?_
      refine d_order [0, 1, 2, 6, 7, 8, 9, 10, 14, 15, 16, 17, 18, 3, 4, 5, 11, 12, 13, 19, 20, 21, 22] (h := fun w4 he4 _ => ?_)
      refine dgot ?_
      refine dc (l07Letter_ok (k := (i : Int)) (by omega) (by omega)) (next := fun v5 w5 h => ⟨fun x => x.trans (by obtain ⟨_, _, h, _⟩ := h; exact h), ?_⟩)
      obtain ⟨t5, rfl, he5, ht5⟩ := h
      have y1 := add_size s ⟨#[59, 32]⟩
      have y2 := add_size (s ++ ⟨#[59, 32]⟩) t5
      have y3 := add_size (s ++ ⟨#[59, 32]⟩ ++ t5) ⟨#[94]⟩
      refine dgot ?_
      refine dc (l01Dec_ok (n := p.ord.getD i 0) (by omega) (by omega)) (next := fun v6 w6 h => ⟨fun x => x.trans (by obtain ⟨_, _, h, _⟩ := h; exact h), ?_⟩)
      obtain ⟨t6, rfl, he6', ht6⟩ := h
      have y4 := add_size (s ++ ⟨#[59, 32]⟩ ++ t5 ++ ⟨#[94]⟩) t6
      have y5 := add_size (s ++ ⟨#[59, 32]⟩ ++ t5 ++ ⟨#[94]⟩ ++ t6) ⟨#[61]⟩
      refine dgot ?_
      refine dc (l07Word_ok (e := p.pow.getD i []) (by omega) (fun j hj => by have := he0 j hj; omega)) (next := fun v7 w7 h => ⟨fun x => x.trans h.1, ?_⟩)
      obtain ⟨he7, hG7⟩ := h
      have hi7 := hG7.fr.ints
      refine dgot ?_
      refine dc (l06Text_ok (ws := wordV (p.pow.getD i [])) (by omega) hwl) (next := fun v8 w8 h => ⟨fun x => x.trans (by obtain ⟨_, _, h, _⟩ := h; exact h), ?_⟩)
      obtain ⟨t8, rfl, he8, ht8⟩ := h
      have y6 := add_size (s ++ ⟨#[59, 32]⟩ ++ t5 ++ ⟨#[94]⟩ ++ t6 ++ ⟨#[61]⟩) t8
      refine dgot ?_
      refine d_end (h := ?_)
      refine got ?_
      refine forQ_normal (by omega) ⟨s ++ ⟨#[59, 32]⟩ ++ t5 ++ ⟨#[94]⟩ ++ t6 ++ ⟨#[61]⟩ ++ t8, ?_, hx3.trans ((((he4.trans he5).trans he6').trans he7).trans he8), by omega⟩
      exact hasP
    · refine got ?_
      refine forQ_normal (by omega) ⟨s, ?_, hx3, by omega⟩
      exact hasP
  refine got ?_
  refine r_for p.n (fun i ρ w' => ∃ s : ByteArray, Has ρ [(1, .pointer (some ⟨b, 0, none⟩)), (3, .int .i64 p.n), (4, .string s), (7, .int .i64 i)] ∧ Ext w1 w' ∧ s.size ≤ 5000 + 1000 * i) ?_ ?_
  · refine ⟨s, ?_, hx2, by omega⟩
    exact hasP
  clear hx2 hi h5 hs2
  rintro i ρ w2 hi ⟨s, hH, hx2, hs2⟩
  refine rwp_has hH fun ρ0 => ?_
  refine got ?_
  refine c_if (fun h5 => ?_) (fun h5 => ?_)
  · refine got ?_
    refine r_for (p.n - (i + 1)) (fun k ρ w' => ∃ s : ByteArray, Has ρ [(1, .pointer (some ⟨b, 0, none⟩)), (3, .int .i64 p.n), (4, .string s), (7, .int .i64 i), (8, .int .i64 ((i : Int) + 1 + k))] ∧ Ext w1 w' ∧ s.size ≤ 5000 + 1000 * i + 100 * k) ?_ ?_
    · refine ⟨s, ?_, hx2, by omega⟩
      exact hasP
    clear hx2 hs2
    rintro k ρ w2 hk ⟨s, hH, hx2, hs2⟩
    refine rwp_has hH fun ρ1 => ?_
    refine got ?_
    refine c_if (fun h6 => ?_) (fun h6 => ?_)
    · have hci := hv.c_in i (i + 1 + k) (by omega) (by omega)
      have hcl2 := hv.lenci i (by omega)
      obtain ⟨he6, hw36, he0, hwl⟩ := word_text hv hci
      have hpw : p.c i (i + 1 + k) = (p.cnj.getD i []).getD (i + 1 + k - i - 1) [] := rfl
      rw [hpw] at he6 hw36 he0 hwl
      refine got ?_
      refine d_region (h := fun w4 he4 _ => ?_)
      refine dgot ?_
      refine dc (l07Unit_ok (n := p.n) (i := i + 1 + k) rfl (by push_cast; rfl) (by omega) (by omega)) (next := fun v5 w5 h => ⟨fun x => x.trans h.1, ?_⟩)
      obtain ⟨he5, hf5⟩ := h
      have hi5 := hf5.ints
      refine dgot ?_
      refine dc (l01Same_ok (xs := (p.cnj.getD i []).getD (i + 1 + k - i - 1) []) (ys := (zeros p.n).set (i + 1 + k) 1) (by omega)) (next := fun v6 w6 h => ⟨fun x => x.trans (by obtain ⟨_, _, _, h⟩ := h; exact h), ?_⟩)
      obtain ⟨b6, rfl, hb6, he6'⟩ := h
      refine dgot ?_
      refine d_end (h := ?_)
      have hx6 := hx2.trans ((he4.trans he5).trans he6')
      refine got ?_
      refine c_b (fun h7 => ?_) (fun h7 => ?_)
      · refine got ?_
        refine d_order [0, 1, 2, 6, 10, 11, 12, 13, 14, 15, 16, 17, 18, 19, 20, 3, 4, 5, 7, 8, 9, 21, 22, 23, 24] (h := fun w4 he4 _ => ?_)
        refine dgot ?_
        refine dc (l07Letter_ok (k := (i : Int) + 1 + k) (by omega) (by omega)) (next := fun v5 w5 h => ⟨fun x => x.trans (by obtain ⟨_, _, h, _⟩ := h; exact h), ?_⟩)
        obtain ⟨t5, rfl, he5, ht5⟩ := h
        have y1 := add_size s ⟨#[59, 32]⟩
        have y2 := add_size (s ++ ⟨#[59, 32]⟩) t5
        have y3 := add_size (s ++ ⟨#[59, 32]⟩ ++ t5) ⟨#[94]⟩
        refine dgot ?_
        refine dc (l07Letter_ok (k := (i : Int)) (by omega) (by omega)) (next := fun v6 w6 h => ⟨fun x => x.trans (by obtain ⟨_, _, h, _⟩ := h; exact h), ?_⟩)
        obtain ⟨t6, rfl, he6', ht6⟩ := h
        have y4 := add_size (s ++ ⟨#[59, 32]⟩ ++ t5 ++ ⟨#[94]⟩) t6
        have y5 := add_size (s ++ ⟨#[59, 32]⟩ ++ t5 ++ ⟨#[94]⟩ ++ t6) ⟨#[61]⟩
        refine dgot ?_
        refine dc (l07Word_ok (e := (p.cnj.getD i []).getD (i + 1 + k - i - 1) []) (by omega) (fun j hj => by have := he0 j hj; omega)) (next := fun v7 w7 h => ⟨fun x => x.trans h.1, ?_⟩)
        obtain ⟨he7, hG7⟩ := h
        have hi7 := hG7.fr.ints
        refine dgot ?_
        refine dc (l06Text_ok (ws := wordV ((p.cnj.getD i []).getD (i + 1 + k - i - 1) [])) (by omega) hwl) (next := fun v8 w8 h => ⟨fun x => x.trans (by obtain ⟨_, _, h, _⟩ := h; exact h), ?_⟩)
        obtain ⟨t8, rfl, he8, ht8⟩ := h
        have y6 := add_size (s ++ ⟨#[59, 32]⟩ ++ t5 ++ ⟨#[94]⟩ ++ t6 ++ ⟨#[61]⟩) t8
        refine dgot ?_
        refine d_end (h := ?_)
        refine got ?_
        refine forQ_normal (by omega) ⟨s ++ ⟨#[59, 32]⟩ ++ t5 ++ ⟨#[94]⟩ ++ t6 ++ ⟨#[61]⟩ ++ t8, ?_, hx6.trans ((((he4.trans he5).trans he6').trans he7).trans he8), by omega⟩
        exact hasP
      · refine got ?_
        refine forQ_normal (by omega) ⟨s, ?_, hx6, by omega⟩
        exact hasP
    · refine got ?_
      refine forQ_normal (by omega) ⟨s, ?_, hx2, by omega⟩
      exact hasP
  · refine got ?_
    exact ret1 ⟨s, rfl, he1.trans hx2⟩
end Go.Proofs.Ytflniifngfiekaa

/-
  Walks: the reference's l07Relation, ParsePresentation, l07Table.
  Conditions: stated at each theorem.
-/
namespace Go.Proofs.Ytflniifngfiekaa
open Go Go.Pc
theorem ShP.sizeP {p : Pr} {k : Int} (h : ShP p) (hk : (p.ord.length : Int) ≤ k) : SizeP p k := by
  have h1 := h.pow
  have h2 := h.cnj
  refine ⟨hk, by omega, fun i => ?_, by omega, fun i => ?_, fun i j => ?_⟩
  · by_cases hi : i < p.ord.length
    · rw [h.pl i hi]; exact hk
    · rw [List.getD_eq_getElem?_getD, List.getElem?_eq_none (by omega)]; simp; omega
  · by_cases hi : i < p.ord.length
    · rw [h.cnji i hi]; omega
    · rw [List.getD_eq_getElem?_getD, List.getElem?_eq_none (by omega)]; simp; omega
  · by_cases hi : i < p.ord.length
    · by_cases hj : j < p.ord.length - 1 - i
      · rw [h.cl i j hi hj]; exact hk
      · rw [List.getD_eq_getElem?_getD (l := p.cnj.getD i []), List.getElem?_eq_none (by rw [h.cnji i hi]; omega)]; simp; omega
    · rw [List.getD_eq_getElem?_getD (l := p.cnj), List.getElem?_eq_none (by omega)]; simp; omega
set_option maxHeartbeats 16000000 in
theorem l07Relation_ok {p : Pr} {w : World} {vp : Value} {s : ByteArray} {lo hi : Nat} [hp : Pres lo hi w vp p] (hsh : ShP p) (hF : Few 6 p.ord) (hs : s.size ≤ 1000) :
    Calls Try.prog 90 #[vp, .string s] w (Ret fun v w' => ∃ (u : Value) (b : Bool), v = .tuple #[u, .bool b] ∧ Ext w w' ∧ (u = vp ∨ NewP w.heap.size w' u p.ord)) := by
  have hn6 := hF.1
  have hpl := hsh.pow
  have hcl := hsh.cnj
  replace hp := hp.wide
  obtain ⟨vo, vpw, vc, ps, cs, css, rfl, h1, h2, h3⟩ := hp.ex
  have o3 := hp.one3
  refine enter (args := [.agg #[vo, vpw, vc], .string s]) (l := [.cell 4 28, .tmp 5]) Try.func90 rfl rfl Try.ntmps90 (by simp) ?_
  refine got ?_
  refine st_box3 (by ((try simp only [ev_tmp, ev_const, ev_func, get_put, get_args, get_putL, get_putL_nil, Nat.reduceEqDiff, reduceIte, List.getD_cons_zero, List.getD_cons_succ, List.getD_nil]); first | done | with_reducible rfl)) (by first | exact True.intro | exact ⟨_, rfl, by ((try simp only [ev_tmp, ev_const, ev_func, get_put, get_args, get_putL, get_putL_nil, Nat.reduceEqDiff, reduceIte, List.getD_cons_zero, List.getD_cons_succ, List.getD_nil, Bool.not_true, Bool.not_false]); first | done | with_reducible rfl)⟩) fun w1 b he1 hb1 hs1 hc0 hc1 hc2 => ?_
  refine st_alloc (by first | exact True.intro | exact ⟨_, rfl, by ((try simp only [ev_tmp, ev_const, ev_func, get_put, get_args, get_putL, get_putL_nil, Nat.reduceEqDiff, reduceIte, List.getD_cons_zero, List.getD_cons_succ, List.getD_nil, Bool.not_true, Bool.not_false]); first | done | with_reducible rfl)⟩) fun w2 br he2 hbr hs2 hbk2 => ?_
  have hE2 := he1.trans he2
  have hz2 := hE2.size
  refine got ?_
  refine rc (l01Split_ok hs) (next := fun v3 w3 h => ?_)
  obtain ⟨us, he3, hp3, hl0, hl1, hsz⟩ := h
  have hz3 := he3.size
  have hsz0 := hsz 0
  have hsz1 := hsz 1
  refine got ?_
  refine spd (fun q1 => ?_) (fun q1 => ?_)
  · have hbk' : Blk w3 br _ := @Blk.ext _ _ _ _ he3 hbk2
    refine got ?_
    refine st_store_agg (vs := [vo, vpw, vc]) (cs := _) (hb := hbk') (by ((try simp only [ev_tmp, ev_const, ev_func, get_put, get_args, get_putL, get_putL_nil, Nat.reduceEqDiff, reduceIte, List.getD_cons_zero, List.getD_cons_succ, List.getD_nil]); first | done | with_reducible rfl)) (by ((try simp only [ev_tmp, ev_const, ev_func, get_put, get_args, get_putL, get_putL_nil, Nat.reduceEqDiff, reduceIte, List.getD_cons_zero, List.getD_cons_succ, List.getD_nil]); first | done | with_reducible rfl)) rfl rfl (by simp [o3.1, o3.2.1, o3.2.2]) (by first | exact True.intro | exact ⟨_, rfl, by ((try simp only [ev_tmp, ev_const, ev_func, get_put, get_args, get_putL, get_putL_nil, Nat.reduceEqDiff, reduceIte, List.getD_cons_zero, List.getD_cons_succ, List.getD_nil, Bool.not_true, Bool.not_false]); first | done | with_reducible rfl)⟩) fun wr hcr hsr hBr => ?_
    refine got ?_
    exact retc2 (b := br) (hb := hBr) ⟨_, false, rfl, hcr.ext (hE2.trans he3) (by omega), .inl rfl⟩ rfl
  have hul : us.length = 2 := by omega
  refine got ?_
  refine spd (fun q2 => ?_) (fun q2 => ?_)
  · have hbk' : Blk w3 br _ := @Blk.ext _ _ _ _ he3 hbk2
    refine got ?_
    refine st_store_agg (vs := [vo, vpw, vc]) (cs := _) (hb := hbk') (by ((try simp only [ev_tmp, ev_const, ev_func, get_put, get_args, get_putL, get_putL_nil, Nat.reduceEqDiff, reduceIte, List.getD_cons_zero, List.getD_cons_succ, List.getD_nil]); first | done | with_reducible rfl)) (by ((try simp only [ev_tmp, ev_const, ev_func, get_put, get_args, get_putL, get_putL_nil, Nat.reduceEqDiff, reduceIte, List.getD_cons_zero, List.getD_cons_succ, List.getD_nil]); first | done | with_reducible rfl)) rfl rfl (by simp [o3.1, o3.2.1, o3.2.2]) (by first | exact True.intro | exact ⟨_, rfl, by ((try simp only [ev_tmp, ev_const, ev_func, get_put, get_args, get_putL, get_putL_nil, Nat.reduceEqDiff, reduceIte, List.getD_cons_zero, List.getD_cons_succ, List.getD_nil, Bool.not_true, Bool.not_false]); first | done | with_reducible rfl)⟩) fun wr hcr hsr hBr => ?_
    refine got ?_
    exact retc2 (b := br) (hb := hBr) ⟨_, false, rfl, hcr.ext (hE2.trans he3) (by omega), .inl rfl⟩ rfl
  have hu4 : (us.getD 0 ByteArray.empty).size = 4 := by omega
  refine got ?_
  refine spd (fun q3 => ?_) (fun q3 => ?_)
  · have hbk' : Blk w3 br _ := @Blk.ext _ _ _ _ he3 hbk2
    refine got ?_
    refine st_store_agg (vs := [vo, vpw, vc]) (cs := _) (hb := hbk') (by ((try simp only [ev_tmp, ev_const, ev_func, get_put, get_args, get_putL, get_putL_nil, Nat.reduceEqDiff, reduceIte, List.getD_cons_zero, List.getD_cons_succ, List.getD_nil]); first | done | with_reducible rfl)) (by ((try simp only [ev_tmp, ev_const, ev_func, get_put, get_args, get_putL, get_putL_nil, Nat.reduceEqDiff, reduceIte, List.getD_cons_zero, List.getD_cons_succ, List.getD_nil]); first | done | with_reducible rfl)) rfl rfl (by simp [o3.1, o3.2.1, o3.2.2]) (by first | exact True.intro | exact ⟨_, rfl, by ((try simp only [ev_tmp, ev_const, ev_func, get_put, get_args, get_putL, get_putL_nil, Nat.reduceEqDiff, reduceIte, List.getD_cons_zero, List.getD_cons_succ, List.getD_nil, Bool.not_true, Bool.not_false]); first | done | with_reducible rfl)⟩) fun wr hcr hsr hBr => ?_
    refine got ?_
    exact retc2 (b := br) (hb := hBr) ⟨_, false, rfl, hcr.ext (hE2.trans he3) (by omega), .inl rfl⟩ rfl
  refine got ?_
  refine c_if (fun q4 => ?_) (fun q4 => ?_)
  · have hbk' : Blk w3 br _ := @Blk.ext _ _ _ _ he3 hbk2
    refine got ?_
    refine st_store_agg (vs := [vo, vpw, vc]) (cs := _) (hb := hbk') (by ((try simp only [ev_tmp, ev_const, ev_func, get_put, get_args, get_putL, get_putL_nil, Nat.reduceEqDiff, reduceIte, List.getD_cons_zero, List.getD_cons_succ, List.getD_nil]); first | done | with_reducible rfl)) (by ((try simp only [ev_tmp, ev_const, ev_func, get_put, get_args, get_putL, get_putL_nil, Nat.reduceEqDiff, reduceIte, List.getD_cons_zero, List.getD_cons_succ, List.getD_nil]); first | done | with_reducible rfl)) rfl rfl (by simp [o3.1, o3.2.1, o3.2.2]) (by first | exact True.intro | exact ⟨_, rfl, by ((try simp only [ev_tmp, ev_const, ev_func, get_put, get_args, get_putL, get_putL_nil, Nat.reduceEqDiff, reduceIte, List.getD_cons_zero, List.getD_cons_succ, List.getD_nil, Bool.not_true, Bool.not_false]); first | done | with_reducible rfl)⟩) fun wr hcr hsr hBr => ?_
    refine got ?_
    exact retc2 (b := br) (hb := hBr) ⟨_, false, rfl, hcr.ext (hE2.trans he3) (by omega), .inl rfl⟩ rfl
  refine got ?_
  refine rc (l06Parse_ok (n := p.ord.length) (s := us.getD 1 ByteArray.empty) (by omega) (by omega) rfl) (next := fun v4 w4 h => ?_)
  obtain ⟨vl4, xs4, b4, rfl, he4, hf4, hl4, hL4⟩ := h
  have hx4 := he3.trans he4
  have hz4 := he4.size
  have hi4 := hf4.ints
  refine got ?_
  refine c_b (fun q5 => ?_) (fun q5 => ?_)
  · have hbk' : Blk w4 br _ := @Blk.ext _ _ _ _ hx4 hbk2
    refine got ?_
    refine st_store_agg (vs := [vo, vpw, vc]) (cs := _) (hb := hbk') (by ((try simp only [ev_tmp, ev_const, ev_func, get_put, get_args, get_putL, get_putL_nil, Nat.reduceEqDiff, reduceIte, List.getD_cons_zero, List.getD_cons_succ, List.getD_nil]); first | done | with_reducible rfl)) (by ((try simp only [ev_tmp, ev_const, ev_func, get_put, get_args, get_putL, get_putL_nil, Nat.reduceEqDiff, reduceIte, List.getD_cons_zero, List.getD_cons_succ, List.getD_nil]); first | done | with_reducible rfl)) rfl rfl (by simp [o3.1, o3.2.1, o3.2.2]) (by first | exact True.intro | exact ⟨_, rfl, by ((try simp only [ev_tmp, ev_const, ev_func, get_put, get_args, get_putL, get_putL_nil, Nat.reduceEqDiff, reduceIte, List.getD_cons_zero, List.getD_cons_succ, List.getD_nil, Bool.not_true, Bool.not_false]); first | done | with_reducible rfl)⟩) fun wr hcr hsr hBr => ?_
    refine got ?_
    exact retc2 (b := br) (hb := hBr) ⟨_, false, rfl, hcr.ext (hE2.trans hx4) (by omega), .inl rfl⟩ rfl
  refine got ?_
  refine rc (l07Vector_ok (n := p.ord.length) (ws := xs4) (by omega) (by omega) hL4 rfl) (next := fun v5 w5 h => ?_)
  obtain ⟨vl5, xs5, b5, rfl, he5, hf5, hl5⟩ := h
  have hx5 := hx4.trans he5
  have hz5 := he5.size
  refine got ?_
  have hch1 := chr_rng (us.getD 0 ByteArray.empty) (1 : Int).toNat
  have hch3 := chr_rng (us.getD 0 ByteArray.empty) (3 : Int).toNat
  refine d_region (h := fun w6 he6 _ => ?_)
  refine dgot ?_
  refine d_end (h := ?_)
  have hx6 := hx5.trans he6
  have hz6 := he6.size
  obtain ⟨X, hX⟩ : ∃ X, chr (us.getD 0 ByteArray.empty) (1 : Int).toNat - 97 = X := ⟨_, rfl⟩
  obtain ⟨Y, hY⟩ : ∃ Y, chr (us.getD 0 ByteArray.empty) (3 : Int).toNat - 97 = Y := ⟨_, rfl⟩
  rw [hX, hY]
  refine got ?_
  refine sp (fun q6 => ?_) (fun q6 => ?_)
  · have hbk' : Blk w6 br _ := @Blk.ext _ _ _ _ hx6 hbk2
    refine got ?_
    refine st_store_agg (vs := [vo, vpw, vc]) (cs := _) (hb := hbk') (by ((try simp only [ev_tmp, ev_const, ev_func, get_put, get_args, get_putL, get_putL_nil, Nat.reduceEqDiff, reduceIte, List.getD_cons_zero, List.getD_cons_succ, List.getD_nil]); first | done | with_reducible rfl)) (by ((try simp only [ev_tmp, ev_const, ev_func, get_put, get_args, get_putL, get_putL_nil, Nat.reduceEqDiff, reduceIte, List.getD_cons_zero, List.getD_cons_succ, List.getD_nil]); first | done | with_reducible rfl)) rfl rfl (by simp [o3.1, o3.2.1, o3.2.2]) (by first | exact True.intro | exact ⟨_, rfl, by ((try simp only [ev_tmp, ev_const, ev_func, get_put, get_args, get_putL, get_putL_nil, Nat.reduceEqDiff, reduceIte, List.getD_cons_zero, List.getD_cons_succ, List.getD_nil, Bool.not_true, Bool.not_false]); first | done | with_reducible rfl)⟩) fun wr hcr hsr hBr => ?_
    refine got ?_
    exact retc2 (b := br) (hb := hBr) ⟨_, false, rfl, hcr.ext (hE2.trans hx6) (by omega), .inl rfl⟩ rfl
  have hb5 : b5 = true := by simpa using q6
  have hxl5 := hl5 hb5
  refine got ?_
  refine spd (fun q7 => ?_) (fun q7 => ?_)
  · have hbk' : Blk w6 br _ := @Blk.ext _ _ _ _ hx6 hbk2
    refine got ?_
    refine st_store_agg (vs := [vo, vpw, vc]) (cs := _) (hb := hbk') (by ((try simp only [ev_tmp, ev_const, ev_func, get_put, get_args, get_putL, get_putL_nil, Nat.reduceEqDiff, reduceIte, List.getD_cons_zero, List.getD_cons_succ, List.getD_nil]); first | done | with_reducible rfl)) (by ((try simp only [ev_tmp, ev_const, ev_func, get_put, get_args, get_putL, get_putL_nil, Nat.reduceEqDiff, reduceIte, List.getD_cons_zero, List.getD_cons_succ, List.getD_nil]); first | done | with_reducible rfl)) rfl rfl (by simp [o3.1, o3.2.1, o3.2.2]) (by first | exact True.intro | exact ⟨_, rfl, by ((try simp only [ev_tmp, ev_const, ev_func, get_put, get_args, get_putL, get_putL_nil, Nat.reduceEqDiff, reduceIte, List.getD_cons_zero, List.getD_cons_succ, List.getD_nil, Bool.not_true, Bool.not_false]); first | done | with_reducible rfl)⟩) fun wr hcr hsr hBr => ?_
    refine got ?_
    exact retc2 (b := br) (hb := hBr) ⟨_, false, rfl, hcr.ext (hE2.trans hx6) (by omega), .inl rfl⟩ rfl
  refine got ?_
  refine c_if (fun q8 => ?_) (fun q8 => ?_)
  · have hbk' : Blk w6 br _ := @Blk.ext _ _ _ _ hx6 hbk2
    refine got ?_
    refine st_store_agg (vs := [vo, vpw, vc]) (cs := _) (hb := hbk') (by ((try simp only [ev_tmp, ev_const, ev_func, get_put, get_args, get_putL, get_putL_nil, Nat.reduceEqDiff, reduceIte, List.getD_cons_zero, List.getD_cons_succ, List.getD_nil]); first | done | with_reducible rfl)) (by ((try simp only [ev_tmp, ev_const, ev_func, get_put, get_args, get_putL, get_putL_nil, Nat.reduceEqDiff, reduceIte, List.getD_cons_zero, List.getD_cons_succ, List.getD_nil]); first | done | with_reducible rfl)) rfl rfl (by simp [o3.1, o3.2.1, o3.2.2]) (by first | exact True.intro | exact ⟨_, rfl, by ((try simp only [ev_tmp, ev_const, ev_func, get_put, get_args, get_putL, get_putL_nil, Nat.reduceEqDiff, reduceIte, List.getD_cons_zero, List.getD_cons_succ, List.getD_nil, Bool.not_true, Bool.not_false]); first | done | with_reducible rfl)⟩) fun wr hcr hsr hBr => ?_
    refine got ?_
    exact retc2 (b := br) (hb := hBr) ⟨_, false, rfl, hcr.ext (hE2.trans hx6) (by omega), .inl rfl⟩ rfl
  obtain ⟨i, rfl⟩ : ∃ i : Nat, X = i := ⟨X.toNat, by omega⟩
  have hp6 : Pres 0 w.heap.size w6 (.agg #[vo, vpw, vc]) p := hp.same ((hE2.trans hx6).same _ _)
  refine got ?_
  refine rc (l07OwnT_ok (p := p) (hsh.sizeP (by omega)) hsh) (next := fun v7 w7 h => ?_)
  obtain ⟨he7, hN7⟩ := h
  have hz7 := he7.size
  obtain ⟨vo7, vp7, vc7, rp7, gs7, rfl, hO7, hS7⟩ := hN7.ex
  refine got ?_
  refine st_alloc (by first | exact True.intro | exact ⟨_, rfl, by ((try simp only [ev_tmp, ev_const, ev_func, get_put, get_args, get_putL, get_putL_nil, Nat.reduceEqDiff, reduceIte, List.getD_cons_zero, List.getD_cons_succ, List.getD_nil, Bool.not_true, Bool.not_false]); first | done | with_reducible rfl)⟩) fun w8 bq he8 hbq hs8 hbk8 => ?_
  have hz8 := he8.size
  refine st_store_agg (vs := [vo7, vp7, vc7]) (cs := _) (hb := hbk8) (by ((try simp only [ev_tmp, ev_const, ev_func, get_put, get_args, get_putL, get_putL_nil, Nat.reduceEqDiff, reduceIte, List.getD_cons_zero, List.getD_cons_succ, List.getD_nil]); first | done | with_reducible rfl)) (by ((try simp only [ev_tmp, ev_const, ev_func, get_put, get_args, get_putL, get_putL_nil, Nat.reduceEqDiff, reduceIte, List.getD_cons_zero, List.getD_cons_succ, List.getD_nil]); first | done | with_reducible rfl)) rfl rfl hO7.one3 (by first | exact True.intro | exact ⟨_, rfl, by ((try simp only [ev_tmp, ev_const, ev_func, get_put, get_args, get_putL, get_putL_nil, Nat.reduceEqDiff, reduceIte, List.getD_cons_zero, List.getD_cons_succ, List.getD_nil, Bool.not_true, Bool.not_false]); first | done | with_reducible rfl)⟩) fun w9 hc9 hs9 hB9 => ?_
  have hx9 : Ext w6 w9 := hc9.ext (he7.trans he8) (by omega)
  have hP9 : PBx w6.heap.size w9 bq p.ord := PBx.start hO7 hS7 he8 (.inr (by omega)) hc9 hB9 (Nat.le_refl _)
  clear hO7 hS7 hB9 hbk8
  have hX9 := hx6.trans hx9
  have hz9 := hx9.size
  have hp9 : Strs _ _ w9 v3 us := @Strs.ext _ _ _ _ _ _ (((he4.trans he5).trans he6).trans hx9) hp3
  have fa0 : Cell w9 b 0 vo := @Cell.ext _ _ _ _ _ (he2.trans hX9) hc0
  have fi0 : Ints _ _ w9 vo p.ord := @Ints.ext _ _ _ _ _ _ (hE2.trans hX9) h1
  have hoi : Grp4 (p.ord.getD i 0) := by
    have h : i < p.ord.length := by omega
    have := hF.2 _ (List.getElem_mem h)
    simpa [h] using this
  have hle := hoi.le
  refine got ?_
  refine d_region (h := fun w10 he10 _ => ?_)
  refine dgot ?_
  refine dc (l01Dec_ok (n := p.ord.getD i 0) (by omega) (by omega)) (next := fun v11 w11 h => ⟨fun x => x.trans (by obtain ⟨_, _, h, _⟩ := h; exact h), ?_⟩)
  obtain ⟨t11, rfl, he11, ht11⟩ := h
  refine dgot ?_
  refine d_end (h := ?_)
  have hx11 := he10.trans he11
  have hP11 := hP9.ext hx11
  have hX11 := hX9.trans hx11
  have hz11 := hx11.size
  have hf11 : Fr w4.heap.size w11 vl5 xs5 := hf5.ext' ((he6.trans hx9).trans hx11)
  have hold : ∀ g, xs5 ≠ [] → vl5.ownBlock = some g → g < w6.heap.size := fun g hn hg => by
    have := hf5.blt hn g hg
    omega
  obtain ⟨xo, xp, xc, rp, gs, hB, hO, hS⟩ := hP11.ex
  have hrl := hS.lp
  have hgl := hS.lg
  have hbb : w6.heap.size ≤ bq := by omega
  refine got ?_
  refine c_b (fun q9 => ?_) (fun q9 => ?_)
  · obtain ⟨bs', hbs', hxs', hvs', hos'⟩ := hO.ownP (fun e => by rw [e] at hrl; simp at hrl; omega)
    have c1 : Cell w11 bq 1 xp := hB.cell rfl
    have hln : Len w11 xp rp.length := by have := hos'.toSl.toLen; simpa using this
    refine got ?_
    refine st_store_val (m := i) (h := hos') (by ((try simp only [ev_tmp, ev_const, ev_func, get_put, get_args, get_putL, get_putL_nil, Nat.reduceEqDiff, reduceIte, List.getD_cons_zero, List.getD_cons_succ, List.getD_nil]); first | done | with_reducible rfl)) (by ((try simp only [ev_tmp, ev_const, ev_func, get_put, get_args, get_putL, get_putL_nil, Nat.reduceEqDiff, reduceIte, List.getD_cons_zero, List.getD_cons_succ, List.getD_nil]); first | done | with_reducible rfl)) hf11.ints.sl.one (by rw [List.length_map]; omega) (by first | exact True.intro | exact ⟨_, rfl, by ((try simp only [ev_tmp, ev_const, ev_func, get_put, get_args, get_putL, get_putL_nil, Nat.reduceEqDiff, reduceIte, List.getD_cons_zero, List.getD_cons_succ, List.getD_nil, Bool.not_true, Bool.not_false]); first | done | with_reducible rfl)⟩) (fun wq hcq hsq hoq => ?_)
    have hPq := PBx.putP2 hB hO hS (i := i) (by omega) hvs' hxs' hf11 (by omega) hbb hold hxl5 hcq hoq
    have hxq : Ext w2 wq := hcq.ext hX11 (by omega)
    clear hB hO hS c1 hln hos' hoq
    obtain ⟨xo, xp, xc, rpx, gsx, hBx, hOx, hSx⟩ := hPq.ex
    have hbx : Blk wq br _ := @Blk.ext _ _ _ _ hxq hbk2
    refine got ?_
    refine ra (v := .agg #[xo, xp, xc]) (h := rd_load_blk (hb := hBx) (by ((try simp only [ev_tmp, ev_const, ev_func, get_put, get_args, get_putL, get_putL_nil, Nat.reduceEqDiff, reduceIte, List.getD_cons_zero, List.getD_cons_succ, List.getD_nil]); first | done | with_reducible rfl)) rfl) (next := ?_)
    refine st_store_agg (vs := [xo, xp, xc]) (cs := _) (hb := hbx) (by ((try simp only [ev_tmp, ev_const, ev_func, get_put, get_args, get_putL, get_putL_nil, Nat.reduceEqDiff, reduceIte, List.getD_cons_zero, List.getD_cons_succ, List.getD_nil]); first | done | with_reducible rfl)) (by ((try simp only [ev_tmp, ev_const, ev_func, get_put, get_args, get_putL, get_putL_nil, Nat.reduceEqDiff, reduceIte, List.getD_cons_zero, List.getD_cons_succ, List.getD_nil]); first | done | with_reducible rfl)) rfl rfl hOx.one3 (by first | exact True.intro | exact ⟨_, rfl, by ((try simp only [ev_tmp, ev_const, ev_func, get_put, get_args, get_putL, get_putL_nil, Nat.reduceEqDiff, reduceIte, List.getD_cons_zero, List.getD_cons_succ, List.getD_nil, Bool.not_true, Bool.not_false]); first | done | with_reducible rfl)⟩) fun wr hcr hsr hBr => ?_
    refine got ?_
    exact retc2 (b := br) (hb := hBr) ⟨_, true, rfl, hcr.ext (hE2.trans hxq) (by omega), .inr (NewP.of (((hOx.chg hcr (.inr (by omega))).weak (fun b hb => hb.elim)).mono (by omega)) hSx)⟩ rfl
  refine got ?_
  refine spd (fun q10 => ?_) (fun q10 => ?_)
  · have hbk' : Blk w11 br _ := @Blk.ext _ _ _ _ hX11 hbk2
    refine got ?_
    refine st_store_agg (vs := [vo, vpw, vc]) (cs := _) (hb := hbk') (by ((try simp only [ev_tmp, ev_const, ev_func, get_put, get_args, get_putL, get_putL_nil, Nat.reduceEqDiff, reduceIte, List.getD_cons_zero, List.getD_cons_succ, List.getD_nil]); first | done | with_reducible rfl)) (by ((try simp only [ev_tmp, ev_const, ev_func, get_put, get_args, get_putL, get_putL_nil, Nat.reduceEqDiff, reduceIte, List.getD_cons_zero, List.getD_cons_succ, List.getD_nil]); first | done | with_reducible rfl)) rfl rfl (by simp [o3.1, o3.2.1, o3.2.2]) (by first | exact True.intro | exact ⟨_, rfl, by ((try simp only [ev_tmp, ev_const, ev_func, get_put, get_args, get_putL, get_putL_nil, Nat.reduceEqDiff, reduceIte, List.getD_cons_zero, List.getD_cons_succ, List.getD_nil, Bool.not_true, Bool.not_false]); first | done | with_reducible rfl)⟩) fun wr hcr hsr hBr => ?_
    refine got ?_
    exact retc2 (b := br) (hb := hBr) ⟨_, false, rfl, hcr.ext (hE2.trans hX11) (by omega), .inl rfl⟩ rfl
  refine got ?_
  refine c_if (fun q11 => ?_) (fun q11 => ?_)
  · have hbk' : Blk w11 br _ := @Blk.ext _ _ _ _ hX11 hbk2
    refine got ?_
    refine st_store_agg (vs := [vo, vpw, vc]) (cs := _) (hb := hbk') (by ((try simp only [ev_tmp, ev_const, ev_func, get_put, get_args, get_putL, get_putL_nil, Nat.reduceEqDiff, reduceIte, List.getD_cons_zero, List.getD_cons_succ, List.getD_nil]); first | done | with_reducible rfl)) (by ((try simp only [ev_tmp, ev_const, ev_func, get_put, get_args, get_putL, get_putL_nil, Nat.reduceEqDiff, reduceIte, List.getD_cons_zero, List.getD_cons_succ, List.getD_nil]); first | done | with_reducible rfl)) rfl rfl (by simp [o3.1, o3.2.1, o3.2.2]) (by first | exact True.intro | exact ⟨_, rfl, by ((try simp only [ev_tmp, ev_const, ev_func, get_put, get_args, get_putL, get_putL_nil, Nat.reduceEqDiff, reduceIte, List.getD_cons_zero, List.getD_cons_succ, List.getD_nil, Bool.not_true, Bool.not_false]); first | done | with_reducible rfl)⟩) fun wr hcr hsr hBr => ?_
    refine got ?_
    exact retc2 (b := br) (hb := hBr) ⟨_, false, rfl, hcr.ext (hE2.trans hX11) (by omega), .inl rfl⟩ rfl
  obtain ⟨j, rfl⟩ : ∃ j : Nat, Y = j := ⟨Y.toNat, by omega⟩
  have hgi : j < gs.length := by omega
  have hli := hS.li j hgi
  have hlc := hS.lenC hgi
  have hgm : (gs.map fun q => q.2.map (·.2)).length = p.ord.length := by rw [List.length_map]; exact hgl
  obtain ⟨bs', hbs', hxs', hvs', hos'⟩ := hO.ownC' hgi (by omega)
  have c2 : Cell w11 bq 2 xc := hB.cell rfl
  have hrs := hO.rowss
  refine got ?_
  refine st_store_val (m := i - j - 1) (h := hos') (by ((try simp only [ev_tmp, ev_const, ev_func, get_put, get_args, get_putL, get_putL_nil, Nat.reduceEqDiff, reduceIte, List.getD_cons_zero, List.getD_cons_succ, List.getD_nil]); first | done | with_reducible rfl)) (by ((try simp only [ev_tmp, ev_const, ev_func, get_put, get_args, get_putL, get_putL_nil, Nat.reduceEqDiff, reduceIte, List.getD_cons_zero, List.getD_cons_succ, List.getD_nil]); first | done | with_reducible rfl)) hf11.ints.sl.one (by rw [List.length_map]; omega) (by first | exact True.intro | exact ⟨_, rfl, by ((try simp only [ev_tmp, ev_const, ev_func, get_put, get_args, get_putL, get_putL_nil, Nat.reduceEqDiff, reduceIte, List.getD_cons_zero, List.getD_cons_succ, List.getD_nil, Bool.not_true, Bool.not_false]); first | done | with_reducible rfl)⟩) (fun wq hcq hsq hoq => ?_)
  have hPq := PBx.putC2 hB hO hS (i := j) (j := i - j - 1) hgi (by omega) hvs' hxs' hf11 (by omega) hbb hold hxl5 hcq hoq
  have hxq : Ext w2 wq := hcq.ext hX11 (by omega)
  clear hB hO hS c2 hrs hos' hoq
  obtain ⟨xo, xp, xc, rpx, gsx, hBx, hOx, hSx⟩ := hPq.ex
  have hbx : Blk wq br _ := @Blk.ext _ _ _ _ hxq hbk2
  refine got ?_
  refine ra (v := .agg #[xo, xp, xc]) (h := rd_load_blk (hb := hBx) (by ((try simp only [ev_tmp, ev_const, ev_func, get_put, get_args, get_putL, get_putL_nil, Nat.reduceEqDiff, reduceIte, List.getD_cons_zero, List.getD_cons_succ, List.getD_nil]); first | done | with_reducible rfl)) rfl) (next := ?_)
  refine st_store_agg (vs := [xo, xp, xc]) (cs := _) (hb := hbx) (by ((try simp only [ev_tmp, ev_const, ev_func, get_put, get_args, get_putL, get_putL_nil, Nat.reduceEqDiff, reduceIte, List.getD_cons_zero, List.getD_cons_succ, List.getD_nil]); first | done | with_reducible rfl)) (by ((try simp only [ev_tmp, ev_const, ev_func, get_put, get_args, get_putL, get_putL_nil, Nat.reduceEqDiff, reduceIte, List.getD_cons_zero, List.getD_cons_succ, List.getD_nil]); first | done | with_reducible rfl)) rfl rfl hOx.one3 (by first | exact True.intro | exact ⟨_, rfl, by ((try simp only [ev_tmp, ev_const, ev_func, get_put, get_args, get_putL, get_putL_nil, Nat.reduceEqDiff, reduceIte, List.getD_cons_zero, List.getD_cons_succ, List.getD_nil, Bool.not_true, Bool.not_false]); first | done | with_reducible rfl)⟩) fun wr hcr hsr hBr => ?_
  refine got ?_
  exact retc2 (b := br) (hb := hBr) ⟨_, true, rfl, hcr.ext (hE2.trans hxq) (by omega), .inr (NewP.of (((hOx.chg hcr (.inr (by omega))).weak (fun b hb => hb.elim)).mono (by omega)) hSx)⟩ rfl
end Go.Proofs.Ytflniifngfiekaa

/-
  Walks: the reference's ParsePresentation, l07Table.
  Conditions: stated at each theorem.
-/
namespace Go.Pc
open Go Go.RowKit
section
variable {P : Program} {N : Nat} {ops : Array Oper} {π : List Nat} {S : World → Prop} {K : Env → World → Prop} {ρ : Env} {w : World}
variable {i : Nat} {ty : TypeId} {pos : String} {after : Array Edge} {g : Option (Nat × Bool)}
/-- A read at its place: nothing else may come up. -/
theorem dn {op : Op} {d : Nat} {v : Value} (h : Rd P op ty ρ w v) (next : dops P N ops π S K (i + 1) (put ρ d v) w) (hi : opAt ops π i = some ⟨some d, op, ty, pos, after, g⟩ := by exact rfl) (hn : nextOk ops π i = true := by decide +kernel) (hd : d < N := by decide) (hg : Wants ops ρ g := by first | exact True.intro | exact ⟨_, rfl, by ((try simp only [ev_tmp, ev_const, ev_func, get_put, get_args, get_putL, get_putL_nil, Nat.reduceEqDiff, reduceIte, List.getD_cons_zero, List.getD_cons_succ, List.getD_nil, Bool.not_true, Bool.not_false]); first | done | with_reducible rfl)⟩) : dops P N ops π S K i ρ w :=
  dt_ex hi hn hd hg ⟨h.run⟩ id next
theorem dn_blk {t x : _} {d b n : Nat} {cs : List Value} [hp : StructT P t n] (hb : Blk w b cs) (hl : n = cs.length) (next : dops P N ops π S K (i + 1) (put ρ d (.agg cs.toArray)) w) (hi : opAt ops π i = some ⟨some d, .load t x, ty, pos, after, g⟩ := by exact rfl) (hx : ev ρ x = .pointer (some ⟨b, 0, none⟩) := by ((try simp only [ev_tmp, ev_const, ev_func, get_put, get_args, get_putL, get_putL_nil, Nat.reduceEqDiff, reduceIte, List.getD_cons_zero, List.getD_cons_succ, List.getD_nil]); first | done | with_reducible rfl)) (hn : nextOk ops π i = true := by decide +kernel) (hd : d < N := by decide) (hg : Wants ops ρ g := by first | exact True.intro | exact ⟨_, rfl, by ((try simp only [ev_tmp, ev_const, ev_func, get_put, get_args, get_putL, get_putL_nil, Nat.reduceEqDiff, reduceIte, List.getD_cons_zero, List.getD_cons_succ, List.getD_nil, Bool.not_true, Bool.not_false]); first | done | with_reducible rfl)⟩) : dops P N ops π S K i ρ w :=
  dn (rd_load_blk (hb := hb) hx hl) next hi hn hd hg
theorem rz_load_strs {b : Nat} {x : Operand} {v : Value} {t lo hi m : Nat} {us : List ByteArray} (h : ev ρ x = eptr v m) [hp : PlainT P t] [hx : Strs lo hi w v us] [hap : Apart lo hi b] (hm : m < us.length) : RdC P b (.load t x) ty ρ w (.string (us.getD m ByteArray.empty)) :=
  ⟨fun w' he => @id (Rd P (.load t x) ty ρ w' (.string (us.getD m ByteArray.empty))) (by have hv : Strs lo hi w' v us := hx.same (he.same hap.out); exact rd_load_strs h hm)⟩
end
end Go.Pc
namespace Go.Proofs.Ytflniifngfiekaa
open Go Go.Pc
set_option maxHeartbeats 16000000 in
theorem spec_ParsePresentation_ok {w : World} {s : ByteArray} (hs : s.size ≤ 1000) :
    Calls Try.prog 81 #[.string s] w (Ret fun v w' => ∃ (u : Value) (e : Int) (ord : List Int), v = .tuple #[u, .int .i64 e] ∧ Ext w w' ∧ NewP w.heap.size w' u ord ∧ Few 6 ord) := by
  refine enter (args := [.string s]) (l := [.cell 2 28, .tmp 3]) Try.func81 rfl rfl Try.ntmps81 (by simp) ?_
  refine got ?_
  refine st_alloc (by first | exact True.intro | exact ⟨_, rfl, by ((try simp only [ev_tmp, ev_const, ev_func, get_put, get_args, get_putL, get_putL_nil, Nat.reduceEqDiff, reduceIte, List.getD_cons_zero, List.getD_cons_succ, List.getD_nil, Bool.not_true, Bool.not_false]); first | done | with_reducible rfl)⟩) fun w1 br he1 hbr hs1 hbk1 => ?_
  have hz1 := he1.size
  refine got ?_
  refine rc (l01Split_ok hs) (next := fun v2 w2 h => ?_)
  obtain ⟨us, he2, hp2, hl0, hl1, hsz⟩ := h
  have hz2 := he2.size
  have hsz0 := hsz 0
  refine got ?_
  refine rc (l07Orders_ok (s := us.getD 0 ByteArray.empty) (by omega)) (next := fun v3 w3 h => ?_)
  obtain ⟨vl, xs, ok, rfl, he3, hf3, hF⟩ := h
  have hz3 := he3.size
  have hi3 := hf3.ints
  have hx3 := he2.trans he3
  have hxl := hF.1
  refine got ?_
  refine c_b (fun q1 => ?_) (fun q1 => ?_)
  · have hbr3 : Blk w3 br _ := @Blk.ext _ _ _ _ hx3 hbk1
    refine got ?_
    refine ra (v := .agg #[nilv, nilv, nilv]) (h := rd_build (by simp only [ev_tmp, ev_const, ev_func, get_put, get_args, get_putL, get_putL_nil, Nat.reduceEqDiff, reduceIte, List.getD_cons_zero, List.getD_cons_succ, List.getD_nil, List.map_toArray, List.map_cons, List.map_nil]; rfl) (fun _ => (by kernel_rfl))) (next := ?_)
    refine st_store_agg (vs := [nilv, nilv, nilv]) (cs := _) (hb := hbr3) (by ((try simp only [ev_tmp, ev_const, ev_func, get_put, get_args, get_putL, get_putL_nil, Nat.reduceEqDiff, reduceIte, List.getD_cons_zero, List.getD_cons_succ, List.getD_nil]); first | done | with_reducible rfl)) (by ((try simp only [ev_tmp, ev_const, ev_func, get_put, get_args, get_putL, get_putL_nil, Nat.reduceEqDiff, reduceIte, List.getD_cons_zero, List.getD_cons_succ, List.getD_nil]); first | done | with_reducible rfl)) rfl ?_ rfl (by first | exact True.intro | exact ⟨_, rfl, by ((try simp only [ev_tmp, ev_const, ev_func, get_put, get_args, get_putL, get_putL_nil, Nat.reduceEqDiff, reduceIte, List.getD_cons_zero, List.getD_cons_succ, List.getD_nil, Bool.not_true, Bool.not_false]); first | done | with_reducible rfl)⟩) fun w6 hc6 hs6 hB6 => ?_
    · rfl
    refine got ?_
    have hx6 := hc6.ext (he1.trans hx3) (by omega)
    exact retc2 (b := br) (hb := hB6) ⟨_, _, [], rfl, hx6, NewP.nil hx6.size, Few.nil⟩ rfl
  refine got ?_
  refine rc (l07Trivial_ok (xs := xs) (by omega)) (next := fun v4 w4 h => ?_)
  obtain ⟨vo4, vp4, vc4, rp4, gs4, rfl, he4, hO4, hS4⟩ := h
  have hz4 := he4.size
  refine got ?_
  refine st_alloc (by first | exact True.intro | exact ⟨_, rfl, by ((try simp only [ev_tmp, ev_const, ev_func, get_put, get_args, get_putL, get_putL_nil, Nat.reduceEqDiff, reduceIte, List.getD_cons_zero, List.getD_cons_succ, List.getD_nil, Bool.not_true, Bool.not_false]); first | done | with_reducible rfl)⟩) fun w5 bp he5 hbp hs5 hbk5 => ?_
  have hz5 := he5.size
  refine st_store_agg (vs := [vo4, vp4, vc4]) (cs := _) (hb := hbk5) (by ((try simp only [ev_tmp, ev_const, ev_func, get_put, get_args, get_putL, get_putL_nil, Nat.reduceEqDiff, reduceIte, List.getD_cons_zero, List.getD_cons_succ, List.getD_nil]); first | done | with_reducible rfl)) (by ((try simp only [ev_tmp, ev_const, ev_func, get_put, get_args, get_putL, get_putL_nil, Nat.reduceEqDiff, reduceIte, List.getD_cons_zero, List.getD_cons_succ, List.getD_nil]); first | done | with_reducible rfl)) rfl rfl hO4.one3 (by first | exact True.intro | exact ⟨_, rfl, by ((try simp only [ev_tmp, ev_const, ev_func, get_put, get_args, get_putL, get_putL_nil, Nat.reduceEqDiff, reduceIte, List.getD_cons_zero, List.getD_cons_succ, List.getD_nil, Bool.not_true, Bool.not_false]); first | done | with_reducible rfl)⟩) fun w6 hc6 hs6 hB6 => ?_
  have hE6 : Ext w4 w6 := hc6.ext he5 (by omega)
  have hP6 : PBx w3.heap.size w6 bp xs := PBx.start hO4 hS4 he5 (.inr (by omega)) hc6 hB6 (Nat.le_refl _)
  clear hO4 hS4 hB6 hbk5
  refine got ?_
  refine r_for (us.length - 1) (fun i ρ w' => Has ρ [(0, .string s), (2, .pointer (some ⟨br, 0, none⟩)), (4, v2), (7, .pointer (some ⟨bp, 0, none⟩)), (8, .int .i64 (1 + (i : Int)))] ∧ Ext w3 w' ∧ PBx w3.heap.size w' bp xs) ?_ ?_
  · refine ⟨?_, he4.trans hE6, hP6⟩
    exact hasP
  clear hP6
  rintro i ρ w7 hi ⟨hH, hx7, hP7⟩
  refine rwp_has hH fun ρ0 => ?_
  have hz7 := hx7.size
  have hp7 : Strs _ _ w7 v2 us := @Strs.ext _ _ _ _ _ _ (he3.trans hx7) hp2
  have hbr7 : Blk w7 br _ := @Blk.ext _ _ _ _ (hx3.trans hx7) hbk1
  obtain ⟨vo, vp, vc, rp, gs, hB7, hO7, hS7⟩ := hP7.ex
  refine got ?_
  refine c_if (fun q2 => ?_) (fun q2 => ?_)
  · have hszi := hsz (1 + i)
    have c0 : Cell w7 bp 0 vo := hB7.cell rfl
    have c1 : Cell w7 bp 1 vp := hB7.cell rfl
    have c2 : Cell w7 bp 2 vc := hB7.cell rfl
    have hb7 := hB7.lt
    have hpr7 := hO7.pres
    refine got ?_
    refine d_post (fun ρ' w' => ∃ ok : Bool, Has ρ' [(0, .string s), (2, .pointer (some ⟨br, 0, none⟩)), (4, v2), (6, .bool ok), (7, .pointer (some ⟨bp, 0, none⟩)), (8, .int .i64 (1 + (i : Int)))] ∧ Ext w3 w' ∧ PBx w3.heap.size w' bp xs) ?_ ?_
    · have aps : Apart w1.heap.size w2.heap.size bp := ⟨.inr (by omega)⟩
      refine z_order bp [1, 2, 3, 4, 0, 5, 6, 7, 8, 9, 10] (h := fun w8 he8 _ => ?_)
      have hpr8 : Pres _ _ w8 (.agg #[vo, vp, vc]) (prOf xs rp gs) := hpr7.same (he8.same _ _)
      have hB8 : Blk w8 bp [vo, vp, vc] := @Blk.ext _ _ _ _ he8 hB7
      refine zgo ?_
      refine za (h := rz_load_strs (us := us) (m := 1 + i) (by ((try simp only [ev_tmp, ev_const, ev_func, get_put, get_args, get_putL, get_putL_nil, Nat.reduceEqDiff, reduceIte, List.getD_cons_zero, List.getD_cons_succ, List.getD_nil]); first | done | with_reducible rfl)) (by omega)) (next := ?_)
      refine dn_blk (cs := [vo, vp, vc]) hB8 rfl ?_
      refine zc (l07Relation_ok (p := prOf xs rp gs) (s := us.getD (1 + i) ByteArray.empty) hS7.shP hF (by omega)) (hR := by rintro _ _ ⟨_, _, _, h, _⟩; exact h) (next := fun v9 w9 h => ?_)
      obtain ⟨u9, b9, rfl, he9, hu9⟩ := h
      refine zgo ?_
      have hx9 := he8.trans he9
      have hB9 : Blk w9 bp [vo, vp, vc] := @Blk.ext _ _ _ _ hx9 hB7
      rcases hu9 with rfl | hN9
      · refine z_store_agg (vs := [vo, vp, vc]) hB9 rfl rfl hO7.one3 (next := fun w10 hc10 hs10 hB10 => ?_)
        refine zgo ?_
        refine z_end ?_
        refine ⟨rfl, b9, ?_, hc10.ext (hx7.trans hx9) (by omega), ⟨vo, vp, vc, rp, gs, hB10, (hO7.ext hx9).chg hc10 (.inl rfl), hS7⟩⟩
        exact hasP
      · obtain ⟨yo, yp, yc, rq, gq, rfl, hOq, hSq⟩ := hN9.ex
        have hz8 := he8.size
        refine z_store_agg (vs := [yo, yp, yc]) hB9 rfl rfl hOq.one3 (next := fun w10 hc10 hs10 hB10 => ?_)
        refine zgo ?_
        refine z_end ?_
        refine ⟨rfl, b9, ?_, hc10.ext (hx7.trans hx9) (by omega), PBx.start hOq hSq (Ext.refl _) (.inl (by omega)) hc10 hB10 (by omega)⟩
        exact hasP
    clear hP7 hB7 hO7 hS7 c0 c1 c2 hpr7 hx7 hp7 hbr7 hz7
    rintro ρ w7 ⟨ok7, hH, hx7, hP7⟩
    refine thn_normal (rwp_has hH fun ρ1 => ?_)
    have hz7 := hx7.size
    have hbr7 : Blk w7 br _ := @Blk.ext _ _ _ _ (hx3.trans hx7) hbk1
    refine got ?_
    refine c_b (fun q3 => ?_) (fun q3 => ?_)
    · refine got ?_
      refine ra (v := .agg #[nilv, nilv, nilv]) (h := rd_build (by simp only [ev_tmp, ev_const, ev_func, get_put, get_args, get_putL, get_putL_nil, Nat.reduceEqDiff, reduceIte, List.getD_cons_zero, List.getD_cons_succ, List.getD_nil, List.map_toArray, List.map_cons, List.map_nil]; rfl) (fun _ => (by kernel_rfl))) (next := ?_)
      refine st_store_agg (vs := [nilv, nilv, nilv]) (cs := _) (hb := hbr7) (by ((try simp only [ev_tmp, ev_const, ev_func, get_put, get_args, get_putL, get_putL_nil, Nat.reduceEqDiff, reduceIte, List.getD_cons_zero, List.getD_cons_succ, List.getD_nil]); first | done | with_reducible rfl)) (by ((try simp only [ev_tmp, ev_const, ev_func, get_put, get_args, get_putL, get_putL_nil, Nat.reduceEqDiff, reduceIte, List.getD_cons_zero, List.getD_cons_succ, List.getD_nil]); first | done | with_reducible rfl)) rfl rfl rfl (by first | exact True.intro | exact ⟨_, rfl, by ((try simp only [ev_tmp, ev_const, ev_func, get_put, get_args, get_putL, get_putL_nil, Nat.reduceEqDiff, reduceIte, List.getD_cons_zero, List.getD_cons_succ, List.getD_nil, Bool.not_true, Bool.not_false]); first | done | with_reducible rfl)⟩) fun w6 hc6 hs6 hB6 => ?_
      refine got ?_
      have hx6 := hc6.ext ((he1.trans hx3).trans hx7) (by omega)
      exact retc2 (b := br) (hb := hB6) ⟨_, _, [], rfl, hx6, NewP.nil hx6.size, Few.nil⟩ rfl
    · refine got ?_
      refine forQ_normal (by omega) ⟨?_, hx7, hP7⟩
      exact hasP
  · have c0 : Cell w7 bp 0 vo := hB7.cell rfl
    have c1 : Cell w7 bp 1 vp := hB7.cell rfl
    have c2 : Cell w7 bp 2 vc := hB7.cell rfl
    have hpr7 := hO7.pres
    have hol : (prOf xs rp gs).ord.length = xs.length := rfl
    refine got ?_
    refine rc (spec_IsPresentation_ok (p := prOf xs rp gs) (by omega)) (next := fun v8 w8 h => ?_)
    obtain ⟨b8, rfl, hb8, he8⟩ := h
    have hx8 := hx7.trans he8
    have hz8 := he8.size
    have hpr8 : Pres _ _ w8 (.agg #[vo, vp, vc]) (prOf xs rp gs) := hpr7.same (he8.same _ _)
    have badw : ∀ w9, Ext w8 w9 → Blk w9 br [nilv, nilv, nilv] := fun w9 h => @Blk.ext _ _ _ _ (he8.trans h) hbr7
    refine got ?_
    refine sp (fun q3 => ?_) (fun q3 => ?_)
    · have hbr8 := badw _ (Ext.refl _)
      refine got ?_
      refine ra (v := .agg #[nilv, nilv, nilv]) (h := rd_build (by simp only [ev_tmp, ev_const, ev_func, get_put, get_args, get_putL, get_putL_nil, Nat.reduceEqDiff, reduceIte, List.getD_cons_zero, List.getD_cons_succ, List.getD_nil, List.map_toArray, List.map_cons, List.map_nil]; rfl) (fun _ => (by kernel_rfl))) (next := ?_)
      refine st_store_agg (vs := [nilv, nilv, nilv]) (cs := _) (hb := hbr8) (by ((try simp only [ev_tmp, ev_const, ev_func, get_put, get_args, get_putL, get_putL_nil, Nat.reduceEqDiff, reduceIte, List.getD_cons_zero, List.getD_cons_succ, List.getD_nil]); first | done | with_reducible rfl)) (by ((try simp only [ev_tmp, ev_const, ev_func, get_put, get_args, get_putL, get_putL_nil, Nat.reduceEqDiff, reduceIte, List.getD_cons_zero, List.getD_cons_succ, List.getD_nil]); first | done | with_reducible rfl)) rfl rfl rfl (by first | exact True.intro | exact ⟨_, rfl, by ((try simp only [ev_tmp, ev_const, ev_func, get_put, get_args, get_putL, get_putL_nil, Nat.reduceEqDiff, reduceIte, List.getD_cons_zero, List.getD_cons_succ, List.getD_nil, Bool.not_true, Bool.not_false]); first | done | with_reducible rfl)⟩) fun w6 hc6 hs6 hB6 => ?_
      refine got ?_
      have hx6 := hc6.ext ((he1.trans hx3).trans hx8) (by omega)
      exact retc2 (b := br) (hb := hB6) ⟨_, _, [], rfl, hx6, NewP.nil hx6.size, Few.nil⟩ rfl
    have hval : Valid (prOf xs rp gs) := hb8.1 (by simpa using q3)
    refine got ?_
    refine rc (l07Text_ok (p := prOf xs rp gs) hval) (next := fun v9 w9 h => ?_)
    obtain ⟨t9, rfl, he9⟩ := h
    have hx9 := hx8.trans he9
    have hz9 := he9.size
    have hbr9 := badw _ he9
    have hB9 : Blk w9 bp [vo, vp, vc] := @Blk.ext _ _ _ _ (he8.trans he9) hB7
    refine got ?_
    refine c_b (fun q4 => ?_) (fun q4 => ?_)
    · refine got ?_
      refine ra (v := .agg #[nilv, nilv, nilv]) (h := rd_build (by simp only [ev_tmp, ev_const, ev_func, get_put, get_args, get_putL, get_putL_nil, Nat.reduceEqDiff, reduceIte, List.getD_cons_zero, List.getD_cons_succ, List.getD_nil, List.map_toArray, List.map_cons, List.map_nil]; rfl) (fun _ => (by kernel_rfl))) (next := ?_)
      refine st_store_agg (vs := [nilv, nilv, nilv]) (cs := _) (hb := hbr9) (by ((try simp only [ev_tmp, ev_const, ev_func, get_put, get_args, get_putL, get_putL_nil, Nat.reduceEqDiff, reduceIte, List.getD_cons_zero, List.getD_cons_succ, List.getD_nil]); first | done | with_reducible rfl)) (by ((try simp only [ev_tmp, ev_const, ev_func, get_put, get_args, get_putL, get_putL_nil, Nat.reduceEqDiff, reduceIte, List.getD_cons_zero, List.getD_cons_succ, List.getD_nil]); first | done | with_reducible rfl)) rfl rfl rfl (by first | exact True.intro | exact ⟨_, rfl, by ((try simp only [ev_tmp, ev_const, ev_func, get_put, get_args, get_putL, get_putL_nil, Nat.reduceEqDiff, reduceIte, List.getD_cons_zero, List.getD_cons_succ, List.getD_nil, Bool.not_true, Bool.not_false]); first | done | with_reducible rfl)⟩) fun w6 hc6 hs6 hB6 => ?_
      refine got ?_
      have hx6 := hc6.ext ((he1.trans hx3).trans hx9) (by omega)
      exact retc2 (b := br) (hb := hB6) ⟨_, _, [], rfl, hx6, NewP.nil hx6.size, Few.nil⟩ rfl
    · refine got ?_
      refine st_store_agg (vs := [vo, vp, vc]) (cs := _) (hb := hbr9) (by ((try simp only [ev_tmp, ev_const, ev_func, get_put, get_args, get_putL, get_putL_nil, Nat.reduceEqDiff, reduceIte, List.getD_cons_zero, List.getD_cons_succ, List.getD_nil]); first | done | with_reducible rfl)) (by ((try simp only [ev_tmp, ev_const, ev_func, get_put, get_args, get_putL, get_putL_nil, Nat.reduceEqDiff, reduceIte, List.getD_cons_zero, List.getD_cons_succ, List.getD_nil]); first | done | with_reducible rfl)) rfl rfl hO7.one3 (by first | exact True.intro | exact ⟨_, rfl, by ((try simp only [ev_tmp, ev_const, ev_func, get_put, get_args, get_putL, get_putL_nil, Nat.reduceEqDiff, reduceIte, List.getD_cons_zero, List.getD_cons_succ, List.getD_nil, Bool.not_true, Bool.not_false]); first | done | with_reducible rfl)⟩) fun w6 hc6 hs6 hB6 => ?_
      refine got ?_
      exact retc2 (b := br) (hb := hB6) ⟨_, _, xs, rfl, hc6.ext ((he1.trans hx3).trans hx9) (by omega), NewP.of ((((hO7.ext (he8.trans he9)).chg hc6 (.inr (by omega))).weak (fun b hb => hb.elim)).mono (by omega)) hS7, hF⟩ rfl
end Go.Proofs.Ytflniifngfiekaa

/-
  Walk: the reference's l07Table.
  Conditions: stated at the theorem.
-/
namespace Go.Proofs.Ytflniifngfiekaa
open Go Go.Pc
def tabS : List ByteArray := [⟨#[49]⟩, ⟨#[50]⟩, ⟨#[50, 32, 50, 59, 32, 97, 94, 50, 61, 98]⟩, ⟨#[50, 32, 51, 59, 32, 98, 94, 97, 61, 98, 98]⟩, ⟨#[51, 32, 50, 32, 50, 59, 32, 98, 94, 97, 61, 99, 59, 32, 99, 94, 97, 61, 98, 99]⟩, ⟨#[50, 32, 51, 32, 50, 32, 50, 59, 32, 98, 94, 97, 61, 98, 98, 59, 32, 99, 94, 97, 61, 100, 59, 32, 100, 94, 97, 61, 99, 59, 32, 99, 94, 98, 61, 100, 59, 32, 100, 94, 98, 61, 99, 100]⟩, ⟨#[51, 32, 50, 32, 50, 32, 50, 59, 32, 98, 94, 50, 61, 100, 59, 32, 99, 94, 50, 61, 100, 59, 32, 98, 94, 97, 61, 99, 59, 32, 99, 94, 97, 61, 98, 99, 59, 32, 99, 94, 98, 61, 99, 100]⟩, ⟨#[50, 32, 50, 32, 50, 59, 32, 97, 94, 50, 61, 99, 59, 32, 98, 94, 50, 61, 99, 59, 32, 98, 94, 97, 61, 98, 99]⟩, ⟨#[50, 32, 50, 32, 50, 59, 32, 98, 94, 97, 61, 98, 99]⟩, ⟨#[50, 32, 50, 32, 50, 32, 50, 59, 32, 99, 94, 97, 61, 99, 100, 59, 32, 99, 94, 98, 61, 99, 100]⟩]
theorem tab_sz (j : Nat) : (tabS.getD j ByteArray.empty).size ≤ 1000 := by
  have h : ∀ s, s ∈ tabS → s.size ≤ 1000 := by
    intro s hs
    simp only [tabS, List.mem_cons, List.not_mem_nil, or_false] at hs
    rcases hs with rfl | rfl | rfl | rfl | rfl | rfl | rfl | rfl | rfl | rfl <;> exact of_decide_eq_true rfl
  by_cases hj : j < tabS.length
  · have := h _ (List.getElem_mem hj)
    simpa [hj] using this
  · rw [List.getD_eq_getElem?_getD, List.getElem?_eq_none (by omega)]
    exact Nat.zero_le _
set_option maxHeartbeats 8000000 in
theorem l07Table_ok {w : World} {k : Int} (h0 : 0 ≤ k) (h1 : k < 1000) :
    Calls Try.prog 69 #[.int .i64 k] w (Ret fun v w' => ∃ ord, Ext w w' ∧ NewP w.heap.size w' v ord ∧ Few 6 ord) := by
  refine enter (args := [.int .i64 k]) (l := [.cell 2 28]) Try.func69 rfl rfl Try.ntmps69 (by simp) ?_
  refine got ?_
  refine st_alloc (by first | exact True.intro | exact ⟨_, rfl, by ((try simp only [ev_tmp, ev_const, ev_func, get_put, get_args, get_putL, get_putL_nil, Nat.reduceEqDiff, reduceIte, List.getD_cons_zero, List.getD_cons_succ, List.getD_nil, Bool.not_true, Bool.not_false]); first | done | with_reducible rfl)⟩) fun w1 br he1 hbr hs1 hbk1 => ?_
  have hz1 := he1.size
  refine got ?_
  refine st_sliceN (us := tabS.map Value.string) (next := fun w2 v2 he2 hz2 ho2 => ?_)
  have hp2 : Strs _ _ w2 v2 tabS := ⟨ho2.toSl⟩
  have htl : tabS.length = 10 := rfl
  obtain ⟨m, hm⟩ : ∃ m : Nat, k % 10 = m := ⟨(k % 10).toNat, by omega⟩
  have hm10 : m < 10 := by omega
  refine ra (next := ?_)
  refine ra (next := ?_)
  rw [hm]
  refine got ?_
  refine rc (spec_ParsePresentation_ok (s := tabS.getD m ByteArray.empty) (tab_sz _)) (next := fun v3 w3 h => ?_)
  obtain ⟨u3, e3, ord, rfl, he3, hN3, hF⟩ := h
  have hz3 := he3.size
  obtain ⟨vo, vp, vc, rp, gs, rfl, hO, hS⟩ := hN3.ex
  refine got ?_
  refine st_alloc (by first | exact True.intro | exact ⟨_, rfl, by ((try simp only [ev_tmp, ev_const, ev_func, get_put, get_args, get_putL, get_putL_nil, Nat.reduceEqDiff, reduceIte, List.getD_cons_zero, List.getD_cons_succ, List.getD_nil, Bool.not_true, Bool.not_false]); first | done | with_reducible rfl)⟩) fun w4 bp he4 hbp hs4 hbk4 => ?_
  have hz4 := he4.size
  refine st_store_agg (vs := [vo, vp, vc]) (cs := _) (hb := hbk4) (by ((try simp only [ev_tmp, ev_const, ev_func, get_put, get_args, get_putL, get_putL_nil, Nat.reduceEqDiff, reduceIte, List.getD_cons_zero, List.getD_cons_succ, List.getD_nil]); first | done | with_reducible rfl)) (by ((try simp only [ev_tmp, ev_const, ev_func, get_put, get_args, get_putL, get_putL_nil, Nat.reduceEqDiff, reduceIte, List.getD_cons_zero, List.getD_cons_succ, List.getD_nil]); first | done | with_reducible rfl)) rfl rfl hO.one3 (by first | exact True.intro | exact ⟨_, rfl, by ((try simp only [ev_tmp, ev_const, ev_func, get_put, get_args, get_putL, get_putL_nil, Nat.reduceEqDiff, reduceIte, List.getD_cons_zero, List.getD_cons_succ, List.getD_nil, Bool.not_true, Bool.not_false]); first | done | with_reducible rfl)⟩) fun w5 hc5 hs5 hB5 => ?_
  have hE5 : Ext w3 w5 := hc5.ext he4 (by omega)
  have hx5 : Ext w2 w5 := he3.trans hE5
  have hP5 : PBx w2.heap.size w5 bp ord := PBx.start hO hS he4 (.inr (by omega)) hc5 hB5 (Nat.le_refl _)
  clear hO hS hB5 hbk4 hN3
  refine got ?_
  refine r_mid (fun ρ w' => ∃ ord, Has ρ [(2, .pointer (some ⟨br, 0, none⟩)), (4, .pointer (some ⟨bp, 0, none⟩))] ∧ Ext w2 w' ∧ PBx w2.heap.size w' bp ord ∧ Few 6 ord) ?_ ?_
  · refine c_if (fun h2 => ?_) (fun h2 => ?_)
    · refine got ?_
      refine st_sliceN (us := [.int .i64 2]) (next := fun w6 v6 he6 hz6 ho6 => ?_)
      have ho6' : OwnI 2 w5.heap.size w6 v6 [2] := ⟨ho6⟩
      have hi6 := (ho6'.toFr (Nat.le_refl _)).ints
      refine got ?_
      refine rc (l07Trivial_ok (xs := [2]) (by simp)) (next := fun v7 w7 h => ?_)
      obtain ⟨vo7, vp7, vc7, rp7, gs7, rfl, he7, hO7, hS7⟩ := h
      have hz7 := he7.size
      obtain ⟨_, _, _, _, _, hB5, _, _⟩ := hP5.ex
      have hB7 : Blk w7 bp _ := @Blk.ext _ _ _ _ (he6.trans he7) hB5
      refine st_store_agg (vs := [vo7, vp7, vc7]) (cs := _) (hb := hB7) (by ((try simp only [ev_tmp, ev_const, ev_func, get_put, get_args, get_putL, get_putL_nil, Nat.reduceEqDiff, reduceIte, List.getD_cons_zero, List.getD_cons_succ, List.getD_nil]); first | done | with_reducible rfl)) (by ((try simp only [ev_tmp, ev_const, ev_func, get_put, get_args, get_putL, get_putL_nil, Nat.reduceEqDiff, reduceIte, List.getD_cons_zero, List.getD_cons_succ, List.getD_nil]); first | done | with_reducible rfl)) rfl rfl hO7.one3 (by first | exact True.intro | exact ⟨_, rfl, by ((try simp only [ev_tmp, ev_const, ev_func, get_put, get_args, get_putL, get_putL_nil, Nat.reduceEqDiff, reduceIte, List.getD_cons_zero, List.getD_cons_succ, List.getD_nil, Bool.not_true, Bool.not_false]); first | done | with_reducible rfl)⟩) fun w8 hc8 hs8 hB8 => ?_
      refine got ?_
      have h25 := hx5.size
      refine ⟨rfl, [2], ?_, hc8.ext ((hx5.trans he6).trans he7) (by omega), PBx.start hO7 hS7 (Ext.refl _) (.inl (by omega)) hc8 hB8 (by omega), by simp, fun e he => .inl (by simpa using he)⟩
      exact hasP
    · refine got ?_
      refine ⟨rfl, ord, ?_, hx5, hP5, hF⟩
      exact hasP
  rintro ρ w6 ⟨ord, hH, hx6, hP6, hF6⟩
  refine thn_normal (rwp_has hH fun ρ1 => ?_)
  obtain ⟨xo, xp, xc, rp, gs, hB6, hO6, hS6⟩ := hP6.ex
  have hbr6 : Blk w6 br _ := @Blk.ext _ _ _ _ (he2.trans hx6) hbk1
  have h26 := hx6.size
  refine got ?_
  refine ra (v := .agg #[xo, xp, xc]) (h := rd_load_blk (hb := hB6) (by ((try simp only [ev_tmp, ev_const, ev_func, get_put, get_args, get_putL, get_putL_nil, Nat.reduceEqDiff, reduceIte, List.getD_cons_zero, List.getD_cons_succ, List.getD_nil]); first | done | with_reducible rfl)) rfl) (next := ?_)
  refine st_store_agg (vs := [xo, xp, xc]) (cs := _) (hb := hbr6) (by ((try simp only [ev_tmp, ev_const, ev_func, get_put, get_args, get_putL, get_putL_nil, Nat.reduceEqDiff, reduceIte, List.getD_cons_zero, List.getD_cons_succ, List.getD_nil]); first | done | with_reducible rfl)) (by ((try simp only [ev_tmp, ev_const, ev_func, get_put, get_args, get_putL, get_putL_nil, Nat.reduceEqDiff, reduceIte, List.getD_cons_zero, List.getD_cons_succ, List.getD_nil]); first | done | with_reducible rfl)) rfl rfl hO6.one3 (by first | exact True.intro | exact ⟨_, rfl, by ((try simp only [ev_tmp, ev_const, ev_func, get_put, get_args, get_putL, get_putL_nil, Nat.reduceEqDiff, reduceIte, List.getD_cons_zero, List.getD_cons_succ, List.getD_nil, Bool.not_true, Bool.not_false]); first | done | with_reducible rfl)⟩) fun w7 hc7 hs7 hB7 => ?_
  refine got ?_
  refine retc (b := br) (hb := hB7) ⟨ord, hc7.ext ((he1.trans he2).trans hx6) (by omega), NewP.of (((hO6.chg hc7 (.inr (by omega))).weak (fun b hb => hb.elim)).mono (by omega)) hS6, hF6⟩ rfl
end Go.Proofs.Ytflniifngfiekaa

/-
  Walk: the reference's l07Family.
  Conditions: stated at the theorem.
-/
namespace Go.Proofs.Ytflniifngfiekaa
open Go Go.Pc
theorem Few.mono {m n : Nat} {xs : List Int} (h : Few m xs) (hm : m ≤ n) : Few n xs := ⟨Nat.le_trans h.1 hm, h.2⟩
theorem sm_of {xs : List Int} (h : ∀ x, x ∈ xs → 0 ≤ x ∧ x ≤ 6) : Sm xs := fun i => by
  by_cases hi : i < xs.length
  · have := h _ (List.getElem_mem hi)
    simpa [hi] using this
  · rw [List.getD_eq_getElem?_getD, List.getElem?_eq_none (by omega)]; simp
theorem smR_of {m : Nat} {xss : List (List Int)} (h0 : xss.length ≤ m) (h : ∀ xs, xs ∈ xss → (∀ x, x ∈ xs → 0 ≤ x ∧ x ≤ 6) ∧ xs.length ≤ m) : SmR m xss := ⟨h0, fun i => by
  by_cases hi : i < xss.length
  · have := h _ (List.getElem_mem hi)
    rw [List.getD_eq_getElem?_getD, List.getElem?_eq_getElem hi]
    exact ⟨sm_of this.1, this.2⟩
  · rw [List.getD_eq_getElem?_getD, List.getElem?_eq_none (by omega)]
    exact ⟨Sm.nil, by simp⟩⟩
/-- The result of a family. -/
def FamR (bs : Nat) (w : World) (v : Value) (w' : World) : Prop := ∃ ord, Chg bs w w' ∧ Src w' bs ∧ NewP w.heap.size w' v ord ∧ Few 18 ord
set_option maxHeartbeats 32000000 in
theorem l07Family_ok {w : World} {bs : Nat} (hs : Src w bs) :
    Calls Try.prog 56 #[.pointer (some ⟨bs, 0, none⟩)] w (Ret fun v w' => FamR bs w v w') := by
  have hbs := hs.lt
  refine enter (args := [.pointer (some ⟨bs, 0, none⟩)]) (l := [.cell 2 28]) Try.func56 rfl rfl Try.ntmps56 (by simp) ?_
  refine go ?_
  refine st_alloc (by first | exact True.intro | exact ⟨_, rfl, by ((try simp only [ev_tmp, ev_const, ev_func, get_put, get_args, get_putL, get_putL_nil, Nat.reduceEqDiff, reduceIte, List.getD_cons_zero, List.getD_cons_succ, List.getD_nil, Bool.not_true, Bool.not_false]); first | done | with_reducible rfl)⟩) fun w1 br he1 hbr hs1 hbk1 => ?_
  have hz1 := he1.size
  have fin : ∀ {s0 : Nat} {w2 w3 : World} {vo vp vc : Value} {ord : List Int} {rp : RL} {gs : List (Value × RL)}, Chg bs w w2 → Src w2 bs → w1.heap.size ≤ s0 → O3 (fun _ => False) s0 w2 vo vp vc ord rp gs → Sh3 ord rp gs → Few 18 ord → Chg br w2 w3 → FamR bs w (.agg #[vo, vp, vc]) w3 := fun hC hS h0 hO hS3 hF hc =>
    ⟨_, hC.app1 hc (by omega), hS.wr (.one (B := fun g => g = br) rfl hc) (fun b hb => by omega), NewP.of (((hO.chg hc (.inr (by omega))).weak (fun b hb => hb.elim)).mono (by omega)) hS3, hF⟩
  refine go ?_
  refine rc (l01Next_ok (n := 9) (hs.ext he1)) (next := fun v2 w2 h2 => ?_)
  obtain ⟨k, rfl, hc2, hs2, hk0, hk1, hz2⟩ := h2
  have hC2 : Chg bs w w2 := (Chg.ofExt he1).trans hc2
  have hbk2 : Blk w2 br [nilv, nilv, nilv] := hbk1.wr (.one (B := fun g => g = bs) rfl hc2) fun e => by omega
  refine go ?_
  refine c_if (fun g0 => ?_) (fun g0 => ?_)
  · refine go ?_
    refine st_slice0 (by first | exact True.intro | exact ⟨_, rfl, by ((try simp only [ev_tmp, ev_const, ev_func, get_put, get_args, get_putL, get_putL_nil, Nat.reduceEqDiff, reduceIte, List.getD_cons_zero, List.getD_cons_succ, List.getD_nil, Bool.not_true, Bool.not_false]); first | done | with_reducible rfl)⟩) fun w3 v3 he3 hs3' ho3 => ?_
    have hg3 : GrowI 2 w2.heap.size w3 v3 [] := GrowI.start ho3 (Nat.le_refl _)
    clear ho3
    have hs3 := hs2.ext he3
    have hC3 : Chg bs w w3 := hC2.grow he3
    have hbk3 : Blk w3 br [nilv, nilv, nilv] := @Blk.ext _ _ _ _ he3 hbk2
    have hzC2 := hC2.size
    have hz3 := he3.size
    refine go ?_
    refine rc (l01Next_ok (n := 5) hs3) (next := fun v4 w4 h4 => ?_)
    obtain ⟨k4, rfl, hc4, hs4, hk40, hk41, hz4⟩ := h4
    obtain ⟨m, rfl⟩ : ∃ m : Nat, k4 = m := ⟨k4.toNat, by omega⟩
    refine go ?_
    refine r_loop (fun m ρ w' => ∃ (vl : Value) (xs : List Int), Has ρ [(0, .pointer (some ⟨bs, 0, none⟩)), (2, .pointer (some ⟨br, 0, none⟩)), (3, vl), (4, .int .i64 m)] ∧ Chg bs w w' ∧ Src w' bs ∧ Blk w' br [nilv, nilv, nilv] ∧ w2.heap.size ≤ w'.heap.size ∧ GrowI 2 w2.heap.size w' vl xs ∧ xs.length + m ≤ 5 ∧ ∀ e, e ∈ xs → Grp4 e) m ?_ ?_
    · refine ⟨v3, [], ?_, hC3.trans hc4, hs4, hbk3.wr (.one (B := fun g => g = bs) rfl hc4) fun e => by omega, by omega, src_growI hg3 hc4 (by omega), by simp; omega, fun e he => by cases he⟩
      exact hasP
    clear hg3 hC3 hbk3 hs3 hs4
    rintro m ρ w5 ⟨vl, xs, hH, hC5, hs5, hbk5, hz5, hg5, hl5, hp5⟩
    refine rwp_has hH fun ρ0 => ?_
    refine go ?_
    refine c_if (fun q1 => ?_) (fun q1 => ?_)
    · refine go ?_
      refine st_sliceN (us := [.int .i64 2, .int .i64 2, .int .i64 3]) (next := fun w6 v6 he6 hz6 ho6 => ?_)
      have ho6' : OwnI 2 w5.heap.size w6 v6 [2, 2, 3] := ⟨ho6⟩
      have hi6 := (ho6'.toFr (Nat.le_refl _)).ints
      refine go ?_
      refine rc (l01Pick_ok (hs5.ext he6) (xs := [2, 2, 3]) (by simp) (by simp) (.inl ?_)) (next := fun v7 w7 h7 => ?_)
      · omega
      obtain ⟨m7, rfl, hc7, hs7, hm7, hz7⟩ := h7
      simp only [List.mem_cons, List.not_mem_nil, or_false] at hm7
      have hC7 : Chg bs w w7 := (hC5.grow he6).trans hc7
      have hbk7 : Blk w7 br [nilv, nilv, nilv] := (@Blk.ext _ _ _ _ he6 hbk5).wr (.one (B := fun g => g = bs) rfl hc7) fun e => by omega
      have hg7 : GrowI 2 w2.heap.size w7 vl xs := src_growI (@GrowI.ext _ _ _ _ _ _ he6 hg5) hc7 (by omega)
      have hlt : ∀ g, vl.ownBlock = some g → w2.heap.size ≤ g := fun g hg => (hg7.own.lt g hg).1
      refine go ?_
      refine st_growi hg7 (by omega) (by omega) (next := fun v8 v9 w9 hg9 hx9 hz9 hst9 => ?_)
      refine go ?_
      refine loopQ_normal (m := m - 1) (by omega) ⟨v9, xs ++ [m7], ?_, hC7.gstep hst9 (fun g hg => by have := hlt g hg; omega), hs7.wr hst9.wrt (fun g hg => by have := hlt g hg; omega), hbk7.wr hst9.wrt (fun hg => by have := hlt br hg; omega), by omega, hg9, by simp; omega, fun e he => ?_⟩
      · rw [show ((m - 1 : Nat) : Int) = m - 1 by omega]
        exact hasP
      · rcases List.mem_append.1 he with he | he
        · exact hp5 e he
        · rw [List.mem_singleton.1 he]; unfold Grp4; omega
    · have hi5 := hg5.fr.ints
      refine go ?_
      refine rc (l07Trivial_ok (xs := xs) (by omega)) (next := fun v9 w9 h => ?_)
      obtain ⟨vo, vp, vc, rp, gs, rfl, he9, hO, hSh⟩ := h
      have hbk9 : Blk w9 br _ := @Blk.ext _ _ _ _ he9 hbk5
      refine st_store_agg (vs := [vo, vp, vc]) (cs := _) (hb := hbk9) (by ((try simp only [ev_tmp, ev_const, ev_func, get_put, get_args, get_putL, get_putL_nil, Nat.reduceEqDiff, reduceIte, List.getD_cons_zero, List.getD_cons_succ, List.getD_nil]); first | done | with_reducible rfl)) (by ((try simp only [ev_tmp, ev_const, ev_func, get_put, get_args, get_putL, get_putL_nil, Nat.reduceEqDiff, reduceIte, List.getD_cons_zero, List.getD_cons_succ, List.getD_nil]); first | done | with_reducible rfl)) rfl rfl hO.one3 (by first | exact True.intro | exact ⟨_, rfl, by ((try simp only [ev_tmp, ev_const, ev_func, get_put, get_args, get_putL, get_putL_nil, Nat.reduceEqDiff, reduceIte, List.getD_cons_zero, List.getD_cons_succ, List.getD_nil, Bool.not_true, Bool.not_false]); first | done | with_reducible rfl)⟩) fun wz hcz hsz hBz => ?_
      refine go ?_
      exact retc (b := br) (hb := hBz) (fin (hC5.grow he9) (hs5.ext he9) (by omega) hO hSh ⟨by omega, hp5⟩ hcz) rfl
  refine go ?_
  refine c_if (fun g1 => ?_) (fun g1 => ?_)
  · skip
    refine go ?_
    refine st_sliceN (us := [.int .i64 1, .int .i64 4, .int .i64 6, .int .i64 8, .int .i64 9, .int .i64 12, .int .i64 5, .int .i64 7, .int .i64 27, .int .i64 25, .int .i64 36]) (next := fun w3 v3 he3 hz3 ho3 => ?_)
    have ho3' : OwnI 2 w2.heap.size w3 v3 [1, 4, 6, 8, 9, 12, 5, 7, 27, 25, 36] := ⟨ho3⟩
    have hi3 := (ho3'.toFr (Nat.le_refl _)).ints
    have hz23 := hC2.size
    refine go ?_
    refine rc (l01Pick_ok (hs2.ext he3) (xs := [1, 4, 6, 8, 9, 12, 5, 7, 27, 25, 36]) (by simp) (by simp) (.inl ?_)) (next := fun v4 w4 h4 => ?_)
    · omega
    obtain ⟨m, rfl, hc4, hs4, hm4, hz4⟩ := h4
    simp only [List.mem_cons, List.not_mem_nil, or_false] at hm4
    have hC4 : Chg bs w w4 := (hC2.grow he3).trans hc4
    have hbk4 : Blk w4 br [nilv, nilv, nilv] := (@Blk.ext _ _ _ _ he3 hbk2).wr (.one (B := fun g => g = bs) rfl hc4) fun e => by omega
    refine go ?_
    refine rc (spec_CyclicPresentation_ok (n := m) (by omega) (by omega)) (next := fun v9 w9 h => ?_)
    obtain ⟨u9, e9, ord, rfl, he9, hN9, hF⟩ := h
    obtain ⟨vo, vp, vc, rp, gs, rfl, hO, hSh⟩ := hN9.ex
    have hz9 := he9.size
    have hzc := hC4.size
    refine go ?_
    refine st_alloc (by first | exact True.intro | exact ⟨_, rfl, by ((try simp only [ev_tmp, ev_const, ev_func, get_put, get_args, get_putL, get_putL_nil, Nat.reduceEqDiff, reduceIte, List.getD_cons_zero, List.getD_cons_succ, List.getD_nil, Bool.not_true, Bool.not_false]); first | done | with_reducible rfl)⟩) fun w10 bp he10 hbp hs10 hbk10 => ?_
    refine st_store_agg (vs := [vo, vp, vc]) (cs := _) (hb := hbk10) (by ((try simp only [ev_tmp, ev_const, ev_func, get_put, get_args, get_putL, get_putL_nil, Nat.reduceEqDiff, reduceIte, List.getD_cons_zero, List.getD_cons_succ, List.getD_nil]); first | done | with_reducible rfl)) (by ((try simp only [ev_tmp, ev_const, ev_func, get_put, get_args, get_putL, get_putL_nil, Nat.reduceEqDiff, reduceIte, List.getD_cons_zero, List.getD_cons_succ, List.getD_nil]); first | done | with_reducible rfl)) rfl rfl hO.one3 (by first | exact True.intro | exact ⟨_, rfl, by ((try simp only [ev_tmp, ev_const, ev_func, get_put, get_args, get_putL, get_putL_nil, Nat.reduceEqDiff, reduceIte, List.getD_cons_zero, List.getD_cons_succ, List.getD_nil, Bool.not_true, Bool.not_false]); first | done | with_reducible rfl)⟩) fun w11 hc11 hs11 hB11 => ?_
    have hx11 : Ext w9 w11 := hc11.ext he10 (by omega)
    have hbk11 : Blk w11 br [nilv, nilv, nilv] := @Blk.ext _ _ _ _ (he9.trans hx11) hbk4
    refine go ?_
    refine ra (v := .agg #[vo, vp, vc]) (h := rd_load_blk (hb := hB11) (by ((try simp only [ev_tmp, ev_const, ev_func, get_put, get_args, get_putL, get_putL_nil, Nat.reduceEqDiff, reduceIte, List.getD_cons_zero, List.getD_cons_succ, List.getD_nil]); first | done | with_reducible rfl)) rfl) (next := ?_)
    refine st_store_agg (vs := [vo, vp, vc]) (cs := _) (hb := hbk11) (by ((try simp only [ev_tmp, ev_const, ev_func, get_put, get_args, get_putL, get_putL_nil, Nat.reduceEqDiff, reduceIte, List.getD_cons_zero, List.getD_cons_succ, List.getD_nil]); first | done | with_reducible rfl)) (by ((try simp only [ev_tmp, ev_const, ev_func, get_put, get_args, get_putL, get_putL_nil, Nat.reduceEqDiff, reduceIte, List.getD_cons_zero, List.getD_cons_succ, List.getD_nil]); first | done | with_reducible rfl)) rfl rfl hO.one3 (by first | exact True.intro | exact ⟨_, rfl, by ((try simp only [ev_tmp, ev_const, ev_func, get_put, get_args, get_putL, get_putL_nil, Nat.reduceEqDiff, reduceIte, List.getD_cons_zero, List.getD_cons_succ, List.getD_nil, Bool.not_true, Bool.not_false]); first | done | with_reducible rfl)⟩) fun wz hcz hsz hBz => ?_
    refine go ?_
    exact retc (b := br) (hb := hBz) (fin ((hC4.grow he9).grow hx11) ((hs4.ext he9).ext hx11) (by omega) (hO.ext hx11) hSh (hF.mono (by omega)) hcz) rfl
  refine go ?_
  refine c_if (fun g2 => ?_) (fun g2 => ?_)
  · skip
    refine go ?_
    refine st_sliceN (us := [.int .i64 3, .int .i64 4, .int .i64 5, .int .i64 6, .int .i64 7, .int .i64 8, .int .i64 9, .int .i64 12]) (next := fun w3 v3 he3 hz3 ho3 => ?_)
    have ho3' : OwnI 2 w2.heap.size w3 v3 [3, 4, 5, 6, 7, 8, 9, 12] := ⟨ho3⟩
    have hi3 := (ho3'.toFr (Nat.le_refl _)).ints
    have hz23 := hC2.size
    refine go ?_
    refine rc (l01Pick_ok (hs2.ext he3) (xs := [3, 4, 5, 6, 7, 8, 9, 12]) (by simp) (by simp) (.inl ?_)) (next := fun v4 w4 h4 => ?_)
    · omega
    obtain ⟨m, rfl, hc4, hs4, hm4, hz4⟩ := h4
    simp only [List.mem_cons, List.not_mem_nil, or_false] at hm4
    have hC4 : Chg bs w w4 := (hC2.grow he3).trans hc4
    have hbk4 : Blk w4 br [nilv, nilv, nilv] := (@Blk.ext _ _ _ _ he3 hbk2).wr (.one (B := fun g => g = bs) rfl hc4) fun e => by omega
    refine go ?_
    refine rc (l07Meta_ok (n := 2) (m := m) (r := m - 1) (q := 0) (by omega) (by omega) (by omega) (by omega) (by omega) (by omega) (by omega) (by omega)) (next := fun v9 w9 h => ?_)
    obtain ⟨ord, he9, hN9, hF⟩ := h
    obtain ⟨vo, vp, vc, rp, gs, rfl, hO, hSh⟩ := hN9.ex
    have hbk9 : Blk w9 br _ := @Blk.ext _ _ _ _ he9 hbk4
    have hCz := (hC4).grow he9
    have hzc := (hC4).size
    refine st_store_agg (vs := [vo, vp, vc]) (cs := _) (hb := hbk9) (by ((try simp only [ev_tmp, ev_const, ev_func, get_put, get_args, get_putL, get_putL_nil, Nat.reduceEqDiff, reduceIte, List.getD_cons_zero, List.getD_cons_succ, List.getD_nil]); first | done | with_reducible rfl)) (by ((try simp only [ev_tmp, ev_const, ev_func, get_put, get_args, get_putL, get_putL_nil, Nat.reduceEqDiff, reduceIte, List.getD_cons_zero, List.getD_cons_succ, List.getD_nil]); first | done | with_reducible rfl)) rfl rfl hO.one3 (by first | exact True.intro | exact ⟨_, rfl, by ((try simp only [ev_tmp, ev_const, ev_func, get_put, get_args, get_putL, get_putL_nil, Nat.reduceEqDiff, reduceIte, List.getD_cons_zero, List.getD_cons_succ, List.getD_nil, Bool.not_true, Bool.not_false]); first | done | with_reducible rfl)⟩) fun wz hcz hsz hBz => ?_
    refine go ?_
    exact retc (b := br) (hb := hBz) (fin hCz (hs4.ext he9) (by omega) hO hSh (hF) hcz) rfl
  refine go ?_
  refine c_if (fun g3 => ?_) (fun g3 => ?_)
  · skip
    refine go ?_
    refine st_sliceN (us := [.int .i64 4, .int .i64 6, .int .i64 8, .int .i64 12]) (next := fun w3 v3 he3 hz3 ho3 => ?_)
    have ho3' : OwnI 2 w2.heap.size w3 v3 [4, 6, 8, 12] := ⟨ho3⟩
    have hi3 := (ho3'.toFr (Nat.le_refl _)).ints
    have hz23 := hC2.size
    refine go ?_
    refine rc (l01Pick_ok (hs2.ext he3) (xs := [4, 6, 8, 12]) (by simp) (by simp) (.inl ?_)) (next := fun v4 w4 h4 => ?_)
    · omega
    obtain ⟨m, rfl, hc4, hs4, hm4, hz4⟩ := h4
    simp only [List.mem_cons, List.not_mem_nil, or_false] at hm4
    have hC4 : Chg bs w w4 := (hC2.grow he3).trans hc4
    have hbk4 : Blk w4 br [nilv, nilv, nilv] := (@Blk.ext _ _ _ _ he3 hbk2).wr (.one (B := fun g => g = bs) rfl hc4) fun e => by omega
    refine go ?_
    refine rc (l07Meta_ok (n := 2) (m := m) (r := m - 1) (q := m / 2) (by omega) (by omega) (by omega) (by omega) (by omega) (by omega) (by omega) (by omega)) (next := fun v9 w9 h => ?_)
    obtain ⟨ord, he9, hN9, hF⟩ := h
    obtain ⟨vo, vp, vc, rp, gs, rfl, hO, hSh⟩ := hN9.ex
    have hbk9 : Blk w9 br _ := @Blk.ext _ _ _ _ he9 hbk4
    have hCz := (hC4).grow he9
    have hzc := (hC4).size
    refine st_store_agg (vs := [vo, vp, vc]) (cs := _) (hb := hbk9) (by ((try simp only [ev_tmp, ev_const, ev_func, get_put, get_args, get_putL, get_putL_nil, Nat.reduceEqDiff, reduceIte, List.getD_cons_zero, List.getD_cons_succ, List.getD_nil]); first | done | with_reducible rfl)) (by ((try simp only [ev_tmp, ev_const, ev_func, get_put, get_args, get_putL, get_putL_nil, Nat.reduceEqDiff, reduceIte, List.getD_cons_zero, List.getD_cons_succ, List.getD_nil]); first | done | with_reducible rfl)) rfl rfl hO.one3 (by first | exact True.intro | exact ⟨_, rfl, by ((try simp only [ev_tmp, ev_const, ev_func, get_put, get_args, get_putL, get_putL_nil, Nat.reduceEqDiff, reduceIte, List.getD_cons_zero, List.getD_cons_succ, List.getD_nil, Bool.not_true, Bool.not_false]); first | done | with_reducible rfl)⟩) fun wz hcz hsz hBz => ?_
    refine go ?_
    exact retc (b := br) (hb := hBz) (fin hCz (hs4.ext he9) (by omega) hO hSh (hF) hcz) rfl
  refine go ?_
  refine c_if (fun g4 => ?_) (fun g4 => ?_)
  · skip
    refine go ?_
    refine rc (l01Next_ok (n := 6) hs2) (next := fun v3 w3 h3 => ?_)
    obtain ⟨k3, rfl, hc3, hs3, hk30, hk31, hz3⟩ := h3
    have hC3 : Chg bs w w3 := hC2.trans hc3
    have hbk3 : Blk w3 br [nilv, nilv, nilv] := hbk2.wr (.one (B := fun g => g = bs) rfl hc3) fun e => by omega
    refine go ?_
    refine c_if (fun g40 => ?_) (fun g40 => ?_)
    · skip
      refine go ?_
      refine rc (l07Meta_ok (n := 3) (m := 7) (r := 2) (q := 0) (by omega) (by omega) (by omega) (by omega) (by omega) (by omega) (by omega) (by omega)) (next := fun v9 w9 h => ?_)
      obtain ⟨ord, he9, hN9, hF⟩ := h
      obtain ⟨vo, vp, vc, rp, gs, rfl, hO, hSh⟩ := hN9.ex
      have hbk9 : Blk w9 br _ := @Blk.ext _ _ _ _ he9 hbk3
      have hCz := (hC3).grow he9
      have hzc := (hC3).size
      refine st_store_agg (vs := [vo, vp, vc]) (cs := _) (hb := hbk9) (by ((try simp only [ev_tmp, ev_const, ev_func, get_put, get_args, get_putL, get_putL_nil, Nat.reduceEqDiff, reduceIte, List.getD_cons_zero, List.getD_cons_succ, List.getD_nil]); first | done | with_reducible rfl)) (by ((try simp only [ev_tmp, ev_const, ev_func, get_put, get_args, get_putL, get_putL_nil, Nat.reduceEqDiff, reduceIte, List.getD_cons_zero, List.getD_cons_succ, List.getD_nil]); first | done | with_reducible rfl)) rfl rfl hO.one3 (by first | exact True.intro | exact ⟨_, rfl, by ((try simp only [ev_tmp, ev_const, ev_func, get_put, get_args, get_putL, get_putL_nil, Nat.reduceEqDiff, reduceIte, List.getD_cons_zero, List.getD_cons_succ, List.getD_nil, Bool.not_true, Bool.not_false]); first | done | with_reducible rfl)⟩) fun wz hcz hsz hBz => ?_
      refine go ?_
      exact retc (b := br) (hb := hBz) (fin hCz (hs3.ext he9) (by omega) hO hSh (hF) hcz) rfl
    refine go ?_
    refine c_if (fun g41 => ?_) (fun g41 => ?_)
    · skip
      refine go ?_
      refine rc (l07Meta_ok (n := 4) (m := 5) (r := 2) (q := 0) (by omega) (by omega) (by omega) (by omega) (by omega) (by omega) (by omega) (by omega)) (next := fun v9 w9 h => ?_)
      obtain ⟨ord, he9, hN9, hF⟩ := h
      obtain ⟨vo, vp, vc, rp, gs, rfl, hO, hSh⟩ := hN9.ex
      have hbk9 : Blk w9 br _ := @Blk.ext _ _ _ _ he9 hbk3
      have hCz := (hC3).grow he9
      have hzc := (hC3).size
      refine st_store_agg (vs := [vo, vp, vc]) (cs := _) (hb := hbk9) (by ((try simp only [ev_tmp, ev_const, ev_func, get_put, get_args, get_putL, get_putL_nil, Nat.reduceEqDiff, reduceIte, List.getD_cons_zero, List.getD_cons_succ, List.getD_nil]); first | done | with_reducible rfl)) (by ((try simp only [ev_tmp, ev_const, ev_func, get_put, get_args, get_putL, get_putL_nil, Nat.reduceEqDiff, reduceIte, List.getD_cons_zero, List.getD_cons_succ, List.getD_nil]); first | done | with_reducible rfl)) rfl rfl hO.one3 (by first | exact True.intro | exact ⟨_, rfl, by ((try simp only [ev_tmp, ev_const, ev_func, get_put, get_args, get_putL, get_putL_nil, Nat.reduceEqDiff, reduceIte, List.getD_cons_zero, List.getD_cons_succ, List.getD_nil, Bool.not_true, Bool.not_false]); first | done | with_reducible rfl)⟩) fun wz hcz hsz hBz => ?_
      refine go ?_
      exact retc (b := br) (hb := hBz) (fin hCz (hs3.ext he9) (by omega) hO hSh (hF) hcz) rfl
    refine go ?_
    refine c_if (fun g42 => ?_) (fun g42 => ?_)
    · skip
      refine go ?_
      refine rc (l07Meta_ok (n := 2) (m := 8) (r := 3) (q := 0) (by omega) (by omega) (by omega) (by omega) (by omega) (by omega) (by omega) (by omega)) (next := fun v9 w9 h => ?_)
      obtain ⟨ord, he9, hN9, hF⟩ := h
      obtain ⟨vo, vp, vc, rp, gs, rfl, hO, hSh⟩ := hN9.ex
      have hbk9 : Blk w9 br _ := @Blk.ext _ _ _ _ he9 hbk3
      have hCz := (hC3).grow he9
      have hzc := (hC3).size
      refine st_store_agg (vs := [vo, vp, vc]) (cs := _) (hb := hbk9) (by ((try simp only [ev_tmp, ev_const, ev_func, get_put, get_args, get_putL, get_putL_nil, Nat.reduceEqDiff, reduceIte, List.getD_cons_zero, List.getD_cons_succ, List.getD_nil]); first | done | with_reducible rfl)) (by ((try simp only [ev_tmp, ev_const, ev_func, get_put, get_args, get_putL, get_putL_nil, Nat.reduceEqDiff, reduceIte, List.getD_cons_zero, List.getD_cons_succ, List.getD_nil]); first | done | with_reducible rfl)) rfl rfl hO.one3 (by first | exact True.intro | exact ⟨_, rfl, by ((try simp only [ev_tmp, ev_const, ev_func, get_put, get_args, get_putL, get_putL_nil, Nat.reduceEqDiff, reduceIte, List.getD_cons_zero, List.getD_cons_succ, List.getD_nil, Bool.not_true, Bool.not_false]); first | done | with_reducible rfl)⟩) fun wz hcz hsz hBz => ?_
      refine go ?_
      exact retc (b := br) (hb := hBz) (fin hCz (hs3.ext he9) (by omega) hO hSh (hF) hcz) rfl
    refine go ?_
    refine c_if (fun g43 => ?_) (fun g43 => ?_)
    · skip
      refine go ?_
      refine rc (l07Meta_ok (n := 2) (m := 8) (r := 5) (q := 0) (by omega) (by omega) (by omega) (by omega) (by omega) (by omega) (by omega) (by omega)) (next := fun v9 w9 h => ?_)
      obtain ⟨ord, he9, hN9, hF⟩ := h
      obtain ⟨vo, vp, vc, rp, gs, rfl, hO, hSh⟩ := hN9.ex
      have hbk9 : Blk w9 br _ := @Blk.ext _ _ _ _ he9 hbk3
      have hCz := (hC3).grow he9
      have hzc := (hC3).size
      refine st_store_agg (vs := [vo, vp, vc]) (cs := _) (hb := hbk9) (by ((try simp only [ev_tmp, ev_const, ev_func, get_put, get_args, get_putL, get_putL_nil, Nat.reduceEqDiff, reduceIte, List.getD_cons_zero, List.getD_cons_succ, List.getD_nil]); first | done | with_reducible rfl)) (by ((try simp only [ev_tmp, ev_const, ev_func, get_put, get_args, get_putL, get_putL_nil, Nat.reduceEqDiff, reduceIte, List.getD_cons_zero, List.getD_cons_succ, List.getD_nil]); first | done | with_reducible rfl)) rfl rfl hO.one3 (by first | exact True.intro | exact ⟨_, rfl, by ((try simp only [ev_tmp, ev_const, ev_func, get_put, get_args, get_putL, get_putL_nil, Nat.reduceEqDiff, reduceIte, List.getD_cons_zero, List.getD_cons_succ, List.getD_nil, Bool.not_true, Bool.not_false]); first | done | with_reducible rfl)⟩) fun wz hcz hsz hBz => ?_
      refine go ?_
      exact retc (b := br) (hb := hBz) (fin hCz (hs3.ext he9) (by omega) hO hSh (hF) hcz) rfl
    refine go ?_
    refine c_if (fun g44 => ?_) (fun g44 => ?_)
    · skip
      refine go ?_
      refine rc (l07Meta_ok (n := 4) (m := 4) (r := 3) (q := 0) (by omega) (by omega) (by omega) (by omega) (by omega) (by omega) (by omega) (by omega)) (next := fun v9 w9 h => ?_)
      obtain ⟨ord, he9, hN9, hF⟩ := h
      obtain ⟨vo, vp, vc, rp, gs, rfl, hO, hSh⟩ := hN9.ex
      have hbk9 : Blk w9 br _ := @Blk.ext _ _ _ _ he9 hbk3
      have hCz := (hC3).grow he9
      have hzc := (hC3).size
      refine st_store_agg (vs := [vo, vp, vc]) (cs := _) (hb := hbk9) (by ((try simp only [ev_tmp, ev_const, ev_func, get_put, get_args, get_putL, get_putL_nil, Nat.reduceEqDiff, reduceIte, List.getD_cons_zero, List.getD_cons_succ, List.getD_nil]); first | done | with_reducible rfl)) (by ((try simp only [ev_tmp, ev_const, ev_func, get_put, get_args, get_putL, get_putL_nil, Nat.reduceEqDiff, reduceIte, List.getD_cons_zero, List.getD_cons_succ, List.getD_nil]); first | done | with_reducible rfl)) rfl rfl hO.one3 (by first | exact True.intro | exact ⟨_, rfl, by ((try simp only [ev_tmp, ev_const, ev_func, get_put, get_args, get_putL, get_putL_nil, Nat.reduceEqDiff, reduceIte, List.getD_cons_zero, List.getD_cons_succ, List.getD_nil, Bool.not_true, Bool.not_false]); first | done | with_reducible rfl)⟩) fun wz hcz hsz hBz => ?_
      refine go ?_
      exact retc (b := br) (hb := hBz) (fin hCz (hs3.ext he9) (by omega) hO hSh (hF) hcz) rfl
    refine go ?_
    refine rc (l07Meta_ok (n := 3) (m := 9) (r := 4) (q := 0) (by omega) (by omega) (by omega) (by omega) (by omega) (by omega) (by omega) (by omega)) (next := fun v9 w9 h => ?_)
    obtain ⟨ord, he9, hN9, hF⟩ := h
    obtain ⟨vo, vp, vc, rp, gs, rfl, hO, hSh⟩ := hN9.ex
    have hbk9 : Blk w9 br _ := @Blk.ext _ _ _ _ he9 hbk3
    have hCz := (hC3).grow he9
    have hzc := (hC3).size
    refine st_store_agg (vs := [vo, vp, vc]) (cs := _) (hb := hbk9) (by ((try simp only [ev_tmp, ev_const, ev_func, get_put, get_args, get_putL, get_putL_nil, Nat.reduceEqDiff, reduceIte, List.getD_cons_zero, List.getD_cons_succ, List.getD_nil]); first | done | with_reducible rfl)) (by ((try simp only [ev_tmp, ev_const, ev_func, get_put, get_args, get_putL, get_putL_nil, Nat.reduceEqDiff, reduceIte, List.getD_cons_zero, List.getD_cons_succ, List.getD_nil]); first | done | with_reducible rfl)) rfl rfl hO.one3 (by first | exact True.intro | exact ⟨_, rfl, by ((try simp only [ev_tmp, ev_const, ev_func, get_put, get_args, get_putL, get_putL_nil, Nat.reduceEqDiff, reduceIte, List.getD_cons_zero, List.getD_cons_succ, List.getD_nil, Bool.not_true, Bool.not_false]); first | done | with_reducible rfl)⟩) fun wz hcz hsz hBz => ?_
    refine go ?_
    exact retc (b := br) (hb := hBz) (fin hCz (hs3.ext he9) (by omega) hO hSh (hF) hcz) rfl
  refine go ?_
  refine c_if (fun g5 => ?_) (fun g5 => ?_)
  · skip
    refine go ?_
    refine st_sliceN (us := [.int .i64 2, .int .i64 3, .int .i64 2, .int .i64 3, .int .i64 5]) (next := fun w3 v3 he3 hz3 ho3 => ?_)
    have ho3' : OwnI 2 w2.heap.size w3 v3 [2, 3, 2, 3, 5] := ⟨ho3⟩
    have hi3 := (ho3'.toFr (Nat.le_refl _)).ints
    have hz23 := hC2.size
    refine go ?_
    refine rc (l01Pick_ok (hs2.ext he3) (xs := [2, 3, 2, 3, 5]) (by simp) (by simp) (.inl ?_)) (next := fun v4 w4 h4 => ?_)
    · omega
    obtain ⟨m, rfl, hc4, hs4, hm4, hz4⟩ := h4
    simp only [List.mem_cons, List.not_mem_nil, or_false] at hm4
    have hC4 : Chg bs w w4 := (hC2.grow he3).trans hc4
    have hbk4 : Blk w4 br [nilv, nilv, nilv] := (@Blk.ext _ _ _ _ he3 hbk2).wr (.one (B := fun g => g = bs) rfl hc4) fun e => by omega
    refine go ?_
    refine rc (l07Heisenberg_ok (e := m) hs4 (by unfold Grp4; omega)) (next := fun v9 w9 h => ?_)
    obtain ⟨ord, hc9, hs9, hN9, hF⟩ := h
    obtain ⟨vo, vp, vc, rp, gs, rfl, hO, hSh⟩ := hN9.ex
    have hbk9 : Blk w9 br [nilv, nilv, nilv] := hbk4.wr (.one (B := fun g => g = bs) rfl hc9) fun e => by omega
    have hzc := hC4.size
    refine st_store_agg (vs := [vo, vp, vc]) (cs := _) (hb := hbk9) (by ((try simp only [ev_tmp, ev_const, ev_func, get_put, get_args, get_putL, get_putL_nil, Nat.reduceEqDiff, reduceIte, List.getD_cons_zero, List.getD_cons_succ, List.getD_nil]); first | done | with_reducible rfl)) (by ((try simp only [ev_tmp, ev_const, ev_func, get_put, get_args, get_putL, get_putL_nil, Nat.reduceEqDiff, reduceIte, List.getD_cons_zero, List.getD_cons_succ, List.getD_nil]); first | done | with_reducible rfl)) rfl rfl hO.one3 (by first | exact True.intro | exact ⟨_, rfl, by ((try simp only [ev_tmp, ev_const, ev_func, get_put, get_args, get_putL, get_putL_nil, Nat.reduceEqDiff, reduceIte, List.getD_cons_zero, List.getD_cons_succ, List.getD_nil, Bool.not_true, Bool.not_false]); first | done | with_reducible rfl)⟩) fun wz hcz hsz hBz => ?_
    refine go ?_
    exact retc (b := br) (hb := hBz) (fin (hC4.trans hc9) hs9 (by omega) hO hSh (hF.mono (by omega)) hcz) rfl
  refine go ?_
  refine c_if (fun g6 => ?_) (fun g6 => ?_)
  · skip
    refine go ?_
    refine rc (l01Next_ok (n := 6) hs2) (next := fun v3 w3 h3 => ?_)
    obtain ⟨k3, rfl, hc3, hs3, hk30, hk31, hz3⟩ := h3
    have hC3 : Chg bs w w3 := hC2.trans hc3
    have hbk3 : Blk w3 br [nilv, nilv, nilv] := hbk2.wr (.one (B := fun g => g = bs) rfl hc3) fun e => by omega
    refine go ?_
    refine c_if (fun g60 => ?_) (fun g60 => ?_)
    · skip
      refine go ?_
      refine st_sliceN (us := [.int .i64 2, .int .i64 0]) (next := fun wa0 va0 hea0 hza0 hoa0 => ?_)
      have hfa0 : Fr w3.heap.size wa0 va0 [2, 0] := (⟨hoa0⟩ : OwnI 2 w3.heap.size wa0 va0 [2, 0]).toFr (by omega)
      refine go ?_
      refine st_sliceN (us := [.int .i64 0, .int .i64 2]) (next := fun wa1 va1 hea1 hza1 hoa1 => ?_)
      have hfa1 : Fr w3.heap.size wa1 va1 [0, 2] := (⟨hoa1⟩ : OwnI 2 wa0.heap.size wa1 va1 [0, 2]).toFr (by omega)
      refine go ?_
      refine st_sliceN (us := [va0, va1]) (hu := List.forall_mem_cons.2 ⟨hfa0.ints.sl.cells, List.forall_mem_cons.2 ⟨hfa1.ints.sl.cells, List.forall_mem_nil _⟩⟩) (next := fun wb vb heb hzb hob => ?_)
      have hfb0 : Fr w3.heap.size wb va0 [2, 0] := hfa0.ext' (hea1.trans heb)
      have hfb1 : Fr w3.heap.size wb va1 [0, 2] := hfa1.ext' heb
      have hexb : Ext w3 wb := ((hea0.trans hea1).trans heb)
      have hob' : OwnN 24 w3.heap.size wb vb (([(va0, [2, 0]), (va1, [0, 2])] : RL).map (·.1)) := hob.toN.mono (by omega)
      have hrb : Pc.Rows w3.heap.size wb.heap.size wb vb _ [[2, 0], [0, 2]] := Pc.Rows.ofOwn (rs := [(va0, [2, 0]), (va1, [0, 2])]) hob' (by intro r hr; simp only [List.mem_cons, List.not_mem_nil, or_false] at hr; rcases hr with rfl | rfl <;> first | exact hfb0 | exact hfb1) hexb.size
      have hbkb : Blk wb br [nilv, nilv, nilv] := @Blk.ext _ _ _ _ hexb hbk3
      refine go ?_
      refine rc (l07Affine_ok (p := 3) (n := 2) (xss := [[2, 0], [0, 2]]) (by unfold Grp4; omega) (by omega) (by omega) (smR_of (by decide) (by decide)) (by decide)) (next := fun v9 w9 h => ?_)
      obtain ⟨ord, he9, hN9, hF⟩ := h
      obtain ⟨vo, vp, vc, rp, gs, rfl, hO, hSh⟩ := hN9.ex
      have hbk9 : Blk w9 br _ := @Blk.ext _ _ _ _ he9 hbkb
      have hCz := ((hC3.grow hexb)).grow he9
      have hzc := ((hC3.grow hexb)).size
      refine st_store_agg (vs := [vo, vp, vc]) (cs := _) (hb := hbk9) (by ((try simp only [ev_tmp, ev_const, ev_func, get_put, get_args, get_putL, get_putL_nil, Nat.reduceEqDiff, reduceIte, List.getD_cons_zero, List.getD_cons_succ, List.getD_nil]); first | done | with_reducible rfl)) (by ((try simp only [ev_tmp, ev_const, ev_func, get_put, get_args, get_putL, get_putL_nil, Nat.reduceEqDiff, reduceIte, List.getD_cons_zero, List.getD_cons_succ, List.getD_nil]); first | done | with_reducible rfl)) rfl rfl hO.one3 (by first | exact True.intro | exact ⟨_, rfl, by ((try simp only [ev_tmp, ev_const, ev_func, get_put, get_args, get_putL, get_putL_nil, Nat.reduceEqDiff, reduceIte, List.getD_cons_zero, List.getD_cons_succ, List.getD_nil, Bool.not_true, Bool.not_false]); first | done | with_reducible rfl)⟩) fun wz hcz hsz hBz => ?_
      refine go ?_
      exact retc (b := br) (hb := hBz) (fin hCz ((hs3.ext hexb).ext he9) (by omega) hO hSh (hF.mono (by omega)) hcz) rfl
    refine go ?_
    refine c_if (fun g61 => ?_) (fun g61 => ?_)
    · skip
      refine go ?_
      refine st_sliceN (us := [.int .i64 0, .int .i64 1]) (next := fun wa0 va0 hea0 hza0 hoa0 => ?_)
      have hfa0 : Fr w3.heap.size wa0 va0 [0, 1] := (⟨hoa0⟩ : OwnI 2 w3.heap.size wa0 va0 [0, 1]).toFr (by omega)
      refine go ?_
      refine st_sliceN (us := [.int .i64 2, .int .i64 0]) (next := fun wa1 va1 hea1 hza1 hoa1 => ?_)
      have hfa1 : Fr w3.heap.size wa1 va1 [2, 0] := (⟨hoa1⟩ : OwnI 2 wa0.heap.size wa1 va1 [2, 0]).toFr (by omega)
      refine go ?_
      refine st_sliceN (us := [va0, va1]) (hu := List.forall_mem_cons.2 ⟨hfa0.ints.sl.cells, List.forall_mem_cons.2 ⟨hfa1.ints.sl.cells, List.forall_mem_nil _⟩⟩) (next := fun wb vb heb hzb hob => ?_)
      have hfb0 : Fr w3.heap.size wb va0 [0, 1] := hfa0.ext' (hea1.trans heb)
      have hfb1 : Fr w3.heap.size wb va1 [2, 0] := hfa1.ext' heb
      have hexb : Ext w3 wb := ((hea0.trans hea1).trans heb)
      have hob' : OwnN 24 w3.heap.size wb vb (([(va0, [0, 1]), (va1, [2, 0])] : RL).map (·.1)) := hob.toN.mono (by omega)
      have hrb : Pc.Rows w3.heap.size wb.heap.size wb vb _ [[0, 1], [2, 0]] := Pc.Rows.ofOwn (rs := [(va0, [0, 1]), (va1, [2, 0])]) hob' (by intro r hr; simp only [List.mem_cons, List.not_mem_nil, or_false] at hr; rcases hr with rfl | rfl <;> first | exact hfb0 | exact hfb1) hexb.size
      have hbkb : Blk wb br [nilv, nilv, nilv] := @Blk.ext _ _ _ _ hexb hbk3
      refine go ?_
      refine rc (l07Affine_ok (p := 3) (n := 4) (xss := [[0, 1], [2, 0]]) (by unfold Grp4; omega) (by omega) (by omega) (smR_of (by decide) (by decide)) (by decide)) (next := fun v9 w9 h => ?_)
      obtain ⟨ord, he9, hN9, hF⟩ := h
      obtain ⟨vo, vp, vc, rp, gs, rfl, hO, hSh⟩ := hN9.ex
      have hbk9 : Blk w9 br _ := @Blk.ext _ _ _ _ he9 hbkb
      have hCz := ((hC3.grow hexb)).grow he9
      have hzc := ((hC3.grow hexb)).size
      refine st_store_agg (vs := [vo, vp, vc]) (cs := _) (hb := hbk9) (by ((try simp only [ev_tmp, ev_const, ev_func, get_put, get_args, get_putL, get_putL_nil, Nat.reduceEqDiff, reduceIte, List.getD_cons_zero, List.getD_cons_succ, List.getD_nil]); first | done | with_reducible rfl)) (by ((try simp only [ev_tmp, ev_const, ev_func, get_put, get_args, get_putL, get_putL_nil, Nat.reduceEqDiff, reduceIte, List.getD_cons_zero, List.getD_cons_succ, List.getD_nil]); first | done | with_reducible rfl)) rfl rfl hO.one3 (by first | exact True.intro | exact ⟨_, rfl, by ((try simp only [ev_tmp, ev_const, ev_func, get_put, get_args, get_putL, get_putL_nil, Nat.reduceEqDiff, reduceIte, List.getD_cons_zero, List.getD_cons_succ, List.getD_nil, Bool.not_true, Bool.not_false]); first | done | with_reducible rfl)⟩) fun wz hcz hsz hBz => ?_
      refine go ?_
      exact retc (b := br) (hb := hBz) (fin hCz ((hs3.ext hexb).ext he9) (by omega) hO hSh (hF.mono (by omega)) hcz) rfl
    refine go ?_
    refine c_if (fun g62 => ?_) (fun g62 => ?_)
    · skip
      refine go ?_
      refine st_sliceN (us := [.int .i64 0, .int .i64 1, .int .i64 0]) (next := fun wa0 va0 hea0 hza0 hoa0 => ?_)
      have hfa0 : Fr w3.heap.size wa0 va0 [0, 1, 0] := (⟨hoa0⟩ : OwnI 2 w3.heap.size wa0 va0 [0, 1, 0]).toFr (by omega)
      refine go ?_
      refine st_sliceN (us := [.int .i64 0, .int .i64 0, .int .i64 1]) (next := fun wa1 va1 hea1 hza1 hoa1 => ?_)
      have hfa1 : Fr w3.heap.size wa1 va1 [0, 0, 1] := (⟨hoa1⟩ : OwnI 2 wa0.heap.size wa1 va1 [0, 0, 1]).toFr (by omega)
      refine go ?_
      refine st_sliceN (us := [.int .i64 1, .int .i64 1, .int .i64 0]) (next := fun wa2 va2 hea2 hza2 hoa2 => ?_)
      have hfa2 : Fr w3.heap.size wa2 va2 [1, 1, 0] := (⟨hoa2⟩ : OwnI 2 wa1.heap.size wa2 va2 [1, 1, 0]).toFr (by omega)
      refine go ?_
      refine st_sliceN (us := [va0, va1, va2]) (hu := List.forall_mem_cons.2 ⟨hfa0.ints.sl.cells, List.forall_mem_cons.2 ⟨hfa1.ints.sl.cells, List.forall_mem_cons.2 ⟨hfa2.ints.sl.cells, List.forall_mem_nil _⟩⟩⟩) (next := fun wb vb heb hzb hob => ?_)
      have hfb0 : Fr w3.heap.size wb va0 [0, 1, 0] := hfa0.ext' ((hea1.trans hea2).trans heb)
      have hfb1 : Fr w3.heap.size wb va1 [0, 0, 1] := hfa1.ext' (hea2.trans heb)
      have hfb2 : Fr w3.heap.size wb va2 [1, 1, 0] := hfa2.ext' heb
      have hexb : Ext w3 wb := (((hea0.trans hea1).trans hea2).trans heb)
      have hob' : OwnN 24 w3.heap.size wb vb (([(va0, [0, 1, 0]), (va1, [0, 0, 1]), (va2, [1, 1, 0])] : RL).map (·.1)) := hob.toN.mono (by omega)
      have hrb : Pc.Rows w3.heap.size wb.heap.size wb vb _ [[0, 1, 0], [0, 0, 1], [1, 1, 0]] := Pc.Rows.ofOwn (rs := [(va0, [0, 1, 0]), (va1, [0, 0, 1]), (va2, [1, 1, 0])]) hob' (by intro r hr; simp only [List.mem_cons, List.not_mem_nil, or_false] at hr; rcases hr with rfl | rfl | rfl <;> first | exact hfb0 | exact hfb1 | exact hfb2) hexb.size
      have hbkb : Blk wb br [nilv, nilv, nilv] := @Blk.ext _ _ _ _ hexb hbk3
      refine go ?_
      refine rc (l07Affine_ok (p := 2) (n := 7) (xss := [[0, 1, 0], [0, 0, 1], [1, 1, 0]]) (by unfold Grp4; omega) (by omega) (by omega) (smR_of (by decide) (by decide)) (by decide)) (next := fun v9 w9 h => ?_)
      obtain ⟨ord, he9, hN9, hF⟩ := h
      obtain ⟨vo, vp, vc, rp, gs, rfl, hO, hSh⟩ := hN9.ex
      have hbk9 : Blk w9 br _ := @Blk.ext _ _ _ _ he9 hbkb
      have hCz := ((hC3.grow hexb)).grow he9
      have hzc := ((hC3.grow hexb)).size
      refine st_store_agg (vs := [vo, vp, vc]) (cs := _) (hb := hbk9) (by ((try simp only [ev_tmp, ev_const, ev_func, get_put, get_args, get_putL, get_putL_nil, Nat.reduceEqDiff, reduceIte, List.getD_cons_zero, List.getD_cons_succ, List.getD_nil]); first | done | with_reducible rfl)) (by ((try simp only [ev_tmp, ev_const, ev_func, get_put, get_args, get_putL, get_putL_nil, Nat.reduceEqDiff, reduceIte, List.getD_cons_zero, List.getD_cons_succ, List.getD_nil]); first | done | with_reducible rfl)) rfl rfl hO.one3 (by first | exact True.intro | exact ⟨_, rfl, by ((try simp only [ev_tmp, ev_const, ev_func, get_put, get_args, get_putL, get_putL_nil, Nat.reduceEqDiff, reduceIte, List.getD_cons_zero, List.getD_cons_succ, List.getD_nil, Bool.not_true, Bool.not_false]); first | done | with_reducible rfl)⟩) fun wz hcz hsz hBz => ?_
      refine go ?_
      exact retc (b := br) (hb := hBz) (fin hCz ((hs3.ext hexb).ext he9) (by omega) hO hSh (hF.mono (by omega)) hcz) rfl
    refine go ?_
    refine c_if (fun g63 => ?_) (fun g63 => ?_)
    · skip
      refine go ?_
      refine st_sliceN (us := [.int .i64 1, .int .i64 1, .int .i64 0]) (next := fun wa0 va0 hea0 hza0 hoa0 => ?_)
      have hfa0 : Fr w3.heap.size wa0 va0 [1, 1, 0] := (⟨hoa0⟩ : OwnI 2 w3.heap.size wa0 va0 [1, 1, 0]).toFr (by omega)
      refine go ?_
      refine st_sliceN (us := [.int .i64 0, .int .i64 1, .int .i64 1]) (next := fun wa1 va1 hea1 hza1 hoa1 => ?_)
      have hfa1 : Fr w3.heap.size wa1 va1 [0, 1, 1] := (⟨hoa1⟩ : OwnI 2 wa0.heap.size wa1 va1 [0, 1, 1]).toFr (by omega)
      refine go ?_
      refine st_sliceN (us := [.int .i64 0, .int .i64 0, .int .i64 1]) (next := fun wa2 va2 hea2 hza2 hoa2 => ?_)
      have hfa2 : Fr w3.heap.size wa2 va2 [0, 0, 1] := (⟨hoa2⟩ : OwnI 2 wa1.heap.size wa2 va2 [0, 0, 1]).toFr (by omega)
      refine go ?_
      refine st_sliceN (us := [va0, va1, va2]) (hu := List.forall_mem_cons.2 ⟨hfa0.ints.sl.cells, List.forall_mem_cons.2 ⟨hfa1.ints.sl.cells, List.forall_mem_cons.2 ⟨hfa2.ints.sl.cells, List.forall_mem_nil _⟩⟩⟩) (next := fun wb vb heb hzb hob => ?_)
      have hfb0 : Fr w3.heap.size wb va0 [1, 1, 0] := hfa0.ext' ((hea1.trans hea2).trans heb)
      have hfb1 : Fr w3.heap.size wb va1 [0, 1, 1] := hfa1.ext' (hea2.trans heb)
      have hfb2 : Fr w3.heap.size wb va2 [0, 0, 1] := hfa2.ext' heb
      have hexb : Ext w3 wb := (((hea0.trans hea1).trans hea2).trans heb)
      have hob' : OwnN 24 w3.heap.size wb vb (([(va0, [1, 1, 0]), (va1, [0, 1, 1]), (va2, [0, 0, 1])] : RL).map (·.1)) := hob.toN.mono (by omega)
      have hrb : Pc.Rows w3.heap.size wb.heap.size wb vb _ [[1, 1, 0], [0, 1, 1], [0, 0, 1]] := Pc.Rows.ofOwn (rs := [(va0, [1, 1, 0]), (va1, [0, 1, 1]), (va2, [0, 0, 1])]) hob' (by intro r hr; simp only [List.mem_cons, List.not_mem_nil, or_false] at hr; rcases hr with rfl | rfl | rfl <;> first | exact hfb0 | exact hfb1 | exact hfb2) hexb.size
      have hbkb : Blk wb br [nilv, nilv, nilv] := @Blk.ext _ _ _ _ hexb hbk3
      refine go ?_
      refine rc (l07Affine_ok (p := 2) (n := 4) (xss := [[1, 1, 0], [0, 1, 1], [0, 0, 1]]) (by unfold Grp4; omega) (by omega) (by omega) (smR_of (by decide) (by decide)) (by decide)) (next := fun v9 w9 h => ?_)
      obtain ⟨ord, he9, hN9, hF⟩ := h
      obtain ⟨vo, vp, vc, rp, gs, rfl, hO, hSh⟩ := hN9.ex
      have hbk9 : Blk w9 br _ := @Blk.ext _ _ _ _ he9 hbkb
      have hCz := ((hC3.grow hexb)).grow he9
      have hzc := ((hC3.grow hexb)).size
      refine st_store_agg (vs := [vo, vp, vc]) (cs := _) (hb := hbk9) (by ((try simp only [ev_tmp, ev_const, ev_func, get_put, get_args, get_putL, get_putL_nil, Nat.reduceEqDiff, reduceIte, List.getD_cons_zero, List.getD_cons_succ, List.getD_nil]); first | done | with_reducible rfl)) (by ((try simp only [ev_tmp, ev_const, ev_func, get_put, get_args, get_putL, get_putL_nil, Nat.reduceEqDiff, reduceIte, List.getD_cons_zero, List.getD_cons_succ, List.getD_nil]); first | done | with_reducible rfl)) rfl rfl hO.one3 (by first | exact True.intro | exact ⟨_, rfl, by ((try simp only [ev_tmp, ev_const, ev_func, get_put, get_args, get_putL, get_putL_nil, Nat.reduceEqDiff, reduceIte, List.getD_cons_zero, List.getD_cons_succ, List.getD_nil, Bool.not_true, Bool.not_false]); first | done | with_reducible rfl)⟩) fun wz hcz hsz hBz => ?_
      refine go ?_
      exact retc (b := br) (hb := hBz) (fin hCz ((hs3.ext hexb).ext he9) (by omega) hO hSh (hF.mono (by omega)) hcz) rfl
    refine go ?_
    refine c_if (fun g64 => ?_) (fun g64 => ?_)
    · skip
      refine go ?_
      refine st_sliceN (us := [.int .i64 0, .int .i64 1, .int .i64 0, .int .i64 0]) (next := fun wa0 va0 hea0 hza0 hoa0 => ?_)
      have hfa0 : Fr w3.heap.size wa0 va0 [0, 1, 0, 0] := (⟨hoa0⟩ : OwnI 2 w3.heap.size wa0 va0 [0, 1, 0, 0]).toFr (by omega)
      refine go ?_
      refine st_sliceN (us := [.int .i64 1, .int .i64 0, .int .i64 0, .int .i64 0]) (next := fun wa1 va1 hea1 hza1 hoa1 => ?_)
      have hfa1 : Fr w3.heap.size wa1 va1 [1, 0, 0, 0] := (⟨hoa1⟩ : OwnI 2 wa0.heap.size wa1 va1 [1, 0, 0, 0]).toFr (by omega)
      refine go ?_
      refine st_sliceN (us := [.int .i64 0, .int .i64 0, .int .i64 0, .int .i64 1]) (next := fun wa2 va2 hea2 hza2 hoa2 => ?_)
      have hfa2 : Fr w3.heap.size wa2 va2 [0, 0, 0, 1] := (⟨hoa2⟩ : OwnI 2 wa1.heap.size wa2 va2 [0, 0, 0, 1]).toFr (by omega)
      refine go ?_
      refine st_sliceN (us := [.int .i64 0, .int .i64 0, .int .i64 1, .int .i64 0]) (next := fun wa3 va3 hea3 hza3 hoa3 => ?_)
      have hfa3 : Fr w3.heap.size wa3 va3 [0, 0, 1, 0] := (⟨hoa3⟩ : OwnI 2 wa2.heap.size wa3 va3 [0, 0, 1, 0]).toFr (by omega)
      refine go ?_
      refine st_sliceN (us := [va0, va1, va2, va3]) (hu := List.forall_mem_cons.2 ⟨hfa0.ints.sl.cells, List.forall_mem_cons.2 ⟨hfa1.ints.sl.cells, List.forall_mem_cons.2 ⟨hfa2.ints.sl.cells, List.forall_mem_cons.2 ⟨hfa3.ints.sl.cells, List.forall_mem_nil _⟩⟩⟩⟩) (next := fun wb vb heb hzb hob => ?_)
      have hfb0 : Fr w3.heap.size wb va0 [0, 1, 0, 0] := hfa0.ext' (((hea1.trans hea2).trans hea3).trans heb)
      have hfb1 : Fr w3.heap.size wb va1 [1, 0, 0, 0] := hfa1.ext' ((hea2.trans hea3).trans heb)
      have hfb2 : Fr w3.heap.size wb va2 [0, 0, 0, 1] := hfa2.ext' (hea3.trans heb)
      have hfb3 : Fr w3.heap.size wb va3 [0, 0, 1, 0] := hfa3.ext' heb
      have hexb : Ext w3 wb := ((((hea0.trans hea1).trans hea2).trans hea3).trans heb)
      have hob' : OwnN 24 w3.heap.size wb vb (([(va0, [0, 1, 0, 0]), (va1, [1, 0, 0, 0]), (va2, [0, 0, 0, 1]), (va3, [0, 0, 1, 0])] : RL).map (·.1)) := hob.toN.mono (by omega)
      have hrb : Pc.Rows w3.heap.size wb.heap.size wb vb _ [[0, 1, 0, 0], [1, 0, 0, 0], [0, 0, 0, 1], [0, 0, 1, 0]] := Pc.Rows.ofOwn (rs := [(va0, [0, 1, 0, 0]), (va1, [1, 0, 0, 0]), (va2, [0, 0, 0, 1]), (va3, [0, 0, 1, 0])]) hob' (by intro r hr; simp only [List.mem_cons, List.not_mem_nil, or_false] at hr; rcases hr with rfl | rfl | rfl | rfl <;> first | exact hfb0 | exact hfb1 | exact hfb2 | exact hfb3) hexb.size
      have hbkb : Blk wb br [nilv, nilv, nilv] := @Blk.ext _ _ _ _ hexb hbk3
      refine go ?_
      refine rc (l07Affine_ok (p := 2) (n := 2) (xss := [[0, 1, 0, 0], [1, 0, 0, 0], [0, 0, 0, 1], [0, 0, 1, 0]]) (by unfold Grp4; omega) (by omega) (by omega) (smR_of (by decide) (by decide)) (by decide)) (next := fun v9 w9 h => ?_)
      obtain ⟨ord, he9, hN9, hF⟩ := h
      obtain ⟨vo, vp, vc, rp, gs, rfl, hO, hSh⟩ := hN9.ex
      have hbk9 : Blk w9 br _ := @Blk.ext _ _ _ _ he9 hbkb
      have hCz := ((hC3.grow hexb)).grow he9
      have hzc := ((hC3.grow hexb)).size
      refine st_store_agg (vs := [vo, vp, vc]) (cs := _) (hb := hbk9) (by ((try simp only [ev_tmp, ev_const, ev_func, get_put, get_args, get_putL, get_putL_nil, Nat.reduceEqDiff, reduceIte, List.getD_cons_zero, List.getD_cons_succ, List.getD_nil]); first | done | with_reducible rfl)) (by ((try simp only [ev_tmp, ev_const, ev_func, get_put, get_args, get_putL, get_putL_nil, Nat.reduceEqDiff, reduceIte, List.getD_cons_zero, List.getD_cons_succ, List.getD_nil]); first | done | with_reducible rfl)) rfl rfl hO.one3 (by first | exact True.intro | exact ⟨_, rfl, by ((try simp only [ev_tmp, ev_const, ev_func, get_put, get_args, get_putL, get_putL_nil, Nat.reduceEqDiff, reduceIte, List.getD_cons_zero, List.getD_cons_succ, List.getD_nil, Bool.not_true, Bool.not_false]); first | done | with_reducible rfl)⟩) fun wz hcz hsz hBz => ?_
      refine go ?_
      exact retc (b := br) (hb := hBz) (fin hCz ((hs3.ext hexb).ext he9) (by omega) hO hSh (hF.mono (by omega)) hcz) rfl
    refine go ?_
    refine st_sliceN (us := [.int .i64 0, .int .i64 1]) (next := fun wa0 va0 hea0 hza0 hoa0 => ?_)
    have hfa0 : Fr w3.heap.size wa0 va0 [0, 1] := (⟨hoa0⟩ : OwnI 2 w3.heap.size wa0 va0 [0, 1]).toFr (by omega)
    refine go ?_
    refine st_sliceN (us := [.int .i64 4, .int .i64 4]) (next := fun wa1 va1 hea1 hza1 hoa1 => ?_)
    have hfa1 : Fr w3.heap.size wa1 va1 [4, 4] := (⟨hoa1⟩ : OwnI 2 wa0.heap.size wa1 va1 [4, 4]).toFr (by omega)
    refine go ?_
    refine st_sliceN (us := [va0, va1]) (hu := List.forall_mem_cons.2 ⟨hfa0.ints.sl.cells, List.forall_mem_cons.2 ⟨hfa1.ints.sl.cells, List.forall_mem_nil _⟩⟩) (next := fun wb vb heb hzb hob => ?_)
    have hfb0 : Fr w3.heap.size wb va0 [0, 1] := hfa0.ext' (hea1.trans heb)
    have hfb1 : Fr w3.heap.size wb va1 [4, 4] := hfa1.ext' heb
    have hexb : Ext w3 wb := ((hea0.trans hea1).trans heb)
    have hob' : OwnN 24 w3.heap.size wb vb (([(va0, [0, 1]), (va1, [4, 4])] : RL).map (·.1)) := hob.toN.mono (by omega)
    have hrb : Pc.Rows w3.heap.size wb.heap.size wb vb _ [[0, 1], [4, 4]] := Pc.Rows.ofOwn (rs := [(va0, [0, 1]), (va1, [4, 4])]) hob' (by intro r hr; simp only [List.mem_cons, List.not_mem_nil, or_false] at hr; rcases hr with rfl | rfl <;> first | exact hfb0 | exact hfb1) hexb.size
    have hbkb : Blk wb br [nilv, nilv, nilv] := @Blk.ext _ _ _ _ hexb hbk3
    refine go ?_
    refine rc (l07Affine_ok (p := 5) (n := 3) (xss := [[0, 1], [4, 4]]) (by unfold Grp4; omega) (by omega) (by omega) (smR_of (by decide) (by decide)) (by decide)) (next := fun v9 w9 h => ?_)
    obtain ⟨ord, he9, hN9, hF⟩ := h
    obtain ⟨vo, vp, vc, rp, gs, rfl, hO, hSh⟩ := hN9.ex
    have hbk9 : Blk w9 br _ := @Blk.ext _ _ _ _ he9 hbkb
    have hCz := ((hC3.grow hexb)).grow he9
    have hzc := ((hC3.grow hexb)).size
    refine st_store_agg (vs := [vo, vp, vc]) (cs := _) (hb := hbk9) (by ((try simp only [ev_tmp, ev_const, ev_func, get_put, get_args, get_putL, get_putL_nil, Nat.reduceEqDiff, reduceIte, List.getD_cons_zero, List.getD_cons_succ, List.getD_nil]); first | done | with_reducible rfl)) (by ((try simp only [ev_tmp, ev_const, ev_func, get_put, get_args, get_putL, get_putL_nil, Nat.reduceEqDiff, reduceIte, List.getD_cons_zero, List.getD_cons_succ, List.getD_nil]); first | done | with_reducible rfl)) rfl rfl hO.one3 (by first | exact True.intro | exact ⟨_, rfl, by ((try simp only [ev_tmp, ev_const, ev_func, get_put, get_args, get_putL, get_putL_nil, Nat.reduceEqDiff, reduceIte, List.getD_cons_zero, List.getD_cons_succ, List.getD_nil, Bool.not_true, Bool.not_false]); first | done | with_reducible rfl)⟩) fun wz hcz hsz hBz => ?_
    refine go ?_
    exact retc (b := br) (hb := hBz) (fin hCz ((hs3.ext hexb).ext he9) (by omega) hO hSh (hF.mono (by omega)) hcz) rfl
  refine go ?_
  refine rc (l01Next_ok (n := 10) hs2) (next := fun v3 w3 h3 => ?_)
  obtain ⟨k3, rfl, hc3, hs3, hk30, hk31, hz3⟩ := h3
  have hC3 : Chg bs w w3 := hC2.trans hc3
  have hbk3 : Blk w3 br [nilv, nilv, nilv] := hbk2.wr (.one (B := fun g => g = bs) rfl hc3) fun e => by omega
  refine go ?_
  refine rc (l07Table_ok (k := k3) (by omega) (by omega)) (next := fun v9 w9 h => ?_)
  obtain ⟨ord, he9, hN9, hF⟩ := h
  obtain ⟨vo, vp, vc, rp, gs, rfl, hO, hSh⟩ := hN9.ex
  have hbk9 : Blk w9 br _ := @Blk.ext _ _ _ _ he9 hbk3
  have hCz := (hC3).grow he9
  have hzc := (hC3).size
  refine st_store_agg (vs := [vo, vp, vc]) (cs := _) (hb := hbk9) (by ((try simp only [ev_tmp, ev_const, ev_func, get_put, get_args, get_putL, get_putL_nil, Nat.reduceEqDiff, reduceIte, List.getD_cons_zero, List.getD_cons_succ, List.getD_nil]); first | done | with_reducible rfl)) (by ((try simp only [ev_tmp, ev_const, ev_func, get_put, get_args, get_putL, get_putL_nil, Nat.reduceEqDiff, reduceIte, List.getD_cons_zero, List.getD_cons_succ, List.getD_nil]); first | done | with_reducible rfl)) rfl rfl hO.one3 (by first | exact True.intro | exact ⟨_, rfl, by ((try simp only [ev_tmp, ev_const, ev_func, get_put, get_args, get_putL, get_putL_nil, Nat.reduceEqDiff, reduceIte, List.getD_cons_zero, List.getD_cons_succ, List.getD_nil, Bool.not_true, Bool.not_false]); first | done | with_reducible rfl)⟩) fun wz hcz hsz hBz => ?_
  refine go ?_
  exact retc (b := br) (hb := hBz) (fin hCz (hs3.ext he9) (by omega) hO hSh (hF.mono (by omega)) hcz) rfl
end Go.Proofs.Ytflniifngfiekaa
