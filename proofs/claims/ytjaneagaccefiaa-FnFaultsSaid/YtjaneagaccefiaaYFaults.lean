/-
  Walk: the statement FnFaults: it returns true.
  Conditions: the code is a list of bytes.
-/
import Derived.Test.YtjaneagaccefiaaB6
set_option linter.unusedVariables false
set_option linter.unusedSimpArgs false
set_option linter.unusedSectionVars false
set_option linter.constructorNameAsVariable false
set_option linter.unnecessarySimpa false
set_option linter.deprecated false
/-
  Walk: the statement FnFaults: it returns true.
  Conditions: the code is a list of bytes.
-/
namespace Go.Proofs.Ytjaneagaccefiaa
open Go Go.Pc
theorem rd_neFault {ρ : Env} {w : World} {ty : TypeId} {x y : Operand} {k l f s : Int} (h : ev ρ x = faultV k l f s) (h' : ev ρ y = faultV k l f s) :
    Rd Try.prog (.binOp .neq 31 x y 31) ty ρ w (.bool false) := by
  constructor; intro _ _ _ _
  have h2 := fun d a b w => run_equalIn_int (P := Try.prog) w d 2 .i64 .i64 a b Try.underlying2
  simp [execOp, h, h', run_eqGuard_agg _ _ _ _ _ _ _ fault_guard, run_neq_struct, run_equalIn_agg _ _ _ _ _ fault_fields fault_held, Program.fieldsOf, Try.underlying31, Op.eqFields, h2, go_sem]
theorem rd_neqb_eq {ρ : Env} {w : World} {ty tt : TypeId} {x y : Operand} {a b : Bool} (hab : (a == b) = true) (h : ev ρ x = .bool a) (k : ev ρ y = .bool b) : Rd Try.prog (.binOp .neq 4 x y tt) ty ρ w (.bool false) := by
  have := rd_neqb (w := w) (ty := ty) (tt := tt) h k
  rwa [hab] at this
set_option maxHeartbeats 8000000 in
theorem lwFaults_ok {w : World} {vc : Value} {cs : List Int} {lo hi : Nat} (hs : Sl lo hi w vc (cs.map (Value.int .u8))) (hc : ∀ c, c ∈ cs → 0 ≤ c ∧ c < 256) :
    Calls Try.prog 3 #[vc] w (Ret fun v w' => v = .bool true ∧ Ext w w') := by
  refine enter (args := [vc]) (l := [.tmp 2]) Try.func3 rfl rfl Try.ntmps3 (by simp) ?_
  refine go ?_
  refine rc (big_ok hs) (next := fun v1 w1 h1 => ?_)
  obtain ⟨rfl, he1⟩ := h1
  refine go ?_
  refine c_if (fun q1 => ?_) (fun q1 => ?_)
  · refine go ?_
    exact ret1 ⟨rfl, he1⟩
  have hcod : Cod lo hi w1 vc cs := ⟨hs.same (he1.same _ _), hc, by rw [List.length_map] at q1; omega⟩
  refine go ?_
  refine rc (DrawConsistencyFault_ok hcod) (next := fun v2 w2 h2 => ?_)
  obtain ⟨p, he2, hP2, hp2⟩ := h2
  obtain ⟨vo, vpw, vcc, ps, css, csss, rfl, k1, k2, k3⟩ := hP2.ex
  have o3 := hP2.one3
  have hz2 := he2.size
  have hol := hp2.ord
  refine go ?_
  refine st_alloc (by first | exact True.intro | exact ⟨_, rfl, by ((try simp only [ev_tmp, ev_const, ev_func, get_put, get_args, get_putL, get_putL_nil, Nat.reduceEqDiff, reduceIte, List.getD_cons_zero, List.getD_cons_succ, List.getD_nil, Bool.not_true, Bool.not_false]); first | done | with_reducible rfl)⟩) fun w3 bp he3 hbp hs3 hbk3 => ?_
  refine st_store_agg (vs := [vo, vpw, vcc]) (cs := _) (hb := hbk3) (by ((try simp only [ev_tmp, ev_const, ev_func, get_put, get_args, get_putL, get_putL_nil, Nat.reduceEqDiff, reduceIte, List.getD_cons_zero, List.getD_cons_succ, List.getD_nil]); first | done | with_reducible rfl)) (by ((try simp only [ev_tmp, ev_const, ev_func, get_put, get_args, get_putL, get_putL_nil, Nat.reduceEqDiff, reduceIte, List.getD_cons_zero, List.getD_cons_succ, List.getD_nil]); first | done | with_reducible rfl)) rfl rfl (by simp [o3.1, o3.2.1, o3.2.2]) (by first | exact True.intro | exact ⟨_, rfl, by ((try simp only [ev_tmp, ev_const, ev_func, get_put, get_args, get_putL, get_putL_nil, Nat.reduceEqDiff, reduceIte, List.getD_cons_zero, List.getD_cons_succ, List.getD_nil, Bool.not_true, Bool.not_false]); first | done | with_reducible rfl)⟩) fun w4 hc4 hs4 hB4 => ?_
  have hx4 : Ext w2 w4 := hc4.ext he3 (by omega)
  have hE4 : Ext w w4 := (he1.trans he2).trans hx4
  have hP4 : Pres w1.heap.size w2.heap.size w4 (.agg #[vo, vpw, vcc]) p := hP2.same (hx4.same _ _)
  clear hP2 hbk3 k1 k2 k3
  refine go ?_
  refine ra (v := .agg #[vo, vpw, vcc]) (h := rd_load_blk (hb := hB4) (by ((try simp only [ev_tmp, ev_const, ev_func, get_put, get_args, get_putL, get_putL_nil, Nat.reduceEqDiff, reduceIte, List.getD_cons_zero, List.getD_cons_succ, List.getD_nil]); first | done | with_reducible rfl)) rfl) (next := ?_)
  refine go ?_
  refine rc (impl_ConsistencyFault_ok (p := p) (by omega)) (next := fun v5 w5 h5 => ?_)
  obtain ⟨u, e, rfl, hF5, he5⟩ := h5
  have hform : ∃ k l f s : Int, u = faultV k l f s := by
    rcases hF5 with ⟨_, h, _⟩ | ⟨_, h, _⟩
    · exact h.form
    · exact ⟨_, _, _, _, h⟩
  obtain ⟨k, l, f, s, rfl⟩ := hform
  refine go ?_
  refine st_alloc (by first | exact True.intro | exact ⟨_, rfl, by ((try simp only [ev_tmp, ev_const, ev_func, get_put, get_args, get_putL, get_putL_nil, Nat.reduceEqDiff, reduceIte, List.getD_cons_zero, List.getD_cons_succ, List.getD_nil, Bool.not_true, Bool.not_false]); first | done | with_reducible rfl)⟩) fun w6 bf he6 hbf hs6 hbk6 => ?_
  refine st_store_agg (vs := [.int .i64 k, .int .i64 l, .int .i64 f, .int .i64 s]) (cs := _) (hb := hbk6) (by ((try simp only [ev_tmp, ev_const, ev_func, get_put, get_args, get_putL, get_putL_nil, Nat.reduceEqDiff, reduceIte, List.getD_cons_zero, List.getD_cons_succ, List.getD_nil]); first | done | with_reducible rfl)) (by ((try simp only [ev_tmp, ev_const, ev_func, get_put, get_args, get_putL, get_putL_nil, Nat.reduceEqDiff, reduceIte, List.getD_cons_zero, List.getD_cons_succ, List.getD_nil]); first | done | with_reducible rfl)) rfl rfl rfl (by first | exact True.intro | exact ⟨_, rfl, by ((try simp only [ev_tmp, ev_const, ev_func, get_put, get_args, get_putL, get_putL_nil, Nat.reduceEqDiff, reduceIte, List.getD_cons_zero, List.getD_cons_succ, List.getD_nil, Bool.not_true, Bool.not_false]); first | done | with_reducible rfl)⟩) fun w7 hc7 hs7 hB7 => ?_
  have hx7 : Ext w4 w7 := he5.trans (hc7.ext he6 (by omega))
  have hP7 : Pres w1.heap.size w2.heap.size w7 (.agg #[vo, vpw, vcc]) p := hP4.same (hx7.same _ _)
  have hBp7 : Blk w7 bp [vo, vpw, vcc] := @Blk.ext _ _ _ _ hx7 hB4
  refine go ?_
  refine ra (v := .agg #[vo, vpw, vcc]) (h := rd_load_blk (hb := hBp7) (by ((try simp only [ev_tmp, ev_const, ev_func, get_put, get_args, get_putL, get_putL_nil, Nat.reduceEqDiff, reduceIte, List.getD_cons_zero, List.getD_cons_succ, List.getD_nil]); first | done | with_reducible rfl)) rfl) (next := ?_)
  refine go ?_
  refine rc (spec_ConsistencyFault_ok (p := p) (by omega)) (next := fun v8 w8 h8 => ?_)
  obtain ⟨u8, e8, rfl, hF8, he8⟩ := h8
  obtain ⟨rfl, rfl⟩ := hF5.uniq hF8
  refine go ?_
  refine st_alloc (by first | exact True.intro | exact ⟨_, rfl, by ((try simp only [ev_tmp, ev_const, ev_func, get_put, get_args, get_putL, get_putL_nil, Nat.reduceEqDiff, reduceIte, List.getD_cons_zero, List.getD_cons_succ, List.getD_nil, Bool.not_true, Bool.not_false]); first | done | with_reducible rfl)⟩) fun w9 bg he9 hbg hs9 hbk9 => ?_
  refine st_store_agg (vs := [.int .i64 k, .int .i64 l, .int .i64 f, .int .i64 s]) (cs := _) (hb := hbk9) (by ((try simp only [ev_tmp, ev_const, ev_func, get_put, get_args, get_putL, get_putL_nil, Nat.reduceEqDiff, reduceIte, List.getD_cons_zero, List.getD_cons_succ, List.getD_nil]); first | done | with_reducible rfl)) (by ((try simp only [ev_tmp, ev_const, ev_func, get_put, get_args, get_putL, get_putL_nil, Nat.reduceEqDiff, reduceIte, List.getD_cons_zero, List.getD_cons_succ, List.getD_nil]); first | done | with_reducible rfl)) rfl rfl rfl (by first | exact True.intro | exact ⟨_, rfl, by ((try simp only [ev_tmp, ev_const, ev_func, get_put, get_args, get_putL, get_putL_nil, Nat.reduceEqDiff, reduceIte, List.getD_cons_zero, List.getD_cons_succ, List.getD_nil, Bool.not_true, Bool.not_false]); first | done | with_reducible rfl)⟩) fun wa hca hsa hBa => ?_
  have hxa : Ext w7 wa := he8.trans (hca.ext he9 (by omega))
  have hPa : Pres w1.heap.size w2.heap.size wa (.agg #[vo, vpw, vcc]) p := hP7.same (hxa.same _ _)
  have hBpa : Blk wa bp [vo, vpw, vcc] := @Blk.ext _ _ _ _ hxa hBp7
  have hBfa : Blk wa bf [.int .i64 k, .int .i64 l, .int .i64 f, .int .i64 s] := @Blk.ext _ _ _ _ hxa hB7
  have hEa : Ext w wa := (hE4.trans hx7).trans hxa
  refine go ?_
  refine spd (fun h => absurd rfl h) (fun _ => ?_)
  refine go ?_
  refine ra (v := faultV k l f s) (h := rd_load_blk (hb := hBfa) (by ((try simp only [ev_tmp, ev_const, ev_func, get_put, get_args, get_putL, get_putL_nil, Nat.reduceEqDiff, reduceIte, List.getD_cons_zero, List.getD_cons_succ, List.getD_nil]); first | done | with_reducible rfl)) rfl) (next := ?_)
  refine ra (v := faultV k l f s) (h := rd_load_blk (hb := hBa) (by ((try simp only [ev_tmp, ev_const, ev_func, get_put, get_args, get_putL, get_putL_nil, Nat.reduceEqDiff, reduceIte, List.getD_cons_zero, List.getD_cons_succ, List.getD_nil]); first | done | with_reducible rfl)) rfl) (next := ?_)
  refine ra (v := .bool false) (h := rd_neFault (k := k) (l := l) (f := f) (s := s) (by ((try simp only [ev_tmp, ev_const, ev_func, get_put, get_args, get_putL, get_putL_nil, Nat.reduceEqDiff, reduceIte, List.getD_cons_zero, List.getD_cons_succ, List.getD_nil]); first | done | with_reducible rfl)) (by ((try simp only [ev_tmp, ev_const, ev_func, get_put, get_args, get_putL, get_putL_nil, Nat.reduceEqDiff, reduceIte, List.getD_cons_zero, List.getD_cons_succ, List.getD_nil]); first | done | with_reducible rfl))) (next := ?_)
  refine go ?_
  refine c_if (fun q2 => ?_) (fun q2 => ?_)
  · refine go ?_
    exact ret1 ⟨rfl, hEa⟩
  obtain ⟨hv, hFt, rfl⟩ : Valid p ∧ FaultIs p (faultV k l f s) ∧ e = 0 := by
    rcases hF5 with h | ⟨_, _, rfl⟩
    · exact h
    · exact absurd (by decide) q2
  have hn6 := hv.n6
  have hnl : p.ord.length = p.n := rfl
  refine go ?_
  refine ra (v := .agg #[vo, vpw, vcc]) (h := rd_load_blk (hb := hBpa) (by ((try simp only [ev_tmp, ev_const, ev_func, get_put, get_args, get_putL, get_putL_nil, Nat.reduceEqDiff, reduceIte, List.getD_cons_zero, List.getD_cons_succ, List.getD_nil]); first | done | with_reducible rfl)) rfl) (next := ?_)
  refine go ?_
  refine rc (ConsistentFrom_ok (p := p) hv) (next := fun vb wb hb => ?_)
  obtain ⟨i, rfl, hin, hL, hno, heb⟩ := hb
  have hPb : Pres w1.heap.size w2.heap.size wb (.agg #[vo, vpw, vcc]) p := hPa.same (heb.same _ _)
  have hBpb : Blk wb bp [vo, vpw, vcc] := @Blk.ext _ _ _ _ heb hBpa
  have hBfb : Blk wb bf [.int .i64 k, .int .i64 l, .int .i64 f, .int .i64 s] := @Blk.ext _ _ _ _ heb hBfa
  have c0 : Cell wb bp 0 vo := hBpb.cell rfl
  have c1 : Cell wb bp 1 vpw := hBpb.cell rfl
  have c2 : Cell wb bp 2 vcc := hBpb.cell rfl
  have f0 : Cell wb bf 0 (.int .i64 k) := hBfb.cell rfl
  have f1 : Cell wb bf 1 (.int .i64 l) := hBfb.cell rfl
  have hEb := hEa.trans heb
  refine go ?_
  refine d_order (List.range 10) (h := fun wc hec _ => ?_)
  refine dgo ?_
  refine dspd (fun h => absurd rfl h) (fun _ => ?_)
  refine dgo ?_
  refine dce (impl_IsConsistent_ok (p := p) (by omega)) (hR := by rintro _ _ ⟨_, _, _, h⟩; exact h) (next := fun vd wd hd => ?_)
  obtain ⟨b, rfl, hbg, hed⟩ := hd
  have hkg : (decide (k = 0) == b) = true := by
    have h1 : k = 0 ↔ IsGrp p := by
      rcases hFt with ⟨h0, hL0⟩ | ⟨k', f', s', j, hcj, hj, hk', hfe, hflt, hLj⟩
      · obtain ⟨rfl, rfl, rfl, rfl⟩ : k = 0 ∧ l = 0 ∧ f = 0 ∧ s = 0 := by simpa using h0
        exact ⟨fun _ => ⟨hv, hL0⟩, fun _ => rfl⟩
      · obtain ⟨rfl, rfl, rfl, rfl⟩ : k = k' ∧ l = j ∧ f = f' ∧ s = s' := by simpa using hfe
        exact ⟨fun h => absurd h hk', fun h => hflt.zero.2 (h.levs j (Nat.zero_le _) hj).2.2⟩
    cases b
    · have : ¬ k = 0 := fun h => by have := hbg.2 (h1.1 h); cases this
      simp [this]
    · simp [h1.2 (hbg.1 rfl)]
  refine da (v := .bool false) (h := ⟨fun _ _ => rd_neqb_eq (a := decide (k = 0)) (b := b) hkg (by ((try simp only [ev_tmp, ev_const, ev_func, get_put, get_args, get_putL, get_putL_nil, Nat.reduceEqDiff, reduceIte, List.getD_cons_zero, List.getD_cons_succ, List.getD_nil]); first | done | with_reducible rfl)) (by ((try simp only [ev_tmp, ev_const, ev_func, get_put, get_args, get_putL, get_putL_nil, Nat.reduceEqDiff, reduceIte, List.getD_cons_zero, List.getD_cons_succ, List.getD_nil]); first | done | with_reducible rfl))⟩) (next := ?_)
  refine dgo ?_
  refine d_end (h := ?_)
  refine go ?_
  have hEd := (hEb.trans hec).trans hed
  have hxd := hec.trans hed
  have hPd : Pres w1.heap.size w2.heap.size wd (.agg #[vo, vpw, vcc]) p := hPb.same (hxd.same _ _)
  have hBpd : Blk wd bp [vo, vpw, vcc] := @Blk.ext _ _ _ _ hxd hBpb
  have hBfd : Blk wd bf [.int .i64 k, .int .i64 l, .int .i64 f, .int .i64 s] := @Blk.ext _ _ _ _ hxd hBfb
  clear c0 c1 c2 f0 f1
  have f0 : Cell wd bf 0 (.int .i64 k) := hBfd.cell rfl
  have f1 : Cell wd bf 1 (.int .i64 l) := hBfd.cell rfl
  have hzd := hxd.size
  rcases hFt with ⟨h0, hL0⟩ | ⟨k', f', s', j, hcj, hj, hk', hfe, hflt, hLj⟩
  · obtain ⟨rfl, rfl, rfl, rfl⟩ : k = 0 ∧ l = 0 ∧ f = 0 ∧ s = 0 := by simpa using h0
    have hi0 : i = 0 := Classical.byContradiction fun h => hno h (hL0 (i - 1) (Nat.zero_le _) (by omega))
    subst hi0
    refine go ?_
    refine c_if (fun q4 => ?_) (fun q4 => ?_)
    · refine go ?_
      refine ret1 (v := .bool (decide (((0 : Nat) : Int) = 0))) ⟨by simp, hEd⟩
    · exact absurd trivial q4
  obtain ⟨rfl, rfl, rfl, rfl⟩ : k = k' ∧ l = j ∧ f = f' ∧ s = s' := by simpa using hfe
  have hij : i = j + 1 := by
    rcases Nat.lt_trichotomy i (j + 1) with h | h | h
    · exact absurd (hflt.zero.2 (hL j (by omega) hj).2.2) hk'
    · exact h
    · exact absurd (hLj (i - 1) (by omega) (by omega)) (hno (by omega))
  subst hij
  refine go ?_
  refine c_if (fun q4 => ?_) (fun q4 => ?_)
  · exact absurd q4 hk'
  refine go ?_
  refine ra (v := .agg #[vo, vpw, vcc]) (h := rd_load_blk (hb := hBpd) (by ((try simp only [ev_tmp, ev_const, ev_func, get_put, get_args, get_putL, get_putL_nil, Nat.reduceEqDiff, reduceIte, List.getD_cons_zero, List.getD_cons_succ, List.getD_nil]); first | done | with_reducible rfl)) rfl) (next := ?_)
  refine go ?_
  refine rc (TailPresentation_ok (p := p) (k := j + 1) hv (by omega)) (next := fun ve we he => ?_)
  obtain ⟨ug, rfl, hee, hPe⟩ := he
  obtain ⟨ga0, ga1, ga2, gps, gcs, gcss, rfl, _⟩ := hPe.ex
  have g3 := hPe.one3
  refine go ?_
  refine st_alloc (by first | exact True.intro | exact ⟨_, rfl, by ((try simp only [ev_tmp, ev_const, ev_func, get_put, get_args, get_putL, get_putL_nil, Nat.reduceEqDiff, reduceIte, List.getD_cons_zero, List.getD_cons_succ, List.getD_nil, Bool.not_true, Bool.not_false]); first | done | with_reducible rfl)⟩) fun wf bu hef hbu hsf hbkf => ?_
  refine st_store_agg (vs := [ga0, ga1, ga2]) (cs := _) (hb := hbkf) (by ((try simp only [ev_tmp, ev_const, ev_func, get_put, get_args, get_putL, get_putL_nil, Nat.reduceEqDiff, reduceIte, List.getD_cons_zero, List.getD_cons_succ, List.getD_nil]); first | done | with_reducible rfl)) (by ((try simp only [ev_tmp, ev_const, ev_func, get_put, get_args, get_putL, get_putL_nil, Nat.reduceEqDiff, reduceIte, List.getD_cons_zero, List.getD_cons_succ, List.getD_nil]); first | done | with_reducible rfl)) rfl rfl (by simp [g3.1, g3.2.1, g3.2.2]) (by first | exact True.intro | exact ⟨_, rfl, by ((try simp only [ev_tmp, ev_const, ev_func, get_put, get_args, get_putL, get_putL_nil, Nat.reduceEqDiff, reduceIte, List.getD_cons_zero, List.getD_cons_succ, List.getD_nil, Bool.not_true, Bool.not_false]); first | done | with_reducible rfl)⟩) fun wg hcg hsg hBg => ?_
  have hxg : Ext we wg := hcg.ext hef (by omega)
  have hxdg := hee.trans hxg
  have hPpg : Pres w1.heap.size w2.heap.size wg (.agg #[vo, vpw, vcc]) p := hPd.same (hxdg.same _ _)
  have hBpg : Blk wg bp [vo, vpw, vcc] := @Blk.ext _ _ _ _ hxdg hBpd
  have hPg : Pres wd.heap.size we.heap.size wg (.agg #[ga0, ga1, ga2]) (tailP p (j + 1)) := hPe.same (hxg.same _ _)
  clear f0 f1
  have hBfg : Blk wg bf [.int .i64 k, .int .i64 j, .int .i64 f, .int .i64 s] := @Blk.ext _ _ _ _ hxdg hBfd
  have f1 : Cell wg bf 1 (.int .i64 j) := hBfg.cell rfl
  refine go ?_
  refine ra (v := .agg #[vo, vpw, vcc]) (h := rd_load_blk (hb := hBpg) (by ((try simp only [ev_tmp, ev_const, ev_func, get_put, get_args, get_putL, get_putL_nil, Nat.reduceEqDiff, reduceIte, List.getD_cons_zero, List.getD_cons_succ, List.getD_nil]); first | done | with_reducible rfl)) rfl) (next := ?_)
  refine go ?_
  refine rc (TailPresentation_ok (p := p) (k := j) hv (by omega)) (next := fun vh wh hh => ?_)
  obtain ⟨ub, rfl, heh, hPh⟩ := hh
  obtain ⟨ha0, ha1, ha2, hps, hcs, hcss, rfl, _⟩ := hPh.ex
  have h3 := hPh.one3
  refine go ?_
  refine st_alloc (by first | exact True.intro | exact ⟨_, rfl, by ((try simp only [ev_tmp, ev_const, ev_func, get_put, get_args, get_putL, get_putL_nil, Nat.reduceEqDiff, reduceIte, List.getD_cons_zero, List.getD_cons_succ, List.getD_nil, Bool.not_true, Bool.not_false]); first | done | with_reducible rfl)⟩) fun wi bv hei hbv hsi hbki => ?_
  refine st_store_agg (vs := [ha0, ha1, ha2]) (cs := _) (hb := hbki) (by ((try simp only [ev_tmp, ev_const, ev_func, get_put, get_args, get_putL, get_putL_nil, Nat.reduceEqDiff, reduceIte, List.getD_cons_zero, List.getD_cons_succ, List.getD_nil]); first | done | with_reducible rfl)) (by ((try simp only [ev_tmp, ev_const, ev_func, get_put, get_args, get_putL, get_putL_nil, Nat.reduceEqDiff, reduceIte, List.getD_cons_zero, List.getD_cons_succ, List.getD_nil]); first | done | with_reducible rfl)) rfl rfl (by simp [h3.1, h3.2.1, h3.2.2]) (by first | exact True.intro | exact ⟨_, rfl, by ((try simp only [ev_tmp, ev_const, ev_func, get_put, get_args, get_putL, get_putL_nil, Nat.reduceEqDiff, reduceIte, List.getD_cons_zero, List.getD_cons_succ, List.getD_nil, Bool.not_true, Bool.not_false]); first | done | with_reducible rfl)⟩) fun wj hcj' hsj hBj => ?_
  have hxj : Ext wh wj := hcj'.ext hei (by omega)
  have hxgj := heh.trans hxj
  have hPgj : Pres wd.heap.size we.heap.size wj (.agg #[ga0, ga1, ga2]) (tailP p (j + 1)) := hPg.same (hxgj.same _ _)
  have hPhj : Pres wg.heap.size wh.heap.size wj (.agg #[ha0, ha1, ha2]) (tailP p j) := hPh.same (hxj.same _ _)
  have hBgj : Blk wj bu [ga0, ga1, ga2] := @Blk.ext _ _ _ _ hxgj hBg
  have hEj := (hEd.trans hxdg).trans hxgj
  clear f1
  have hBfj : Blk wj bf [.int .i64 k, .int .i64 j, .int .i64 f, .int .i64 s] := @Blk.ext _ _ _ _ hxgj hBfg
  have f1 : Cell wj bf 1 (.int .i64 j) := hBfj.cell rfl
  have n1 : (tailP p (j + 1)).ord.length = p.n - (j + 1) := tail_n
  have n2 : (tailP p j).ord.length = p.n - j := tail_n
  have gG : IsGrp (tailP p (j + 1)) := (tail_grp hv (by omega)).2 hLj
  have gB : ¬ IsGrp (tailP p j) := fun h => hk' (hflt.zero.2 ((tail_grp hv (by omega)).1 h j (Nat.le_refl _) hj).2.2)
  have gV : Valid (tailP p j) := tail_valid hv (by omega)
  refine go ?_
  refine spd (fun _ => ?k1) (fun h => (h ?t1).elim)
  case t1 => first | exact trivial | rfl | omega
  refine go ?_
  refine spd (fun _ => ?k2) (fun h => (h ?t2).elim)
  case t2 => first | exact trivial | rfl | omega
  refine go ?_
  refine spd (fun _ => ?k3) (fun h => (h ?t3).elim)
  case t3 => first | exact trivial | rfl | omega
  refine go ?_
  refine ra (v := .agg #[ga0, ga1, ga2]) (h := rd_load_blk (hb := hBgj) (by ((try simp only [ev_tmp, ev_const, ev_func, get_put, get_args, get_putL, get_putL_nil, Nat.reduceEqDiff, reduceIte, List.getD_cons_zero, List.getD_cons_succ, List.getD_nil]); first | done | with_reducible rfl)) rfl) (next := ?_)
  refine go ?_
  refine rc (impl_IsConsistent_ok (p := tailP p (j + 1)) (by omega)) (next := fun vk wk hk => ?_)
  obtain ⟨b1, rfl, hb1, hek⟩ := hk
  obtain rfl : b1 = true := hb1.2 gG
  have hBhk : Blk wk bv [ha0, ha1, ha2] := @Blk.ext _ _ _ _ hek hBj
  have hPhk : Pres wg.heap.size wh.heap.size wk (.agg #[ha0, ha1, ha2]) (tailP p j) := hPhj.same (hek.same _ _)
  refine go ?_
  refine ra (v := .agg #[ha0, ha1, ha2]) (h := rd_load_blk (hb := hBhk) (by ((try simp only [ev_tmp, ev_const, ev_func, get_put, get_args, get_putL, get_putL_nil, Nat.reduceEqDiff, reduceIte, List.getD_cons_zero, List.getD_cons_succ, List.getD_nil]); first | done | with_reducible rfl)) rfl) (next := ?_)
  refine go ?_
  refine rc (impl_IsPresentation_ok (p := tailP p j) (by omega)) (next := fun vl wl hl => ?_)
  obtain ⟨b2, rfl, hb2, hel⟩ := hl
  obtain rfl : b2 = true := hb2.2 gV
  have hBhl : Blk wl bv [ha0, ha1, ha2] := @Blk.ext _ _ _ _ hel hBhk
  have hPhl : Pres wg.heap.size wh.heap.size wl (.agg #[ha0, ha1, ha2]) (tailP p j) := hPhk.same (hel.same _ _)
  refine go ?_
  refine ra (v := .agg #[ha0, ha1, ha2]) (h := rd_load_blk (hb := hBhl) (by ((try simp only [ev_tmp, ev_const, ev_func, get_put, get_args, get_putL, get_putL_nil, Nat.reduceEqDiff, reduceIte, List.getD_cons_zero, List.getD_cons_succ, List.getD_nil]); first | done | with_reducible rfl)) rfl) (next := ?_)
  refine go ?_
  refine rc (impl_IsConsistent_ok (p := tailP p j) (by omega)) (next := fun vm wm hm => ?_)
  obtain ⟨b3, rfl, hb3, hem⟩ := hm
  obtain rfl : b3 = false := by
    cases b3
    · rfl
    · exact absurd (hb3.1 rfl) gB
  refine go ?_
  exact ret1 ⟨rfl, ((hEj.trans hek).trans hel).trans hem⟩
end Go.Proofs.Ytjaneagaccefiaa
