/-
  Texts of one proof, put together by program: Tal, Dic.
  Conditions: those told at each part.
-/
import Derived.Test.YtcglplinebncgaaB7
set_option linter.unusedVariables false
set_option linter.unusedSimpArgs false
set_option linter.unusedSectionVars false
set_option linter.constructorNameAsVariable false
set_option linter.unnecessarySimpa false
set_option linter.deprecated false
/-
  Plain mathematics: the tail of a presentation at an index; its levels pass where the presentation's do.
  Conditions: none; nothing of the program stands here.
-/
namespace Go.Proofs.Ytcglplinebncgaa
open Go Go.Pc
/-- The tail of a presentation at an index. -/
def tailP (p : Pr) (k : Nat) : Pr := ⟨p.ord.drop k, (p.pow.drop k).map (List.drop k), (p.cnj.drop k).map (List.map (List.drop k))⟩
section
variable {p : Pr} {k : Nat}
theorem tail_n : (tailP p k).n = p.n - k := by simp [tailP, Pr.n]
theorem tail_o (i : Nat) : (tailP p k).o i = p.o (k + i) := by simp [tailP, Pr.o]
theorem getD_drop {α : Type} (l : List α) (i : Nat) (d : α) : (l.drop k).getD i d = l.getD (k + i) d := by
  simp [List.getD_eq_getElem?_getD]
theorem getD_app1 (a b : List Int) (i : Nat) (h : i < a.length) : (a ++ b).getD i 0 = a.getD i 0 := by simp [List.getD_eq_getElem?_getD, List.getElem?_append_left h]
theorem getD_app2 (a b : List Int) (i : Nat) (h : a.length ≤ i) : (a ++ b).getD i 0 = b.getD (i - a.length) 0 := by simp [List.getD_eq_getElem?_getD, List.getElem?_append_right h]
theorem InR.tail {v : List Int} (h : InR p v) : InR (tailP p k) (v.drop k) :=
  ⟨by rw [tail_n, List.length_drop, h.len], fun i hi => by rw [getD_drop, tail_o]; exact h.rng _ (by have := tail_n (p := p) (k := k); omega)⟩
theorem ZU.tail {v : List Int} {i : Nat} (h : ZU (k + i) v) : ZU i (v.drop k) := fun j hj => by rw [getD_drop]; exact h _ (by omega)
theorem InR.untail (hv : Valid p) (hk : k ≤ p.n) {x : List Int} (h : InR (tailP p k) x) : InR p (zeros k ++ x) := by
  have hn := tail_n (p := p) (k := k)
  refine ⟨by rw [List.length_append, zeros_len, h.len]; omega, fun i hi => ?_⟩
  by_cases e : i < k
  · have := hv.opos hi
    rw [getD_app1 _ _ _ (by rw [zeros_len]; exact e), zeros_getD]; omega
  · rw [getD_app2 _ _ _ (by rw [zeros_len]; omega), zeros_len]
    have := h.rng (i - k) (by omega)
    rwa [tail_o, show k + (i - k) = i by omega] at this
theorem ZU.untail {x : List Int} {i : Nat} (h : ZU i x) : ZU (k + i) (zeros k ++ x) := fun j hj => by
  by_cases e : j < k
  · rw [getD_app1 _ _ _ (by rw [zeros_len]; exact e), zeros_getD]
  · rw [getD_app2 _ _ _ (by rw [zeros_len]; omega), zeros_len]
    exact h _ (by omega)
variable {i : Nat}
/-- Down to the tail and back. -/
def dn (x : T p (k + i)) : T (tailP p k) i := ⟨x.v.drop k, InR.tail x.inr, ZU.tail x.zu⟩
def up (hv : Valid p) (hk : k ≤ p.n) (x : T (tailP p k) i) : T p (k + i) := ⟨zeros k ++ x.v, InR.untail hv hk x.inr, ZU.untail x.zu⟩
end
end Go.Proofs.Ytcglplinebncgaa

/-
  Walks: the statements' own dice (roll, below, draw9).
  Conditions: stated at each theorem.
-/
namespace Go.Pc
open Go Go.RowKit
section
variable {P : Program} {ρ : Env} {w : World} {ty : TypeId}
theorem u64_rng (n : Int) : 0 ≤ IntKind.wrap .u64 n ∧ IntKind.wrap .u64 n < 18446744073709551616 := by
  have e : IntKind.wrap .u64 n = n % 18446744073709551616 := by simp [IntKind.wrap, IntKind.bits, IntKind.signed]
  rw [e]; omega
theorem u64_in {n : Int} (h : 0 ≤ n ∧ n < 18446744073709551616) : IntKind.wrap .u64 n = n := by
  have e : IntKind.wrap .u64 n = n % 18446744073709551616 := by simp [IntKind.wrap, IntKind.bits, IntKind.signed]
  rw [e]; omega
theorem rd_mul64 {x y : Operand} {a b : Int} {tx tyy : TypeId} (h : ev ρ x = .int .u64 a) (k : ev ρ y = .int .u64 b) : Rd P (.binOp .mul tx x y tyy) ty ρ w (.int .u64 (IntKind.wrap .u64 (a * b))) := by
  constructor; intro _ _ _ _; simp [execOp, h, k, binOp, Op.intArith, eqGuard]
theorem rd_add64 {x y : Operand} {a b : Int} {tx tyy : TypeId} (h : ev ρ x = .int .u64 a) (k : ev ρ y = .int .u64 b) : Rd P (.binOp .add tx x y tyy) ty ρ w (.int .u64 (IntKind.wrap .u64 (a + b))) := by
  constructor; intro _ _ _ _; simp [execOp, h, k, binOp, Op.intArith, eqGuard]
theorem rd_shr64 {x y : Operand} {a : Int} {tx tyy : TypeId} (h : ev ρ x = .int .u64 a) (k : ev ρ y = .int .u64 33) : Rd P (.binOp .shr tx x y tyy) ty ρ w (.int .u64 (a / 8589934592)) := by
  constructor; intro _ _ _ _
  have e : a.fdiv 8589934592 = a / 8589934592 := Int.fdiv_eq_ediv_of_nonneg _ (by decide)
  simp [execOp, h, k, binOp, Op.shift, eqGuard, IntKind.bits, e]
def and64 (a : Int) : Int := (((a % 18446744073709551616).toNat &&& 16777215 : Nat) : Int)
theorem and64_rng (a : Int) : 0 ≤ and64 a ∧ and64 a ≤ 16777215 := by
  have hr : (a % 18446744073709551616).toNat &&& 16777215 ≤ 16777215 := Nat.and_le_right
  unfold and64; omega
theorem rd_and64 {x y : Operand} {a : Int} {tx tyy : TypeId} (h : ev ρ x = .int .u64 a) (k : ev ρ y = .int .u64 16777215) : Rd P (.binOp .and tx x y tyy) ty ρ w (.int .u64 (and64 a)) := by
  have hr := and64_rng a
  have e := u64_in (n := and64 a) (by omega)
  unfold and64 at e ⊢
  constructor; intro _ _ _ _
  simp only [execOp, h, k, binOp, Op.intBits, eqGuard]
  have e2 : IntKind.bits .u64 = 64 := rfl
  simp [e2, e]
theorem rd_max9 {x y : Operand} {a b : Int} {ts : Array TypeId} (h : ev ρ x = .int .i64 a) (k : ev ρ y = .int .i64 b) : Rd P (.call { callee := .builtin .max, args := #[x, y], argTypes := ts }) ty ρ w (.int .i64 (if b > a then b else a)) := by
  constructor; intro _ _ _ _
  simp [execOp, resolve, invoke, builtin, h, k, Builtin.max_, Builtin.max2]
end
end Go.Pc
namespace Go.Proofs.Ytcglplinebncgaa
open Go Go.Pc
instance : ElT Try.prog 36 1 8 (.int .u64 0) := srcElT (by kernel_rfl)
/-- The dice of a statement, in block bd. -/
structure Dic (w : World) (bd : Nat) : Prop where
  ex : ∃ (vc : Value) (at_ : Nat) (h : Int) (lo : Nat) (cs : List Int), Blk w bd [vc, .int .i64 at_, .int .u64 h] ∧ Sl lo bd w vc (cs.map (Value.int .u8)) ∧ (∀ c, c ∈ cs → 0 ≤ c ∧ c < 256) ∧ at_ ≤ cs.length ∧ cs.length ≤ 1000000 ∧ 0 ≤ h ∧ h < 18446744073709551616
theorem Dic.lt {w : World} {bd : Nat} (h : Dic w bd) : bd < w.heap.size := by
  obtain ⟨_, _, _, _, _, h1, _⟩ := h.ex
  exact h1.lt
theorem Dic.wr {B : Nat → Prop} {w w' : World} {bd : Nat} (h : Dic w bd) (k : Wrt B w w') (hB : ∀ b, B b → bd < b) : Dic w' bd := by
  obtain ⟨vc, a, h, lo, cs, h1, h2, h3⟩ := h.ex
  exact ⟨vc, a, h, lo, cs, h1.wr k fun hb => by have := hB bd hb; omega, h2.same (k.same fun b hb => by have := hB b hb; omega), h3⟩
theorem Dic.ext {w w' : World} {bd : Nat} (h : Dic w bd) (x : Ext w w') : Dic w' bd := h.wr (.ofExt (B := fun _ => False) x) fun b hb => hb.elim
set_option maxHeartbeats 4000000 in
theorem roll_ok {w : World} {vc : Value} {cs : List Int} {lo hi : Nat} (hc : Cod lo hi w vc cs) :
    Calls Try.prog 10 #[vc, .int .u64 3] w (Ret fun v w' => ∃ bd, v = .pointer (some ⟨bd, 0, none⟩) ∧ Ext w w' ∧ Dic w' bd ∧ w.heap.size ≤ bd) := by
  have hl := hc.len
  have hcs := hc.rng
  have hS := hc.sl.wide
  have hlen := hS.toLen
  rw [List.length_map] at hlen
  refine enter (args := [vc, .int .u64 3]) (l := [.tmp 4]) Try.func10 rfl rfl Try.ntmps10 (by simp) ?_
  refine go ?_
  refine ra (v := .int .u64 22821) (h := rd_bin (by ((try simp only [ev_tmp, ev_const, ev_func, get_put, get_args, get_putL, get_putL_nil, Nat.reduceEqDiff, reduceIte, List.getD_cons_zero, List.getD_cons_succ, List.getD_nil]); first | done | with_reducible rfl)) (by ((try simp only [ev_tmp, ev_const, ev_func, get_put, get_args, get_putL, get_putL_nil, Nat.reduceEqDiff, reduceIte, List.getD_cons_zero, List.getD_cons_succ, List.getD_nil]); first | done | with_reducible rfl)) (fun _ => rfl) (fun _ => rfl)) (next := ?_)
  refine go ?_
  refine ra (v := .int .u64 cs.length) (h := rd_conv (u := .int .i64) (by ((try simp only [ev_tmp, ev_const, ev_func, get_put, get_args, get_putL, get_putL_nil, Nat.reduceEqDiff, reduceIte, List.getD_cons_zero, List.getD_cons_succ, List.getD_nil]); first | done | with_reducible rfl)) (by kernel_rfl) (by kernel_rfl) (u64_in (by omega))) (next := ?_)
  refine ra (h := rd_add64 (by ((try simp only [ev_tmp, ev_const, ev_func, get_put, get_args, get_putL, get_putL_nil, Nat.reduceEqDiff, reduceIte, List.getD_cons_zero, List.getD_cons_succ, List.getD_nil]); first | done | with_reducible rfl)) (by ((try simp only [ev_tmp, ev_const, ev_func, get_put, get_args, get_putL, get_putL_nil, Nat.reduceEqDiff, reduceIte, List.getD_cons_zero, List.getD_cons_succ, List.getD_nil]); first | done | with_reducible rfl))) (next := ?_)
  obtain ⟨h0, hh0⟩ : ∃ h0, IntKind.wrap .u64 (22821 + (cs.length : Int)) = h0 := ⟨_, rfl⟩
  have hr0 := u64_rng (22821 + (cs.length : Int))
  rw [hh0] at hr0
  rw [hh0]
  refine ra (v := .agg #[vc, .int .i64 0, .int .u64 h0]) (h := rd_build (by simp only [ev_tmp, ev_const, ev_func, get_put, get_args, get_putL, get_putL_nil, Nat.reduceEqDiff, reduceIte, List.getD_cons_zero, List.getD_cons_succ, List.getD_nil, List.map_toArray, List.map_cons, List.map_nil]; rfl) (fun _ => ?_)) (next := ?_)
  · obtain ⟨A, c, rfl, _⟩ := hS.ex
    kernel_rfl
  refine st_box (vs := [vc, .int .i64 0, .int .u64 h0]) (by ((try simp only [ev_tmp, ev_const, ev_func, get_put, get_args, get_putL, get_putL_nil, Nat.reduceEqDiff, reduceIte, List.getD_cons_zero, List.getD_cons_succ, List.getD_nil]); first | done | with_reducible rfl)) (by first | exact True.intro | exact ⟨_, rfl, by ((try simp only [ev_tmp, ev_const, ev_func, get_put, get_args, get_putL, get_putL_nil, Nat.reduceEqDiff, reduceIte, List.getD_cons_zero, List.getD_cons_succ, List.getD_nil, Bool.not_true, Bool.not_false]); first | done | with_reducible rfl)⟩) fun w1 bd he1 hb1 hs1 hB1 => ?_
  refine go ?_
  refine r_for cs.length (fun k ρ w' => ∃ h : Int, Has ρ [(0, vc), (5, .pointer (some ⟨bd, 0, none⟩)), (6, .int .i64 k)] ∧ Chg bd w1 w' ∧ Blk w' bd [vc, .int .i64 0, .int .u64 h] ∧ 0 ≤ h ∧ h < 18446744073709551616) ?_ ?_
  · refine ⟨h0, ?_, Chg.refl _ _, hB1, hr0.1, hr0.2⟩
    exact hasP
  clear hB1
  rintro k ρ w2 hk ⟨h, hH, hch2, hB2, hs0, hs1'⟩
  refine rwp_has hH fun ρ0 => ?_
  have hx2 : Ext w w2 := hch2.ext he1 (by omega)
  have hS2 := hS.same (hx2.same _ _)
  have hlen2 := hS2.toLen
  rw [List.length_map] at hlen2
  refine go ?_
  refine c_if (fun h4 => ?_) (fun h4 => ?_)
  · have hkl : k < (cs.map (Value.int .u8)).length := by rw [List.length_map]; omega
    have hra : Pc.rowAt vc (cs.map (Value.int .u8)) k = .int .u8 (cs.getD k 0) := by
      have : k < cs.length := by omega
      simp [Pc.rowAt, this]
    have hcr : 0 ≤ cs.getD k 0 ∧ cs.getD k 0 < 256 := by
      have h : k < cs.length := by omega
      have := hcs _ (List.getElem_mem h)
      simpa [h] using this
    have c2 : Cell w2 bd 2 (.int .u64 h) := hB2.cell rfl
    refine go ?_
    refine d_region fun w5 he5 hz5 => ?_
    have hS5 := hS2.same (he5.same _ _)
    have hlen5 := hS5.toLen
    rw [List.length_map] at hlen5
    have hB5 : Blk w5 bd [vc, .int .i64 0, .int .u64 h] := @Blk.ext _ _ _ _ he5 hB2
    refine dgo ?_
    refine da (h := ⟨fun _ _ => rd_mul64 (by ((try simp only [ev_tmp, ev_const, ev_func, get_put, get_args, get_putL, get_putL_nil, Nat.reduceEqDiff, reduceIte, List.getD_cons_zero, List.getD_cons_succ, List.getD_nil]); first | done | with_reducible rfl)) (by ((try simp only [ev_tmp, ev_const, ev_func, get_put, get_args, get_putL, get_putL_nil, Nat.reduceEqDiff, reduceIte, List.getD_cons_zero, List.getD_cons_succ, List.getD_nil]); first | done | with_reducible rfl))⟩) (next := ?_)
    refine dgo ?_
    refine da (v := Pc.rowAt vc (cs.map (Value.int .u8)) k) (h := rs_load_sl (us := cs.map (Value.int .u8)) (by ((try simp only [ev_tmp, ev_const, ev_func, get_put, get_args, get_putL, get_putL_nil, Nat.reduceEqDiff, reduceIte, List.getD_cons_zero, List.getD_cons_succ, List.getD_nil]); first | done | with_reducible rfl)) hkl) (next := ?_)
    rw [hra]
    refine da (v := .int .u64 (cs.getD k 0)) (h := ⟨fun _ _ => rd_conv (u := .int .u8) (by ((try simp only [ev_tmp, ev_const, ev_func, get_put, get_args, get_putL, get_putL_nil, Nat.reduceEqDiff, reduceIte, List.getD_cons_zero, List.getD_cons_succ, List.getD_nil]); first | done | with_reducible rfl)) (by kernel_rfl) (by kernel_rfl) (u64_in (by omega))⟩) (next := ?_)
    refine da (h := ⟨fun _ _ => rd_add64 (by ((try simp only [ev_tmp, ev_const, ev_func, get_put, get_args, get_putL, get_putL_nil, Nat.reduceEqDiff, reduceIte, List.getD_cons_zero, List.getD_cons_succ, List.getD_nil]); first | done | with_reducible rfl)) (by ((try simp only [ev_tmp, ev_const, ev_func, get_put, get_args, get_putL, get_putL_nil, Nat.reduceEqDiff, reduceIte, List.getD_cons_zero, List.getD_cons_succ, List.getD_nil]); first | done | with_reducible rfl))⟩) (next := ?_)
    refine da (h := ⟨fun _ _ => rd_add64 (by ((try simp only [ev_tmp, ev_const, ev_func, get_put, get_args, get_putL, get_putL_nil, Nat.reduceEqDiff, reduceIte, List.getD_cons_zero, List.getD_cons_succ, List.getD_nil]); first | done | with_reducible rfl)) (by ((try simp only [ev_tmp, ev_const, ev_func, get_put, get_args, get_putL, get_putL_nil, Nat.reduceEqDiff, reduceIte, List.getD_cons_zero, List.getD_cons_succ, List.getD_nil]); first | done | with_reducible rfl))⟩) (next := ?_)
    refine dgo ?_
    have hr := u64_rng (IntKind.wrap .u64 (IntKind.wrap .u64 (h * 1099511628211) + cs.getD k 0) + 5)
    refine z_stfld (bo := bd) (m := 2) (cs := [vc, .int .i64 0, .int .u64 h]) hB5 rfl (by simp) (next := fun w6 hc6 hz6 hB6 => ?_)
    refine go ?_
    refine forQ_normal (by omega) ⟨_, ?_, (hch2.grow he5).trans hc6, hB6, hr.1, hr.2⟩
    exact hasP
  · refine go ?_
    exact ret1 ⟨bd, rfl, hx2, ⟨vc, 0, h, 0, cs, hB2, hS2.mono (Nat.le_refl _) (by omega), hcs, Nat.zero_le _, hl, hs0, hs1'⟩, by omega⟩
set_option maxHeartbeats 4000000 in
theorem below_ok {w : World} {bd : Nat} {n : Int} (hs : Dic w bd) (hn : 1 ≤ n) :
    Calls Try.prog 28 #[.pointer (some ⟨bd, 0, none⟩), .int .i64 n] w (Ret fun v w' => ∃ k : Int, v = .int .i64 k ∧ Chg bd w w' ∧ Dic w' bd ∧ 0 ≤ k ∧ k < n ∧ w'.heap.size = w.heap.size) := by
  obtain ⟨vc, a, h, lo, cs, hB, hS, hcs, haN, hN, hs0, hs1⟩ := hs.ex
  have c0 : Cell w bd 0 vc := hB.cell rfl
  have c1 : Cell w bd 1 (.int .i64 a) := hB.cell rfl
  have c2 : Cell w bd 2 (.int .u64 h) := hB.cell rfl
  refine enter (args := [.pointer (some ⟨bd, 0, none⟩), .int .i64 n]) (l := [.tmp 4]) Try.func28 rfl rfl Try.ntmps28 (by simp) ?_
  refine go ?_
  refine ra (h := rd_mul64 (by ((try simp only [ev_tmp, ev_const, ev_func, get_put, get_args, get_putL, get_putL_nil, Nat.reduceEqDiff, reduceIte, List.getD_cons_zero, List.getD_cons_succ, List.getD_nil]); first | done | with_reducible rfl)) (by ((try simp only [ev_tmp, ev_const, ev_func, get_put, get_args, get_putL, get_putL_nil, Nat.reduceEqDiff, reduceIte, List.getD_cons_zero, List.getD_cons_succ, List.getD_nil]); first | done | with_reducible rfl))) (next := ?_)
  refine ra (h := rd_add64 (by ((try simp only [ev_tmp, ev_const, ev_func, get_put, get_args, get_putL, get_putL_nil, Nat.reduceEqDiff, reduceIte, List.getD_cons_zero, List.getD_cons_succ, List.getD_nil]); first | done | with_reducible rfl)) (by ((try simp only [ev_tmp, ev_const, ev_func, get_put, get_args, get_putL, get_putL_nil, Nat.reduceEqDiff, reduceIte, List.getD_cons_zero, List.getD_cons_succ, List.getD_nil]); first | done | with_reducible rfl))) (next := ?_)
  have hr := u64_rng (IntKind.wrap .u64 (h * 6364136223846793005) + 1442695040888963407)
  obtain ⟨h2, hh2⟩ : ∃ h2, IntKind.wrap .u64 (IntKind.wrap .u64 (h * 6364136223846793005) + 1442695040888963407) = h2 := ⟨_, rfl⟩
  rw [hh2] at hr
  rw [hh2]
  refine go ?_
  refine st_store_fld (m := 2) (h := hB) (by ((try simp only [ev_tmp, ev_const, ev_func, get_put, get_args, get_putL, get_putL_nil, Nat.reduceEqDiff, reduceIte, List.getD_cons_zero, List.getD_cons_succ, List.getD_nil]); first | done | with_reducible rfl)) (by ((try simp only [ev_tmp, ev_const, ev_func, get_put, get_args, get_putL, get_putL_nil, Nat.reduceEqDiff, reduceIte, List.getD_cons_zero, List.getD_cons_succ, List.getD_nil]); first | done | with_reducible rfl)) rfl (by simp) (by first | exact True.intro | exact ⟨_, rfl, by ((try simp only [ev_tmp, ev_const, ev_func, get_put, get_args, get_putL, get_putL_nil, Nat.reduceEqDiff, reduceIte, List.getD_cons_zero, List.getD_cons_succ, List.getD_nil, Bool.not_true, Bool.not_false]); first | done | with_reducible rfl)⟩) fun w2 hc2 hz2 hB2 => ?_
  have hB2 : Blk w2 bd [vc, .int .i64 a, .int .u64 h2] := hB2
  have hS2 := hS.same (hc2.same (.inr (Nat.le_refl _)))
  have d0 : Cell w2 bd 0 vc := hB2.cell rfl
  have d1 : Cell w2 bd 1 (.int .i64 a) := hB2.cell rfl
  have d2 : Cell w2 bd 2 (.int .u64 h2) := hB2.cell rfl
  have hlen2 := hS2.toLen
  rw [List.length_map] at hlen2
  clear c0 c1 c2
  refine go ?_
  refine ra (h := rd_shr64 (by ((try simp only [ev_tmp, ev_const, ev_func, get_put, get_args, get_putL, get_putL_nil, Nat.reduceEqDiff, reduceIte, List.getD_cons_zero, List.getD_cons_succ, List.getD_nil]); first | done | with_reducible rfl)) (by ((try simp only [ev_tmp, ev_const, ev_func, get_put, get_args, get_putL, get_putL_nil, Nat.reduceEqDiff, reduceIte, List.getD_cons_zero, List.getD_cons_succ, List.getD_nil]); first | done | with_reducible rfl))) (next := ?_)
  refine ra (h := rd_and64 (by ((try simp only [ev_tmp, ev_const, ev_func, get_put, get_args, get_putL, get_putL_nil, Nat.reduceEqDiff, reduceIte, List.getD_cons_zero, List.getD_cons_succ, List.getD_nil]); first | done | with_reducible rfl)) (by ((try simp only [ev_tmp, ev_const, ev_func, get_put, get_args, get_putL, get_putL_nil, Nat.reduceEqDiff, reduceIte, List.getD_cons_zero, List.getD_cons_succ, List.getD_nil]); first | done | with_reducible rfl))) (next := ?_)
  have hr24 := and64_rng (h2 / 8589934592)
  obtain ⟨r, hre⟩ : ∃ r, and64 (h2 / 8589934592) = r := ⟨_, rfl⟩
  rw [hre] at hr24
  rw [hre]
  refine ra (v := .int .i64 r) (h := rd_conv (u := .int .u64) (by ((try simp only [ev_tmp, ev_const, ev_func, get_put, get_args, get_putL, get_putL_nil, Nat.reduceEqDiff, reduceIte, List.getD_cons_zero, List.getD_cons_succ, List.getD_nil]); first | done | with_reducible rfl)) (by kernel_rfl) (by kernel_rfl) (IntWalk.i64_in _ (by omega))) (next := ?_)
  refine go ?_
  refine d_region fun w3 he3 hz3 => ?_
  have hlen3 := (hS2.same (he3.same _ _)).toLen
  rw [List.length_map] at hlen3
  refine dgo ?_
  refine d_end (h := ?_)
  have hB3 : Blk w3 bd [vc, .int .i64 a, .int .u64 h2] := @Blk.ext _ _ _ _ he3 hB2
  have hS3 := hS2.same (he3.same _ _)
  have hc3 := hc2.grow he3
  have fin : ∀ {y : Int}, 0 ≤ y → 0 ≤ y % n ∧ y % n < n := fun {y} hy => ⟨Int.emod_nonneg _ (by omega), Int.emod_lt_of_pos _ (by omega)⟩
  refine go ?_
  refine c_if (fun h4 => ?_) (fun h4 => ?_)
  · have haL : a < (cs.map (Value.int .u8)).length := by rw [List.length_map]; omega
    have hra : Pc.rowAt vc (cs.map (Value.int .u8)) a = .int .u8 (cs.getD a 0) := by
      have : a < cs.length := by omega
      simp [Pc.rowAt, this]
    have hcr : 0 ≤ cs.getD a 0 ∧ cs.getD a 0 < 256 := by
      have h : a < cs.length := by omega
      have := hcs _ (List.getElem_mem h)
      simpa [h] using this
    refine go ?_
    refine d_region fun w4 he4 hz4 => ?_
    have hS4 := hS3.same (he4.same _ _)
    have hlen4 := hS4.toLen
    rw [List.length_map] at hlen4
    refine dgo ?_
    refine da (v := Pc.rowAt vc (cs.map (Value.int .u8)) a) (h := rs_load_sl (us := cs.map (Value.int .u8)) (by ((try simp only [ev_tmp, ev_const, ev_func, get_put, get_args, get_putL, get_putL_nil, Nat.reduceEqDiff, reduceIte, List.getD_cons_zero, List.getD_cons_succ, List.getD_nil]); first | done | with_reducible rfl)) haL) (next := ?_)
    rw [hra]
    refine da (v := .int .i64 (cs.getD a 0)) (h := ⟨fun _ _ => rd_conv (u := .int .u8) (by ((try simp only [ev_tmp, ev_const, ev_func, get_put, get_args, get_putL, get_putL_nil, Nat.reduceEqDiff, reduceIte, List.getD_cons_zero, List.getD_cons_succ, List.getD_nil]); first | done | with_reducible rfl)) (by kernel_rfl) (by kernel_rfl) (IntWalk.i64_in _ (by omega))⟩) (next := ?_)
    refine dgo ?_
    refine d_end (h := ?_)
    have hB4 : Blk w4 bd [vc, .int .i64 a, .int .u64 h2] := @Blk.ext _ _ _ _ he4 hB3
    have hc4 := hc3.grow he4
    have e1 : Cell w4 bd 1 (.int .i64 a) := hB4.cell rfl
    refine go ?_
    refine st_store_fld (m := 1) (h := hB4) (by ((try simp only [ev_tmp, ev_const, ev_func, get_put, get_args, get_putL, get_putL_nil, Nat.reduceEqDiff, reduceIte, List.getD_cons_zero, List.getD_cons_succ, List.getD_nil]); first | done | with_reducible rfl)) (by ((try simp only [ev_tmp, ev_const, ev_func, get_put, get_args, get_putL, get_putL_nil, Nat.reduceEqDiff, reduceIte, List.getD_cons_zero, List.getD_cons_succ, List.getD_nil]); first | done | with_reducible rfl)) rfl (by simp) (by first | exact True.intro | exact ⟨_, rfl, by ((try simp only [ev_tmp, ev_const, ev_func, get_put, get_args, get_putL, get_putL_nil, Nat.reduceEqDiff, reduceIte, List.getD_cons_zero, List.getD_cons_succ, List.getD_nil, Bool.not_true, Bool.not_false]); first | done | with_reducible rfl)⟩) fun w5 hc5 hz5 hB5 => ?_
    have hB5 : Blk w5 bd [vc, .int .i64 ((a + 1 : Nat) : Int), .int .u64 h2] := hB5
    have hS5 := hS4.same (hc5.same (.inr (Nat.le_refl _)))
    obtain ⟨q1, q2⟩ := fin (y := r + cs.getD a 0) (by omega)
    refine go ?_
    exact ret1 ⟨_, rfl, hc4.trans hc5, ⟨vc, a + 1, h2, lo, cs, hB5, hS5, hcs, by omega, hN, hr.1, hr.2⟩, q1, q2, by omega⟩
  · obtain ⟨q1, q2⟩ := fin (y := r) (by omega)
    refine go ?_
    exact ret1 ⟨_, rfl, hc3, ⟨vc, a, h2, lo, cs, hB3, hS3, hcs, haN, hN, hr.1, hr.2⟩, q1, q2, by omega⟩
set_option maxHeartbeats 4000000 in
/-- Numbers in the range of the orders. -/
theorem draw9_ok {p : Pr} (hv : Valid p) {w : World} {bd : Nat} {vp : Value} {lo hi : Nat} [hp : Pres lo hi w vp p] (hs : Dic w bd) (hbd : hi ≤ bd) :
    Calls Try.prog 11 #[.pointer (some ⟨bd, 0, none⟩), vp] w (Ret fun v w' => ∃ xs : List Int, Chg bd w w' ∧ Dic w' bd ∧ Fr w.heap.size w' v xs ∧ InR p xs) := by
  have hb := hs.lt
  have hn6 := hv.n6
  have hol : p.ord.length = p.n := rfl
  obtain ⟨vo, vpw, vc, ps, cs, css, rfl, h1, h2, h3⟩ := hp.ex
  refine enter (args := [.pointer (some ⟨bd, 0, none⟩), .agg #[vo, vpw, vc]]) (l := [.tmp 4]) Try.func11 rfl rfl Try.ntmps11 (by simp) ?_
  refine go ?_
  refine st_box3 (by ((try simp only [ev_tmp, ev_const, ev_func, get_put, get_args, get_putL, get_putL_nil, Nat.reduceEqDiff, reduceIte, List.getD_cons_zero, List.getD_cons_succ, List.getD_nil]); first | done | with_reducible rfl)) (by first | exact True.intro | exact ⟨_, rfl, by ((try simp only [ev_tmp, ev_const, ev_func, get_put, get_args, get_putL, get_putL_nil, Nat.reduceEqDiff, reduceIte, List.getD_cons_zero, List.getD_cons_succ, List.getD_nil, Bool.not_true, Bool.not_false]); first | done | with_reducible rfl)⟩) fun w1 b he1 hb1 hs1 hc0 hc1 hc2 => ?_
  have hz1 := he1.size
  refine go ?_
  refine st_slice0 (by first | exact True.intro | exact ⟨_, rfl, by ((try simp only [ev_tmp, ev_const, ev_func, get_put, get_args, get_putL, get_putL_nil, Nat.reduceEqDiff, reduceIte, List.getD_cons_zero, List.getD_cons_succ, List.getD_nil, Bool.not_true, Bool.not_false]); first | done | with_reducible rfl)⟩) fun w2 v2 he2 hs2 ho2 => ?_
  have hz2 := he2.size
  have hg2 : GrowI 2 w1.heap.size w2 v2 [] := GrowI.start ho2 (Nat.le_refl _)
  have hE2 := he1.trans he2
  clear ho2
  have ap1 : Apart lo hi bd := ⟨.inr hbd⟩
  have ap2 : Apart b (b + 1) bd := ⟨.inl (by omega)⟩
  refine go ?_
  refine r_for p.n (fun k ρ w' => ∃ (vl : Value) (xs : List Int), Has ρ [(0, .pointer (some ⟨bd, 0, none⟩)), (3, .pointer (some ⟨b, 0, none⟩)), (5, vl), (6, .int .i64 k)] ∧ Chg bd w1 w' ∧ Dic w' bd ∧ GrowI 2 w1.heap.size w' vl xs ∧ xs.length = k ∧ ∀ i, i < k → 0 ≤ xs.getD i 0 ∧ xs.getD i 0 < p.o i) ?_ ?_
  · refine ⟨v2, [], ?_, Chg.ofExt he2, hs.ext hE2, hg2, rfl, fun i hi => by omega⟩
    exact hasP
  clear hg2
  rintro k ρ w3 hk ⟨vl, xs, hH, hc3, hs3, hg3, hxl, hxr⟩
  refine rwp_has hH fun ρ0 => ?_
  have hz3 := hc3.size
  have k0 : Cell w3 b 0 vo := hc0.same (hc3.same (.inl (by omega))) hc3.size
  have hi3 : Ints lo hi w3 vo p.ord := (h1.same (he1.same _ _)).same (hc3.same (.inr hbd))
  refine go ?_
  refine c_if (fun h4 => ?_) (fun h4 => ?_)
  · have hkn : k < p.n := by omega
    have hod := hv.opos hkn
    have hoe : p.ord.getD k 0 = p.o k := rfl
    refine go ?_
    refine ra (h := rd_max9 (by ((try simp only [ev_tmp, ev_const, ev_func, get_put, get_args, get_putL, get_putL_nil, Nat.reduceEqDiff, reduceIte, List.getD_cons_zero, List.getD_cons_succ, List.getD_nil]); first | done | with_reducible rfl)) (by ((try simp only [ev_tmp, ev_const, ev_func, get_put, get_args, get_putL, get_putL_nil, Nat.reduceEqDiff, reduceIte, List.getD_cons_zero, List.getD_cons_succ, List.getD_nil]); first | done | with_reducible rfl))) (next := ?_)
    rw [if_pos (by rw [hoe]; omega)]
    refine rc (below_ok (n := p.ord.getD k 0) hs3 (by rw [hoe]; omega)) (next := fun v4 w4 h4 => ?_)
    obtain ⟨m, rfl, hc4, hs4, hm0, hm1, hz4⟩ := h4
    have hg4 : GrowI 2 w1.heap.size w4 vl xs := src_growI hg3 hc4 (by omega)
    have hlt : ∀ g, vl.ownBlock = some g → w1.heap.size ≤ g := fun g hg => (hg4.own.lt g hg).1
    refine go ?_
    refine st_growi hg4 (by omega) (by omega) (next := fun v5 v6 w6 hg6 hx6 hz6 hst6 => ?_)
    refine go ?_
    refine forQ_normal (by omega) ⟨v6, xs ++ [m], ?_, (hc3.trans hc4).gstep hst6 (fun g hg => hlt g hg), hs4.wr hst6.wrt (fun g hg => by have := hlt g hg; omega), hg6, by simp [hxl], fun i hi => ?_⟩
    · exact hasP
    · by_cases e : i < k
      · rw [getD_app1 _ _ _ (by omega)]; exact hxr i e
      · obtain rfl : i = k := by omega
        rw [getD_app2 _ _ _ (by omega), hxl, Nat.sub_self]
        exact ⟨hm0, by rw [← hoe]; exact hm1⟩
  · obtain rfl : k = p.n := by omega
    refine go ?_
    exact ret1 ⟨xs, (Chg.ofExt he1).trans hc3, hs3, hg3.fr.mono hz1, ⟨hxl, hxr⟩⟩
end Go.Proofs.Ytcglplinebncgaa
