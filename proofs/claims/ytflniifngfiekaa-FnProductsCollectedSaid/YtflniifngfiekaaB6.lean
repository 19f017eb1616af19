/-
  Texts of one proof, put together by program: W67, W68, Ow6, W69, W70, W71, I03, I08d, I08e, I12e, I14, I16, I15, I13, I17, I18, I20, Fun, I19, I23, Per, I24, Con, Quo, Aut, Cls, Num, Ctr, W20, W23, W27, W72, I54, Big, I30.
  Conditions: those told at each part.
-/
import Derived.Test.YtflniifngfiekaaB5
set_option linter.unusedVariables false
set_option linter.unusedSimpArgs false
set_option linter.unusedSectionVars false
set_option linter.constructorNameAsVariable false
set_option linter.unnecessarySimpa false
set_option linter.deprecated false
/-
  Walk: the reference's l07Group.
  Conditions: stated at the theorem.
-/
namespace Go.Pc
open Go Go.RowKit
section
variable {P : Program} {N : Nat} {ops : Array Oper} {π : List Nat} {S : World → Prop} {K : Env → World → Prop} {ρ : Env} {w : World}
variable {i : Nat} {ty : TypeId} {pos : String} {after : Array Edge} {g : Option (Nat × Bool)}
/-- The store of a struct, the last operation of a drawn region. -/
theorem l_store_agg {t b n : Nat} {x y : Operand} {cs vs : List Value} [hp : StructT P t n] (hb : Blk w b cs) (hn0 : n = vs.length) (hc : cs.length = vs.length) (h1 : vs.all (·.oneCell') = true)
    (next : ∀ w', Chg b w w' → w'.heap.size = w.heap.size → Blk w' b vs → K ρ w')
    (hi : opAt ops π i = some ⟨none, .store t x y, ty, pos, after, g⟩ := by exact rfl) (hx : ev ρ x = .pointer (some ⟨b, 0, none⟩) := by ((try simp only [ev_tmp, ev_const, ev_func, get_put, get_args, get_putL, get_putL_nil, Nat.reduceEqDiff, reduceIte, List.getD_cons_zero, List.getD_cons_succ, List.getD_nil]); first | done | with_reducible rfl)) (hy : ev ρ y = .agg vs.toArray := by ((try simp only [ev_tmp, ev_const, ev_func, get_put, get_args, get_putL, get_putL_nil, Nat.reduceEqDiff, reduceIte, List.getD_cons_zero, List.getD_cons_succ, List.getD_nil]); first | done | with_reducible rfl)) (hg : Wants ops ρ g := by first | exact True.intro | exact ⟨_, rfl, by ((try simp only [ev_tmp, ev_const, ev_func, get_put, get_args, get_putL, get_putL_nil, Nat.reduceEqDiff, reduceIte, List.getD_cons_zero, List.getD_cons_succ, List.getD_nil, Bool.not_true, Bool.not_false]); first | done | with_reducible rfl)⟩)
    (hn : nextOk ops π i = true := by decide +kernel) (hl : lastOf ops π = some (π.getD i 0) := by decide +kernel) (hd : doneOk ops π (i + 1) = true := by decide +kernel) : dops P N ops π S K i ρ w := by
  obtain ⟨w', hw, hC, hs, hB⟩ := wr_agg (P := P) (t := t) (ty := ty) hb hx hy hn0 hc h1
  exact dt_lastw hi hn hl hd hg hw (next w' hC hs hB)
end
end Go.Pc
namespace Go.Proofs.Ytflniifngfiekaa
open Go Go.Pc
/-- A drawn group: a presentation of at most six generators. -/
def GrpR (bs : Nat) (w : World) (v : Value) (w' : World) : Prop := ∃ ord, Chg bs w w' ∧ Src w' bs ∧ NewP w.heap.size w' v ord ∧ Few 6 ord
theorem valid_few {ord : List Int} {rp : RL} {gs : List (Value × RL)} (h : Valid (prOf ord rp gs)) : Few 6 ord := ⟨h.n6, fun e he => by
  obtain ⟨i, hi, rfl⟩ := List.getElem_of_mem he
  have := h.prime i hi
  have e : (prOf ord rp gs).o i = ord[i] := by show ord.getD i 0 = _; simp [hi]
  rw [e] at this
  exact this⟩
set_option maxHeartbeats 16000000 in
theorem l07Group_ok {w : World} {bs : Nat} {m : Int} (hs : Src w bs) :
    Calls Try.prog 43 #[.pointer (some ⟨bs, 0, none⟩), .int .i64 m] w (Ret fun v w' => GrpR bs w v w') := by
  have hbs := hs.lt
  refine enter (args := [.pointer (some ⟨bs, 0, none⟩), .int .i64 m]) (l := [.cell 4 28]) Try.func43 rfl rfl Try.ntmps43 (by simp) ?_
  refine go ?_
  refine st_alloc (by first | exact True.intro | exact ⟨_, rfl, by ((try simp only [ev_tmp, ev_const, ev_func, get_put, get_args, get_putL, get_putL_nil, Nat.reduceEqDiff, reduceIte, List.getD_cons_zero, List.getD_cons_succ, List.getD_nil, Bool.not_true, Bool.not_false]); first | done | with_reducible rfl)⟩) fun w1 br he1 hbr hs1 hbk1 => ?_
  have hz1 := he1.size
  refine go ?_
  refine r_for 12 (fun i ρ w' => Has ρ [(0, .pointer (some ⟨bs, 0, none⟩)), (1, .int .i64 m), (4, .pointer (some ⟨br, 0, none⟩)), (5, .int .i64 i)] ∧ Chg bs w w' ∧ Src w' bs ∧ Blk w' br [nilv, nilv, nilv] ∧ w1.heap.size ≤ w'.heap.size) ?_ ?_
  · refine ⟨?_, Chg.ofExt he1, hs.ext he1, hbk1, Nat.le_refl _⟩
    exact hasP
  rintro i ρ w2 hi ⟨hH, hC2, hs2, hbk2, hz2⟩
  refine rwp_has hH fun ρ0 => ?_
  refine go ?_
  refine c_if (fun h3 => ?_) (fun h3 => ?_)
  · refine go ?_
    refine rc (l07Family_ok hs2) (next := fun v3 w3 h => ?_)
    obtain ⟨ord, hc3, hs3, hN3, hF3⟩ := h
    obtain ⟨vo, vp, vc, rp, gs, rfl, hO3, hS3⟩ := hN3.ex
    have hz3 := hc3.size
    have hbk3 : Blk w3 br [nilv, nilv, nilv] := hbk2.wr (.one (B := fun g => g = bs) rfl hc3) fun e => by omega
    refine go ?_
    refine st_alloc (by first | exact True.intro | exact ⟨_, rfl, by ((try simp only [ev_tmp, ev_const, ev_func, get_put, get_args, get_putL, get_putL_nil, Nat.reduceEqDiff, reduceIte, List.getD_cons_zero, List.getD_cons_succ, List.getD_nil, Bool.not_true, Bool.not_false]); first | done | with_reducible rfl)⟩) fun w4 bp he4 hbp hs4 hbk4 => ?_
    refine st_store_agg (vs := [vo, vp, vc]) (cs := _) (hb := hbk4) (by ((try simp only [ev_tmp, ev_const, ev_func, get_put, get_args, get_putL, get_putL_nil, Nat.reduceEqDiff, reduceIte, List.getD_cons_zero, List.getD_cons_succ, List.getD_nil]); first | done | with_reducible rfl)) (by ((try simp only [ev_tmp, ev_const, ev_func, get_put, get_args, get_putL, get_putL_nil, Nat.reduceEqDiff, reduceIte, List.getD_cons_zero, List.getD_cons_succ, List.getD_nil]); first | done | with_reducible rfl)) rfl rfl hO3.one3 (by first | exact True.intro | exact ⟨_, rfl, by ((try simp only [ev_tmp, ev_const, ev_func, get_put, get_args, get_putL, get_putL_nil, Nat.reduceEqDiff, reduceIte, List.getD_cons_zero, List.getD_cons_succ, List.getD_nil, Bool.not_true, Bool.not_false]); first | done | with_reducible rfl)⟩) fun w5 hc5 hs5 hB5 => ?_
    have hx5 : Ext w3 w5 := hc5.ext he4 (by omega)
    have hP5 : PBx w2.heap.size w5 bp ord := PBx.start hO3 hS3 he4 (.inr (by omega)) hc5 hB5 (Nat.le_refl _)
    have hz5 := hx5.size
    clear hO3 hS3 hB5 hbk4 hN3
    refine go ?_
    refine rc (l01Next_ok (n := 3) (hs3.ext hx5)) (next := fun v6 w6 h6 => ?_)
    obtain ⟨k6, rfl, hc6, hs6, hk60, hk61, hz6⟩ := h6
    have hC6 : Chg bs w w6 := ((hC2.trans hc3).grow hx5).trans hc6
    have hbk6 : Blk w6 br [nilv, nilv, nilv] := (@Blk.ext _ _ _ _ hx5 hbk3).wr (.one (B := fun g => g = bs) rfl hc6) fun e => by omega
    have hP6 := hP5.chg hc6 (by omega) (by omega)
    refine go ?_
    refine r_mid (fun ρ w' => ∃ ord, Has ρ [(0, .pointer (some ⟨bs, 0, none⟩)), (1, .int .i64 m), (4, .pointer (some ⟨br, 0, none⟩)), (5, .int .i64 i), (6, .pointer (some ⟨bp, 0, none⟩))] ∧ Chg bs w w' ∧ Src w' bs ∧ Blk w' br [nilv, nilv, nilv] ∧ w1.heap.size ≤ w'.heap.size ∧ PBx w2.heap.size w' bp ord ∧ Few 36 ord) ?_ ?_
    · refine c_if (fun h7 => ?_) (fun h7 => ?_)
      · obtain ⟨xo, xp, xc, rq, gq, hB6, hO6, hS6⟩ := hP6.ex
        have c0 : Cell w6 bp 0 xo := hB6.cell rfl
        have c1 : Cell w6 bp 1 xp := hB6.cell rfl
        have c2 : Cell w6 bp 2 xc := hB6.cell rfl
        have hb6 := hB6.lt
        have hpr6 := hO6.pres
        have ap1 : Apart bp (bp + 1) bs := ⟨by omega⟩
        refine go ?_
        refine z_order bs (List.range 5) (h := fun w7 he7 _ => ?_)
        have hz7 := he7.size
        refine zgo ?_
        refine zcc (l07Family_ok (hs6.ext he7)) (hR := by rintro _ _ ⟨_, h, _⟩; exact h) (next := fun v8 w8 h => ?_)
        obtain ⟨ord8, hc8, hs8, hN8, hF8⟩ := h
        obtain ⟨yo, yp, yc, r8, g8, rfl, hO8, hS8⟩ := hN8.ex
        have hz8 := hc8.size
        have hpr8 : Pres w2.heap.size w6.heap.size w8 (.agg #[xo, xp, xc]) (prOf ord rq gq) := (hpr6.same (he7.same _ _)).same (hc8.same (.inl (by omega)))
        have hq8 := hO8.pres
        refine zcc (l07Both_ok (p := prOf ord rq gq) (q := prOf ord8 r8 g8) hS6.shP hS8.shP (by have := hF3.1; exact Nat.le_trans this (by omega)) (by have := hF8.1; exact Nat.le_trans this (by omega))) (hR := fun _ _ h => Chg.ofExt h.1) (next := fun v9 w9 h => ?_)
        obtain ⟨he9, hN9⟩ := h
        obtain ⟨zo, zp, zc', r9, g9, rfl, hO9, hS9⟩ := hN9.ex
        have hz9 := he9.size
        have hB9 : Blk w9 bp [xo, xp, xc] := @Blk.ext _ _ _ _ he9 ((@Blk.ext _ _ _ _ he7 hB6).wr (.one (B := fun g => g = bs) rfl hc8) fun e => by omega)
        have hC9 : Chg bs w w9 := ((hC6.grow he7).trans hc8).grow he9
        have hbk9 : Blk w9 br [nilv, nilv, nilv] := @Blk.ext _ _ _ _ he9 ((@Blk.ext _ _ _ _ he7 hbk6).wr (.one (B := fun g => g = bs) rfl hc8) fun e => by omega)
        refine l_store_agg (vs := [zo, zp, zc']) hB9 rfl rfl hO9.one3 (next := fun w10 hc10 hs10 hB10 => ?_)
        refine ⟨rfl, _, ?_, hC9.app1 hc10 (by omega), (hs8.ext he9).wr (.one (B := fun g => g = bp) rfl hc10) (fun b hb => by omega), hbk9.wr (.one (B := fun g => g = bp) rfl hc10) (fun e => by omega), by omega, PBx.start hO9 hS9 (Ext.refl _) (.inl (by omega)) hc10 hB10 (by omega), Few.app (n := 18) (m := 18) hF3 hF8⟩
        exact hasP
      · refine go ?_
        refine ⟨rfl, ord, ?_, hC6, hs6, hbk6, by omega, hP6, hF3.mono (by omega)⟩
        exact hasP
    clear hP5 hP6 hC6 hbk6 hs6 hc6 hz6
    rintro ρ w6 ⟨ord, hH, hC6, hs6, hbk6, hz6, hP6, hF6⟩
    refine thn_normal (rwp_has hH fun ρ1 => ?_)
    obtain ⟨xo, xp, xc, rq, gq, hB6, hO6, hS6⟩ := hP6.ex
    have c0 : Cell w6 bp 0 xo := hB6.cell rfl
    have c1 : Cell w6 bp 1 xp := hB6.cell rfl
    have c2 : Cell w6 bp 2 xc := hB6.cell rfl
    have hpr6 := hO6.pres
    have hfl := hF6.1
    have hol : (prOf ord rq gq).ord.length = ord.length := rfl
    refine go ?_
    refine rc (spec_IsPresentation_ok (p := prOf ord rq gq) (by omega)) (next := fun v8 w8 h => ?_)
    obtain ⟨b8, rfl, hb8, he8⟩ := h
    have hC8 := hC6.grow he8
    have hs8 := hs6.ext he8
    have hbk8 : Blk w8 br [nilv, nilv, nilv] := @Blk.ext _ _ _ _ he8 hbk6
    have hz8 := he8.size
    have hi8 : Ints _ _ w8 xo ord := (hO6.ext he8).ints
    refine go ?_
    refine sp (fun q1 => ?_) (fun q1 => ?_)
    · have hval : Valid (prOf ord rq gq) := hb8.1 q1
      refine go ?_
      refine rc (l07Product_ok (xs := ord) (fun o ho => by have := (hF6.2 o ho).le; omega) (by omega)) (next := fun v9 w9 h => ?_)
      obtain ⟨rfl, he9⟩ := h
      have hC9 := hC8.grow he9
      have hs9 := hs8.ext he9
      have hbk9 : Blk w9 br [nilv, nilv, nilv] := @Blk.ext _ _ _ _ he9 hbk8
      have hO9 := hO6.ext (he8.trans he9)
      have hz9 := he9.size
      refine go ?_
      refine c_if (fun q2 => ?_) (fun q2 => ?_)
      · refine go ?_
        refine st_store_agg (vs := [xo, xp, xc]) (cs := _) (hb := hbk9) (by ((try simp only [ev_tmp, ev_const, ev_func, get_put, get_args, get_putL, get_putL_nil, Nat.reduceEqDiff, reduceIte, List.getD_cons_zero, List.getD_cons_succ, List.getD_nil]); first | done | with_reducible rfl)) (by ((try simp only [ev_tmp, ev_const, ev_func, get_put, get_args, get_putL, get_putL_nil, Nat.reduceEqDiff, reduceIte, List.getD_cons_zero, List.getD_cons_succ, List.getD_nil]); first | done | with_reducible rfl)) rfl rfl hO9.one3 (by first | exact True.intro | exact ⟨_, rfl, by ((try simp only [ev_tmp, ev_const, ev_func, get_put, get_args, get_putL, get_putL_nil, Nat.reduceEqDiff, reduceIte, List.getD_cons_zero, List.getD_cons_succ, List.getD_nil, Bool.not_true, Bool.not_false]); first | done | with_reducible rfl)⟩) fun wz hcz hsz hBz => ?_
        refine go ?_
        exact retc (b := br) (hb := hBz) ⟨ord, hC9.app1 hcz (by omega), hs9.wr (.one (B := fun g => g = br) rfl hcz) (fun b hb => by omega), NewP.of (((hO9.chg hcz (.inr (by omega))).weak (fun b hb => hb.elim)).mono (by omega)) hS6, (valid_few hval)⟩ rfl
      · refine go ?_
        refine forQ_normal (by omega) ⟨?_, hC9, hs9, hbk9, by omega⟩
        exact hasP
    · refine go ?_
      refine forQ_normal (by omega) ⟨?_, hC8, hs8, hbk8, by omega⟩
      exact hasP
  · refine go ?_
    refine st_sliceN (us := [.int .i64 2]) (next := fun w6 v6 he6 hz6 ho6 => ?_)
    have ho6' : OwnI 2 w2.heap.size w6 v6 [2] := ⟨ho6⟩
    have hi6 := (ho6'.toFr (Nat.le_refl _)).ints
    refine go ?_
    refine rc (l07Trivial_ok (xs := [2]) (by simp)) (next := fun v7 w7 h => ?_)
    obtain ⟨vo7, vp7, vc7, rp7, gs7, rfl, he7, hO7, hS7⟩ := h
    have hbk7 : Blk w7 br [nilv, nilv, nilv] := @Blk.ext _ _ _ _ (he6.trans he7) hbk2
    refine st_store_agg (vs := [vo7, vp7, vc7]) (cs := _) (hb := hbk7) (by ((try simp only [ev_tmp, ev_const, ev_func, get_put, get_args, get_putL, get_putL_nil, Nat.reduceEqDiff, reduceIte, List.getD_cons_zero, List.getD_cons_succ, List.getD_nil]); first | done | with_reducible rfl)) (by ((try simp only [ev_tmp, ev_const, ev_func, get_put, get_args, get_putL, get_putL_nil, Nat.reduceEqDiff, reduceIte, List.getD_cons_zero, List.getD_cons_succ, List.getD_nil]); first | done | with_reducible rfl)) rfl rfl hO7.one3 (by first | exact True.intro | exact ⟨_, rfl, by ((try simp only [ev_tmp, ev_const, ev_func, get_put, get_args, get_putL, get_putL_nil, Nat.reduceEqDiff, reduceIte, List.getD_cons_zero, List.getD_cons_succ, List.getD_nil, Bool.not_true, Bool.not_false]); first | done | with_reducible rfl)⟩) fun wz hcz hsz hBz => ?_
    refine go ?_
    have hx7 := he6.trans he7
    exact retc (b := br) (hb := hBz) ⟨[2], (hC2.grow hx7).app1 hcz (by omega), (hs2.ext hx7).wr (.one (B := fun g => g = br) rfl hcz) (fun b hb => by omega), NewP.of (((hO7.chg hcz (.inr (by omega))).weak (fun b hb => hb.elim)).mono (by omega)) hS7, by simp, fun e he => .inl (by simpa using he)⟩ rfl
end Go.Proofs.Ytflniifngfiekaa

/-
  Walks: the reference's l07Turn.
  Conditions: stated at each theorem.
-/
namespace Go.Proofs.Ytflniifngfiekaa
open Go Go.Pc
/-- A drawn presentation: its lists are short. -/
def DrwR (bs : Nat) (w : World) (v : Value) (w' : World) : Prop := ∃ p, Chg bs w w' ∧ Src w' bs ∧ Pres w.heap.size w'.heap.size w' v p ∧ SizeP p 30
set_option maxHeartbeats 16000000 in
theorem l07Turn_ok {w : World} {bs lo hi : Nat} {vp : Value} {p : Pr} [hp : Pres lo hi w vp p] (hs : Src w bs) (hsh : ShP p) (hn6 : p.ord.length ≤ 6) (hbs : bs < lo) :
    Calls Try.prog 29 #[.pointer (some ⟨bs, 0, none⟩), vp] w (Ret fun v w' => DrwR bs w v w') := by
  have hb := hs.lt
  obtain ⟨vo, vpw, vc, ps, cs, css, rfl, h1, h2, h3⟩ := hp.ex
  refine enter (args := [.pointer (some ⟨bs, 0, none⟩), .agg #[vo, vpw, vc]]) (l := [.cell 4 28]) Try.func29 rfl rfl Try.ntmps29 (by simp) ?_
  refine go ?_
  refine st_box3 (by ((try simp only [ev_tmp, ev_const, ev_func, get_put, get_args, get_putL, get_putL_nil, Nat.reduceEqDiff, reduceIte, List.getD_cons_zero, List.getD_cons_succ, List.getD_nil]); first | done | with_reducible rfl)) (by first | exact True.intro | exact ⟨_, rfl, by ((try simp only [ev_tmp, ev_const, ev_func, get_put, get_args, get_putL, get_putL_nil, Nat.reduceEqDiff, reduceIte, List.getD_cons_zero, List.getD_cons_succ, List.getD_nil, Bool.not_true, Bool.not_false]); first | done | with_reducible rfl)⟩) fun w1 b he1 hb1 hs1 hc0 hc1 hc2 => ?_
  refine st_alloc (by first | exact True.intro | exact ⟨_, rfl, by ((try simp only [ev_tmp, ev_const, ev_func, get_put, get_args, get_putL, get_putL_nil, Nat.reduceEqDiff, reduceIte, List.getD_cons_zero, List.getD_cons_succ, List.getD_nil, Bool.not_true, Bool.not_false]); first | done | with_reducible rfl)⟩) fun w2 br he2 hbr hs2 hbk2 => ?_
  have hE2 := he1.trans he2
  have hz2 := hE2.size
  have hp2 : Pres lo hi w2 (.agg #[vo, vpw, vc]) p := hp.same (hE2.same _ _)
  refine go ?_
  refine rc (l07OwnT_ok (p := p) (hsh.sizeP (by omega)) hsh) (next := fun v3 w3 h => ?_)
  obtain ⟨he3, hN3⟩ := h
  obtain ⟨qo, qp, qc, rp, gs, rfl, hO3, hS3⟩ := hN3.ex
  have hz3 := he3.size
  refine go ?_
  refine st_alloc (by first | exact True.intro | exact ⟨_, rfl, by ((try simp only [ev_tmp, ev_const, ev_func, get_put, get_args, get_putL, get_putL_nil, Nat.reduceEqDiff, reduceIte, List.getD_cons_zero, List.getD_cons_succ, List.getD_nil, Bool.not_true, Bool.not_false]); first | done | with_reducible rfl)⟩) fun w4 bp he4 hbp hs4 hbk4 => ?_
  have hz4 := he4.size
  refine st_store_agg (vs := [qo, qp, qc]) (cs := _) (hb := hbk4) (by ((try simp only [ev_tmp, ev_const, ev_func, get_put, get_args, get_putL, get_putL_nil, Nat.reduceEqDiff, reduceIte, List.getD_cons_zero, List.getD_cons_succ, List.getD_nil]); first | done | with_reducible rfl)) (by ((try simp only [ev_tmp, ev_const, ev_func, get_put, get_args, get_putL, get_putL_nil, Nat.reduceEqDiff, reduceIte, List.getD_cons_zero, List.getD_cons_succ, List.getD_nil]); first | done | with_reducible rfl)) rfl rfl hO3.one3 (by first | exact True.intro | exact ⟨_, rfl, by ((try simp only [ev_tmp, ev_const, ev_func, get_put, get_args, get_putL, get_putL_nil, Nat.reduceEqDiff, reduceIte, List.getD_cons_zero, List.getD_cons_succ, List.getD_nil, Bool.not_true, Bool.not_false]); first | done | with_reducible rfl)⟩) fun w5 hc5 hs5 hB5 => ?_
  have hx5 : Ext w2 w5 := hc5.ext (he3.trans he4) (by omega)
  have hO5 : O3 (fun g => g = bp) w2.heap.size w5 qo qp qc p.ord rp gs := ((hO3.weak (Y := fun g => g = bp) (fun g e => .inr (.inr (by omega)))).ext he4).chg hc5 (.inl rfl)
  have hs5' := hs.ext (hE2.trans hx5)
  have hbk5 : Blk w5 br [nilv, nilv, nilv] := @Blk.ext _ _ _ _ hx5 hbk2
  have c0 : Cell w5 bp 0 qo := hB5.cell rfl
  have hi5 := hO5.ints
  have hz5 := hx5.size
  clear hO3 hbk4 hN3
  refine go ?_
  refine rc (l01Next_ok (n := (p.ord.length : Int)) hs5') (next := fun v6 w6 h6 => ?_)
  obtain ⟨i, rfl, hc6, hs6, hi0, hi1, hz6⟩ := h6
  obtain ⟨i, rfl⟩ : ∃ m : Nat, i = m := ⟨i.toNat, by omega⟩
  refine go ?_
  refine rc (l01Next_ok (n := (p.ord.length : Int) - 1 - i) hs6) (next := fun v7 w7 h7 => ?_)
  obtain ⟨j, rfl, hc7, hs7, hj0, hj1, hz7⟩ := h7
  obtain ⟨j, rfl⟩ : ∃ m : Nat, j = m := ⟨j.toNat, by omega⟩
  have hc57 := hc6.trans hc7
  have hO7 := hO5.chg hc57 (.inr (by omega))
  have hB7 : Blk w7 bp [qo, qp, qc] := hB5.wr (.one (B := fun g => g = bs) rfl hc57) fun e => by omega
  have hbk7 : Blk w7 br [nilv, nilv, nilv] := hbk5.wr (.one (B := fun g => g = bs) rfl hc57) fun e => by omega
  have hC7 : Chg bs w w7 := (Chg.ofExt (hE2.trans hx5)).trans hc57
  clear c0 hi5
  have fin : ∀ {wa wb : World} {xo xp xc : Value} {rq : RL} {gq : List (Value × RL)}, Chg bs w wa → Src wa bs → O3 (fun g => g = bp) w2.heap.size wa xo xp xc p.ord rq gq → Sh3 p.ord rq gq → Chg br wa wb → DrwR bs w (.agg #[xo, xp, xc]) wb := fun hC hS hO hS3 hc =>
    ⟨prOf p.ord _ _, hC.app1 hc (by omega), hS.wr (.one (B := fun g => g = br) rfl hc) (fun b hb => by omega), (((hO.chg hc (.inr (by omega))).pres).mono (by omega) (Nat.le_refl _)), hS3.shP.sizeP (by show (p.ord.length : Int) ≤ 30; omega)⟩
  refine go ?_
  refine c_if (fun q1 => ?_) (fun q1 => ?_)
  · refine go ?_
    refine ra (v := .agg #[qo, qp, qc]) (h := rd_load_blk (hb := hB7) (by ((try simp only [ev_tmp, ev_const, ev_func, get_put, get_args, get_putL, get_putL_nil, Nat.reduceEqDiff, reduceIte, List.getD_cons_zero, List.getD_cons_succ, List.getD_nil]); first | done | with_reducible rfl)) rfl) (next := ?_)
    refine st_store_agg (vs := [qo, qp, qc]) (cs := _) (hb := hbk7) (by ((try simp only [ev_tmp, ev_const, ev_func, get_put, get_args, get_putL, get_putL_nil, Nat.reduceEqDiff, reduceIte, List.getD_cons_zero, List.getD_cons_succ, List.getD_nil]); first | done | with_reducible rfl)) (by ((try simp only [ev_tmp, ev_const, ev_func, get_put, get_args, get_putL, get_putL_nil, Nat.reduceEqDiff, reduceIte, List.getD_cons_zero, List.getD_cons_succ, List.getD_nil]); first | done | with_reducible rfl)) rfl rfl hO7.one3 (by first | exact True.intro | exact ⟨_, rfl, by ((try simp only [ev_tmp, ev_const, ev_func, get_put, get_args, get_putL, get_putL_nil, Nat.reduceEqDiff, reduceIte, List.getD_cons_zero, List.getD_cons_succ, List.getD_nil, Bool.not_true, Bool.not_false]); first | done | with_reducible rfl)⟩) fun wz hcz hsz hBz => ?_
    refine go ?_
    exact retc (b := br) (hb := hBz) (fin hC7 hs7 hO7 hS3 hcz) rfl
  refine go ?_
  refine rc (l01Next_ok (n := 3) hs7) (next := fun v8 w8 h8 => ?_)
  obtain ⟨k8, rfl, hc8, hs8, hk80, hk81, hz8⟩ := h8
  have hO8 := hO7.chg hc8 (.inr (by omega))
  have hB8 : Blk w8 bp [qo, qp, qc] := hB7.wr (.one (B := fun g => g = bs) rfl hc8) fun e => by omega
  have hbk8 : Blk w8 br [nilv, nilv, nilv] := hbk7.wr (.one (B := fun g => g = bs) rfl hc8) fun e => by omega
  have hC8 := hC7.trans hc8
  clear hO7 hB7 hbk7 hC7
  have c0 : Cell w8 bp 0 qo := hB8.cell rfl
  have c1 : Cell w8 bp 1 qp := hB8.cell rfl
  have c2 : Cell w8 bp 2 qc := hB8.cell rfl
  have ap1 : Apart bp (bp + 1) bs := ⟨by omega⟩
  have ap2 : Apart w2.heap.size w8.heap.size bs := ⟨.inl (by omega)⟩
  have hi8 := hO8.ints
  have hb8 := hB8.lt
  refine go ?_
  refine c_if (fun q2 => ?_) (fun q2 => ?_)
  · have hri : i < rp.length := by have := hS3.lp; omega
    have hr8 := hO8.rows
    have hrl : (rp.map (·.2)).length = p.ord.length := by rw [List.length_map]; exact hS3.lp
    have hri2 : ((rp.map (·.2)).getD i []).length = p.ord.length := by
      have := hS3.lr _ (List.getElem_mem hri)
      simpa [hri] using this
    refine go ?_
    refine z_order bs (List.range 15) (h := fun w9 he9 _ => ?_)
    refine zgo ?_
    refine zcc (l01Next_ok (hs8.ext he9)) (hR := by rintro _ _ ⟨_, _, h, _⟩; exact h) (next := fun v10 w10 h10 => ?_)
    obtain ⟨k10, rfl, hc10, hs10, hk100, hk101, hz10⟩ := h10
    refine zgo ?_
    have hC10 : Chg bs w w10 := (hC8.grow he9).trans hc10
    have hO10 := (hO8.ext he9).chg hc10 (.inr (by omega))
    have hB10 : Blk w10 bp [qo, qp, qc] := (@Blk.ext _ _ _ _ he9 hB8).wr (.one (B := fun g => g = bs) rfl hc10) fun e => by omega
    have hbk10 : Blk w10 br [nilv, nilv, nilv] := (@Blk.ext _ _ _ _ he9 hbk8).wr (.one (B := fun g => g = bs) rfl hc10) fun e => by omega
    have hrx : rp[i].2 ≠ [] := fun e => by
      have := hS3.lr _ (List.getElem_mem hri)
      rw [e] at this
      simp at this
      omega
    have hra : Pc.rowAt qp (rp.map (·.1)) i = rp[i].1 := by simp [Pc.rowAt, hri]
    obtain ⟨e', b', hb', how⟩ := (hO10.tri.p.rows.fr _ (List.getElem_mem hri)).own hrx
    have how2 := how.own
    rw [← hra] at how2
    have hlx : rp[i].2.length = p.ord.length := hS3.lr _ (List.getElem_mem hri)
    refine l_store_val how2 rfl (m := i + 1 + j) (by rw [List.length_map]; omega) (next := fun w11 hc11 hs11 ho11 => ?_)
    rw [hra, ← List.map_set] at ho11
    have hu11 : Fr w2.heap.size w11 rp[i].1 (rp[i].2.set (i + 1 + j) k10) := OwnI.toFr ⟨ho11⟩ hb'
    have hO11 := hO10.rowP hri hrx how.block hc11 hu11
    have hS11 : Sh3 p.ord (rp.set i (rp[i].1, rp[i].2.set (i + 1 + j) k10)) gs := hS3.setP (by simp [hlx])
    have hbl := how.lt
    have hnbp : b' ≠ bp := fun e => hO10.off b' (.inr (.inl (.inr ⟨_, List.getElem_mem hri, hrx, how.block⟩))) e
    have hB11 : Blk w11 bp [qo, qp, qc] := hB10.wr (.one (B := fun g => g = b') rfl hc11) fun e => hnbp e.symm
    have hbk11 : Blk w11 br [nilv, nilv, nilv] := hbk10.wr (.one (B := fun g => g = b') rfl hc11) fun e => by omega
    have hC11 : Chg bs w w11 := hC10.app1 hc11 (by omega)
    have hs11' : Src w11 bs := hs10.wr (.one (B := fun g => g = b') rfl hc11) fun b hb => by omega
    refine go ?_
    refine ra (v := .agg #[qo, qp, qc]) (h := rd_load_blk (hb := hB11) (by ((try simp only [ev_tmp, ev_const, ev_func, get_put, get_args, get_putL, get_putL_nil, Nat.reduceEqDiff, reduceIte, List.getD_cons_zero, List.getD_cons_succ, List.getD_nil]); first | done | with_reducible rfl)) rfl) (next := ?_)
    refine st_store_agg (vs := [qo, qp, qc]) (cs := _) (hb := hbk11) (by ((try simp only [ev_tmp, ev_const, ev_func, get_put, get_args, get_putL, get_putL_nil, Nat.reduceEqDiff, reduceIte, List.getD_cons_zero, List.getD_cons_succ, List.getD_nil]); first | done | with_reducible rfl)) (by ((try simp only [ev_tmp, ev_const, ev_func, get_put, get_args, get_putL, get_putL_nil, Nat.reduceEqDiff, reduceIte, List.getD_cons_zero, List.getD_cons_succ, List.getD_nil]); first | done | with_reducible rfl)) rfl rfl hO11.one3 (by first | exact True.intro | exact ⟨_, rfl, by ((try simp only [ev_tmp, ev_const, ev_func, get_put, get_args, get_putL, get_putL_nil, Nat.reduceEqDiff, reduceIte, List.getD_cons_zero, List.getD_cons_succ, List.getD_nil, Bool.not_true, Bool.not_false]); first | done | with_reducible rfl)⟩) fun wz hcz hsz hBz => ?_
    refine go ?_
    exact retc (b := br) (hb := hBz) (fin hC11 hs11' hO11 hS11 hcz) rfl
  clear c0 c1 c2 ap1 ap2 hi8 hb8
  refine go ?_
  refine rc (l01Next_ok (n := (p.ord.length : Int) - 1 - i) hs8) (next := fun v9 w9 h9 => ?_)
  obtain ⟨k, rfl, hc9, hs9, hk0, hk1, hz9⟩ := h9
  obtain ⟨k, rfl⟩ : ∃ m : Nat, k = m := ⟨k.toNat, by omega⟩
  have hO9 := hO8.chg hc9 (.inr (by omega))
  have hB9 : Blk w9 bp [qo, qp, qc] := hB8.wr (.one (B := fun g => g = bs) rfl hc9) fun e => by omega
  have hbk9 : Blk w9 br [nilv, nilv, nilv] := hbk8.wr (.one (B := fun g => g = bs) rfl hc9) fun e => by omega
  have hC9 := hC8.trans hc9
  clear hO8 hB8 hbk8 hC8
  have c0 : Cell w9 bp 0 qo := hB9.cell rfl
  have c2 : Cell w9 bp 2 qc := hB9.cell rfl
  have ap1 : Apart bp (bp + 1) bs := ⟨by omega⟩
  have ap2 : Apart w2.heap.size w9.heap.size bs := ⟨.inl (by omega)⟩
  have hi9 := hO9.ints
  have hb9 := hB9.lt
  have hgi : i < gs.length := by have := hS3.lg; omega
  have hli := hS3.li i hgi
  have hlc := hS3.lenC hgi
  have hgm : (gs.map fun q => q.2.map (·.2)).length = p.ord.length := by rw [List.length_map]; exact hS3.lg
  obtain ⟨K, hK⟩ : ∃ K, i + 1 + k - i - 1 = K := ⟨_, rfl⟩
  have hgk : K < gs[i].2.length := by omega
  have hrs := hO9.rowss
  have hle : (((gs.map fun q => q.2.map (·.2)).getD i []).getD (i + 1 + k - i - 1) []).length = p.ord.length := by
    have := hS3.lc _ (List.getElem_mem hgi) _ (List.getElem_mem hgk)
    rw [hK]
    simpa [hgi, hgk] using this
  refine go ?_
  refine z_order bs (List.range 21) (h := fun w10 he10 _ => ?_)
  refine zgo ?_
  refine zcc (l01Next_ok (hs9.ext he10)) (hR := by rintro _ _ ⟨_, _, h, _⟩; exact h) (next := fun v11 w11 h11 => ?_)
  obtain ⟨k11, rfl, hc11, hs11, hk110, hk111, hz11⟩ := h11
  refine zgo ?_
  have hC11 : Chg bs w w11 := (hC9.grow he10).trans hc11
  have hO11 := (hO9.ext he10).chg hc11 (.inr (by omega))
  have hB11 : Blk w11 bp [qo, qp, qc] := (@Blk.ext _ _ _ _ he10 hB9).wr (.one (B := fun g => g = bs) rfl hc11) fun e => by omega
  have hbk11 : Blk w11 br [nilv, nilv, nilv] := (@Blk.ext _ _ _ _ he10 hbk9).wr (.one (B := fun g => g = bs) rfl hc11) fun e => by omega
  have hlx : gs[i].2[K].2.length = p.ord.length := hS3.lc _ (List.getElem_mem hgi) _ (List.getElem_mem hgk)
  have hrx : gs[i].2[K].2 ≠ [] := fun e => by
    rw [e] at hlx
    simp at hlx
    omega
  have hra : Pc.rowAt (Pc.rowAt qc (gs.map (·.1)) i) ((gs.map fun q => q.2.map (·.1)).getD i []) (i + 1 + k - i - 1) = gs[i].2[K].1 := by
    rw [hK]
    simp [Pc.rowAt, hgi, hgk]
  have hmem : gs[i].2[K] ∈ flat gs := List.mem_flatten.2 ⟨gs[i].2, List.mem_map.2 ⟨gs[i], List.getElem_mem hgi, rfl⟩, List.getElem_mem hgk⟩
  obtain ⟨e', b', hb', how⟩ := (hO11.tri.c.rows.fr _ hmem).own hrx
  have how2 := how.own
  rw [← hra] at how2
  refine l_store_val how2 rfl (m := i + 1 + j) (by rw [List.length_map]; omega) (next := fun w12 hc12 hs12 ho12 => ?_)
  rw [hra, ← List.map_set] at ho12
  have hu12 : Fr w2.heap.size w12 gs[i].2[K].1 (gs[i].2[K].2.set (i + 1 + j) k11) := OwnI.toFr ⟨ho12⟩ hb'
  have hO12 := hO11.rowQ hgi hgk hrx how.block hc12 hu12
  have hS12 : Sh3 p.ord rp (gs.set i (gs[i].1, gs[i].2.set K (gs[i].2[K].1, gs[i].2[K].2.set (i + 1 + j) k11))) := hS3.setC hgi (by simp [hlx])
  have hnbp : b' ≠ bp := fun e => hO11.off b' (.inr (.inr (.inr (.inr ⟨_, hmem, hrx, how.block⟩)))) e
  have hB12 : Blk w12 bp [qo, qp, qc] := hB11.wr (.one (B := fun g => g = b') rfl hc12) fun e => hnbp e.symm
  have hbk12 : Blk w12 br [nilv, nilv, nilv] := hbk11.wr (.one (B := fun g => g = b') rfl hc12) fun e => by omega
  have hC12 : Chg bs w w12 := hC11.app1 hc12 (by omega)
  have hs12' : Src w12 bs := hs11.wr (.one (B := fun g => g = b') rfl hc12) fun b hb => by omega
  refine go ?_
  refine ra (v := .agg #[qo, qp, qc]) (h := rd_load_blk (hb := hB12) (by ((try simp only [ev_tmp, ev_const, ev_func, get_put, get_args, get_putL, get_putL_nil, Nat.reduceEqDiff, reduceIte, List.getD_cons_zero, List.getD_cons_succ, List.getD_nil]); first | done | with_reducible rfl)) rfl) (next := ?_)
  refine st_store_agg (vs := [qo, qp, qc]) (cs := _) (hb := hbk12) (by ((try simp only [ev_tmp, ev_const, ev_func, get_put, get_args, get_putL, get_putL_nil, Nat.reduceEqDiff, reduceIte, List.getD_cons_zero, List.getD_cons_succ, List.getD_nil]); first | done | with_reducible rfl)) (by ((try simp only [ev_tmp, ev_const, ev_func, get_put, get_args, get_putL, get_putL_nil, Nat.reduceEqDiff, reduceIte, List.getD_cons_zero, List.getD_cons_succ, List.getD_nil]); first | done | with_reducible rfl)) rfl rfl hO12.one3 (by first | exact True.intro | exact ⟨_, rfl, by ((try simp only [ev_tmp, ev_const, ev_func, get_put, get_args, get_putL, get_putL_nil, Nat.reduceEqDiff, reduceIte, List.getD_cons_zero, List.getD_cons_succ, List.getD_nil, Bool.not_true, Bool.not_false]); first | done | with_reducible rfl)⟩) fun wz hcz hsz hBz => ?_
  refine go ?_
  exact retc (b := br) (hb := hBz) (fin hC12 hs12' hO12 hS12 hcz) rfl
end Go.Proofs.Ytflniifngfiekaa

/-
  A presentation of the call's own with other lists: a longer list of orders, a number in it, another list of rows among the conjugates; literals and appends in drawn regions whose order is open.
  Conditions: none.
-/
namespace Go.Pc
open Go Go.RowKit
section
variable {P : Program} {N : Nat} {ops : Array Oper} {π : List Nat} {K : Env → World → Prop} {ρ : Env} {w w0 : World}
variable {i : Nat} {d : Nat} {ty : TypeId} {pos : String} {after : Array Edge} {g : Option (Nat × Bool)}
theorem ds_slice1 {t e bytes : Nat} {x : Operand} {u z : Value} [ht : SlT P t e] [he : ElT P e 1 bytes z] (next : ∀ w' v, Ext w w' → w'.heap.size = w.heap.size + 1 → Own e w.heap.size w' v [u] → dops P N ops π (Ext w0) K (i + 1) (put ρ d v) w')
    (hi : opAt ops π i = some ⟨some d, .buildSlice t 1 #[(0, x)], ty, pos, after, g⟩ := by exact rfl) (h : ev ρ x = u := by ((try simp only [ev_tmp, ev_const, ev_func, get_put, get_args, get_putL, get_putL_nil, Nat.reduceEqDiff, reduceIte, List.getD_cons_zero, List.getD_cons_succ, List.getD_nil]); first | done | with_reducible rfl)) (hu : u.cells = #[u] := by rfl) (hz : z.cells = #[z] := by rfl) (hd : d < N := by decide) (hg : Wants ops ρ g := by first | exact True.intro | exact ⟨_, rfl, by ((try simp only [ev_tmp, ev_const, ev_func, get_put, get_args, get_putL, get_putL_nil, Nat.reduceEqDiff, reduceIte, List.getD_cons_zero, List.getD_cons_succ, List.getD_nil, Bool.not_true, Bool.not_false]); first | done | with_reducible rfl)⟩) : dstp P N ops π (Ext w0) K i ρ w := by
  obtain ⟨v, w', hr, he', hs, hsl⟩ := run_slice1o (P := P) (ρ := ρ) (ty := ty) (w := w) (t := t) (ht := ht) (he := he) h hu hz
  exact dstp_ex hi hd hg hr (fun hS => hS.trans he') (next w' v he' hs hsl)
theorem d_slice1 {t e bytes : Nat} {x : Operand} {u z : Value} [ht : SlT P t e] [he : ElT P e 1 bytes z] (next : ∀ w' v, Ext w w' → w'.heap.size = w.heap.size + 1 → Own e w.heap.size w' v [u] → dops P N ops π (Ext w0) K (i + 1) (put ρ d v) w')
    (hi : opAt ops π i = some ⟨some d, .buildSlice t 1 #[(0, x)], ty, pos, after, g⟩ := by exact rfl) (h : ev ρ x = u := by ((try simp only [ev_tmp, ev_const, ev_func, get_put, get_args, get_putL, get_putL_nil, Nat.reduceEqDiff, reduceIte, List.getD_cons_zero, List.getD_cons_succ, List.getD_nil]); first | done | with_reducible rfl)) (hu : u.cells = #[u] := by rfl) (hz : z.cells = #[z] := by rfl) (hn : nextOk ops π i = true := by decide +kernel) (hd : d < N := by decide) (hg : Wants ops ρ g := by first | exact True.intro | exact ⟨_, rfl, by ((try simp only [ev_tmp, ev_const, ev_func, get_put, get_args, get_putL, get_putL_nil, Nat.reduceEqDiff, reduceIte, List.getD_cons_zero, List.getD_cons_succ, List.getD_nil, Bool.not_true, Bool.not_false]); first | done | with_reducible rfl)⟩) : dops P N ops π (Ext w0) K i ρ w := by
  obtain ⟨v, w', hr, he', hs, hsl⟩ := run_slice1o (P := P) (ρ := ρ) (ty := ty) (w := w) (t := t) (ht := ht) (he := he) h hu hz
  exact dt_ex hi hn hd hg hr (fun hS => hS.trans he') (next w' v he' hs hsl)
theorem ds_make_int {t e n : Nat} {x y : Operand} {k : Int} [ht : SlT P t e] [he : ElT P e 1 8 (.int .i64 0)] [hm : NatOf k n] (h0 : 0 ≤ k) (h1 : k ≤ 17592186044416)
    (next : ∀ w' v, Ext w w' → w'.heap.size = w.heap.size + 1 → OwnI e w.heap.size w' v (List.replicate n 0) → dops P N ops π (Ext w0) K (i + 1) (put ρ d v) w')
    (hi : opAt ops π i = some ⟨some d, .makeSlice t x y, ty, pos, after, g⟩ := by exact rfl) (h : ev ρ x = .int .i64 k := by ((try simp only [ev_tmp, ev_const, ev_func, get_put, get_args, get_putL, get_putL_nil, Nat.reduceEqDiff, reduceIte, List.getD_cons_zero, List.getD_cons_succ, List.getD_nil]); first | done | with_reducible rfl)) (h' : ev ρ y = .int .i64 k := by ((try simp only [ev_tmp, ev_const, ev_func, get_put, get_args, get_putL, get_putL_nil, Nat.reduceEqDiff, reduceIte, List.getD_cons_zero, List.getD_cons_succ, List.getD_nil]); first | done | with_reducible rfl)) (hd : d < N := by decide) (hg : Wants ops ρ g := by first | exact True.intro | exact ⟨_, rfl, by ((try simp only [ev_tmp, ev_const, ev_func, get_put, get_args, get_putL, get_putL_nil, Nat.reduceEqDiff, reduceIte, List.getD_cons_zero, List.getD_cons_succ, List.getD_nil, Bool.not_true, Bool.not_false]); first | done | with_reducible rfl)⟩) : dstp P N ops π (Ext w0) K i ρ w := by
  have hn' : k = (n : Int) := by have := hm.eq; omega
  refine dstp_ex hi hd hg (ex_make (n := n) h h' rfl h0 (by omega) (by omega)) (fun hS => hS.trans (Ext.alloc _ _)) (next _ _ (Ext.alloc _ _) (by simp) ⟨?_⟩)
  have := own_alloc w (List.replicate n (Value.int .i64 0)) e (by simp [maxLen]; omega)
  simpa using this
theorem d_make_int {t e n : Nat} {x y : Operand} {k : Int} [ht : SlT P t e] [he : ElT P e 1 8 (.int .i64 0)] [hm : NatOf k n] (h0 : 0 ≤ k) (h1 : k ≤ 17592186044416)
    (next : ∀ w' v, Ext w w' → w'.heap.size = w.heap.size + 1 → OwnI e w.heap.size w' v (List.replicate n 0) → dops P N ops π (Ext w0) K (i + 1) (put ρ d v) w')
    (hi : opAt ops π i = some ⟨some d, .makeSlice t x y, ty, pos, after, g⟩ := by exact rfl) (h : ev ρ x = .int .i64 k := by ((try simp only [ev_tmp, ev_const, ev_func, get_put, get_args, get_putL, get_putL_nil, Nat.reduceEqDiff, reduceIte, List.getD_cons_zero, List.getD_cons_succ, List.getD_nil]); first | done | with_reducible rfl)) (h' : ev ρ y = .int .i64 k := by ((try simp only [ev_tmp, ev_const, ev_func, get_put, get_args, get_putL, get_putL_nil, Nat.reduceEqDiff, reduceIte, List.getD_cons_zero, List.getD_cons_succ, List.getD_nil]); first | done | with_reducible rfl)) (hn : nextOk ops π i = true := by decide +kernel) (hd : d < N := by decide) (hg : Wants ops ρ g := by first | exact True.intro | exact ⟨_, rfl, by ((try simp only [ev_tmp, ev_const, ev_func, get_put, get_args, get_putL, get_putL_nil, Nat.reduceEqDiff, reduceIte, List.getD_cons_zero, List.getD_cons_succ, List.getD_nil, Bool.not_true, Bool.not_false]); first | done | with_reducible rfl)⟩) : dops P N ops π (Ext w0) K i ρ w := by
  have hn' : k = (n : Int) := by have := hm.eq; omega
  refine dt_ex hi hn hd hg (ex_make (n := n) h h' rfl h0 (by omega) (by omega)) (fun hS => hS.trans (Ext.alloc _ _)) (next _ _ (Ext.alloc _ _) (by simp) ⟨?_⟩)
  have := own_alloc w (List.replicate n (Value.int .i64 0)) e (by simp [maxLen]; omega)
  simpa using this
end
end Go.Pc
namespace Go.Proofs.Ytflniifngfiekaa
open Go Go.Pc
section
variable {X : Nat → Prop} {s b i j lo hi : Nat} {w w0 w1 w2 : World} {v u vo vp vc vo' : Value} {us ut : List Value} {xs ys ord : List Int} {xss : List (List Int)} {rs rp : RL} {gs : List (Value × RL)} {k : Int} {p : Pr}
theorem O3.pushO (h : O3 X s w0 vo vp vc ord rp gs) (x01 : Ext w0 w1) (hG : OwnN 2 s w2 vo' ((ord ++ [k]).map (Value.int .i64))) (hst : Pc.GStep w1 w2 vo vo') (hX : ∀ b, X b → b < w0.heap.size) : O3 X s w2 vo' vp vc (ord ++ [k]) rp gs := by
  refine ⟨h.tri.pushO x01 hG hst, h.sep, fun g hg hx => ?_⟩
  rcases hg with hg | hg
  · rcases hst.new hg with hg | hg
    · exact h.off g (.inl hg) hx
    · have := hX g hx; have := x01.size; omega
  · exact h.off g (.inr hg) hx
theorem O3.setO (h : O3 X s w vo vp vc ord rp gs) (hvb : vo.ownBlock = some b) (c : Chg b w w2) (ho : Own 2 b w2 vo ((ord.set i k).map (Value.int .i64))) : O3 X s w2 vo vp vc (ord.set i k) rp gs := by
  have t := h.tri
  have hl := t.o.lt b hvb
  have kw : Wrt (fun g => g = b) w w2 := .one (B := fun g => g = b) rfl c
  exact ⟨⟨ho.toN.mono hl.1, t.p.wr kw fun g hg e => t.op b hvb (e ▸ hg), t.c.wr kw fun g hg e => t.oc b hvb (e ▸ hg), t.op, t.oc, t.pc, Nat.le_trans t.lo c.size⟩, h.sep, h.off⟩
theorem O3.ownO (h : O3 X s w vo vp vc ord rp gs) (hn : ord ≠ []) : ∃ b, s ≤ b ∧ ¬ X b ∧ vo.ownBlock = some b ∧ Own 2 b w vo (ord.map (Value.int .i64)) := by
  obtain ⟨b, h1, h2, h3⟩ := h.tri.o.toOwn (by simpa using hn)
  exact ⟨b, h1, h.off b (.inl h2), h2, h3⟩
theorem O3.ownG (h : O3 X s w vo vp vc ord rp gs) (hn : gs ≠ []) : ∃ b, s ≤ b ∧ ¬ X b ∧ vc.ownBlock = some b ∧ Own 25 b w vc (gs.map (·.1)) := by
  obtain ⟨b, h1, h2, h3⟩ := h.tri.c.own.toOwn (by simpa using hn)
  exact ⟨b, h1, h.off b (.inr (.inr (.inl h2))), h2, h3⟩
/-- Another list of rows is put among the conjugates. -/
theorem O3.presG (h : O3 X s w0 vo vp vc ord rp gs) (hi : i < gs.length) (hvb : vc.ownBlock = some b) (x : Ext w0 w1) (hu : Pc.Rows w0.heap.size w1.heap.size w1 u ut xss) (c : Chg b w1 w2) (ho : Own 25 b w2 vc ((gs.map (·.1)).set i u)) :
    Pres s w2.heap.size w2 (.agg #[vo, vp, vc]) ⟨ord, rp.map (·.2), (gs.map fun q => q.2.map (·.2)).set i xss⟩ := by
  have t := (h.ext x).tri
  have hb := h.tri.c.own.lt b hvb
  have kw : Wrt (fun g => g = b) w1 w2 := .one (B := fun g => g = b) rfl c
  have hs2 := c.size
  have hs1 := x.size
  have hlo := h.lo
  have hO := t.o.wr kw fun g hg e => t.oc g hg (.inl (e ▸ hvb))
  have hP := t.p.wr kw fun g hg e => t.pc g hg (.inl (e ▸ hvb))
  refine ⟨vo, vp, vc, _, (gs.map (·.1)).set i u, (gs.map fun q => q.2.map (·.1)).set i ut, rfl, hO.toFr.ints, Pc.Rows.ofOwn hP.own hP.rows.fr (by omega), ⟨(ho.toN.mono hb.1).toSl, ⟨by simp, by simp, fun m => ?_⟩⟩⟩
  by_cases hm : m = i
  · subst hm
    have e1 : ((gs.map (·.1)).set m u).getD m nilv = u := by simp [hi]
    have e2 : ((gs.map fun q => q.2.map (·.1)).set m ut).getD m [] = ut := by simp [hi]
    have e3 : ((gs.map fun q => q.2.map (·.2)).set m xss).getD m [] = xss := by simp [hi]
    rw [e1, e2, e3]
    exact (hu.same fun k h1 h2 h3 => c.by_.block k h3 (fun e => by injection e with e; omega)).mono (by omega) hs2
  · have e1 : ((gs.map (·.1)).set i u).getD m nilv = (gs.map (·.1)).getD m nilv := by simp [List.getElem?_set_ne (Ne.symm hm)]
    have e2 : ((gs.map fun q => q.2.map (·.1)).set i ut).getD m [] = (gs.map fun q => q.2.map (·.1)).getD m [] := by simp [List.getElem?_set_ne (Ne.symm hm)]
    have e3 : ((gs.map fun q => q.2.map (·.2)).set i xss).getD m [] = (gs.map fun q => q.2.map (·.2)).getD m [] := by simp [List.getElem?_set_ne (Ne.symm hm)]
    rw [e1, e2, e3]
    by_cases hml : m < gs.length
    · have e1 : (gs.map (·.1)).getD m nilv = gs[m].1 := by simp [hml]
      have e2 : (gs.map fun q => q.2.map (·.1)).getD m [] = gs[m].2.map (·.1) := by simp [hml]
      have e3 : (gs.map fun q => q.2.map (·.2)).getD m [] = gs[m].2.map (·.2) := by simp [hml]
      rw [e1, e2, e3]
      have hq := List.getElem_mem hml
      refine Pc.Rows.ofOwn ((t.c.inn _ hq).wr kw fun g hg e => (t.c.off g (e ▸ hvb)).2 _ hq hg) (fun r hr => ?_) (by omega)
      have hmf : r ∈ flat gs := List.mem_flatten.2 ⟨gs[m].2, List.mem_map.2 ⟨gs[m], hq, rfl⟩, hr⟩
      exact (t.c.rows.fr r hmf).wr kw fun hn g hg e => (t.c.off g (e ▸ hvb)).1 ⟨r, hmf, hn, hg⟩
    · have e1 : (gs.map (·.1)).getD m nilv = nilv := by rw [List.getD_eq_getElem?_getD, List.getElem?_eq_none (by simp; omega)]; rfl
      have e2 : (gs.map fun q => q.2.map (·.1)).getD m [] = [] := by rw [List.getD_eq_getElem?_getD, List.getElem?_eq_none (by simp; omega)]; rfl
      have e3 : (gs.map fun q => q.2.map (·.2)).getD m [] = [] := by rw [List.getD_eq_getElem?_getD, List.getElem?_eq_none (by simp; omega)]; rfl
      rw [e1, e2, e3]
      exact (rows_nilv s w2).mono (Nat.le_refl _) (by omega)
/-- A row is appended to a list of rows, whichever of the two was made first. -/
theorem app_row {e s0 s a c : Nat} {w w' : World} {v v' u : Value} {us : List Value} {xss : List (List Int)} {xs : List Int} (h : Lst e s (· < s) w v us xss) (hs : s0 ≤ s) (hsz : s0 ≤ w.heap.size) (hu : Ints a c w u xs) (ha : s0 ≤ a) (hc : c ≤ w.heap.size) (hoff : ∀ g, v.ownBlock = some g → g < a ∨ c ≤ g) (ho : OwnN e s w' v' (us ++ [u])) (hg : w.grownBy w' v.ownBlock) (hv : v'.ownBlock = v.ownBlock ∨ v'.ownBlock = some w.heap.size) : Pc.Rows s0 w'.heap.size w' v' (us ++ [u]) (xss ++ [xs]) :=
  ((h.low hs hsz).push ⟨a, c, hu, hc, fun g hg => hg.elim (fun hg => .inl (by omega)) (hoff g)⟩ (ho.mono hs) hg hv).newRows
theorem getD_push_len {k : Nat} {l : List (List Int)} {x : List Int} (h : ∀ j, (l.getD j []).length ≤ k) (hx : x.length ≤ k) (j : Nat) : ((l ++ [x]).getD j []).length ≤ k := by
  rcases Nat.lt_trichotomy j l.length with hj | hj | hj
  · have := h j
    simpa [List.getD_eq_getElem?_getD, List.getElem?_append_left hj] using this
  · subst hj; simpa using hx
  · rw [List.getD_eq_getElem?_getD, List.getElem?_eq_none (by simp; omega)]; simp
theorem SizeP.setPow {k : Int} (h : SizeP p k) (hl : (ys.length : Int) ≤ k) : SizeP ⟨p.ord, p.pow.set i ys, p.cnj⟩ k :=
  ⟨h.ord, by simpa using h.pow, fun j => by
    show (((p.pow.set i ys).getD j []).length : Int) ≤ k
    by_cases e : i = j
    · subst e
      by_cases hi : i < p.pow.length
      · simpa [hi] using hl
      · have := h.powi i
        rwa [List.set_eq_of_length_le (by omega)]
    · have := h.powi j
      simpa [List.getElem?_set_ne e] using this, h.cnj, h.cnji, h.cnjij⟩
theorem SizeP.setOrd {k : Int} (h : SizeP p k) (hl : (ys.length : Int) ≤ k) : SizeP ⟨ys, p.pow, p.cnj⟩ k := ⟨hl, h.pow, h.powi, h.cnj, h.cnji, h.cnjij⟩
theorem SizeP.setCnj {k : Int} (h : SizeP p k) (hl : (xss.length : Int) ≤ k) (hx : ∀ j, ((xss.getD j []).length : Int) ≤ k) : SizeP ⟨p.ord, p.pow, p.cnj.set i xss⟩ k := by
  have key : ∀ j, (p.cnj.set i xss).getD j [] = xss ∨ (p.cnj.set i xss).getD j [] = p.cnj.getD j [] := fun j => by
    by_cases e : i = j
    · subst e
      by_cases hi : i < p.cnj.length
      · exact .inl (by simp [hi])
      · exact .inr (by rw [List.set_eq_of_length_le (by omega)])
    · exact .inr (by simp [List.getElem?_set_ne e])
  refine ⟨h.ord, h.pow, h.powi, by simpa using h.cnj, fun j => ?_, fun j m => ?_⟩
  · show (((p.cnj.set i xss).getD j []).length : Int) ≤ k
    rcases key j with e | e <;> rw [e]
    · exact hl
    · exact h.cnji j
  · show ((((p.cnj.set i xss).getD j []).getD m []).length : Int) ≤ k
    rcases key j with e | e <;> rw [e]
    · exact hx m
    · exact h.cnjij j m
end
end Go.Proofs.Ytflniifngfiekaa

/-
  Walks: the reference's l07Bend.
  Conditions: stated at each theorem.
-/
namespace Go.Proofs.Ytflniifngfiekaa
open Go Go.Pc
set_option maxHeartbeats 16000000 in
theorem l07Bend_ok {w : World} {bs lo hi : Nat} {vp : Value} {p : Pr} [hp : Pres lo hi w vp p] (hs : Src w bs) (hsh : ShP p) (hn6 : p.ord.length ≤ 6) (hbs : bs < lo) :
    Calls Try.prog 44 #[.pointer (some ⟨bs, 0, none⟩), vp] w (Ret fun v w' => DrwR bs w v w') := by
  have hb := hs.lt
  obtain ⟨vo, vpw, vc, ps, cs, css, rfl, h1, h2, h3⟩ := hp.ex
  refine enter (args := [.pointer (some ⟨bs, 0, none⟩), .agg #[vo, vpw, vc]]) (l := [.cell 4 28]) Try.func44 rfl rfl Try.ntmps44 (by simp) ?_
  refine go ?_
  refine st_box3 (by ((try simp only [ev_tmp, ev_const, ev_func, get_put, get_args, get_putL, get_putL_nil, Nat.reduceEqDiff, reduceIte, List.getD_cons_zero, List.getD_cons_succ, List.getD_nil]); first | done | with_reducible rfl)) (by first | exact True.intro | exact ⟨_, rfl, by ((try simp only [ev_tmp, ev_const, ev_func, get_put, get_args, get_putL, get_putL_nil, Nat.reduceEqDiff, reduceIte, List.getD_cons_zero, List.getD_cons_succ, List.getD_nil, Bool.not_true, Bool.not_false]); first | done | with_reducible rfl)⟩) fun w1 b he1 hb1 hs1 hc0 hc1 hc2 => ?_
  refine st_alloc (by first | exact True.intro | exact ⟨_, rfl, by ((try simp only [ev_tmp, ev_const, ev_func, get_put, get_args, get_putL, get_putL_nil, Nat.reduceEqDiff, reduceIte, List.getD_cons_zero, List.getD_cons_succ, List.getD_nil, Bool.not_true, Bool.not_false]); first | done | with_reducible rfl)⟩) fun w2 br he2 hbr hs2 hbk2 => ?_
  have hE2 := he1.trans he2
  have hz2 := hE2.size
  have hp2 : Pres lo hi w2 (.agg #[vo, vpw, vc]) p := hp.same (hE2.same _ _)
  refine go ?_
  refine rc (l07OwnT_ok (p := p) (hsh.sizeP (by omega)) hsh) (next := fun v3 w3 h => ?_)
  obtain ⟨he3, hN3⟩ := h
  obtain ⟨qo, qp, qc, rp, gs, rfl, hO3, hS3⟩ := hN3.ex
  have hz3 := he3.size
  refine go ?_
  refine st_alloc (by first | exact True.intro | exact ⟨_, rfl, by ((try simp only [ev_tmp, ev_const, ev_func, get_put, get_args, get_putL, get_putL_nil, Nat.reduceEqDiff, reduceIte, List.getD_cons_zero, List.getD_cons_succ, List.getD_nil, Bool.not_true, Bool.not_false]); first | done | with_reducible rfl)⟩) fun w4 bp he4 hbp hs4 hbk4 => ?_
  have hz4 := he4.size
  refine st_store_agg (vs := [qo, qp, qc]) (cs := _) (hb := hbk4) (by ((try simp only [ev_tmp, ev_const, ev_func, get_put, get_args, get_putL, get_putL_nil, Nat.reduceEqDiff, reduceIte, List.getD_cons_zero, List.getD_cons_succ, List.getD_nil]); first | done | with_reducible rfl)) (by ((try simp only [ev_tmp, ev_const, ev_func, get_put, get_args, get_putL, get_putL_nil, Nat.reduceEqDiff, reduceIte, List.getD_cons_zero, List.getD_cons_succ, List.getD_nil]); first | done | with_reducible rfl)) rfl rfl hO3.one3 (by first | exact True.intro | exact ⟨_, rfl, by ((try simp only [ev_tmp, ev_const, ev_func, get_put, get_args, get_putL, get_putL_nil, Nat.reduceEqDiff, reduceIte, List.getD_cons_zero, List.getD_cons_succ, List.getD_nil, Bool.not_true, Bool.not_false]); first | done | with_reducible rfl)⟩) fun w5 hc5 hs5 hB5 => ?_
  have hx5 : Ext w2 w5 := hc5.ext (he3.trans he4) (by omega)
  have hO5 : O3 (fun g => g = bp) w2.heap.size w5 qo qp qc p.ord rp gs := ((hO3.weak (Y := fun g => g = bp) (fun g e => .inr (.inr (by omega)))).ext he4).chg hc5 (.inl rfl)
  have hs5' := hs.ext (hE2.trans hx5)
  have hbk5 : Blk w5 br [nilv, nilv, nilv] := @Blk.ext _ _ _ _ hx5 hbk2
  have hz5 := hx5.size
  clear hO3 hbk4 hN3
  refine go ?_
  refine rc (l01Next_ok (n := 6) hs5') (next := fun v6 w6 h6 => ?_)
  obtain ⟨k6, rfl, hc6, hs6, hk60, hk61, hz6⟩ := h6
  have hO6 := hO5.chg hc6 (.inr (by omega))
  have hB6 : Blk w6 bp [qo, qp, qc] := hB5.wr (.one (B := fun g => g = bs) rfl hc6) fun e => by omega
  have hbk6 : Blk w6 br [nilv, nilv, nilv] := hbk5.wr (.one (B := fun g => g = bs) rfl hc6) fun e => by omega
  have hC6 : Chg bs w w6 := (Chg.ofExt (hE2.trans hx5)).trans hc6
  have c0 : Cell w6 bp 0 qo := hB6.cell rfl
  have c1 : Cell w6 bp 1 qp := hB6.cell rfl
  have c2 : Cell w6 bp 2 qc := hB6.cell rfl
  have hi6 := hO6.ints
  have hr6 := hO6.rows
  have hrs6 := hO6.rowss
  have hrl : (rp.map (·.2)).length = p.ord.length := by rw [List.length_map]; exact hS3.lp
  have hgl : (gs.map fun q => q.2.map (·.2)).length = p.ord.length := by rw [List.length_map]; exact hS3.lg
  have hpr : SizeP (prOf p.ord rp gs) 29 := hS3.shP.sizeP (by show (p.ord.length : Int) ≤ 29; omega)
  clear hO5 hB5 hbk5
  refine go ?_
  refine r_mid (fun ρ w' => ∃ xo xp xc q, Has ρ [(4, .pointer (some ⟨br, 0, none⟩)), (5, .pointer (some ⟨bp, 0, none⟩))] ∧ Chg bs w w' ∧ Src w' bs ∧ Blk w' bp [xo, xp, xc] ∧ Blk w' br [nilv, nilv, nilv] ∧ Pres w2.heap.size w'.heap.size w' (.agg #[xo, xp, xc]) q ∧ SizeP q 30) ?_ ?_
  · have plain : ∀ {w' : World}, Ext w6 w' → Chg bs w w' ∧ Src w' bs ∧ Blk w' bp [qo, qp, qc] ∧ Blk w' br [nilv, nilv, nilv] ∧ Pres w2.heap.size w'.heap.size w' (.agg #[qo, qp, qc]) (prOf p.ord rp gs) ∧ SizeP (prOf p.ord rp gs) 30 := fun x =>
      ⟨hC6.grow x, hs6.ext x, @Blk.ext _ _ _ _ x hB6, @Blk.ext _ _ _ _ x hbk6, (hO6.ext x).pres, hpr.mono (by omega)⟩
    refine c_if (fun q0 => ?_) (fun q0 => ?_)
    · refine go ?_
      have hg6 : GrowI 2 w2.heap.size w6 qo p.ord := ⟨hO6.tri.o⟩
      have hlt : ∀ g, qo.ownBlock = some g → w2.heap.size ≤ g := fun g hg => (hO6.tri.o.lt g hg).1
      refine st_growi hg6 (by omega) (by omega) (next := fun v7 v8 w8 hg8 hx8 hz8 hst8 => ?_)
      have hO8 := hO6.pushO (Ext.refl _) hg8.own hst8 (fun g e => by subst e; exact hB6.lt)
      have hC8 : Chg bs w w8 := hC6.gstep hst8 fun g hg => by have := hlt g hg; omega
      have hs8 : Src w8 bs := hs6.wr hst8.wrt fun g hg => by have := hlt g hg; omega
      have hB8 : Blk w8 bp [qo, qp, qc] := hB6.wr hst8.wrt fun hg => hO6.off bp (.inl hg) rfl
      have hbk8 : Blk w8 br [nilv, nilv, nilv] := hbk6.wr hst8.wrt fun hg => by have := hlt br hg; omega
      refine go ?_
      refine st_store_fld (h := hB8) (by ((try simp only [ev_tmp, ev_const, ev_func, get_put, get_args, get_putL, get_putL_nil, Nat.reduceEqDiff, reduceIte, List.getD_cons_zero, List.getD_cons_succ, List.getD_nil]); first | done | with_reducible rfl)) (by ((try simp only [ev_tmp, ev_const, ev_func, get_put, get_args, get_putL, get_putL_nil, Nat.reduceEqDiff, reduceIte, List.getD_cons_zero, List.getD_cons_succ, List.getD_nil]); first | done | with_reducible rfl)) hg8.fr.ints.sl.one (by simp) (by first | exact True.intro | exact ⟨_, rfl, by ((try simp only [ev_tmp, ev_const, ev_func, get_put, get_args, get_putL, get_putL_nil, Nat.reduceEqDiff, reduceIte, List.getD_cons_zero, List.getD_cons_succ, List.getD_nil, Bool.not_true, Bool.not_false]); first | done | with_reducible rfl)⟩) fun w9 hc9 hs9 hB9 => ?_
      refine go ?_
      refine ⟨rfl, v8, qp, qc, _, ?_, hC8.app1 hc9 (by omega), hs8.wr (.one (B := fun g => g = bp) rfl hc9) (fun g hg => by omega), hB9, hbk8.wr (.one (B := fun g => g = bp) rfl hc9) (fun e => by omega), (hO8.chg hc9 (.inl rfl)).pres, (hpr.setOrd (ys := p.ord ++ [2]) (by simp; omega)).mono (by omega)⟩
      exact hasP
    refine go ?_
    refine c_if (fun q1 => ?_) (fun q1 => ?_)
    · refine go ?_
      refine c_if (fun r1 => ?_) (fun r1 => ?_)
      · have ap1 : Apart bp (bp + 1) bs := ⟨by omega⟩
        have ap2 : Apart w2.heap.size w6.heap.size bs := ⟨.inl (by omega)⟩
        have hb6 := hB6.lt
        obtain ⟨bo, hbo, hxo, hvo, hoo⟩ := hO6.ownO (fun e => by rw [e] at r1; simp at r1)
        refine go ?_
        refine z_order bs (List.range 7) (h := fun w7 he7 _ => ?_)
        refine zgo ?_
        refine z_sliceN (t := 24) (us := [.int .i64 4, .int .i64 1, .int .i64 11, .int .i64 0, .int .i64 (-2)]) (next := fun w8 v8 he8 hz8 ho8 => ?_)
        have ho8' : OwnI 2 w7.heap.size w8 v8 [4, 1, 11, 0, -2] := ⟨ho8⟩
        have hi8 := (ho8'.toFr (Nat.le_refl _)).ints
        have hx8 := he7.trans he8
        have hz68 := hx8.size
        refine zgo ?_
        refine zcc (l01Pick_ok (hs6.ext hx8) (xs := [4, 1, 11, 0, -2]) (by simp) (by simp) (.inl ?_)) (hR := by rintro _ _ ⟨_, _, h, _⟩; exact h) (next := fun v9 w9 h9 => ?_)
        · omega
        obtain ⟨k9, rfl, hc9, hs9, hk9, hz9⟩ := h9
        refine zgo ?_
        have hC9 : Chg bs w w9 := (hC6.grow hx8).trans hc9
        have hO9 := (hO6.ext hx8).chg hc9 (.inr (by omega))
        have hB9 : Blk w9 bp [qo, qp, qc] := (@Blk.ext _ _ _ _ hx8 hB6).wr (.one (B := fun g => g = bs) rfl hc9) fun e => by omega
        have hbk9 : Blk w9 br [nilv, nilv, nilv] := (@Blk.ext _ _ _ _ hx8 hbk6).wr (.one (B := fun g => g = bs) rfl hc9) fun e => by omega
        have hoo9 : Own 2 bo w9 qo (p.ord.map (Value.int .i64)) := by
          obtain ⟨b', h1, h2, h3, h4⟩ := hO9.ownO (fun e => by rw [e] at r1; simp at r1)
          rw [hvo] at h3; injection h3 with h3
          exact h3 ▸ h4
        refine l_store_val (u := .int .i64 k9) hoo9 rfl (m := 0) (by rw [List.length_map]; omega) (next := fun w10 hc10 hs10 ho10 => ?_)
        rw [← List.map_set] at ho10
        have hO10 := hO9.setO hvo hc10 ho10
        refine go ?_
        refine ⟨rfl, qo, qp, qc, _, ?_, hC9.app1 hc10 (by omega), hs9.wr (.one (B := fun g => g = bo) rfl hc10) (fun g hg => by omega), hB9.wr (.one (B := fun g => g = bo) rfl hc10) (fun e => hxo e.symm), hbk9.wr (.one (B := fun g => g = bo) rfl hc10) (fun e => by omega), hO10.pres, (hpr.setOrd (ys := p.ord.set 0 k9) (by simp; omega)).mono (by omega)⟩
        exact hasP
      · refine go ?_
        refine ⟨rfl, qo, qp, qc, _, ?_, plain (Ext.refl _)⟩
        exact hasP
    refine go ?_
    refine c_if (fun q2 => ?_) (fun q2 => ?_)
    · refine go ?_
      refine c_if (fun r1 => ?_) (fun r1 => ?_)
      · have hri : 0 < rp.length := by have := hS3.lp; omega
        obtain ⟨bq, hbq, hxq, hvq, hoq⟩ := hO6.ownP (fun e => by rw [e] at hri; simp at hri)
        have hbl := (hO6.tri.p.own.lt bq hvq).2
        have hl0 : ((rp.map (·.2)).getD 0 []).length ≤ 6 := by
          have := hpr.powi 0
          have := hS3.lr _ (List.getElem_mem hri)
          simp [hri]; omega
        refine d_post (fun ρ' w' => ∃ w7 u xs, Has ρ' [(4, .pointer (some ⟨br, 0, none⟩)), (5, .pointer (some ⟨bp, 0, none⟩))] ∧ Ext w6 w7 ∧ Fr w6.heap.size w7 u xs ∧ xs.length ≤ 7 ∧ Chg bq w7 w' ∧ Own 24 bq w' qp ((rp.map (·.1)).set 0 u)) ?_ ?_
        · refine d_order [0, 1, 2, 3, 4, 5, 6, 7, 8, 9, 10] (h := fun w7 he7 _ => ?_)
          have hz7 := he7.size
          refine dgo ?_
          refine dt_fork (π' := [0, 1, 2, 3, 4, 5, 7, 6, 8, 9, 10]) (by decide) rfl rfl (by decide +kernel) ?_ ?_
          · refine ds_call (l01OwnN_ok (xs := (rp.map (·.2)).getD 0 []) (by omega)) (next := fun v8 w8 h8 => ?_)
            obtain ⟨he8, hN8⟩ := h8
            have hz8 := he8.size
            refine d_slice1 (t := 24) (u := .int .i64 0) (next := fun w9 v9 he9 hz9 ho9 => ?_)
            have hN9 : OwnN 2 w7.heap.size w9 v8 _ := @OwnN.ext _ _ _ _ _ _ he9 hN8
            refine d_append (hv := hN9) (hy := ho9.toSl) (hs := (by ((try simp only [ev_tmp, ev_const, ev_func, get_put, get_args, get_putL, get_putL_nil, Nat.reduceEqDiff, reduceIte, List.getD_cons_zero, List.getD_cons_succ, List.getD_nil]); first | done | with_reducible rfl))) (hx := (by ((try simp only [ev_tmp, ev_const, ev_func, get_put, get_args, get_putL, get_putL_nil, Nat.reduceEqDiff, reduceIte, List.getD_cons_zero, List.getD_cons_succ, List.getD_nil]); first | done | with_reducible rfl))) (hz := rfl) (h1 := fun u hu => by rw [List.mem_singleton.1 hu]; rfl) (hb := by simp only [List.length_map, List.length_singleton]; omega) (hl := by simp only [List.length_map, List.length_singleton, maxLen]; omega) (hbase := by omega) (hvb := fun g hg => (hN9.lt g hg).1) (next := fun v10 w10 ho10 hg10 ha10 => ?_)
            have hx10 : Ext w6 w10 := he7.trans (Ext.app (he8.trans he9) hg10 fun k hk => (hN9.lt k hk).1)
            have hf10 : Fr w6.heap.size w10 v10 (((rp.map (·.2)).getD 0 []) ++ [0]) := Fr.mono (OwnN.toFr (by simpa using ho10)) hz7
            refine dgo ?_
            refine l_store_val (@Own.ext _ _ _ _ _ _ hx10 hoq) hf10.ints.sl.one (m := 0) (by rw [List.length_map]; omega) (next := fun w11 hc11 hs11 ho11 => ?_)
            refine ⟨rfl, w10, _, _, ?_, hx10, hf10, by simp only [List.length_append, List.length_singleton]; omega, hc11, ho11⟩
            exact hasP
          · refine ds_slice1 (t := 24) (u := .int .i64 0) (next := fun w8 v8 he8 hz8 ho8 => ?_)
            refine dce (l01OwnN_ok (xs := (rp.map (·.2)).getD 0 []) (by omega)) (next := fun v9 w9 h9 => ?_)
            obtain ⟨he9, hN9⟩ := h9
            have hz9 := he9.size
            refine d_append (hv := hN9) (hy := (@Own.ext _ _ _ _ _ _ he9 ho8).toSl) (hs := (by ((try simp only [ev_tmp, ev_const, ev_func, get_put, get_args, get_putL, get_putL_nil, Nat.reduceEqDiff, reduceIte, List.getD_cons_zero, List.getD_cons_succ, List.getD_nil]); first | done | with_reducible rfl))) (hx := (by ((try simp only [ev_tmp, ev_const, ev_func, get_put, get_args, get_putL, get_putL_nil, Nat.reduceEqDiff, reduceIte, List.getD_cons_zero, List.getD_cons_succ, List.getD_nil]); first | done | with_reducible rfl))) (hz := rfl) (h1 := fun u hu => by rw [List.mem_singleton.1 hu]; rfl) (hb := by simp only [List.length_map, List.length_singleton]; omega) (hl := by simp only [List.length_map, List.length_singleton, maxLen]; omega) (hbase := by omega) (hvb := fun g hg => by have := (hN9.lt g hg).1; omega) (next := fun v10 w10 ho10 hg10 ha10 => ?_)
            have hx10 : Ext w6 w10 := he7.trans (Ext.app (he8.trans he9) hg10 fun k hk => by have := (hN9.lt k hk).1; omega)
            have hf10 : Fr w6.heap.size w10 v10 (((rp.map (·.2)).getD 0 []) ++ [0]) := Fr.mono (OwnN.toFr (by simpa using ho10)) (by omega)
            refine dgo ?_
            refine l_store_val (@Own.ext _ _ _ _ _ _ hx10 hoq) hf10.ints.sl.one (m := 0) (by rw [List.length_map]; omega) (next := fun w11 hc11 hs11 ho11 => ?_)
            refine ⟨rfl, w10, _, _, ?_, hx10, hf10, by simp only [List.length_append, List.length_singleton]; omega, hc11, ho11⟩
            exact hasP
        · rintro ρ w' ⟨w7, u, xs, hH, hx7, hf7, hxl, hc8, ho8⟩
          have hO8 := hO6.setP hri hvq hx7 hf7 (fun g e => by subst e; exact hB6.lt) hc8 ho8
          refine ⟨rfl, qo, qp, qc, _, hH, (hC6.grow hx7).app1 hc8 (by omega), (hs6.ext hx7).wr (.one (B := fun g => g = bq) rfl hc8) (fun g hg => by omega), (@Blk.ext _ _ _ _ hx7 hB6).wr (.one (B := fun g => g = bq) rfl hc8) (fun e => hxq e.symm), (@Blk.ext _ _ _ _ hx7 hbk6).wr (.one (B := fun g => g = bq) rfl hc8) (fun e => by omega), hO8.pres, ?_⟩
          · have e : prOf p.ord (rp.set 0 (u, xs)) gs = ⟨p.ord, (rp.map (·.2)).set 0 xs, (prOf p.ord rp gs).cnj⟩ := by simp [prOf, List.map_set]
            rw [e]
            exact ((hpr.setPow (i := 0) (ys := xs) (by omega))).mono (by omega)
      · refine go ?_
        refine ⟨rfl, qo, qp, qc, _, ?_, plain (Ext.refl _)⟩
        exact hasP
    refine go ?_
    refine c_if (fun q3 => ?_) (fun q3 => ?_)
    · refine go ?_
      refine spd (fun r1 => ?_) (fun r1 => ?_)
      · have hri : 0 < rp.length := by have := hS3.lp; omega
        refine go ?_
        refine c_if (fun r2 => ?_) (fun r2 => ?_)
        · have hlx : rp[0].2.length = p.ord.length := hS3.lr _ (List.getElem_mem hri)
          have hrx : rp[0].2 ≠ [] := fun e => by
            rw [e] at hlx
            simp at hlx
            omega
          have hra : Pc.rowAt qp (rp.map (·.1)) 0 = rp[0].1 := by simp [Pc.rowAt, hri]
          obtain ⟨e', b', hb', how⟩ := (hO6.tri.p.rows.fr _ (List.getElem_mem hri)).own hrx
          have how2 := how
          rw [← hra] at how2
          have hbl := how.lt
          have hnbp : b' ≠ bp := fun e => hO6.off b' (.inr (.inl (.inr ⟨_, List.getElem_mem hri, hrx, how.block⟩))) e
          refine go ?_
          refine st_store_int (h := how2) (by ((try simp only [ev_tmp, ev_const, ev_func, get_put, get_args, get_putL, get_putL_nil, Nat.reduceEqDiff, reduceIte, List.getD_cons_zero, List.getD_cons_succ, List.getD_nil]); first | done | with_reducible rfl)) (by ((try simp only [ev_tmp, ev_const, ev_func, get_put, get_args, get_putL, get_putL_nil, Nat.reduceEqDiff, reduceIte, List.getD_cons_zero, List.getD_cons_succ, List.getD_nil]); first | done | with_reducible rfl)) (m := 0) (by omega) (by first | exact True.intro | exact ⟨_, rfl, by ((try simp only [ev_tmp, ev_const, ev_func, get_put, get_args, get_putL, get_putL_nil, Nat.reduceEqDiff, reduceIte, List.getD_cons_zero, List.getD_cons_succ, List.getD_nil, Bool.not_true, Bool.not_false]); first | done | with_reducible rfl)⟩) fun w7 hc7 hs7 ho7 => ?_
          rw [hra] at ho7
          have hO7 := hO6.rowP hri hrx how.block hc7 (OwnI.toFr ho7 hb')
          have hS7 : Sh3 p.ord (rp.set 0 (rp[0].1, rp[0].2.set 0 1)) gs := hS3.setP (by simp [hlx])
          refine go ?_
          refine ⟨rfl, qo, qp, qc, _, ?_, hC6.app1 hc7 (by omega), hs6.wr (.one (B := fun g => g = b') rfl hc7) (fun g hg => by omega), hB6.wr (.one (B := fun g => g = b') rfl hc7) (fun e => hnbp e.symm), hbk6.wr (.one (B := fun g => g = b') rfl hc7) (fun e => by omega), hO7.pres, hS7.shP.sizeP (by show (p.ord.length : Int) ≤ 30; omega)⟩
          exact hasP
        · refine go ?_
          refine ⟨rfl, qo, qp, qc, _, ?_, plain (Ext.refl _)⟩
          exact hasP
      · refine go ?_
        refine ⟨rfl, qo, qp, qc, _, ?_, plain (Ext.refl _)⟩
        exact hasP
    refine go ?_
    refine c_if (fun q4 => ?_) (fun q4 => ?_)
    · refine go ?_
      refine c_if (fun r1 => ?_) (fun r1 => ?_)
      · have hgi : 0 < gs.length := by have := hS3.lg; omega
        obtain ⟨bq, hbq, hxq, hvq, hoq⟩ := hO6.ownG (fun e => by rw [e] at hgi; simp at hgi)
        have hbl := (hO6.tri.c.own.lt bq hvq).2
        have hl0 : (((gs.map fun q => q.2.map (·.2)).getD 0 [])).length ≤ 6 := by
          have := hS3.li 0 hgi
          simp [hgi]; omega
        have hlx : ∀ j, (((gs.map fun q => q.2.map (·.2)).getD 0 []).getD j []).length ≤ 6 := fun j => by
          have e0 : (gs.map fun q => q.2.map (·.2)).getD 0 [] = gs[0].2.map (·.2) := by simp [hgi]
          rw [e0]
          by_cases hj : j < gs[0].2.length
          · have := hS3.lc _ (List.getElem_mem hgi) _ (List.getElem_mem hj)
            simp [hj]; omega
          · rw [List.getD_eq_getElem?_getD, List.getElem?_eq_none (by simp; omega)]; simp
        refine d_post (fun ρ' w' => ∃ w7 u ut xss, Has ρ' [(4, .pointer (some ⟨br, 0, none⟩)), (5, .pointer (some ⟨bp, 0, none⟩))] ∧ Ext w6 w7 ∧ Pc.Rows w6.heap.size w7.heap.size w7 u ut xss ∧ xss.length ≤ 7 ∧ (∀ j, (xss.getD j []).length ≤ 6) ∧ Chg bq w7 w' ∧ Own 25 bq w' qc ((gs.map (·.1)).set 0 u)) ?_ ?_
        · refine d_order [0, 1, 2, 3, 4, 5, 7, 8, 9, 6, 10, 11, 12, 13, 14] (h := fun w7 he7 _ => ?_)
          have hz7 := he7.size
          refine dgo ?_
          refine dt_fork (π' := [0, 1, 2, 3, 4, 5, 7, 8, 9, 10, 6, 11, 12, 13, 14]) (by decide) rfl rfl (by decide +kernel) ?_ ?_
          · refine ds_call (l01Own2G_ok (xss := (gs.map fun q => q.2.map (·.2)).getD 0 []) (fun i => by have := hlx i; omega) (by omega)) (next := fun v8 w8 h8 => ?_)
            obtain ⟨he8, rs, hG8, hrs8⟩ := h8
            have hz8 := he8.size
            refine d_make_int (t := 24) (n := p.ord.length) (k := p.ord.length) (by omega) (by omega) (next := fun w9 v9 he9 hz9 ho9 => ?_)
            have hj9 := (ho9.toFr (Nat.le_refl _)).ints
            refine d_slice1 (t := 25) (u := v9) (hu := hj9.sl.cells) (next := fun w10 v10 he10 hz10 ho10 => ?_)
            have hi10 := @Ints.ext _ _ _ _ _ _ he10 hj9
            have hL10 := hG8.lst.ext (he9.trans he10)
            have hO10 := hL10.own
            have hrl8 : rs.length ≤ 6 := by have := congrArg List.length hrs8; rw [List.length_map] at this; omega
            refine d_append (hv := hO10) (hy := ho10.toSl) (hs := (by ((try simp only [ev_tmp, ev_const, ev_func, get_put, get_args, get_putL, get_putL_nil, Nat.reduceEqDiff, reduceIte, List.getD_cons_zero, List.getD_cons_succ, List.getD_nil]); first | done | with_reducible rfl))) (hx := (by ((try simp only [ev_tmp, ev_const, ev_func, get_put, get_args, get_putL, get_putL_nil, Nat.reduceEqDiff, reduceIte, List.getD_cons_zero, List.getD_cons_succ, List.getD_nil]); first | done | with_reducible rfl))) (hz := rfl) (h1 := fun u hu => by rw [List.mem_singleton.1 hu]; exact hi10.sl.one) (hb := by simp only [List.length_map, List.length_singleton]; omega) (hl := by simp only [List.length_map, List.length_singleton, maxLen]; omega) (hbase := by omega) (hvb := fun g hg => by have := (hO10.lt g hg).1; omega) (next := fun v11 w11 ho11 hg11 ha11 => ?_)
            have hx11 : Ext w6 w11 := he7.trans (Ext.app ((he8.trans he9).trans he10) hg11 fun k hk => by have := (hO10.lt k hk).1; omega)
            have hR11 : Pc.Rows w6.heap.size w11.heap.size w11 v11 _ _ := app_row hL10 (by omega) (by omega) hi10 (by omega) (by omega) (fun g hg => by have := hG8.lst.lt hg; omega) ho11 hg11 ha11
            refine dgo ?_
            refine l_store_val (@Own.ext _ _ _ _ _ _ hx11 hoq) hR11.sl.one (m := 0) (by rw [List.length_map]; omega) (next := fun wz hcz hsz hoz => ?_)
            refine ⟨rfl, w11, _, _, _, ?_, hx11, hR11, by rw [List.length_append, hrs8]; simp only [List.length_singleton]; omega, getD_push_len (fun j => by rw [hrs8]; exact hlx j) (by simp; omega), hcz, hoz⟩
            exact hasP
          · refine ds_make_int (t := 24) (n := p.ord.length) (k := p.ord.length) (by omega) (by omega) (next := fun w8 v9 he8 hz8 ho9 => ?_)
            have hj9 := (ho9.toFr (Nat.le_refl _)).ints
            refine dt_fork (π' := [0, 1, 2, 3, 4, 5, 7, 8, 9, 10, 11, 6, 12, 13, 14]) (by decide) rfl rfl (by decide +kernel) ?_ ?_
            · refine ds_call (l01Own2G_ok (xss := (gs.map fun q => q.2.map (·.2)).getD 0 []) (fun i => by have := hlx i; omega) (by omega)) (next := fun v8 w9 h8 => ?_)
              obtain ⟨he9, rs, hG8, hrs8⟩ := h8
              have hz9 := he9.size
              have hk9 := @Ints.ext _ _ _ _ _ _ he9 hj9
              refine d_slice1 (t := 25) (u := v9) (hu := hj9.sl.cells) (next := fun w10 v10 he10 hz10 ho10 => ?_)
              have hi10 := @Ints.ext _ _ _ _ _ _ he10 hk9
              have hL10 := hG8.lst.ext he10
              have hO10 := hL10.own
              have hrl8 : rs.length ≤ 6 := by have := congrArg List.length hrs8; rw [List.length_map] at this; omega
              refine d_append (hv := hO10) (hy := ho10.toSl) (hs := (by ((try simp only [ev_tmp, ev_const, ev_func, get_put, get_args, get_putL, get_putL_nil, Nat.reduceEqDiff, reduceIte, List.getD_cons_zero, List.getD_cons_succ, List.getD_nil]); first | done | with_reducible rfl))) (hx := (by ((try simp only [ev_tmp, ev_const, ev_func, get_put, get_args, get_putL, get_putL_nil, Nat.reduceEqDiff, reduceIte, List.getD_cons_zero, List.getD_cons_succ, List.getD_nil]); first | done | with_reducible rfl))) (hz := rfl) (h1 := fun u hu => by rw [List.mem_singleton.1 hu]; exact hi10.sl.one) (hb := by simp only [List.length_map, List.length_singleton]; omega) (hl := by simp only [List.length_map, List.length_singleton, maxLen]; omega) (hbase := by omega) (hvb := fun g hg => by have := (hO10.lt g hg).1; omega) (next := fun v11 w11 ho11 hg11 ha11 => ?_)
              have hx11 : Ext w6 w11 := he7.trans (Ext.app ((he8.trans he9).trans he10) hg11 fun k hk => by have := (hO10.lt k hk).1; omega)
              have hR11 : Pc.Rows w6.heap.size w11.heap.size w11 v11 _ _ := app_row hL10 (by omega) (by omega) hi10 (by omega) (by omega) (fun g hg => by have := hG8.lst.lt hg; omega) ho11 hg11 ha11
              refine dgo ?_
              refine l_store_val (@Own.ext _ _ _ _ _ _ hx11 hoq) hR11.sl.one (m := 0) (by rw [List.length_map]; omega) (next := fun wz hcz hsz hoz => ?_)
              refine ⟨rfl, w11, _, _, _, ?_, hx11, hR11, by rw [List.length_append, hrs8]; simp only [List.length_singleton]; omega, getD_push_len (fun j => by rw [hrs8]; exact hlx j) (by simp; omega), hcz, hoz⟩
              exact hasP
            · refine ds_slice1 (t := 25) (u := v9) (hu := hj9.sl.cells) (next := fun w9 v10 he9 hz9 ho10 => ?_)
              have hk9 := @Ints.ext _ _ _ _ _ _ he9 hj9
              refine dce (l01Own2G_ok (xss := (gs.map fun q => q.2.map (·.2)).getD 0 []) (fun i => by have := hlx i; omega) (by omega)) (next := fun v8 w10 h8 => ?_)
              obtain ⟨he10, rs, hG8, hrs8⟩ := h8
              have hz10 := he10.size
              have hi10 := @Ints.ext _ _ _ _ _ _ he10 hk9
              have hL10 := hG8.lst
              have hO10 := hL10.own
              have hrl8 : rs.length ≤ 6 := by have := congrArg List.length hrs8; rw [List.length_map] at this; omega
              refine d_append (hv := hO10) (hy := (@Own.ext _ _ _ _ _ _ he10 ho10).toSl) (hs := (by ((try simp only [ev_tmp, ev_const, ev_func, get_put, get_args, get_putL, get_putL_nil, Nat.reduceEqDiff, reduceIte, List.getD_cons_zero, List.getD_cons_succ, List.getD_nil]); first | done | with_reducible rfl))) (hx := (by ((try simp only [ev_tmp, ev_const, ev_func, get_put, get_args, get_putL, get_putL_nil, Nat.reduceEqDiff, reduceIte, List.getD_cons_zero, List.getD_cons_succ, List.getD_nil]); first | done | with_reducible rfl))) (hz := rfl) (h1 := fun u hu => by rw [List.mem_singleton.1 hu]; exact hi10.sl.one) (hb := by simp only [List.length_map, List.length_singleton]; omega) (hl := by simp only [List.length_map, List.length_singleton, maxLen]; omega) (hbase := by omega) (hvb := fun g hg => by have := (hO10.lt g hg).1; omega) (next := fun v11 w11 ho11 hg11 ha11 => ?_)
              have hx11 : Ext w6 w11 := he7.trans (Ext.app ((he8.trans he9).trans he10) hg11 fun k hk => by have := (hO10.lt k hk).1; omega)
              have hR11 : Pc.Rows w6.heap.size w11.heap.size w11 v11 _ _ := app_row hL10 (by omega) (by omega) hi10 (by omega) (by omega) (fun g hg => by have := hG8.lst.lt hg; omega) ho11 hg11 ha11
              refine dgo ?_
              refine l_store_val (@Own.ext _ _ _ _ _ _ hx11 hoq) hR11.sl.one (m := 0) (by rw [List.length_map]; omega) (next := fun wz hcz hsz hoz => ?_)
              refine ⟨rfl, w11, _, _, _, ?_, hx11, hR11, by rw [List.length_append, hrs8]; simp only [List.length_singleton]; omega, getD_push_len (fun j => by rw [hrs8]; exact hlx j) (by simp; omega), hcz, hoz⟩
              exact hasP
        · rintro ρ w' ⟨w7, u, ut, xss, hH, hx7, hR7, hxl, hxj, hc8, ho8⟩
          have hP8 := hO6.presG hgi hvq hx7 hR7 hc8 ho8
          refine ⟨rfl, qo, qp, qc, _, hH, (hC6.grow hx7).app1 hc8 (by omega), (hs6.ext hx7).wr (.one (B := fun g => g = bq) rfl hc8) (fun g hg => by omega), (@Blk.ext _ _ _ _ hx7 hB6).wr (.one (B := fun g => g = bq) rfl hc8) (fun e => hxq e.symm), (@Blk.ext _ _ _ _ hx7 hbk6).wr (.one (B := fun g => g = bq) rfl hc8) (fun e => by omega), hP8, ?_⟩
          exact ((hpr.setCnj (i := 0) (xss := xss) (by omega) (fun j => by have := hxj j; omega))).mono (by omega)
      · refine go ?_
        refine ⟨rfl, qo, qp, qc, _, ?_, plain (Ext.refl _)⟩
        exact hasP
    refine go ?_
    refine st_sliceN (us := [.int .i64 7, .int .i64 7, .int .i64 7, .int .i64 7]) (next := fun w7 v7 he7 hz7 ho7 => ?_)
    have ho7' : OwnI 2 w6.heap.size w7 v7 [7, 7, 7, 7] := ⟨ho7⟩
    have hi7 := (ho7'.toFr (Nat.le_refl _)).ints
    refine go ?_
    refine rc (l07Trivial_ok (xs := [7, 7, 7, 7]) (by decide)) (next := fun v8 w8 h => ?_)
    obtain ⟨xo, xp, xc, rq, gq, rfl, he8, hO8, hS8⟩ := h
    have hx8 := he7.trans he8
    have hz8 := hx8.size
    have hbp6 := hB6.lt
    have hB8 : Blk w8 bp [qo, qp, qc] := @Blk.ext _ _ _ _ hx8 hB6
    refine st_store_agg (vs := [xo, xp, xc]) (cs := _) (hb := hB8) (by ((try simp only [ev_tmp, ev_const, ev_func, get_put, get_args, get_putL, get_putL_nil, Nat.reduceEqDiff, reduceIte, List.getD_cons_zero, List.getD_cons_succ, List.getD_nil]); first | done | with_reducible rfl)) (by ((try simp only [ev_tmp, ev_const, ev_func, get_put, get_args, get_putL, get_putL_nil, Nat.reduceEqDiff, reduceIte, List.getD_cons_zero, List.getD_cons_succ, List.getD_nil]); first | done | with_reducible rfl)) rfl rfl hO8.one3 (by first | exact True.intro | exact ⟨_, rfl, by ((try simp only [ev_tmp, ev_const, ev_func, get_put, get_args, get_putL, get_putL_nil, Nat.reduceEqDiff, reduceIte, List.getD_cons_zero, List.getD_cons_succ, List.getD_nil, Bool.not_true, Bool.not_false]); first | done | with_reducible rfl)⟩) fun w9 hc9 hs9 hB9 => ?_
    have hO9 := (hO8.weak (Y := fun g => g = bp) (fun g e => .inr (.inl (by omega)))).chg hc9 (.inl rfl)
    have hC9 : Chg bs w w9 := (hC6.grow hx8).app1 hc9 (by omega)
    have hs9' : Src w9 bs := (hs6.ext hx8).wr (.one (B := fun g => g = bp) rfl hc9) fun g hg => by omega
    have hbk9 : Blk w9 br [nilv, nilv, nilv] := (@Blk.ext _ _ _ _ hx8 hbk6).wr (.one (B := fun g => g = bp) rfl hc9) fun e => by omega
    have hz9 := hc9.size
    refine go ?_
    refine rc (l01Next_ok (n := 2) hs9') (next := fun v10 w10 h10 => ?_)
    obtain ⟨k10, rfl, hc10, hs10, hk100, hk101, hz10⟩ := h10
    have hO10 := hO9.chg hc10 (.inr (by omega))
    have hC10 := hC9.trans hc10
    have hB10 : Blk w10 bp [xo, xp, xc] := hB9.wr (.one (B := fun g => g = bs) rfl hc10) fun e => by omega
    have hbk10 : Blk w10 br [nilv, nilv, nilv] := hbk9.wr (.one (B := fun g => g = bs) rfl hc10) fun e => by omega
    refine go ?_
    refine c_if (fun r1 => ?_) (fun r1 => ?_)
    · refine go ?_
      refine st_sliceN (us := [.int .i64 2, .int .i64 2, .int .i64 2, .int .i64 2, .int .i64 2, .int .i64 2, .int .i64 2]) (next := fun w11 v11 he11 hz11 ho11 => ?_)
      have ho11' : OwnI 2 w10.heap.size w11 v11 [2, 2, 2, 2, 2, 2, 2] := ⟨ho11⟩
      have hi11 := (ho11'.toFr (Nat.le_refl _)).ints
      refine go ?_
      refine rc (l07Trivial_ok (xs := [2, 2, 2, 2, 2, 2, 2]) (by decide)) (next := fun v12 w12 h => ?_)
      obtain ⟨yo, yp, yc, ry, gy, rfl, he12, hO12, hS12⟩ := h
      have hx12 := he11.trans he12
      have hz12 := hx12.size
      have hB12 : Blk w12 bp [xo, xp, xc] := @Blk.ext _ _ _ _ hx12 hB10
      refine st_store_agg (vs := [yo, yp, yc]) (cs := _) (hb := hB12) (by ((try simp only [ev_tmp, ev_const, ev_func, get_put, get_args, get_putL, get_putL_nil, Nat.reduceEqDiff, reduceIte, List.getD_cons_zero, List.getD_cons_succ, List.getD_nil]); first | done | with_reducible rfl)) (by ((try simp only [ev_tmp, ev_const, ev_func, get_put, get_args, get_putL, get_putL_nil, Nat.reduceEqDiff, reduceIte, List.getD_cons_zero, List.getD_cons_succ, List.getD_nil]); first | done | with_reducible rfl)) rfl rfl hO12.one3 (by first | exact True.intro | exact ⟨_, rfl, by ((try simp only [ev_tmp, ev_const, ev_func, get_put, get_args, get_putL, get_putL_nil, Nat.reduceEqDiff, reduceIte, List.getD_cons_zero, List.getD_cons_succ, List.getD_nil, Bool.not_true, Bool.not_false]); first | done | with_reducible rfl)⟩) fun w13 hc13 hs13 hB13 => ?_
      have hO13 := (hO12.weak (Y := fun g => g = bp) (fun g e => .inr (.inl (by omega)))).chg hc13 (.inl rfl)
      refine go ?_
      refine ⟨rfl, yo, yp, yc, _, ?_, (hC10.grow hx12).app1 hc13 (by omega), (hs10.ext hx12).wr (.one (B := fun g => g = bp) rfl hc13) (fun g hg => by omega), hB13, (@Blk.ext _ _ _ _ hx12 hbk10).wr (.one (B := fun g => g = bp) rfl hc13) (fun e => by omega), hO13.pres.mono (by omega) (Nat.le_refl _), hS12.shP.sizeP (k := 30) (by show (7 : Int) ≤ 30; decide)⟩
      exact hasP
    · refine go ?_
      refine ⟨rfl, xo, xp, xc, _, ?_, hC10, hs10, hB10, hbk10, hO10.pres.mono (by omega) (Nat.le_refl _), hS8.shP.sizeP (k := 30) (by show (4 : Int) ≤ 30; decide)⟩
      exact hasP
  · rintro ρ w7 ⟨xo, xp, xc, q, hH, hC7, hs7, hB7, hbk7, hP7, hq7⟩
    refine inBlk_normal (thn_normal (rwp_has hH fun ρ1 => ?_))
    have o3 := hP7.one3
    refine go ?_
    refine ra (v := .agg #[xo, xp, xc]) (h := rd_load_blk (hb := hB7) (by ((try simp only [ev_tmp, ev_const, ev_func, get_put, get_args, get_putL, get_putL_nil, Nat.reduceEqDiff, reduceIte, List.getD_cons_zero, List.getD_cons_succ, List.getD_nil]); first | done | with_reducible rfl)) rfl) (next := ?_)
    refine st_store_agg (vs := [xo, xp, xc]) (cs := _) (hb := hbk7) (by ((try simp only [ev_tmp, ev_const, ev_func, get_put, get_args, get_putL, get_putL_nil, Nat.reduceEqDiff, reduceIte, List.getD_cons_zero, List.getD_cons_succ, List.getD_nil]); first | done | with_reducible rfl)) (by ((try simp only [ev_tmp, ev_const, ev_func, get_put, get_args, get_putL, get_putL_nil, Nat.reduceEqDiff, reduceIte, List.getD_cons_zero, List.getD_cons_succ, List.getD_nil]); first | done | with_reducible rfl)) rfl rfl (by simp [o3.1, o3.2.1, o3.2.2]) (by first | exact True.intro | exact ⟨_, rfl, by ((try simp only [ev_tmp, ev_const, ev_func, get_put, get_args, get_putL, get_putL_nil, Nat.reduceEqDiff, reduceIte, List.getD_cons_zero, List.getD_cons_succ, List.getD_nil, Bool.not_true, Bool.not_false]); first | done | with_reducible rfl)⟩) fun wz hcz hsz hBz => ?_
    refine go ?_
    refine retc (b := br) (hb := hBz) ⟨q, hC7.app1 hcz (by omega), hs7.wr (.one (B := fun g => g = br) rfl hcz) (fun g hg => by omega), ?_, hq7⟩ rfl
    exact (hP7.same fun g h1 h2 h3 => hcz.by_.block g h3 (fun e => by injection e with e; omega)).mono (by omega) hcz.size
end Go.Proofs.Ytflniifngfiekaa

/-
  Walks: the reference's l07Draw, l08Draw, l09Limit.
  Conditions: stated at each theorem.
-/
namespace Go.Proofs.Ytflniifngfiekaa
open Go Go.Pc
theorem valid_shP {p : Pr} (hv : Valid p) : ShP p :=
  ⟨hv.lenw, hv.lenc, hv.lenci, fun i hi => (hv.w_in i hi).len, fun i j hi hj => by
    have := (hv.c_in i (i + 1 + j) (by omega) (by show i + 1 + j < p.ord.length; omega)).len
    unfold Pr.c at this
    rwa [show i + 1 + j - i - 1 = j by omega] at this⟩
theorem DrwR.fin {bs br lo hi : Nat} {w wa wz : World} {xo xp xc : Value} {q : Pr} (hC : Chg bs w wa) (hs : Src wa bs) (hP : Pres lo hi wa (.agg #[xo, xp, xc]) q) (hq : SizeP q 30) (h1 : br < lo) (h2 : w.heap.size ≤ br) (h3 : hi ≤ wa.heap.size) (hb : bs < w.heap.size) (c : Chg br wa wz) : DrwR bs w (.agg #[xo, xp, xc]) wz :=
  ⟨q, hC.app1 c h2, hs.wr (.one (B := fun g => g = br) rfl c) (fun g hg => by omega), (hP.same fun g h4 h5 h6 => c.by_.block g h6 (fun e => by injection e with e; omega)).mono (by omega) (Nat.le_trans h3 c.size), hq⟩
set_option maxHeartbeats 16000000 in
theorem l07Draw_ok {w : World} {bs : Nat} {m : Int} (hs : Src w bs) :
    Calls Try.prog 26 #[.pointer (some ⟨bs, 0, none⟩), .int .i64 m] w (Ret fun v w' => DrwR bs w v w') := by
  have hbs := hs.lt
  refine enter (args := [.pointer (some ⟨bs, 0, none⟩), .int .i64 m]) (l := [.cell 4 28]) Try.func26 rfl rfl Try.ntmps26 (by simp) ?_
  refine go ?_
  refine st_alloc (by first | exact True.intro | exact ⟨_, rfl, by ((try simp only [ev_tmp, ev_const, ev_func, get_put, get_args, get_putL, get_putL_nil, Nat.reduceEqDiff, reduceIte, List.getD_cons_zero, List.getD_cons_succ, List.getD_nil, Bool.not_true, Bool.not_false]); first | done | with_reducible rfl)⟩) fun w1 br he1 hbr hs1 hbk1 => ?_
  have hz1 := he1.size
  refine go ?_
  refine rc (l07Group_ok (hs.ext he1)) (next := fun v2 w2 h => ?_)
  obtain ⟨ord, hc2, hs2, hN2, hF2⟩ := h
  obtain ⟨xo, xp, xc, rp, gs, rfl, hO2, hS2⟩ := hN2.ex
  have hz2 := hc2.size
  have hbk2 : Blk w2 br [nilv, nilv, nilv] := hbk1.wr (.one (B := fun g => g = bs) rfl hc2) fun e => by omega
  refine go ?_
  refine st_alloc (by first | exact True.intro | exact ⟨_, rfl, by ((try simp only [ev_tmp, ev_const, ev_func, get_put, get_args, get_putL, get_putL_nil, Nat.reduceEqDiff, reduceIte, List.getD_cons_zero, List.getD_cons_succ, List.getD_nil, Bool.not_true, Bool.not_false]); first | done | with_reducible rfl)⟩) fun w3 bp he3 hbp hs3 hbk3 => ?_
  refine st_store_agg (vs := [xo, xp, xc]) (cs := _) (hb := hbk3) (by ((try simp only [ev_tmp, ev_const, ev_func, get_put, get_args, get_putL, get_putL_nil, Nat.reduceEqDiff, reduceIte, List.getD_cons_zero, List.getD_cons_succ, List.getD_nil]); first | done | with_reducible rfl)) (by ((try simp only [ev_tmp, ev_const, ev_func, get_put, get_args, get_putL, get_putL_nil, Nat.reduceEqDiff, reduceIte, List.getD_cons_zero, List.getD_cons_succ, List.getD_nil]); first | done | with_reducible rfl)) rfl rfl hO2.one3 (by first | exact True.intro | exact ⟨_, rfl, by ((try simp only [ev_tmp, ev_const, ev_func, get_put, get_args, get_putL, get_putL_nil, Nat.reduceEqDiff, reduceIte, List.getD_cons_zero, List.getD_cons_succ, List.getD_nil, Bool.not_true, Bool.not_false]); first | done | with_reducible rfl)⟩) fun w4 hc4 hs4 hB4 => ?_
  have hx4 : Ext w2 w4 := hc4.ext he3 (by omega)
  have hz4 := hx4.size
  have hO4 := hO2.ext hx4
  have hC4 : Chg bs w w4 := ((Chg.ofExt he1).trans hc2).grow hx4
  have hs4' := hs2.ext hx4
  have hbk4 : Blk w4 br [nilv, nilv, nilv] := @Blk.ext _ _ _ _ hx4 hbk2
  clear hO2 hbk2 hbk3 hN2 hbk1
  refine go ?_
  refine rc (l01Next_ok (n := 24) hs4') (next := fun v5 w5 h5 => ?_)
  obtain ⟨k5, rfl, hc5, hs5, hk50, hk51, hz5⟩ := h5
  have hO5 := hO4.chg hc5 (.inr (by omega))
  have hC5 := hC4.trans hc5
  have hB5 : Blk w5 bp [xo, xp, xc] := hB4.wr (.one (B := fun g => g = bs) rfl hc5) fun e => by omega
  have hbk5 : Blk w5 br [nilv, nilv, nilv] := hbk4.wr (.one (B := fun g => g = bs) rfl hc5) fun e => by omega
  have hP5 := hO5.pres
  have hn6 : (prOf ord rp gs).ord.length ≤ 6 := hF2.1
  have hsh := hS2.shP
  clear hO4 hB4 hbk4 hC4
  refine go ?_
  refine c_if (fun q0 => ?_) (fun q0 => ?_)
  · refine go ?_
    refine ra (v := .agg #[xo, xp, xc]) (h := rd_load_blk (hb := hB5) (by ((try simp only [ev_tmp, ev_const, ev_func, get_put, get_args, get_putL, get_putL_nil, Nat.reduceEqDiff, reduceIte, List.getD_cons_zero, List.getD_cons_succ, List.getD_nil]); first | done | with_reducible rfl)) rfl) (next := ?_)
    refine go ?_
    refine rc (l07Bend_ok (hp := hP5) hs5 hsh hn6 (by omega)) (next := fun v6 w6 h => ?_)
    obtain ⟨q, hc6, hs6, hP6, hq6⟩ := h
    obtain ⟨yo, yp, yc, ps, cs, css, rfl, _⟩ := hP6.ex
    have o3 := hP6.one3
    have hz6 := hc6.size
    have hbk6 : Blk w6 br [nilv, nilv, nilv] := hbk5.wr (.one (B := fun g => g = bs) rfl hc6) fun e => by omega
    refine go ?_
    refine st_store_agg (vs := [yo, yp, yc]) (cs := _) (hb := hbk6) (by ((try simp only [ev_tmp, ev_const, ev_func, get_put, get_args, get_putL, get_putL_nil, Nat.reduceEqDiff, reduceIte, List.getD_cons_zero, List.getD_cons_succ, List.getD_nil]); first | done | with_reducible rfl)) (by ((try simp only [ev_tmp, ev_const, ev_func, get_put, get_args, get_putL, get_putL_nil, Nat.reduceEqDiff, reduceIte, List.getD_cons_zero, List.getD_cons_succ, List.getD_nil]); first | done | with_reducible rfl)) rfl rfl (by simp [o3.1, o3.2.1, o3.2.2]) (by first | exact True.intro | exact ⟨_, rfl, by ((try simp only [ev_tmp, ev_const, ev_func, get_put, get_args, get_putL, get_putL_nil, Nat.reduceEqDiff, reduceIte, List.getD_cons_zero, List.getD_cons_succ, List.getD_nil, Bool.not_true, Bool.not_false]); first | done | with_reducible rfl)⟩) fun wz hcz hsz hBz => ?_
    refine go ?_
    exact retc (b := br) (hb := hBz) (DrwR.fin (hC5.trans hc6) hs6 hP6 hq6 (by omega) (by omega) (Nat.le_refl _) hbs hcz) rfl
  have turn : ∀ {v : Value} {w6 : World}, DrwR bs w5 v w6 → ∃ yo yp yc q, v = .agg #[yo, yp, yc] ∧ Chg bs w5 w6 ∧ Src w6 bs ∧ Pres w5.heap.size w6.heap.size w6 (.agg #[yo, yp, yc]) q ∧ SizeP q 30 := fun h => by
    obtain ⟨q, hc6, hs6, hP6, hq6⟩ := h
    obtain ⟨yo, yp, yc, ps, cs, css, rfl, _⟩ := hP6.ex
    exact ⟨_, _, _, _, rfl, hc6, hs6, hP6, hq6⟩
  refine go ?_
  refine c_if (fun q1 => ?_) (fun q1 => ?_)
  · refine go ?_
    refine c_if (fun q2 => ?_) (fun q2 => ?_)
    · refine go ?_
      refine ra (v := .agg #[xo, xp, xc]) (h := rd_load_blk (hb := hB5) (by ((try simp only [ev_tmp, ev_const, ev_func, get_put, get_args, get_putL, get_putL_nil, Nat.reduceEqDiff, reduceIte, List.getD_cons_zero, List.getD_cons_succ, List.getD_nil]); first | done | with_reducible rfl)) rfl) (next := ?_)
      refine go ?_
      refine rc (l07Turn_ok (hp := hP5) hs5 hsh hn6 (by omega)) (next := fun v6 w6 h => ?_)
      obtain ⟨yo, yp, yc, q, rfl, hc6, hs6, hP6, hq6⟩ := turn h
      have o3 := hP6.one3
      have hz6 := hc6.size
      have hbk6 : Blk w6 br [nilv, nilv, nilv] := hbk5.wr (.one (B := fun g => g = bs) rfl hc6) fun e => by omega
      refine go ?_
      refine st_store_agg (vs := [yo, yp, yc]) (cs := _) (hb := hbk6) (by ((try simp only [ev_tmp, ev_const, ev_func, get_put, get_args, get_putL, get_putL_nil, Nat.reduceEqDiff, reduceIte, List.getD_cons_zero, List.getD_cons_succ, List.getD_nil]); first | done | with_reducible rfl)) (by ((try simp only [ev_tmp, ev_const, ev_func, get_put, get_args, get_putL, get_putL_nil, Nat.reduceEqDiff, reduceIte, List.getD_cons_zero, List.getD_cons_succ, List.getD_nil]); first | done | with_reducible rfl)) rfl rfl (by simp [o3.1, o3.2.1, o3.2.2]) (by first | exact True.intro | exact ⟨_, rfl, by ((try simp only [ev_tmp, ev_const, ev_func, get_put, get_args, get_putL, get_putL_nil, Nat.reduceEqDiff, reduceIte, List.getD_cons_zero, List.getD_cons_succ, List.getD_nil, Bool.not_true, Bool.not_false]); first | done | with_reducible rfl)⟩) fun wz hcz hsz hBz => ?_
      refine go ?_
      exact retc (b := br) (hb := hBz) (DrwR.fin (hC5.trans hc6) hs6 hP6 hq6 (by omega) (by omega) (Nat.le_refl _) hbs hcz) rfl
    · exact absurd q1 q2
  refine go ?_
  refine c_if (fun q2 => ?_) (fun q2 => ?_)
  · refine go ?_
    refine ra (v := .agg #[xo, xp, xc]) (h := rd_load_blk (hb := hB5) (by ((try simp only [ev_tmp, ev_const, ev_func, get_put, get_args, get_putL, get_putL_nil, Nat.reduceEqDiff, reduceIte, List.getD_cons_zero, List.getD_cons_succ, List.getD_nil]); first | done | with_reducible rfl)) rfl) (next := ?_)
    refine go ?_
    refine rc (l07Turn_ok (hp := hP5) hs5 hsh hn6 (by omega)) (next := fun v6 w6 h => ?_)
    obtain ⟨yo, yp, yc, q, rfl, hc6, hs6, hP6, hq6⟩ := turn h
    have o3 := hP6.one3
    have hz6 := hc6.size
    have hbk6 : Blk w6 br [nilv, nilv, nilv] := hbk5.wr (.one (B := fun g => g = bs) rfl hc6) fun e => by omega
    refine go ?_
    refine st_store_agg (vs := [yo, yp, yc]) (cs := _) (hb := hbk6) (by ((try simp only [ev_tmp, ev_const, ev_func, get_put, get_args, get_putL, get_putL_nil, Nat.reduceEqDiff, reduceIte, List.getD_cons_zero, List.getD_cons_succ, List.getD_nil]); first | done | with_reducible rfl)) (by ((try simp only [ev_tmp, ev_const, ev_func, get_put, get_args, get_putL, get_putL_nil, Nat.reduceEqDiff, reduceIte, List.getD_cons_zero, List.getD_cons_succ, List.getD_nil]); first | done | with_reducible rfl)) rfl rfl (by simp [o3.1, o3.2.1, o3.2.2]) (by first | exact True.intro | exact ⟨_, rfl, by ((try simp only [ev_tmp, ev_const, ev_func, get_put, get_args, get_putL, get_putL_nil, Nat.reduceEqDiff, reduceIte, List.getD_cons_zero, List.getD_cons_succ, List.getD_nil, Bool.not_true, Bool.not_false]); first | done | with_reducible rfl)⟩) fun wz hcz hsz hBz => ?_
    refine go ?_
    exact retc (b := br) (hb := hBz) (DrwR.fin (hC5.trans hc6) hs6 hP6 hq6 (by omega) (by omega) (Nat.le_refl _) hbs hcz) rfl
  refine go ?_
  refine ra (v := .agg #[xo, xp, xc]) (h := rd_load_blk (hb := hB5) (by ((try simp only [ev_tmp, ev_const, ev_func, get_put, get_args, get_putL, get_putL_nil, Nat.reduceEqDiff, reduceIte, List.getD_cons_zero, List.getD_cons_succ, List.getD_nil]); first | done | with_reducible rfl)) rfl) (next := ?_)
  refine st_store_agg (vs := [xo, xp, xc]) (cs := _) (hb := hbk5) (by ((try simp only [ev_tmp, ev_const, ev_func, get_put, get_args, get_putL, get_putL_nil, Nat.reduceEqDiff, reduceIte, List.getD_cons_zero, List.getD_cons_succ, List.getD_nil]); first | done | with_reducible rfl)) (by ((try simp only [ev_tmp, ev_const, ev_func, get_put, get_args, get_putL, get_putL_nil, Nat.reduceEqDiff, reduceIte, List.getD_cons_zero, List.getD_cons_succ, List.getD_nil]); first | done | with_reducible rfl)) rfl rfl hO5.one3 (by first | exact True.intro | exact ⟨_, rfl, by ((try simp only [ev_tmp, ev_const, ev_func, get_put, get_args, get_putL, get_putL_nil, Nat.reduceEqDiff, reduceIte, List.getD_cons_zero, List.getD_cons_succ, List.getD_nil, Bool.not_true, Bool.not_false]); first | done | with_reducible rfl)⟩) fun wz hcz hsz hBz => ?_
  refine go ?_
  exact retc (b := br) (hb := hBz) (DrwR.fin hC5 hs5 hP5 (hsh.sizeP (by omega)) (by omega) (by omega) (Nat.le_refl _) hbs hcz) rfl
set_option maxHeartbeats 16000000 in
theorem l08Draw_ok {w : World} {bs : Nat} (hs : Src w bs) :
    Calls Try.prog 12 #[.pointer (some ⟨bs, 0, none⟩)] w (Ret fun v w' => DrwR bs w v w') := by
  have hbs := hs.lt
  refine enter (args := [.pointer (some ⟨bs, 0, none⟩)]) (l := [.cell 2 28]) Try.func12 rfl rfl Try.ntmps12 (by simp) ?_
  refine go ?_
  refine st_alloc (by first | exact True.intro | exact ⟨_, rfl, by ((try simp only [ev_tmp, ev_const, ev_func, get_put, get_args, get_putL, get_putL_nil, Nat.reduceEqDiff, reduceIte, List.getD_cons_zero, List.getD_cons_succ, List.getD_nil, Bool.not_true, Bool.not_false]); first | done | with_reducible rfl)⟩) fun w1 br he1 hbr hs1 hbk1 => ?_
  have hz1 := he1.size
  refine go ?_
  refine rc (l07Draw_ok (hs.ext he1)) (next := fun v2 w2 h => ?_)
  obtain ⟨p, hc2, hs2, hP2, hp2⟩ := h
  obtain ⟨xo, xp, xc, ps, cs, css, rfl, _⟩ := hP2.ex
  have o3 := hP2.one3
  have hz2 := hc2.size
  have hbk2 : Blk w2 br [nilv, nilv, nilv] := hbk1.wr (.one (B := fun g => g = bs) rfl hc2) fun e => by omega
  refine go ?_
  refine st_alloc (by first | exact True.intro | exact ⟨_, rfl, by ((try simp only [ev_tmp, ev_const, ev_func, get_put, get_args, get_putL, get_putL_nil, Nat.reduceEqDiff, reduceIte, List.getD_cons_zero, List.getD_cons_succ, List.getD_nil, Bool.not_true, Bool.not_false]); first | done | with_reducible rfl)⟩) fun w3 bp he3 hbp hs3 hbk3 => ?_
  refine st_store_agg (vs := [xo, xp, xc]) (cs := _) (hb := hbk3) (by ((try simp only [ev_tmp, ev_const, ev_func, get_put, get_args, get_putL, get_putL_nil, Nat.reduceEqDiff, reduceIte, List.getD_cons_zero, List.getD_cons_succ, List.getD_nil]); first | done | with_reducible rfl)) (by ((try simp only [ev_tmp, ev_const, ev_func, get_put, get_args, get_putL, get_putL_nil, Nat.reduceEqDiff, reduceIte, List.getD_cons_zero, List.getD_cons_succ, List.getD_nil]); first | done | with_reducible rfl)) rfl rfl (by simp [o3.1, o3.2.1, o3.2.2]) (by first | exact True.intro | exact ⟨_, rfl, by ((try simp only [ev_tmp, ev_const, ev_func, get_put, get_args, get_putL, get_putL_nil, Nat.reduceEqDiff, reduceIte, List.getD_cons_zero, List.getD_cons_succ, List.getD_nil, Bool.not_true, Bool.not_false]); first | done | with_reducible rfl)⟩) fun w4 hc4 hs4 hB4 => ?_
  have hx4 : Ext w2 w4 := hc4.ext he3 (by omega)
  have hz4 := hx4.size
  have hP4 : Pres w1.heap.size w2.heap.size w4 _ p := hP2.same (hx4.same _ _)
  have hC4 : Chg bs w w4 := ((Chg.ofExt he1).trans hc2).grow hx4
  have hs4' := hs2.ext hx4
  have hbk4 : Blk w4 br [nilv, nilv, nilv] := @Blk.ext _ _ _ _ hx4 hbk2
  clear hP2 hbk2 hbk3 hbk1
  refine go ?_
  refine rc (l01Next_ok (n := 2) hs4') (next := fun v5 w5 h5 => ?_)
  obtain ⟨k5, rfl, hc5, hs5, hk50, hk51, hz5⟩ := h5
  have hC5 := hC4.trans hc5
  have hB5 : Blk w5 bp [xo, xp, xc] := hB4.wr (.one (B := fun g => g = bs) rfl hc5) fun e => by omega
  have hbk5 : Blk w5 br [nilv, nilv, nilv] := hbk4.wr (.one (B := fun g => g = bs) rfl hc5) fun e => by omega
  have hP5 : Pres w1.heap.size w2.heap.size w5 (.agg #[xo, xp, xc]) p := hP4.same fun g h1 h2 h3 => hc5.by_.block g h3 (fun e => by injection e with e; omega)
  clear hP4 hB4 hbk4 hC4
  have last : ∀ {w6 wz : World}, Ext w5 w6 → Chg br w6 wz → DrwR bs w (.agg #[xo, xp, xc]) wz := fun x c => DrwR.fin (hC5.grow x) (hs5.ext x) (hP5.same (x.same _ _)) hp2 (by omega) (by omega) (by have := x.size; omega) hbs c
  refine go ?_
  refine spd (fun q0 => ?_) (fun q0 => ?_)
  · refine go ?_
    refine ra (v := .agg #[xo, xp, xc]) (h := rd_load_blk (hb := hB5) (by ((try simp only [ev_tmp, ev_const, ev_func, get_put, get_args, get_putL, get_putL_nil, Nat.reduceEqDiff, reduceIte, List.getD_cons_zero, List.getD_cons_succ, List.getD_nil]); first | done | with_reducible rfl)) rfl) (next := ?_)
    refine go ?_
    refine rc (spec_IsPresentation_ok (p := p) (by have := hp2.ord; omega)) (next := fun v6 w6 h => ?_)
    obtain ⟨b6, rfl, hb6, he6⟩ := h
    have hB6 : Blk w6 bp [xo, xp, xc] := @Blk.ext _ _ _ _ he6 hB5
    have hbk6 : Blk w6 br [nilv, nilv, nilv] := @Blk.ext _ _ _ _ he6 hbk5
    have hP6 : Pres w1.heap.size w2.heap.size w6 (.agg #[xo, xp, xc]) p := hP5.same (he6.same _ _)
    have hz6 := he6.size
    refine go ?_
    refine c_b (fun q1 => ?_) (fun q1 => ?_)
    · have hv := hb6.1 (by simpa using q1)
      refine go ?_
      refine ra (v := .agg #[xo, xp, xc]) (h := rd_load_blk (hb := hB6) (by ((try simp only [ev_tmp, ev_const, ev_func, get_put, get_args, get_putL, get_putL_nil, Nat.reduceEqDiff, reduceIte, List.getD_cons_zero, List.getD_cons_succ, List.getD_nil]); first | done | with_reducible rfl)) rfl) (next := ?_)
      refine go ?_
      refine rc (l07Turn_ok (hp := hP6) (hs5.ext he6) (valid_shP hv) hv.n6 (by omega)) (next := fun v7 w7 h => ?_)
      obtain ⟨q, hc7, hs7, hP7, hq7⟩ := h
      obtain ⟨yo, yp, yc, ps, cs, css, rfl, _⟩ := hP7.ex
      have o3 := hP7.one3
      have hz7 := hc7.size
      have hbk7 : Blk w7 br [nilv, nilv, nilv] := hbk6.wr (.one (B := fun g => g = bs) rfl hc7) fun e => by omega
      refine go ?_
      refine st_store_agg (vs := [yo, yp, yc]) (cs := _) (hb := hbk7) (by ((try simp only [ev_tmp, ev_const, ev_func, get_put, get_args, get_putL, get_putL_nil, Nat.reduceEqDiff, reduceIte, List.getD_cons_zero, List.getD_cons_succ, List.getD_nil]); first | done | with_reducible rfl)) (by ((try simp only [ev_tmp, ev_const, ev_func, get_put, get_args, get_putL, get_putL_nil, Nat.reduceEqDiff, reduceIte, List.getD_cons_zero, List.getD_cons_succ, List.getD_nil]); first | done | with_reducible rfl)) rfl rfl (by simp [o3.1, o3.2.1, o3.2.2]) (by first | exact True.intro | exact ⟨_, rfl, by ((try simp only [ev_tmp, ev_const, ev_func, get_put, get_args, get_putL, get_putL_nil, Nat.reduceEqDiff, reduceIte, List.getD_cons_zero, List.getD_cons_succ, List.getD_nil, Bool.not_true, Bool.not_false]); first | done | with_reducible rfl)⟩) fun wz hcz hsz hBz => ?_
      refine go ?_
      exact retc (b := br) (hb := hBz) (DrwR.fin ((hC5.grow he6).trans hc7) hs7 hP7 hq7 (by omega) (by omega) (Nat.le_refl _) hbs hcz) rfl
    · refine go ?_
      refine ra (v := .agg #[xo, xp, xc]) (h := rd_load_blk (hb := hB6) (by ((try simp only [ev_tmp, ev_const, ev_func, get_put, get_args, get_putL, get_putL_nil, Nat.reduceEqDiff, reduceIte, List.getD_cons_zero, List.getD_cons_succ, List.getD_nil]); first | done | with_reducible rfl)) rfl) (next := ?_)
      refine st_store_agg (vs := [xo, xp, xc]) (cs := _) (hb := hbk6) (by ((try simp only [ev_tmp, ev_const, ev_func, get_put, get_args, get_putL, get_putL_nil, Nat.reduceEqDiff, reduceIte, List.getD_cons_zero, List.getD_cons_succ, List.getD_nil]); first | done | with_reducible rfl)) (by ((try simp only [ev_tmp, ev_const, ev_func, get_put, get_args, get_putL, get_putL_nil, Nat.reduceEqDiff, reduceIte, List.getD_cons_zero, List.getD_cons_succ, List.getD_nil]); first | done | with_reducible rfl)) rfl rfl (by simp [o3.1, o3.2.1, o3.2.2]) (by first | exact True.intro | exact ⟨_, rfl, by ((try simp only [ev_tmp, ev_const, ev_func, get_put, get_args, get_putL, get_putL_nil, Nat.reduceEqDiff, reduceIte, List.getD_cons_zero, List.getD_cons_succ, List.getD_nil, Bool.not_true, Bool.not_false]); first | done | with_reducible rfl)⟩) fun wz hcz hsz hBz => ?_
      refine go ?_
      exact retc (b := br) (hb := hBz) (last he6 hcz) rfl
  · refine go ?_
    refine ra (v := .agg #[xo, xp, xc]) (h := rd_load_blk (hb := hB5) (by ((try simp only [ev_tmp, ev_const, ev_func, get_put, get_args, get_putL, get_putL_nil, Nat.reduceEqDiff, reduceIte, List.getD_cons_zero, List.getD_cons_succ, List.getD_nil]); first | done | with_reducible rfl)) rfl) (next := ?_)
    refine st_store_agg (vs := [xo, xp, xc]) (cs := _) (hb := hbk5) (by ((try simp only [ev_tmp, ev_const, ev_func, get_put, get_args, get_putL, get_putL_nil, Nat.reduceEqDiff, reduceIte, List.getD_cons_zero, List.getD_cons_succ, List.getD_nil]); first | done | with_reducible rfl)) (by ((try simp only [ev_tmp, ev_const, ev_func, get_put, get_args, get_putL, get_putL_nil, Nat.reduceEqDiff, reduceIte, List.getD_cons_zero, List.getD_cons_succ, List.getD_nil]); first | done | with_reducible rfl)) rfl rfl (by simp [o3.1, o3.2.1, o3.2.2]) (by first | exact True.intro | exact ⟨_, rfl, by ((try simp only [ev_tmp, ev_const, ev_func, get_put, get_args, get_putL, get_putL_nil, Nat.reduceEqDiff, reduceIte, List.getD_cons_zero, List.getD_cons_succ, List.getD_nil, Bool.not_true, Bool.not_false]); first | done | with_reducible rfl)⟩) fun wz hcz hsz hBz => ?_
    refine go ?_
    exact retc (b := br) (hb := hBz) (last (Ext.refl _) hcz) rfl
set_option maxHeartbeats 2000000 in
theorem l09Limit_ok {w : World} {bs : Nat} (hs : Src w bs) :
    Calls Try.prog 14 #[.pointer (some ⟨bs, 0, none⟩)] w (Ret fun v w' => ∃ k : Int, v = .int .i64 k ∧ Chg bs w w' ∧ Src w' bs) := by
  have hbs := hs.lt
  refine enter (args := [.pointer (some ⟨bs, 0, none⟩)]) (l := [.tmp 2]) Try.func14 rfl rfl Try.ntmps14 (by simp) ?_
  refine go ?_
  refine rc (l01Next_ok (n := 15) hs) (next := fun v5 w5 h5 => ?_)
  obtain ⟨k5, rfl, hc5, hs5, hk50, hk51, hz5⟩ := h5
  refine go ?_
  refine c_if (fun q0 => ?_) (fun q0 => ?_)
  · refine go ?_
    refine st_sliceN (us := [.int .i64 (-1), .int .i64 0, .int .i64 1, .int .i64 2, .int .i64 2001]) (next := fun w6 v6 he6 hz6 ho6 => ?_)
    have ho6' : OwnI 2 w5.heap.size w6 v6 [-1, 0, 1, 2, 2001] := ⟨ho6⟩
    have hi6 := (ho6'.toFr (Nat.le_refl _)).ints
    refine go ?_
    refine rc (l01Pick_ok (hs5.ext he6) (xs := [-1, 0, 1, 2, 2001]) (by simp) (by simp) (.inl ?_)) (next := fun v7 w7 h7 => ?_)
    · omega
    obtain ⟨m7, rfl, hc7, hs7, hm7, hz7⟩ := h7
    refine go ?_
    exact ret1 ⟨_, rfl, (hc5.grow he6).trans hc7, hs7⟩
  · refine go ?_
    refine st_sliceN (us := [.int .i64 5, .int .i64 20, .int .i64 2000, .int .i64 2000, .int .i64 2000]) (next := fun w6 v6 he6 hz6 ho6 => ?_)
    have ho6' : OwnI 2 w5.heap.size w6 v6 [5, 20, 2000, 2000, 2000] := ⟨ho6⟩
    have hi6 := (ho6'.toFr (Nat.le_refl _)).ints
    refine go ?_
    refine rc (l01Pick_ok (hs5.ext he6) (xs := [5, 20, 2000, 2000, 2000]) (by simp) (by simp) (.inl ?_)) (next := fun v7 w7 h7 => ?_)
    · omega
    obtain ⟨m7, rfl, hc7, hs7, hm7, hz7⟩ := h7
    refine go ?_
    exact ret1 ⟨_, rfl, (hc5.grow he6).trans hc7, hs7⟩
end Go.Proofs.Ytflniifngfiekaa

/-
  Walks: the reference's l10Two, DrawConsistencyFault, DrawCollectProduct, DrawConjugate, DrawPower.
  Conditions: the code is a list of bytes.
-/
namespace Go.Pc
open Go Go.RowKit
section
variable {P : Program} {N : Nat} {ops : Array Oper} {π : List Nat} {S : World → Prop} {K : Env → World → Prop} {ρ : Env} {w w0 : World}
variable {i : Nat} {d : Nat} {op : Op} {ty : TypeId} {pos : String} {after : Array Edge} {g : Option (Nat × Bool)}
/-- A drawn region that writes some blocks. -/
theorem y_order {Q : Post} {id : Nat} [hm : Draws P] (B : Nat → Prop) (π : List Nat) (hπ : π.length = ops.size := by rfl) (h : ∀ w0, Ext w w0 → w0.heap.size = w.heap.size → dops P N ops π (Wrt B w0) (fun ρ w => Q .normal ρ w) 0 ρ w0) : rwp P N (.region id ops true) Q ρ w :=
  r_draw _ hπ _ hm.eq (.refl _) (h _ (Ext.drew' w) rfl)
theorem y_ld {B : Nat → Prop} {x : Operand} {t b n : Nat} {cs : List Value} [hp : StructT P t n] (hB : Blk w0 b cs) (hb : ¬ B b) (hn : n = cs.length) (next : dops P N ops π (Wrt B w0) K (i + 1) (put ρ d (.agg cs.toArray)) w)
    (hi : opAt ops π i = some ⟨some d, .load t x, ty, pos, after, g⟩ := by exact rfl) (hx : ev ρ x = .pointer (some ⟨b, 0, none⟩) := by ((try simp only [ev_tmp, ev_const, ev_func, get_put, get_args, get_putL, get_putL_nil, Nat.reduceEqDiff, reduceIte, List.getD_cons_zero, List.getD_cons_succ, List.getD_nil]); first | done | with_reducible rfl)) (hs : Region.noSelect ops = true := by decide +kernel) (ht : takeOk ops π i = true := by decide +kernel) (hd : d < N := by decide) (hg : Wants ops ρ g := by first | exact True.intro | exact ⟨_, rfl, by ((try simp only [ev_tmp, ev_const, ev_func, get_put, get_args, get_putL, get_putL_nil, Nat.reduceEqDiff, reduceIte, List.getD_cons_zero, List.getD_cons_succ, List.getD_nil, Bool.not_true, Bool.not_false]); first | done | with_reducible rfl)⟩) : dops P N ops π (Wrt B w0) K i ρ w :=
  dt_rd hi hs ht hd hg (fun w' hw' => rd_load_blk (hb := hB.wr hw' hb) hx hn) next
theorem y_mv {x : Operand} {v : Value} (next : dops P N ops π S K (i + 1) (put ρ d v) w)
    (hi : opAt ops π i = some ⟨some d, .move x, ty, pos, after, g⟩ := by exact rfl) (hx : ev ρ x = v := by ((try simp only [ev_tmp, ev_const, ev_func, get_put, get_args, get_putL, get_putL_nil, Nat.reduceEqDiff, reduceIte, List.getD_cons_zero, List.getD_cons_succ, List.getD_nil]); first | done | with_reducible rfl)) (hs : Region.noSelect ops = true := by decide +kernel) (ht : takeOk ops π i = true := by decide +kernel) (hd : d < N := by decide) (hg : Wants ops ρ g := by first | exact True.intro | exact ⟨_, rfl, by ((try simp only [ev_tmp, ev_const, ev_func, get_put, get_args, get_putL, get_putL_nil, Nat.reduceEqDiff, reduceIte, List.getD_cons_zero, List.getD_cons_succ, List.getD_nil, Bool.not_true, Bool.not_false]); first | done | with_reducible rfl)⟩) : dops P N ops π S K i ρ w :=
  dt_rd hi hs ht hd hg (fun w' _ => rd_move hx) next
theorem y_as {x : Operand} {v : Value} (next : dops P N ops π S K (i + 1) (put ρ d v) w)
    (hi : opAt ops π i = some ⟨some d, .assign x, ty, pos, after, g⟩ := by exact rfl) (hx : ev ρ x = v := by ((try simp only [ev_tmp, ev_const, ev_func, get_put, get_args, get_putL, get_putL_nil, Nat.reduceEqDiff, reduceIte, List.getD_cons_zero, List.getD_cons_succ, List.getD_nil]); first | done | with_reducible rfl)) (hs : Region.noSelect ops = true := by decide +kernel) (ht : takeOk ops π i = true := by decide +kernel) (hd : d < N := by decide) (hg : Wants ops ρ g := by first | exact True.intro | exact ⟨_, rfl, by ((try simp only [ev_tmp, ev_const, ev_func, get_put, get_args, get_putL, get_putL_nil, Nat.reduceEqDiff, reduceIte, List.getD_cons_zero, List.getD_cons_succ, List.getD_nil, Bool.not_true, Bool.not_false]); first | done | with_reducible rfl)⟩) : dops P N ops π S K i ρ w :=
  dt_rd hi hs ht hd hg (fun w' _ => rd_assign hx) next
theorem y_call {B : Nat → Prop} {b : Nat} {f : FuncId} {args : Array Value} {R : Value → World → Prop} (hc : Calls P f args w (Ret R)) (hR : ∀ v w', R v w' → Chg b w w') (hB : B b) (next : ∀ v w', R v w' → dops P N ops π (Wrt B w0) K (i + 1) (put ρ d v) w')
    (hi : opAt ops π i = some ⟨some d, op, ty, pos, after, g⟩ := by exact rfl) (hn : nextOk ops π i = true := by decide +kernel) (hd : d < N := by decide) (ho : Cl P op ty ρ f args := by ((first | refine cl_func ?_ | refine cl_fval ((by ((try simp only [ev_tmp, ev_const, ev_func, get_put, get_args, get_putL, get_putL_nil, Nat.reduceEqDiff, reduceIte, List.getD_cons_zero, List.getD_cons_succ, List.getD_nil]); first | done | with_reducible rfl))) ?_); ((try simp only [List.map_toArray, List.map_cons, List.map_nil, ev_tmp, ev_const, ev_func, get_put, get_args, get_putL, get_putL_nil, Nat.reduceEqDiff, reduceIte, List.getD_cons_zero, List.getD_cons_succ, List.getD_nil]); first | done | with_reducible rfl | rfl))) (hg : Wants ops ρ g := by first | exact True.intro | exact ⟨_, rfl, by ((try simp only [ev_tmp, ev_const, ev_func, get_put, get_args, get_putL, get_putL_nil, Nat.reduceEqDiff, reduceIte, List.getD_cons_zero, List.getD_cons_succ, List.getD_nil, Bool.not_true, Bool.not_false]); first | done | with_reducible rfl)⟩) : dops P N ops π (Wrt B w0) K i ρ w :=
  dt_call hi hn hd hg ho hc fun v w' h => ⟨fun hS => .step hS hB (hR v w' h), next v w' h⟩
theorem y_st {B : Nat → Prop} {t b n : Nat} {x y : Operand} {cs vs : List Value} [hp : StructT P t n] (hb : Blk w b cs) (hB : B b) (hn0 : n = vs.length) (hc : cs.length = vs.length) (h1 : vs.all (·.oneCell') = true)
    (next : ∀ w', Chg b w w' → w'.heap.size = w.heap.size → Blk w' b vs → dops P N ops π (Wrt B w0) K (i + 1) ρ w')
    (hi : opAt ops π i = some ⟨none, .store t x y, ty, pos, after, g⟩ := by exact rfl) (hx : ev ρ x = .pointer (some ⟨b, 0, none⟩) := by ((try simp only [ev_tmp, ev_const, ev_func, get_put, get_args, get_putL, get_putL_nil, Nat.reduceEqDiff, reduceIte, List.getD_cons_zero, List.getD_cons_succ, List.getD_nil]); first | done | with_reducible rfl)) (hy : ev ρ y = .agg vs.toArray := by ((try simp only [ev_tmp, ev_const, ev_func, get_put, get_args, get_putL, get_putL_nil, Nat.reduceEqDiff, reduceIte, List.getD_cons_zero, List.getD_cons_succ, List.getD_nil]); first | done | with_reducible rfl)) (hn : nextOk ops π i = true := by decide +kernel) (hg : Wants ops ρ g := by first | exact True.intro | exact ⟨_, rfl, by ((try simp only [ev_tmp, ev_const, ev_func, get_put, get_args, get_putL, get_putL_nil, Nat.reduceEqDiff, reduceIte, List.getD_cons_zero, List.getD_cons_succ, List.getD_nil, Bool.not_true, Bool.not_false]); first | done | with_reducible rfl)⟩) : dops P N ops π (Wrt B w0) K i ρ w := by
  obtain ⟨w', hw, hC, hs, hB'⟩ := wr_agg (P := P) (t := t) (ty := ty) hb hx hy hn0 hc h1
  exact z_wr hi hn hg hw (fun h => .step h hB hC) (next w' hC hs hB')
theorem y_end (h : K ρ w) (hd : doneOk ops π i = true := by decide +kernel) : dops P N ops π S K i ρ w := dt_end hd h
/-- Four results, the first in a variable. -/
def retQ4 (P : Program) (t : Tmp) (ty : TypeId) (a b c : Tmp) (R : Value → World → Prop) : Post
  | .ret, ρ, w | .normal, ρ, w => ∃ q v, get ρ t = .pointer (some q) ∧ (loadVar ty q).run P w = .ok v w ∧ R (.tuple #[v, get ρ a, get ρ b, get ρ c]) w
  | _, _, _ => False
theorem results4 {fn : Func} {t : Tmp} {ty : TypeId} {a b c : Tmp} (hl : fn.results = #[.cell t ty, .tmp a, .tmp b, .tmp c]) {ac : Act} {N : Nat} (h : Ok N ac ρ) {R : Value → World → Prop} (hR : ∃ q v, get ρ t = .pointer (some q) ∧ (loadVar ty q).run P w = .ok v w ∧ R (.tuple #[v, get ρ a, get ρ b, get ρ c]) w) :
    ∃ v, (results fn ac.tmps).run P w = .ok v w ∧ R v w := by
  have he : ∀ t, ac.tmps.getD t undef = get ρ t := h.env
  obtain ⟨q, v, h1, h2, h3⟩ := hR
  refine ⟨_, ?_, h3⟩
  have this := he t
  rw [h1] at this
  simp only [Array.getD_eq_getD_getElem?] at this
  simp [results, hl, this, asAddr, h2, ← he]
theorem enter4 {f : FuncId} {fn : Func} {c : Code} {args : List Value} {R : Value → World → Prop} {t : Tmp} {ty : TypeId} {a1 a2 a3 : Tmp} (hf : P.funcs[f]? = some fn) (hb : fn.body = some c) (hl : fn.results = #[.cell t ty, .tmp a1, .tmp a2, .tmp a3])
    {n : Nat} (hn : fn.ntmps = n) (hlen : args.length ≤ n) (h : rwp P n c (retQ4 P t ty a1 a2 a3 R) (argsEnv args) w) : Calls P f args.toArray w (Ret R) := by
  refine calls_of_wp hf hb ?_
  unfold rwp at h
  refine wp_mono (h _ ⟨?_, rfl, ?_⟩) ?_
  · simp [hn]; omega
  · intro t
    simp only [argsEnv, Array.getD_eq_getD_getElem?, List.getD_eq_getElem?_getD, Array.getElem?_append, Array.getElem?_replicate, List.size_toArray, List.getElem?_toArray]
    by_cases ht : t < args.length
    · simp [ht]
    · rw [if_neg ht, List.getElem?_eq_none (by omega)]
      split <;> rfl
  · rintro e a w' ⟨ρ', hok, hq⟩
    cases e with
    | ret => obtain ⟨v, hv, hR⟩ := results4 hl hok hq; exact ⟨hok.defers, v, hv, hR⟩
    | normal => obtain ⟨v, hv, hR⟩ := results4 hl hok hq; exact ⟨hok.defers, v, hv, hR⟩
    | _ => exact hq.elim
theorem retc4 {t a1 a2 a3 : Tmp} {ty : TypeId} {R : Value → World → Prop} {b n : Nat} {cs : List Value} {x y z : Value} [hp : StructT P ty n] [hb : Blk w b cs] (h : R (.tuple #[.agg cs.toArray, x, y, z]) w) (hn : n = cs.length) (hv : get ρ t = .pointer (some ⟨b, 0, none⟩) := by ((try simp only [ev_tmp, ev_const, ev_func, get_put, get_args, get_putL, get_putL_nil, Nat.reduceEqDiff, reduceIte, List.getD_cons_zero, List.getD_cons_succ, List.getD_nil, Bool.not_true, Bool.not_false]); first | done | with_reducible rfl)) (hx : get ρ a1 = x := by ((try simp only [ev_tmp, ev_const, ev_func, get_put, get_args, get_putL, get_putL_nil, Nat.reduceEqDiff, reduceIte, List.getD_cons_zero, List.getD_cons_succ, List.getD_nil, Bool.not_true, Bool.not_false]); first | done | with_reducible rfl)) (hy : get ρ a2 = y := by ((try simp only [ev_tmp, ev_const, ev_func, get_put, get_args, get_putL, get_putL_nil, Nat.reduceEqDiff, reduceIte, List.getD_cons_zero, List.getD_cons_succ, List.getD_nil, Bool.not_true, Bool.not_false]); first | done | with_reducible rfl)) (hz : get ρ a3 = z := by ((try simp only [ev_tmp, ev_const, ev_func, get_put, get_args, get_putL, get_putL_nil, Nat.reduceEqDiff, reduceIte, List.getD_cons_zero, List.getD_cons_succ, List.getD_nil, Bool.not_true, Bool.not_false]); first | done | with_reducible rfl)) : retQ4 P t ty a1 a2 a3 R .ret ρ w := by
  refine ⟨_, _, hv, run_loadAgg (h := hb) hn, ?_⟩
  rw [hx, hy, hz]; exact h
attribute [irreducible] retQ4
end
end Go.Pc
namespace Go.Proofs.Ytflniifngfiekaa
open Go Go.Pc
/-- What a draw gives: a presentation whose lists are short. -/
def DrP (w : World) (v : Value) (w' : World) : Prop := ∃ p, Ext w w' ∧ Pres w.heap.size w'.heap.size w' v p ∧ SizeP p 30
/-- A code. -/
structure Cod (lo hi : Nat) (w : World) (v : Value) (cs : List Int) : Prop where
  sl : Sl lo hi w v (cs.map (Value.int .u8))
  rng : ∀ c, c ∈ cs → 0 ≤ c ∧ c < 256
  len : cs.length ≤ 1000000
set_option maxHeartbeats 8000000 in
theorem DrawCollectProduct_ok {w : World} {vc : Value} {cs : List Int} {lo hi : Nat} (hc : Cod lo hi w vc cs) :
    Calls Try.prog 5 #[vc] w (Ret fun v w' => ∃ (v0 v1 v2 : Value) (xs ys : List Int) (k : Int), v = .tuple #[v0, v1, v2, .int .i64 k] ∧ DrP w v0 w' ∧ Fr w.heap.size w' v1 xs ∧ Fr w.heap.size w' v2 ys ∧ xs.length ≤ 1001 ∧ ys.length ≤ 1001) := by
  refine enter4 (args := [vc]) (t := 2) (ty := 28) (a1 := 3) (a2 := 4) (a3 := 5) Try.func5 rfl rfl Try.ntmps5 (by simp) ?_
  refine go ?_
  refine st_alloc (by first | exact True.intro | exact ⟨_, rfl, by ((try simp only [ev_tmp, ev_const, ev_func, get_put, get_args, get_putL, get_putL_nil, Nat.reduceEqDiff, reduceIte, List.getD_cons_zero, List.getD_cons_succ, List.getD_nil, Bool.not_true, Bool.not_false]); first | done | with_reducible rfl)⟩) fun w1 br he1 hbr hs1 hbk1 => ?_
  have hz1 := he1.size
  refine go ?_
  refine rc (l01From_ok (lo := lo) (hi := hi) (cs := cs) (hc.sl.same (he1.same _ _)) hc.rng hc.len) (next := fun v2 w2 h => ?_)
  obtain ⟨bs, rfl, he2, hs2, hb2⟩ := h
  have hz2 := he2.size
  have hbs := hs2.lt
  refine go ?_
  refine rc (l08Draw_ok hs2) (next := fun v3 w3 h => ?_)
  obtain ⟨p, hc3, hs3, hP3, hp3⟩ := h
  obtain ⟨xo, xp, xc, ps, css, csss, rfl, _⟩ := hP3.ex
  have o3 := hP3.one3
  have hz3 := hc3.size
  have hbk3 : Blk w3 br [nilv, nilv, nilv] := (@Blk.ext _ _ _ _ he2 hbk1).wr (.one (B := fun g => g = bs) rfl hc3) fun e => by omega
  refine go ?_
  refine st_alloc (by first | exact True.intro | exact ⟨_, rfl, by ((try simp only [ev_tmp, ev_const, ev_func, get_put, get_args, get_putL, get_putL_nil, Nat.reduceEqDiff, reduceIte, List.getD_cons_zero, List.getD_cons_succ, List.getD_nil, Bool.not_true, Bool.not_false]); first | done | with_reducible rfl)⟩) fun w4 bp he4 hbp hs4 hbk4 => ?_
  refine st_store_agg (vs := [xo, xp, xc]) (cs := _) (hb := hbk4) (by ((try simp only [ev_tmp, ev_const, ev_func, get_put, get_args, get_putL, get_putL_nil, Nat.reduceEqDiff, reduceIte, List.getD_cons_zero, List.getD_cons_succ, List.getD_nil]); first | done | with_reducible rfl)) (by ((try simp only [ev_tmp, ev_const, ev_func, get_put, get_args, get_putL, get_putL_nil, Nat.reduceEqDiff, reduceIte, List.getD_cons_zero, List.getD_cons_succ, List.getD_nil]); first | done | with_reducible rfl)) rfl rfl (by simp [o3.1, o3.2.1, o3.2.2]) (by first | exact True.intro | exact ⟨_, rfl, by ((try simp only [ev_tmp, ev_const, ev_func, get_put, get_args, get_putL, get_putL_nil, Nat.reduceEqDiff, reduceIte, List.getD_cons_zero, List.getD_cons_succ, List.getD_nil, Bool.not_true, Bool.not_false]); first | done | with_reducible rfl)⟩) fun w5 hc5 hs5 hB5 => ?_
  have hx5 : Ext w3 w5 := hc5.ext he4 (by omega)
  have hz5 := hx5.size
  have hbk5 : Blk w5 br [nilv, nilv, nilv] := @Blk.ext _ _ _ _ hx5 hbk3
  have hP5 : Pres w2.heap.size w3.heap.size w5 (.agg #[xo, xp, xc]) p := hP3.same (hx5.same _ _)
  have hs5' := hs3.ext hx5
  have hC5 : Chg bs w2 w5 := hc3.grow hx5
  have hol : p.ord.length ≤ 1000 := by have := hp3.ord; omega
  clear hP3 hbk3 hbk4
  refine go ?_
  refine ra (v := .agg #[xo, xp, xc]) (h := rd_load_blk (hb := hB5) (by ((try simp only [ev_tmp, ev_const, ev_func, get_put, get_args, get_putL, get_putL_nil, Nat.reduceEqDiff, reduceIte, List.getD_cons_zero, List.getD_cons_succ, List.getD_nil]); first | done | with_reducible rfl)) rfl) (next := ?_)
  refine go ?_
  refine rc (l07Vectors_ok (hp := hP5) hs5' (by omega) hol) (next := fun va w6 h => ?_)
  obtain ⟨xs, hc6, hs6, hf6, hl6⟩ := h
  have hz6 := hc6.size
  have hP6 : Pres w2.heap.size w3.heap.size w6 (.agg #[xo, xp, xc]) p := hP5.same (hc6.same (.inl (by omega)))
  have hB6 : Blk w6 bp [xo, xp, xc] := hB5.wr (.one (B := fun g => g = bs) rfl hc6) fun e => by omega
  have hbk6 : Blk w6 br [nilv, nilv, nilv] := hbk5.wr (.one (B := fun g => g = bs) rfl hc6) fun e => by omega
  have hC6 := hC5.trans hc6
  refine go ?_
  refine ra (v := .agg #[xo, xp, xc]) (h := rd_load_blk (hb := hB6) (by ((try simp only [ev_tmp, ev_const, ev_func, get_put, get_args, get_putL, get_putL_nil, Nat.reduceEqDiff, reduceIte, List.getD_cons_zero, List.getD_cons_succ, List.getD_nil]); first | done | with_reducible rfl)) rfl) (next := ?_)
  refine go ?_
  refine rc (l07Vectors_ok (hp := hP6) hs6 (by omega) hol) (next := fun vb w7 h => ?_)
  obtain ⟨ys, hc7, hs7, hg7, hl7⟩ := h
  have hz7 := hc7.size
  have hP7 : Pres w2.heap.size w3.heap.size w7 (.agg #[xo, xp, xc]) p := hP6.same (hc7.same (.inl (by omega)))
  have hB7 : Blk w7 bp [xo, xp, xc] := hB6.wr (.one (B := fun g => g = bs) rfl hc7) fun e => by omega
  have hbk7 : Blk w7 br [nilv, nilv, nilv] := hbk6.wr (.one (B := fun g => g = bs) rfl hc7) fun e => by omega
  have hC7 := hC6.trans hc7
  have hf7 : Fr w5.heap.size w7 va xs := hf6.wr (.one (B := fun g => g = bs) rfl hc7) (fun hn b hb e => by obtain ⟨k, e1, e2, _⟩ := hf6.block hn; rw [hb] at e1; injection e1 with e1; omega)
  refine go ?_
  refine y_order (fun g => g = bs ∨ g = br) (List.range 9) (h := fun w8 he8 _ => ?_)
  have hz8 := he8.size
  refine y_ld (@Blk.ext _ _ _ _ he8 hB7) (by omega) rfl (next := ?_)
  refine y_mv (next := ?_)
  refine y_mv (next := ?_)
  refine y_mv (next := ?_)
  refine y_call (l09Limit_ok (hs7.ext he8)) (hR := fun _ _ ⟨_, _, h, _⟩ => h) (.inl rfl) (next := fun v9 w9 h => ?_)
  obtain ⟨k9, rfl, hc9, hs9⟩ := h
  have hz9 := hc9.size
  refine y_st ((@Blk.ext _ _ _ _ he8 hbk7).wr (.one (B := fun g => g = bs) rfl hc9) fun e => by omega) (vs := [xo, xp, xc]) (.inr rfl) rfl rfl (by simp [o3.1, o3.2.1, o3.2.2]) (next := fun wz hcz hsz hBz => ?_)
  refine y_as (next := ?_)
  refine y_as (next := ?_)
  refine y_as (next := ?_)
  refine y_end ?_
  refine go ?_
  refine retc4 (b := br) (hb := hBz) ⟨_, _, _, xs, ys, k9, rfl, ⟨p, hcz.ext (((hC7.grow he8).trans hc9).ext (he1.trans he2) (by omega)) (by omega), (((hP7.same (he8.same _ _)).same (hc9.same (.inl (by omega)))).same fun g h4 h5 h6 => hcz.by_.block g h6 (fun e => by injection e with e; omega)).mono (by omega) (by have := hcz.size; omega), hp3⟩, ?_, ?_, hl6, hl7⟩ rfl
  · exact (((hf7.ext' he8).wr (.one (B := fun g => g = bs) rfl hc9) (fun hn b hb e => by obtain ⟨k, e1, e2, _⟩ := hf7.block hn; rw [hb] at e1; injection e1 with e1; omega)).wr (.one (B := fun g => g = br) rfl hcz) (fun hn b hb e => by obtain ⟨k, e1, e2, _⟩ := hf7.block hn; rw [hb] at e1; injection e1 with e1; omega)).mono (by omega)
  · exact (((hg7.ext' he8).wr (.one (B := fun g => g = bs) rfl hc9) (fun hn b hb e => by obtain ⟨k, e1, e2, _⟩ := hg7.block hn; rw [hb] at e1; injection e1 with e1; omega)).wr (.one (B := fun g => g = br) rfl hcz) (fun hn b hb e => by obtain ⟨k, e1, e2, _⟩ := hg7.block hn; rw [hb] at e1; injection e1 with e1; omega)).mono (by omega)
end Go.Proofs.Ytflniifngfiekaa

/-
  Walk: the program's check of a presentation (IsPresentation).
  Conditions: stated at each theorem.
-/
namespace Go.Proofs.Ytflniifngfiekaa
open Go Go.Pc
theorem foldl_mono : ∀ (l : List Int) (a : Int), (∀ o ∈ l, 1 ≤ o) → 1 ≤ a → a ≤ l.foldl (· * ·) a :=
  fun l a h ha => (capMul_foldl l a h ha).2.1
theorem prod_take {l : List Int} {k : Nat} (h : ∀ o ∈ l, 1 ≤ o) : 1 ≤ (l.take k).foldl (· * ·) 1 ∧ (l.take k).foldl (· * ·) 1 ≤ l.foldl (· * ·) 1 := by
  have h1 := foldl_mono (l.take k) 1 (fun o ho => h o (List.mem_of_mem_take ho)) (by omega)
  have h2 := foldl_mono (l.drop k) ((l.take k).foldl (· * ·) 1) (fun o ho => h o (List.mem_of_mem_drop ho)) h1
  rw [← List.foldl_append, List.take_append_drop] at h2
  exact ⟨h1, h2⟩
set_option maxHeartbeats 2000000 in
theorem impl_IsPresentation_ok {w : World} {v : Value} {p : Pr} {lo hi : Nat} [hp : Pres lo hi w v p] (hl : p.ord.length ≤ 2000000) :
    Calls Try.prog 15 #[v] w (Ret fun v' w' => ∃ b, v' = .bool b ∧ (b = true ↔ Valid p) ∧ Ext w w') := by
  have hol : p.ord.length = p.n := rfl
  obtain ⟨vo, vpw, vc, ps, cs, css, rfl, h1, h2, h3⟩ := hp.ex
  refine enter (args := [.agg #[vo, vpw, vc]]) (l := [.tmp 2]) Try.func15 rfl rfl Try.ntmps15 (by simp) ?_
  refine go ?_
  refine st_box3 (by ((try simp only [ev_tmp, ev_const, ev_func, get_put, get_args, get_putL, get_putL_nil, Nat.reduceEqDiff, reduceIte, List.getD_cons_zero, List.getD_cons_succ, List.getD_nil]); first | done | with_reducible rfl)) (by first | exact True.intro | exact ⟨_, rfl, by ((try simp only [ev_tmp, ev_const, ev_func, get_put, get_args, get_putL, get_putL_nil, Nat.reduceEqDiff, reduceIte, List.getD_cons_zero, List.getD_cons_succ, List.getD_nil, Bool.not_true, Bool.not_false]); first | done | with_reducible rfl)⟩) fun w1 b he1 hb1 hs1 hc0 hc1 hc2 => ?_
  have no : ∀ {w' : World}, ¬ Valid p → Ext w w' → ∃ b, Value.bool false = .bool b ∧ (b = true ↔ Valid p) ∧ Ext w w' := fun h he => ⟨_, rfl, by simp [h], he⟩
  have hpp := hp.boxed he1 hc0 hc1 hc2
  refine go ?_
  refine spd (fun hn => ?_) (fun hn => ?_)
  · refine go ?_
    exact ret1 (no (fun h => by have := h.n6; omega) he1)
  refine go ?_
  refine spd (fun hn2 => ?_) (fun hn2 => ?_)
  · refine go ?_
    exact ret1 (no (fun h => by have := h.lenw; omega) he1)
  refine go ?_
  refine c_if (fun hn3 => ?_) (fun hn3 => ?_)
  · refine go ?_
    exact ret1 (no (fun h => by have := h.lenc; omega) he1)
  refine go ?_
  refine r_for p.n (fun k ρ w' => Has ρ [(1, .pointer (some ⟨b, 0, none⟩)), (3, .int .i64 p.n), (4, .int .i64 ((p.ord.take k).foldl (· * ·) 1)), (30, vo), (31, .int .i64 p.n), (32, .int .i64 k)] ∧ Ext w1 w' ∧
    (p.ord.take k).foldl (· * ·) 1 ≤ 729 ∧ ∀ i, i < k → p.ord.getD i 0 = 2 ∨ p.ord.getD i 0 = 3 ∨ p.ord.getD i 0 = 5 ∨ p.ord.getD i 0 = 7) ?_ ?_
  · refine ⟨?_, Ext.refl _, by simp, fun i hi => by omega⟩
    exact hasP
  rintro k ρ w2 hk ⟨hH, he2, hpr, hpre⟩
  refine rwp_has hH fun ρ0 => ?_
  refine go ?_
  refine c_if (fun hk1 => ?_) (fun hk1 => ?_)
  · have hkn : k < p.n := by omega
    have hps : (p.ord.take (k + 1)).foldl (· * ·) 1 = (p.ord.take k).foldl (· * ·) 1 * p.ord.getD k 0 := foldl_take_succ _ _ _ _ _ hkn
    refine go ?_
    refine rc IsGroupPrime_ok (next := fun v3 w3 h3 => ?_)
    obtain ⟨b3, rfl, hb3, he3⟩ := h3
    refine go ?_
    refine sp (fun h4 => ?_) (fun h4 => ?_)
    · refine go ?_
      refine ret1 (no (fun h => ?_) ((he1.trans he2).trans he3))
      have := hb3.2 (h.prime k (by omega))
      rw [this] at h4; cases h4
    · have h5 := hb3.1 (by simpa using h4)
      have hone : 1 ≤ (p.ord.take k).foldl (· * ·) 1 := by
        refine foldl_mono _ 1 (fun o ho => ?_) (by omega)
        obtain ⟨i, hi, rfl⟩ := List.getElem_of_mem ho
        rw [List.length_take] at hi
        have := hpre i (by omega)
        simp only [List.getElem_take]
        have e : p.ord.getD i 0 = p.ord[i] := by simp [show i < p.ord.length by omega]
        rw [e] at this; omega
      have hm1 : 0 ≤ (p.ord.take k).foldl (· * ·) 1 * p.ord.getD k 0 := Int.mul_nonneg (by omega) (by omega)
      have hm2 : (p.ord.take k).foldl (· * ·) 1 * p.ord.getD k 0 ≤ 729 * 7 := Int.mul_le_mul hpr (by omega) (by omega) (by omega)
      have hmr : -9223372036854775808 ≤ (p.ord.take k).foldl (· * ·) 1 * p.ord.getD k 0 ∧ (p.ord.take k).foldl (· * ·) 1 * p.ord.getD k 0 ≤ 9223372036854775807 := by omega
      refine go ?_
      refine ra (h := rd_mul (by ((try simp only [ev_tmp, ev_const, ev_func, get_put, get_args, get_putL, get_putL_nil, Nat.reduceEqDiff, reduceIte, List.getD_cons_zero, List.getD_cons_succ, List.getD_nil]); first | done | with_reducible rfl)) (by ((try simp only [ev_tmp, ev_const, ev_func, get_put, get_args, get_putL, get_putL_nil, Nat.reduceEqDiff, reduceIte, List.getD_cons_zero, List.getD_cons_succ, List.getD_nil]); first | done | with_reducible rfl)) hmr) (next := ?_)
      refine go ?_
      refine c_if (fun h6 => ?_) (fun h6 => ?_)
      · refine go ?_
        refine ret1 (no (fun h => ?_) ((he1.trans he2).trans he3))
        have := (prod_take (k := k + 1) (fun o ho => (primes_bd h.prime o ho).1)).2
        have h8 := h.prod
        rw [hps] at this
        omega
      · refine go ?_
        refine ra (h := rd_mul (by ((try simp only [ev_tmp, ev_const, ev_func, get_put, get_args, get_putL, get_putL_nil, Nat.reduceEqDiff, reduceIte, List.getD_cons_zero, List.getD_cons_succ, List.getD_nil]); first | done | with_reducible rfl)) (by ((try simp only [ev_tmp, ev_const, ev_func, get_put, get_args, get_putL, get_putL_nil, Nat.reduceEqDiff, reduceIte, List.getD_cons_zero, List.getD_cons_succ, List.getD_nil]); first | done | with_reducible rfl)) hmr) (next := ?_)
        refine go ?_
        refine forQ_normal (by omega) ⟨?_, he2.trans he3, by rw [hps]; omega, fun i hi => ?_⟩
        · rw [hps]; exact hasP
        · by_cases e : i = k
          · subst e; exact h5
          · exact hpre i (by omega)
  · have hkn : k = p.n := by omega
    subst hkn
    have hprod : p.ord.foldl (· * ·) 1 ≤ 729 := by
      rw [← hol, List.take_length] at hpr; exact hpr
    have hbd : ∀ i, i < p.n → 2 ≤ p.o i ∧ p.o i ≤ 7 := fun i hi => by have := hpre i hi; unfold Pr.o; omega
    refine go ?_
    refine r_for p.n (fun k ρ w' => Has ρ [(1, .pointer (some ⟨b, 0, none⟩)), (3, .int .i64 p.n), (49, .int .i64 p.n), (50, .int .i64 k)] ∧ Ext w1 w' ∧ ∀ q, q < k → RowOk p q) ?_ ?_
    · refine ⟨?_, he2, fun i hi => by omega⟩
      exact hasP
    clear he2
    rintro k ρ w4 hk ⟨hH, he4, hrow⟩
    refine rwp_has hH fun ρ1 => ?_
    refine go ?_
    refine c_if (fun hk2 => ?_) (fun hk2 => ?_)
    · have hkn : k < p.n := by omega
      refine go ?_
      refine rc (tailVector_ok (p := p) (xs := p.pow.getD k []) rfl hkn hbd (by omega)) (next := fun v6 w6 h6 => ?_)
      obtain ⟨b6, rfl, hb6, he6⟩ := h6
      refine go ?_
      refine sp (fun h7 => ?_) (fun h7 => ?_)
      · refine go ?_
        refine ret1 (no (fun h => ?_) ((he1.trans he4).trans he6))
        have := hb6.2 ⟨h.w_in k hkn, h.w_zu k hkn⟩
        rw [this] at h7; cases h7
      · have h8 := exp_iff.2 (hb6.1 (by simpa using h7))
        refine go ?_
        refine c_if (fun h9 => ?_) (fun h9 => ?_)
        · refine go ?_
          refine ret1 (no (fun h => ?_) ((he1.trans he4).trans he6))
          have := ((valid_iff.1 h).2.2.2.2.2 k (by omega)).2.1
          omega
        · refine go ?_
          refine r_for (p.cnj.getD k []).length (fun m ρ w' => Has ρ [(1, .pointer (some ⟨b, 0, none⟩)), (3, .int .i64 p.n), (49, .int .i64 p.n), (50, .int .i64 k), (7, .int .i64 k), (78, Pc.rowAt vc cs k), (79, .int .i64 (p.cnj.getD k []).length), (80, .int .i64 m)] ∧ Ext w1 w' ∧ ∀ j, j < m → ExpP p.ord ((p.cnj.getD k []).getD j []) k) ?_ ?_
          · refine ⟨?_, he4.trans he6, fun i hi => by omega⟩
            exact hasP
          clear he4 he6
          rintro m ρ w7 hm ⟨hH, he7, hin⟩
          refine rwp_has hH fun ρ2 => ?_
          refine go ?_
          refine c_if (fun hm2 => ?_) (fun hm2 => ?_)
          · refine go ?_
            refine rc (tailVector_ok (p := p) (xs := (p.cnj.getD k []).getD m []) rfl hkn hbd (by omega)) (next := fun v9 w9 h9 => ?_)
            obtain ⟨b9, rfl, hb9, he9⟩ := h9
            refine go ?_
            refine c_b (fun h10 => ?_) (fun h10 => ?_)
            · refine go ?_
              refine ret1 (no (fun h => ?_) ((he1.trans he7).trans he9))
              have := hb9.2 (exp_iff.1 (((valid_iff.1 h).2.2.2.2.2 k (by omega)).2.2 m (by omega)))
              rw [this] at h10; cases h10
            · have h11 := exp_iff.2 (hb9.1 (by simpa using h10))
              refine go ?_
              refine forQ_normal (by omega) ⟨?_, he7.trans he9, fun j hj => ?_⟩
              · exact hasP
              · by_cases e : j = m
                · subst e; exact h11
                · exact hin j (by omega)
          · refine go ?_
            refine forQ_normal (by omega) ⟨?_, he7, fun q hq => ?_⟩
            · exact hasP
            · by_cases e : q = k
              · subst e
                exact ⟨h8, by omega, fun j hj => hin j (by omega)⟩
              · exact hrow q (by omega)
    · refine go ?_
      refine ret1 ⟨_, rfl, ?_, he1.trans he4⟩
      simp only [true_iff]
      exact valid_iff.2 ⟨by omega, by omega, by omega, hpre, hprod, fun q hq => hrow q (by omega)⟩
end Go.Proofs.Ytflniifngfiekaa

/-
  Walks: the program's consistency (levelFault, consistentFrom, IsConsistent).
  Conditions: stated at each theorem.
-/
namespace Go.Proofs.Ytflniifngfiekaa
open Go Go.Pc
def QC (p : Pr) (i : Nat) [h : Con p (i + 1)] (j k : Nat) : Prop := ∀ (hj : i < j ∧ j < p.n) (hk : i < k ∧ k < p.n), j < k → (Grp.cj (Tc h.valid hk) (Tc h.valid hj)).v = img p i (p.c j k)
def QI (p : Pr) (i : Nat) [h : Con p (i + 1)] (hi : i < p.n) (j : Nat) : Prop := ∀ (hj : i + 1 ≤ j ∧ j < p.n), rep (p.o i).toNat (img p i) (unitv p j 1) = (Grp.cj (gen h.valid (i + 1) j hj) (Tw h.valid hi)).v
theorem chk_iff2 {p : Pr} {i : Nat} [h : Con p (i + 1)] (hi : i < p.n) : Chk p i hi ↔ (∀ j, LP p i j) ∧ (∀ j k, QC p i j k) ∧ img p i (p.w i) = p.w i ∧ ∀ j, QI p i hi j := by
  constructor
  · intro hc
    refine ⟨fun j hj => congrArg T.v (hc.P j hj), fun j k hj hk hjk => congrArg T.v (hc.C j k hj hk hjk), congrArg T.v hc.F, fun j hj => ?_⟩
    have := congrArg T.v (hc.I j hj)
    rw [rep_Timg] at this
    exact this
  · rintro ⟨h1, h2, h3, h4⟩
    refine ⟨fun j hj => T.ext (h1 j hj), fun j k hj hk hjk => T.ext (h2 j k hj hk hjk), T.ext h3, fun j hj => T.ext ?_⟩
    rw [rep_Timg]
    exact h4 j hj
theorem qc_iff {p : Pr} {i : Nat} [h : Con p (i + 1)] (j k : Nat) : QC p i j k ↔ LC p i j k := by
  constructor
  · intro hq hj hjk hk
    have h0 : Grp.cj (Tc h.valid (i := i) (j := k) ⟨by omega, hk⟩) (Tc h.valid (i := i) (j := j) ⟨hj, by omega⟩) = (⟨img p i (p.c j k), (img_in h.valid i _).1, (img_in h.valid i _).2⟩ : T p (i + 1)) := T.ext (hq ⟨hj, by omega⟩ ⟨by omega, hk⟩ hjk)
    have h2 := congrArg (Tc h.valid (i := i) (j := j) ⟨hj, by omega⟩ * ·) h0
    simp only [Grp.mul_cj] at h2
    exact congrArg T.v h2
  · intro hc hj hk hjk
    have h0 : Grp.cj (Tc h.valid hk) (Tc h.valid hj) = (⟨img p i (p.c j k), (img_in h.valid i _).1, (img_in h.valid i _).2⟩ : T p (i + 1)) := by
      apply Grp.mul_left_cancel (a := Tc h.valid hj)
      rw [Grp.mul_cj]
      exact T.ext (hc hj.1 hjk hk.2)
    exact congrArg T.v h0
theorem qi_iff {p : Pr} {i : Nat} [h : Con p (i + 1)] (hi : i < p.n) (j : Nat) : QI p i hi j ↔ LI p i j := by
  constructor
  · intro hq hj hjn
    have h0 : rep (p.o i).toNat (Timg h.valid) (gen h.valid (i + 1) j ⟨hj, hjn⟩) = Grp.cj (gen h.valid (i + 1) j ⟨hj, hjn⟩) (Tw h.valid hi) := T.ext (by rw [rep_Timg]; exact hq ⟨hj, hjn⟩)
    have h2 : Tw h.valid hi * rep (p.o i).toNat (Timg h.valid) (gen h.valid (i + 1) j ⟨hj, hjn⟩) = gen h.valid (i + 1) j ⟨hj, hjn⟩ * Tw h.valid hi := by rw [h0, Grp.mul_cj]
    have h3 := congrArg T.v h2
    rw [T.mul_val, rep_Timg, T.mul_val] at h3
    exact h3
  · intro hl hj
    have h0 : rep (p.o i).toNat (Timg h.valid) (gen h.valid (i + 1) j hj) = Grp.cj (gen h.valid (i + 1) j hj) (Tw h.valid hi) := by
      apply Grp.mul_left_cancel (a := Tw h.valid hi)
      rw [Grp.mul_cj]
      apply T.ext
      rw [T.mul_val, rep_Timg, T.mul_val]
      exact hl hj.1 hj.2
    have h1 := congrArg T.v h0
    rw [rep_Timg] at h1
    exact h1
set_option maxHeartbeats 8000000 in
theorem levelFault_ok {p : Pr} {i : Nat} [hc : Con p (i + 1)] (hi : i < p.n) {w : World} {vp : Value} {ki : Int} {lo hi' : Nat} [hp : PresP lo hi' w vp p] (hki : ki = i) :
    Calls Try.prog 76 #[vp, .int .i64 ki] w (Ret fun v w' => ∃ k l f s : Int, v = faultV k l f s ∧ (k = 0 ↔ Chk p i hi) ∧ (k ≠ 0 → l = i) ∧ (k = 0 → l = 0 ∧ f = 0 ∧ s = 0) ∧ Ext w w' ∧ Flt p i hi k f s) := by
  subst hki
  have hv := hc.valid
  have hn6 := hv.n6
  have hol : p.ord.length = p.n := rfl
  have hwl : p.pow.length = p.n := hv.lenw
  have hcl : p.cnj.length = p.n := hv.lenc
  have hci : (p.cnj.getD i []).length = p.n - 1 - i := hv.lenci i hi
  have hoi := hv.opos hi
  have hoe : p.o i = p.ord.getD i 0 := rfl
  obtain ⟨b, og, vo, vpw, vc, ps, cs, css, rfl, hb1, hb2, hc0, hc1, hc2, h1, h2, h3⟩ := hp.ex
  refine enter (args := [.pointer (some ⟨b, og, none⟩), .int .i64 i]) (l := [.cell 4 75]) Try.func76 rfl rfl Try.ntmps76 (by simp) ?_
  refine go ?_
  refine st_alloc (by first | exact True.intro | exact ⟨_, rfl, by ((try simp only [ev_tmp, ev_const, ev_func, get_put, get_args, get_putL, get_putL_nil, Nat.reduceEqDiff, reduceIte, List.getD_cons_zero, List.getD_cons_succ, List.getD_nil, Bool.not_true, Bool.not_false]); first | done | with_reducible rfl)⟩) fun w2 bf he2 hbf hs2 hbk => ?_
  have bad : ∀ {w3 : World} {k f s : Int}, Ext w w3 → k ≠ 0 → Flt p i hi k f s → ∃ k' l' f' s' : Int, faultV k i f s = faultV k' l' f' s' ∧ (k' = 0 ↔ Chk p i hi) ∧ (k' ≠ 0 → l' = i) ∧ (k' = 0 → l' = 0 ∧ f' = 0 ∧ s' = 0) ∧ Ext w w3 ∧ Flt p i hi k' f' s' :=
    fun he hk hn => ⟨_, _, _, _, rfl, hn.zero, fun _ => rfl, fun h => absurd h hk, he, hn⟩
  have hTcv : ∀ j (hj : i < j ∧ j < p.n), (p.cnj.getD i []).getD (j - i - 1) [] = (Tc hv hj).v := fun j hj => rfl
  refine go ?_
  refine r_for (p.n - (i + 1)) (fun k ρ w' => Has ρ [(0, .pointer (some ⟨b, og, none⟩)), (1, .int .i64 i), (4, .pointer (some ⟨bf, 0, none⟩)), (5, .int .i64 p.n), (6, .int .i64 i), (7, .int .i64 (i + 1 + k : Nat))] ∧ Ext w2 w' ∧ ∀ j, j < i + 1 + k → LP p i j) ?_ ?_
  · refine ⟨?_, Ext.refl _, fun j hj hj' => by omega⟩
    exact hasP
  rintro k ρ w3 hk ⟨hH, he3, hP⟩
  refine rwp_has hH fun ρ0 => ?_
  refine go ?_
  refine c_if (fun hj => ?_) (fun hj => ?_)
  · have hjn : i < i + 1 + k ∧ i + 1 + k < p.n := ⟨by omega, by omega⟩
    have hoj : 2 ≤ p.ord.getD (i + 1 + k) 0 ∧ p.ord.getD (i + 1 + k) 0 ≤ 7 := hv.opos hjn.2
    have hcv : (p.cnj.getD i []).getD (i + 1 + k - i - 1) [] = (Tc hv hjn).v := rfl
    refine go ?_
    refine d_order [0, 1, 2, 3, 4, 5, 6, 7, 8, 9, 10, 11, 12, 13, 14, 15, 16, 17, 18, 19, 20, 22, 23, 24, 25, 26, 27, 28, 29, 30, 21, 31, 32, 33] (h := fun w4 he4 _ => ?_)
    refine dgo ?_
    refine dce (power_ok (x := Tc hv hjn) (by omega) hcv ?_) (next := fun v5 w5 h5 => ?_)
    · omega
    obtain ⟨he5, hf5⟩ := h5
    refine dce (imageBy_ok hi (xs := p.w (i + 1 + k)) ?_ (hv.w_in _ hjn.2)) (next := fun v7 w7 h7 => ?_)
    · rfl
    obtain ⟨he7, hf7⟩ := h7
    have hlen := (Grp.pw (Tc hv hjn) (p.ord.getD (i + 1 + k) 0).toNat).inr.len
    refine dce (equalI_ok (xs := (Grp.pw (Tc hv hjn) (p.ord.getD (i + 1 + k) 0).toNat).v) (ys := img p i (p.w (i + 1 + k))) ?_) (next := fun v8 w8 h8 => ?_)
    · omega
    obtain ⟨b8, rfl, hb8, he8⟩ := h8
    have hE8 : Ext w2 w8 := (((he3.trans he4).trans he5).trans he7).trans he8
    refine dgo ?_
    refine d_end (h := ?_)
    refine go ?_
    refine c_b (fun h9 => ?_) (fun h9 => ?_)
    · refine go ?_
      refine ra (v := faultV 1 i (i + 1 + k : Nat) 0) (h := rd_build (by simp only [ev_tmp, ev_const, ev_func, get_put, get_args, get_putL, get_putL_nil, Nat.reduceEqDiff, reduceIte, List.getD_cons_zero, List.getD_cons_succ, List.getD_nil, List.map_toArray, List.map_cons, List.map_nil]; rfl) (fun _ => by kernel_rfl)) (next := ?_)
      refine st_store_agg (vs := [.int .i64 1, .int .i64 i, .int .i64 (i + 1 + k : Nat), .int .i64 0]) (cs := _) (by ((try simp only [ev_tmp, ev_const, ev_func, get_put, get_args, get_putL, get_putL_nil, Nat.reduceEqDiff, reduceIte, List.getD_cons_zero, List.getD_cons_succ, List.getD_nil]); first | done | with_reducible rfl)) (by ((try simp only [ev_tmp, ev_const, ev_func, get_put, get_args, get_putL, get_putL_nil, Nat.reduceEqDiff, reduceIte, List.getD_cons_zero, List.getD_cons_succ, List.getD_nil]); first | done | with_reducible rfl)) rfl ?_ rfl (by first | exact True.intro | exact ⟨_, rfl, by ((try simp only [ev_tmp, ev_const, ev_func, get_put, get_args, get_putL, get_putL_nil, Nat.reduceEqDiff, reduceIte, List.getD_cons_zero, List.getD_cons_succ, List.getD_nil, Bool.not_true, Bool.not_false]); first | done | with_reducible rfl)⟩) fun w9 hc9 hs9 hb9 => ?_
      · rfl
      refine go ?_
      refine retc (bad (k := 1) (f := (i + 1 + k : Nat)) (s := 0) (hc9.ext (he2.trans hE8) (by omega)) (by decide) (.power (i + 1 + k) hjn hP fun h => ?_)) rfl
      have := hb8.2 (h hjn)
      rw [this] at h9; cases h9
    · have h10 := hb8.1 (by simpa using h9)
      refine go ?_
      refine forQ_normal (by omega) ⟨?_, hE8, fun j hj => ?_⟩
      · exact hasP
      · by_cases e : j = i + 1 + k
        · subst e; exact fun _ => h10
        · exact hP j (by omega)
  refine go ?_
  have hP' : ∀ j, LP p i j := fun j => by
    by_cases e : j < i + 1 + k
    · exact hP j e
    · exact fun h => by omega
  clear hP hH hk hj
  refine r_for (p.n - (i + 1)) (fun k ρ w' => Has ρ [(0, .pointer (some ⟨b, og, none⟩)), (1, .int .i64 i), (4, .pointer (some ⟨bf, 0, none⟩)), (5, .int .i64 p.n), (6, .int .i64 i), (8, .int .i64 (i + 1 + k : Nat))] ∧ Ext w2 w' ∧ ∀ j k', j < i + 1 + k → QC p i j k') ?_ ?_
  · refine ⟨?_, he3, fun j k' hj hj' => by omega⟩
    exact hasP
  clear he3 ρ0 k
  rintro k ρ w4 hk ⟨hH, he4, hC⟩
  refine rwp_has hH fun ρ1 => ?_
  refine go ?_
  refine c_if (fun hj => ?_) (fun hj => ?_)
  · have hjn : i < i + 1 + k ∧ i + 1 + k < p.n := ⟨by omega, by omega⟩
    refine go ?_
    refine r_for (p.n - (i + 1 + k + 1)) (fun l ρ w' => Has ρ [(0, .pointer (some ⟨b, og, none⟩)), (1, .int .i64 i), (4, .pointer (some ⟨bf, 0, none⟩)), (5, .int .i64 p.n), (6, .int .i64 i), (8, .int .i64 (i + 1 + k : Nat)), (9, .int .i64 (i + 1 + k + 1 + l : Nat))] ∧ Ext w2 w' ∧ ∀ k', k' < i + 1 + k + 1 + l → QC p i (i + 1 + k) k') ?_ ?_
    · refine ⟨?_, he4, fun k' hk' h1 h2 h3 => by omega⟩
      exact hasP
    clear he4
    rintro l ρ w5 hl ⟨hH5, he5, hC5⟩
    refine rwp_has hH5 fun ρ2 => ?_
    refine go ?_
    refine c_if (fun hk2 => ?_) (fun hk2 => ?_)
    · have hkn : i < i + 1 + k + 1 + l ∧ i + 1 + k + 1 + l < p.n := ⟨by omega, by omega⟩
      have hjk : i + 1 + k < i + 1 + k + 1 + l := by omega
      have hcj := hv.lenci (i + 1 + k) hjn.2
      have hcv1 : (p.cnj.getD i []).getD (i + 1 + k - i - 1) [] = (Tc hv hjn).v := rfl
      have hcv2 : (p.cnj.getD i []).getD (i + 1 + k + 1 + l - i - 1) [] = (Tc hv hkn).v := rfl
      refine go ?_
      refine d_order [0, 1, 2, 3, 4, 5, 6, 7, 8, 9, 10, 11, 12, 13, 14, 15, 16, 17, 18, 19, 20, 21, 22, 23, 24, 25, 26, 28, 29, 30, 31, 32, 33, 34, 35, 36, 37, 38, 39, 40, 41, 42, 27, 43, 44, 45] (h := fun w6 he6 _ => ?_)
      refine dgo ?_
      refine dce (conjugate_ok (x := Tc hv hkn) (y := Tc hv hjn) (by omega) hcv2 hcv1) (next := fun v7 w7 h7 => ?_)
      obtain ⟨he7, hf7⟩ := h7
      refine dce (imageBy_ok hi (xs := p.c (i + 1 + k) (i + 1 + k + 1 + l)) ?_ (hv.c_in _ _ hjk hkn.2)) (next := fun v8 w8 h8 => ?_)
      · rfl
      obtain ⟨he8, hf8⟩ := h8
      have hlen := (Grp.cj (Tc hv hkn) (Tc hv hjn)).inr.len
      refine dce (equalI_ok (xs := (Grp.cj (Tc hv hkn) (Tc hv hjn)).v) (ys := img p i (p.c (i + 1 + k) (i + 1 + k + 1 + l))) ?_) (next := fun v9 w9 h9 => ?_)
      · omega
      obtain ⟨b9, rfl, hb9, he9⟩ := h9
      have hE9 : Ext w2 w9 := (((he5.trans he6).trans he7).trans he8).trans he9
      refine dgo ?_
      refine d_end (h := ?_)
      refine go ?_
      refine c_b (fun h10 => ?_) (fun h10 => ?_)
      · refine go ?_
        refine ra (v := faultV 2 i (i + 1 + k : Nat) (i + 1 + k + 1 + l : Nat)) (h := rd_build (by simp only [ev_tmp, ev_const, ev_func, get_put, get_args, get_putL, get_putL_nil, Nat.reduceEqDiff, reduceIte, List.getD_cons_zero, List.getD_cons_succ, List.getD_nil, List.map_toArray, List.map_cons, List.map_nil]; rfl) (fun _ => by kernel_rfl)) (next := ?_)
        refine st_store_agg (vs := [.int .i64 2, .int .i64 i, .int .i64 (i + 1 + k : Nat), .int .i64 (i + 1 + k + 1 + l : Nat)]) (cs := _) (by ((try simp only [ev_tmp, ev_const, ev_func, get_put, get_args, get_putL, get_putL_nil, Nat.reduceEqDiff, reduceIte, List.getD_cons_zero, List.getD_cons_succ, List.getD_nil]); first | done | with_reducible rfl)) (by ((try simp only [ev_tmp, ev_const, ev_func, get_put, get_args, get_putL, get_putL_nil, Nat.reduceEqDiff, reduceIte, List.getD_cons_zero, List.getD_cons_succ, List.getD_nil]); first | done | with_reducible rfl)) rfl ?_ rfl (by first | exact True.intro | exact ⟨_, rfl, by ((try simp only [ev_tmp, ev_const, ev_func, get_put, get_args, get_putL, get_putL_nil, Nat.reduceEqDiff, reduceIte, List.getD_cons_zero, List.getD_cons_succ, List.getD_nil, Bool.not_true, Bool.not_false]); first | done | with_reducible rfl)⟩) fun w10 hc10 hs10 hb10 => ?_
        · rfl
        refine go ?_
        refine retc (bad (k := 2) (f := (i + 1 + k : Nat)) (s := (i + 1 + k + 1 + l : Nat)) (hc10.ext (he2.trans hE9) (by omega)) (by decide) (.conj (i + 1 + k) (i + 1 + k + 1 + l) hjn.1 hjk hkn.2 hP' (fun j' k' h => (qc_iff _ _).1 (hC j' k' h)) (fun k' h => (qc_iff _ _).1 (hC5 k' h)) fun h => ?_)) rfl
        have := hb9.2 ((qc_iff _ _).2 h hjn hkn hjk)
        rw [this] at h10; cases h10
      · have h11 := hb9.1 (by simpa using h10)
        refine go ?_
        refine forQ_normal (by omega) ⟨?_, hE9, fun k' hk' => ?_⟩
        · exact hasP
        · by_cases e : k' = i + 1 + k + 1 + l
          · subst e; exact fun _ _ _ => h11
          · exact hC5 k' (by omega)
    · refine go ?_
      refine forQ_normal (by omega) ⟨?_, he5, fun j k' hj2 => ?_⟩
      · exact hasP
      · by_cases e : j = i + 1 + k
        · subst e
          by_cases e2 : k' < i + 1 + k + 1 + l
          · exact hC5 k' e2
          · exact fun _ _ _ => by omega
        · exact hC j k' (by omega)
  refine go ?_
  have hC' : ∀ j k', QC p i j k' := fun j k' => by
    by_cases e : j < i + 1 + k
    · exact hC j k' e
    · exact fun h _ _ => by omega
  clear hC hH hk hj
  refine rc (imageBy_ok hi (xs := p.w i) ?_ (hv.w_in _ hi)) (next := fun v5 w5 h5 => ?_)
  · rfl
  obtain ⟨he5, hf5⟩ := h5
  have hlen := (img_in hv i (p.w i)).1.len
  refine go ?_
  refine rc (equalI_ok (xs := img p i (p.w i)) (ys := p.w i) ?_) (next := fun v6 w6 h6 => ?_)
  · omega
  obtain ⟨b6, rfl, hb6, he6⟩ := h6
  have hE6 : Ext w2 w6 := (he4.trans he5).trans he6
  clear he4 he5 he6 hf5
  refine go ?_
  refine c_b (fun h7 => ?_) (fun h7 => ?_)
  · refine go ?_
    refine ra (v := faultV 3 i 0 0) (h := rd_build (by simp only [ev_tmp, ev_const, ev_func, get_put, get_args, get_putL, get_putL_nil, Nat.reduceEqDiff, reduceIte, List.getD_cons_zero, List.getD_cons_succ, List.getD_nil, List.map_toArray, List.map_cons, List.map_nil]; rfl) (fun _ => by kernel_rfl)) (next := ?_)
    refine st_store_agg (vs := [.int .i64 3, .int .i64 i, .int .i64 0, .int .i64 0]) (cs := _) (by ((try simp only [ev_tmp, ev_const, ev_func, get_put, get_args, get_putL, get_putL_nil, Nat.reduceEqDiff, reduceIte, List.getD_cons_zero, List.getD_cons_succ, List.getD_nil]); first | done | with_reducible rfl)) (by ((try simp only [ev_tmp, ev_const, ev_func, get_put, get_args, get_putL, get_putL_nil, Nat.reduceEqDiff, reduceIte, List.getD_cons_zero, List.getD_cons_succ, List.getD_nil]); first | done | with_reducible rfl)) rfl ?_ rfl (by first | exact True.intro | exact ⟨_, rfl, by ((try simp only [ev_tmp, ev_const, ev_func, get_put, get_args, get_putL, get_putL_nil, Nat.reduceEqDiff, reduceIte, List.getD_cons_zero, List.getD_cons_succ, List.getD_nil, Bool.not_true, Bool.not_false]); first | done | with_reducible rfl)⟩) fun w9 hc9 hs9 hb9 => ?_
    · rfl
    refine go ?_
    refine retc (bad (k := 3) (f := 0) (s := 0) (hc9.ext (he2.trans hE6) (by omega)) (by decide) (.fixed hP' (fun j k => (qc_iff _ _).1 (hC' j k)) fun h => ?_)) rfl
    have := hb6.2 h
    rw [this] at h7; cases h7
  have hF := hb6.1 (by simpa using h7)
  clear h7
  refine go ?_
  refine r_for (p.n - (i + 1)) (fun k ρ w' => Has ρ [(0, .pointer (some ⟨b, og, none⟩)), (1, .int .i64 i), (4, .pointer (some ⟨bf, 0, none⟩)), (5, .int .i64 p.n), (6, .int .i64 i), (10, Pc.rowAt vpw ps i), (11, .int .i64 (i + 1 + k : Nat))] ∧ Ext w2 w' ∧ ∀ j, j < i + 1 + k → QI p i hi j) ?_ ?_
  · refine ⟨?_, hE6, fun j hj h1 => by omega⟩
    exact hasP
  clear hE6
  rintro l ρ w8 hk ⟨hH, he8, hI⟩
  refine rwp_has hH fun ρ2 => ?_
  refine go ?_
  refine c_if (fun hj => ?_) (fun hj => ?_)
  · have hjn : i + 1 ≤ i + 1 + l ∧ i + 1 + l < p.n := ⟨by omega, by omega⟩
    refine go ?_
    refine rc (unitVector_ok (n := p.n) (i := i + 1 + l) rfl rfl ?_ hjn.2) (next := fun v9 w9 h9 => ?_)
    · omega
    obtain ⟨he9, hf9⟩ := h9
    have hg0 : (zeros p.n).set (i + 1 + l) 1 = unitv p (i + 1 + l) 1 := rfl
    rw [hg0] at hf9
    have hz8 := he8.size
    refine go ?_
    refine r_for (p.o i).toNat (fun q ρ w' => ∃ vx, Has ρ [(0, .pointer (some ⟨b, og, none⟩)), (1, .int .i64 i), (4, .pointer (some ⟨bf, 0, none⟩)), (5, .int .i64 p.n), (6, .int .i64 i), (10, Pc.rowAt vpw ps i), (11, .int .i64 (i + 1 + l : Nat)), (12, vx), (159, .int .i64 (p.ord.getD i 0)), (160, .int .i64 q)] ∧ Ext w8 w' ∧ Fr w8.heap.size w' vx (rep q (img p i) (unitv p (i + 1 + l) 1))) ?_ ?_
    · refine ⟨v9, ?_, he9, hf9⟩
      exact hasP
    clear he9 hf9
    rintro q ρ w10 hq ⟨vx, hH, he10, hf10⟩
    refine rwp_has hH fun ρ3 => ?_
    have hin : InR p (rep q (img p i) (unitv p (i + 1 + l) 1)) ∧ ZU (i + 1) (rep q (img p i) (unitv p (i + 1 + l) 1)) := by
      refine rep_inv (fun v => InR p v ∧ ZU (i + 1) v) (fun x _ => img_in hv i x) ⟨?_, unitv_zu p hjn.1 1⟩ q
      exact unitv_in hv (by omega) (fun h => by have := hv.opos h; omega)
    have hxi := hf10.ints
    refine go ?_
    refine c_if (fun hq2 => ?_) (fun hq2 => ?_)
    · refine go ?_
      refine rc (imageBy_ok hi (xs := rep q (img p i) (unitv p (i + 1 + l) 1)) ?_ hin.1) (next := fun v11 w11 h11 => ?_)
      · rfl
      obtain ⟨he11, hf11⟩ := h11
      refine go ?_
      refine forQ_normal (by omega) ⟨v11, ?_, he10.trans he11, hf11.mono he10.size⟩
      exact hasP
    · have hqe : q = (p.o i).toNat := by omega
      subst hqe
      refine go ?_
      refine rc (unitVector_ok (n := p.n) (i := i + 1 + l) rfl rfl ?_ hjn.2) (next := fun v11 w11 h11 => ?_)
      · omega
      obtain ⟨he11, hf11⟩ := h11
      refine go ?_
      refine rc (conjugate_ok (x := gen hv (i + 1) (i + 1 + l) hjn) (y := Tw hv hi) (xs := (zeros p.n).set (i + 1 + l) 1) (ys := p.w i) (by omega) rfl rfl) (next := fun v12 w12 h12 => ?_)
      obtain ⟨he12, hf12⟩ := h12
      have hlen2 := hin.1.len
      refine go ?_
      refine rc (equalI_ok (xs := rep (p.o i).toNat (img p i) (unitv p (i + 1 + l) 1)) (ys := (Grp.cj (gen hv (i + 1) (i + 1 + l) hjn) (Tw hv hi)).v) ?_) (next := fun v13 w13 h13 => ?_)
      · omega
      obtain ⟨b13, rfl, hb13, he13⟩ := h13
      have hE13 : Ext w2 w13 := (((he8.trans he10).trans he11).trans he12).trans he13
      refine go ?_
      refine c_b (fun h14 => ?_) (fun h14 => ?_)
      · refine go ?_
        refine ra (v := faultV 4 i (i + 1 + l : Nat) 0) (h := rd_build (by simp only [ev_tmp, ev_const, ev_func, get_put, get_args, get_putL, get_putL_nil, Nat.reduceEqDiff, reduceIte, List.getD_cons_zero, List.getD_cons_succ, List.getD_nil, List.map_toArray, List.map_cons, List.map_nil]; rfl) (fun _ => by kernel_rfl)) (next := ?_)
        refine st_store_agg (vs := [.int .i64 4, .int .i64 i, .int .i64 (i + 1 + l : Nat), .int .i64 0]) (cs := _) (by ((try simp only [ev_tmp, ev_const, ev_func, get_put, get_args, get_putL, get_putL_nil, Nat.reduceEqDiff, reduceIte, List.getD_cons_zero, List.getD_cons_succ, List.getD_nil]); first | done | with_reducible rfl)) (by ((try simp only [ev_tmp, ev_const, ev_func, get_put, get_args, get_putL, get_putL_nil, Nat.reduceEqDiff, reduceIte, List.getD_cons_zero, List.getD_cons_succ, List.getD_nil]); first | done | with_reducible rfl)) rfl ?_ rfl (by first | exact True.intro | exact ⟨_, rfl, by ((try simp only [ev_tmp, ev_const, ev_func, get_put, get_args, get_putL, get_putL_nil, Nat.reduceEqDiff, reduceIte, List.getD_cons_zero, List.getD_cons_succ, List.getD_nil, Bool.not_true, Bool.not_false]); first | done | with_reducible rfl)⟩) fun w15 hc15 hs15 hb15 => ?_
        · rfl
        refine go ?_
        refine retc (bad (k := 4) (f := (i + 1 + l : Nat)) (s := 0) (hc15.ext (he2.trans hE13) (by omega)) (by decide) (.inner (i + 1 + l) hjn hP' (fun j k => (qc_iff _ _).1 (hC' j k)) hF (fun j' h => (qi_iff hi _).1 (hI j' h)) fun h => ?_)) rfl
        have := hb13.2 ((qi_iff hi _).2 h hjn)
        rw [this] at h14; cases h14
      · have h15 := hb13.1 (by simpa using h14)
        refine go ?_
        refine forQ_normal (by omega) ⟨?_, hE13, fun j hj2 => ?_⟩
        · exact hasP
        · by_cases e : j = i + 1 + l
          · subst e; exact fun _ => h15
          · exact hI j (by omega)
  · refine go ?_
    refine ra (v := faultV 0 0 0 0) (h := rd_build (by rfl) (fun _ => by kernel_rfl)) (next := ?_)
    refine st_store_agg (vs := [.int .i64 0, .int .i64 0, .int .i64 0, .int .i64 0]) (cs := _) (by ((try simp only [ev_tmp, ev_const, ev_func, get_put, get_args, get_putL, get_putL_nil, Nat.reduceEqDiff, reduceIte, List.getD_cons_zero, List.getD_cons_succ, List.getD_nil]); first | done | with_reducible rfl)) (by ((try simp only [ev_tmp, ev_const, ev_func, get_put, get_args, get_putL, get_putL_nil, Nat.reduceEqDiff, reduceIte, List.getD_cons_zero, List.getD_cons_succ, List.getD_nil]); first | done | with_reducible rfl)) rfl ?_ rfl (by first | exact True.intro | exact ⟨_, rfl, by ((try simp only [ev_tmp, ev_const, ev_func, get_put, get_args, get_putL, get_putL_nil, Nat.reduceEqDiff, reduceIte, List.getD_cons_zero, List.getD_cons_succ, List.getD_nil, Bool.not_true, Bool.not_false]); first | done | with_reducible rfl)⟩) fun w15 hc15 hs15 hb15 => ?_
    · rfl
    refine go ?_
    have hck := (chk_iff2 hi).2 ⟨hP', hC', hF, fun j h1 => hI j (by omega) h1⟩
    exact retc ⟨0, 0, 0, 0, rfl, ⟨fun _ => hck, fun _ => rfl⟩, fun h => absurd rfl h, fun _ => ⟨rfl, rfl, rfl⟩, hc15.ext (he2.trans he8) (by omega), .none hck⟩ rfl
end Go.Proofs.Ytflniifngfiekaa

/-
  Walks: the program's consistency of a presentation (consistentFrom, IsConsistent).
  Conditions: stated at each theorem.
-/
namespace Go.Proofs.Ytflniifngfiekaa
open Go Go.Pc
theorem fault_guard : (Try.prog.eqGuardType Try.prog.depth 75) = false := by kernel_rfl
theorem fault_held : (Try.prog.stoodInHeld 75) = false := by kernel_rfl
theorem fault_fields : Try.prog.underlying 75 = some (.struct (Try.prog.fieldsOf 75)) := by simp [Program.fieldsOf, Try.underlying75]
theorem rd_eqFault {ρ : Env} {w : World} {ty : TypeId} {x y : Operand} {k l f s : Int} (h : ev ρ x = faultV k l f s) (h' : ev ρ y = faultV 0 0 0 0) :
    Rd Try.prog (.binOp .eql 75 x y 75) ty ρ w (.bool (decide (k = 0 ∧ l = 0 ∧ f = 0 ∧ s = 0))) := by
  constructor; intro _ _ _ _
  have h2 := fun d a b w => run_equalIn_int (P := Try.prog) w d 2 .i64 .i64 a b Try.underlying2
  simp [execOp, h, h', run_eqGuard_agg _ _ _ _ _ _ _ fault_guard, run_eql_struct, run_equalIn_agg _ _ _ _ _ fault_fields fault_held, Program.fieldsOf, Try.underlying75, Op.eqFields, h2, go_sem]
  by_cases hk : k = 0 <;> by_cases hl : l = 0 <;> by_cases hf : f = 0 <;> by_cases hs : s = 0 <;> simp [hk, hl, hf, hs]
set_option maxHeartbeats 1000000 in
theorem consistentFrom_ok {p : Pr} (hv : Valid p) {w : World} {vp : Value} {lo hi' : Nat} [hp : PresP lo hi' w vp p] :
    Calls Try.prog 63 #[vp] w (Ret fun v w' => ∃ i : Nat, v = .int .i64 i ∧ i ≤ p.n ∧ Levs p i ∧ (i ≠ 0 → ¬ Lev p (i - 1)) ∧ Ext w w') := by
  have hn6 := hv.n6
  have hol : p.ord.length = p.n := rfl
  obtain ⟨b, og, vo, vpw, vc, ps, cs, css, rfl, hb1, hb2, hc0, hc1, hc2, h1, h2, h3⟩ := hp.ex
  refine enter (args := [.pointer (some ⟨b, og, none⟩)]) (l := [.tmp 2]) Try.func63 rfl rfl Try.ntmps63 (by simp) ?_
  refine go ?_
  refine r_for p.n (fun k ρ w' => Has ρ [(0, .pointer (some ⟨b, og, none⟩)), (3, .int .i64 (p.n - k : Nat))] ∧ Ext w w' ∧ Levs p (p.n - k)) ?_ ?_
  · refine ⟨?_, Ext.refl _, fun j h h' => by omega⟩
    exact hasP
  rintro k ρ w3 hk ⟨hH, he3, hL⟩
  refine rwp_has hH fun ρ0 => ?_
  refine go ?_
  refine spd (fun h4 => ?_) (fun h4 => ?_)
  · obtain ⟨i, hie⟩ : ∃ i : Nat, p.n - k = i + 1 := ⟨p.n - k - 1, by omega⟩
    have hi : i < p.n := by omega
    rw [hie] at hL h4 ⊢
    have hc : Con p (i + 1) := Levs.con hv hL
    refine go ?_
    refine rc (levelFault_ok (p := p) (i := i) hi ?_) (next := fun v5 w5 h5 => ?_)
    · omega
    obtain ⟨k5, l5, f5, s5, rfl, hz, hl5, h05, he5, hflt⟩ := h5
    refine go ?_
    refine ra (v := faultV 0 0 0 0) (h := rd_build (by rfl) (fun _ => by kernel_rfl)) (next := ?_)
    refine go ?_
    refine ra (h := rd_eqFault (k := k5) (l := l5) (f := f5) (s := s5) (by ((try simp only [ev_tmp, ev_const, ev_func, get_put, get_args, get_putL, get_putL_nil, Nat.reduceEqDiff, reduceIte, List.getD_cons_zero, List.getD_cons_succ, List.getD_nil]); first | done | with_reducible rfl)) (by ((try simp only [ev_tmp, ev_const, ev_func, get_put, get_args, get_putL, get_putL_nil, Nat.reduceEqDiff, reduceIte, List.getD_cons_zero, List.getD_cons_succ, List.getD_nil]); first | done | with_reducible rfl))) (next := ?_)
    refine go ?_
    refine c_if (fun h8 => ?_) (fun h8 => ?_)
    · refine go ?_
      refine forQ_normal (by omega) ⟨?_, he3.trans he5, fun j hj hjn => ?_⟩
      · exact hasP
      · by_cases e : j = i
        · subst e; exact ⟨hc, hi, hz.1 h8.1⟩
        · exact hL j (by omega) hjn
    · refine go ?_
      refine ret1 ⟨i + 1, rfl, by omega, hL, fun _ => ?_, he3.trans he5⟩
      rintro ⟨_, _, h9⟩
      have h0 := hz.2 h9
      exact h8 ⟨h0, h05 h0⟩
  · refine go ?_
    have hkn : p.n - k = 0 := by omega
    rw [hkn] at hL ⊢
    exact ret1 ⟨0, rfl, by omega, hL, fun h => absurd rfl h, he3⟩
set_option maxHeartbeats 1000000 in
theorem impl_IsConsistent_ok {w : World} {vp : Value} {p : Pr} {lo hi' : Nat} [hp : Pres lo hi' w vp p] (hl : p.ord.length ≤ 2000000) :
    Calls Try.prog 53 #[vp] w (Ret fun v w' => ∃ b, v = .bool b ∧ (b = true ↔ IsGrp p) ∧ Ext w w') := by
  obtain ⟨vo, vpw, vc, ps, cs, css, rfl, h1, h2, h3⟩ := hp.ex
  refine enter (args := [.agg #[vo, vpw, vc]]) (l := [.tmp 2]) Try.func53 rfl rfl Try.ntmps53 (by simp) ?_
  refine go ?_
  refine st_box3 (by ((try simp only [ev_tmp, ev_const, ev_func, get_put, get_args, get_putL, get_putL_nil, Nat.reduceEqDiff, reduceIte, List.getD_cons_zero, List.getD_cons_succ, List.getD_nil]); first | done | with_reducible rfl)) (by first | exact True.intro | exact ⟨_, rfl, by ((try simp only [ev_tmp, ev_const, ev_func, get_put, get_args, get_putL, get_putL_nil, Nat.reduceEqDiff, reduceIte, List.getD_cons_zero, List.getD_cons_succ, List.getD_nil, Bool.not_true, Bool.not_false]); first | done | with_reducible rfl)⟩) fun w1 b he1 hb1 hs1 hc0 hc1 hc2 => ?_
  have hpp := hp.boxed he1 hc0 hc1 hc2
  refine go ?_
  refine rc (impl_IsPresentation_ok hl) (next := fun v5 w5 h5 => ?_)
  obtain ⟨b5, rfl, hb5, he5⟩ := h5
  refine go ?_
  refine sp (fun e5 => ?_) (fun e5 => ?_)
  · have hv := hb5.1 e5
    refine go ?_
    refine rc (consistentFrom_ok hv) (next := fun v6 w6 h6 => ?_)
    obtain ⟨i, rfl, hi, hL, hno, he6⟩ := h6
    refine go ?_
    refine ret1 ⟨_, rfl, ?_, (he1.trans he5).trans he6⟩
    rw [decide_eq_true_eq]
    constructor
    · intro h
      have : i = 0 := by omega
      subst this
      exact ⟨hv, hL⟩
    · intro h
      by_cases e : i = 0
      · omega
      · exact absurd (h.levs (i - 1) (by omega) (by omega)) (hno e)
  · refine go ?_
    refine ret1 ⟨_, rfl, ?_, he1.trans he5⟩
    simp only [Bool.false_eq_true, false_iff]
    intro h
    have := hb5.2 h.valid
    rw [e5] at this; cases this
end Go.Proofs.Ytflniifngfiekaa

/-
  Walks: the program's test of subgroups (areSubgroups, IsSubgroup).
  Conditions: stated at each theorem.
-/
namespace Go.Proofs.Ytflniifngfiekaa
open Go Go.Pc
theorem PresP.val {lo hi b : Nat} {w : World} {p : Pr} {vo vp vc : Value} {ps cs : List Value} {css : List (List Value)} (h1 : Ints lo hi w vo p.ord) (h2 : Pc.Rows lo hi w vp ps p.pow) (h3 : Rowss lo hi w vc cs css p.cnj) : Pres lo hi w (.agg #[vo, vp, vc]) p := ⟨⟨vo, vp, vc, ps, cs, css, rfl, h1, h2, h3⟩⟩
end Go.Proofs.Ytflniifngfiekaa

/-
  Walks: the program's IsMember and IsSubset.
  Conditions: what the arguments read as.
-/
namespace Go.Proofs.Ytflniifngfiekaa
open Go Go.Pc
end Go.Proofs.Ytflniifngfiekaa

/-
  Walks: the program's generators, conjugates, conjugate subgroup, test of normality, test of elements.
  Conditions: stated at each theorem.
-/
namespace Go.Proofs.Ytflniifngfiekaa
open Go Go.Pc
set_option maxHeartbeats 1000000 in
theorem areElements_ok {p : Pr} {w : World} {vp vl : Value} {us : List Value} {xss : List (List Int)} {lo hi lo1 hi1 : Nat} [hp : PresP lo hi w vp p] [hl : Pc.Rows lo1 hi1 w vl us xss] (hol : p.ord.length ≤ 2000000) (hxl : xss.length ≤ 2000000) :
    Calls Try.prog 41 #[vp, vl] w (Ret fun v w' => ∃ b, v = .bool b ∧ (b = true ↔ GrpL p xss) ∧ Ext w w') := by
  obtain ⟨g, og, vo, vpw, vc, ps, cs, css, rfl, hg1, hg2, hc0, hc1, hc2, h1, h2, h3⟩ := hp.ex
  have hpv := PresP.val (b := g) h1 h2 h3
  refine enter (args := [.pointer (some ⟨g, og, none⟩), vl]) (l := [.tmp 4]) Try.func41 rfl rfl Try.ntmps41 (by simp) ?_
  refine go ?_
  refine rc (impl_IsConsistent_ok (p := p) hol) (next := fun v1 w1 h4 => ?_)
  obtain ⟨b1, rfl, hb1, he1⟩ := h4
  refine go ?_
  refine c_b (fun e1 => ?_) (fun e1 => ?_)
  · refine go ?_
    refine ret1 ⟨_, rfl, ?_, he1⟩
    simp only [Bool.false_eq_true, false_iff]
    rintro ⟨h, _⟩
    rw [hb1.2 h] at e1; cases e1
  have hG := hb1.1 (by simpa using e1)
  have hv := hG.valid
  refine go ?_
  refine r_for xss.length (fun q ρ w' => Has ρ [(0, .pointer (some ⟨g, og, none⟩)), (12, vl), (13, .int .i64 xss.length), (14, .int .i64 q)] ∧ Ext w w' ∧ ∀ i, i < q → InR p (xss.getD i [])) ?_ ?_
  · refine ⟨?_, he1, fun i hi => by omega⟩
    exact hasP
  clear he1
  rintro q ρ w3 hq ⟨hH3, he3, hQ⟩
  refine rwp_has hH3 fun ρ1 => ?_
  refine go ?_
  refine c_if (fun h6 => ?_) (fun h6 => ?_)
  · refine go ?_
    refine rc (isExponents_ok (p := p) (xs := xss.getD q []) (fun i hi => hv.opos hi) hol) (next := fun v4 w4 h7 => ?_)
    obtain ⟨b4, rfl, hb4, he4⟩ := h7
    refine go ?_
    refine c_b (fun h8 => ?_) (fun h8 => ?_)
    · refine go ?_
      refine ret1 ⟨_, rfl, ?_, he3.trans he4⟩
      simp only [Bool.false_eq_true, false_iff]
      rintro ⟨_, h⟩
      rw [hb4.2 (h q (by omega))] at h8; cases h8
    · have h9 := hb4.1 (by simpa using h8)
      refine go ?_
      refine forQ_normal (by omega) ⟨?_, he3.trans he4, fun i hi => ?_⟩
      · exact hasP
      · by_cases e : i = q
        · subst e; exact h9
        · exact hQ i (by omega)
  · refine go ?_
    refine ret1 ⟨_, rfl, ?_, he3⟩
    simp only [true_iff]
    exact ⟨hG, fun i hi => hQ i (by omega)⟩
end Go.Proofs.Ytflniifngfiekaa

/-
  Walks: the program's CosetRepresentative.
  Conditions: what the arguments read as.
-/
namespace Go.Proofs.Ytflniifngfiekaa
open Go Go.Pc
end Go.Proofs.Ytflniifngfiekaa

/-
  Walks: the program's order of a subgroup (sizeOf, SubgroupOrder).
  Conditions: stated at each theorem.
-/
namespace Go.Proofs.Ytflniifngfiekaa
open Go Go.Pc
end Go.Proofs.Ytflniifngfiekaa

/-
  Walks: the program's GeneratedSubgroup, ConjugateSubgroup, IsNormalSubgroup, SubgroupIndex, SubgroupDepths.
  Conditions: what the arguments read as.
-/
namespace Go.Proofs.Ytflniifngfiekaa
open Go Go.Pc
end Go.Proofs.Ytflniifngfiekaa

/-
  Walks: the program's CosetNumber, MemberElement, MemberExponents.
  Conditions: what the arguments read as.
-/
namespace Go.Proofs.Ytflniifngfiekaa
open Go Go.Pc
end Go.Proofs.Ytflniifngfiekaa

/-
  Walks: the program's order, index code, transversal; Transversal.
  Conditions: stated at each theorem.
-/
namespace Go.Proofs.Ytflniifngfiekaa
open Go Go.Pc
end Go.Proofs.Ytflniifngfiekaa

/-
  More rules: function values that capture variables; variables of one cell.
  Conditions: none; nothing of the program stands here.
-/
namespace Go.Pc
open Go Go.RowKit
section
variable {P : Program} {N : Nat} {ops : Array Oper} {K : Env → World → Prop} {ρ : Env} {w : World} {l : List Oper}
variable {ty : TypeId} {pos : String} {after : Array Edge} {g : Option (Nat × Bool)} {d : Nat}
end
end Go.Pc

/-
  Walks: the program's slices.Concat, closure under conjugation, commutator subgroup; SubgroupJoin, NormalClosure, CommutatorSubgroup.
  Conditions: stated at each theorem.
-/
namespace Go.Proofs.Ytflniifngfiekaa
open Go Go.Pc
theorem SeqAt.ext {p : Pr} {bs b0 base : Nat} {av : Nat → Prop} {w w' : World} {vp vb : Value} {t : Tab p} (h : SeqAt bs b0 base av w vp vb t) (x : Ext w w') : SeqAt bs b0 base av w' vp vb t := by
  obtain ⟨c0, c1, hn, ho, us, hL, hnil⟩ := h
  exact ⟨c0.same (x.same _ _) x.size, c1.same (x.same _ _) x.size, hn, ho, us, hL.ext x, hnil⟩
theorem flat_take {α : Type} (L : List (List α)) {k : Nat} (hk : k < L.length) : (L.take (k + 1)).flatten = (L.take k).flatten ++ L.getD k [] := by
  rw [List.take_succ_eq_append_getElem hk, List.flatten_append]; simp [hk]
end Go.Proofs.Ytflniifngfiekaa

/-
  Walks: the program's element with a number, all elements, subgroups of all elements with a property; Center.
  Conditions: stated at each theorem.
-/
namespace Go.Proofs.Ytflniifngfiekaa
open Go Go.Pc
end Go.Proofs.Ytflniifngfiekaa

/-
  Orders of elements; the answers of PowerSubgroup and OrderSubgroup.
  Conditions: the tails at all levels are groups.
-/
namespace Go.Proofs.Ytflniifngfiekaa
open Go Go.Pc
section
variable {p : Pr} [hc : ConAll p]
/-- The number is the order of the element. -/
def Per (x : El p) (K : Nat) : Prop := 1 ≤ K ∧ K ≤ 117649 ∧ Grp.pw x K = 1 ∧ ∀ m, Grp.pw x m = 1 → K ∣ m
def PerI (x y : El p) (d K : Nat) : Prop := Tl d y ∧ y = Grp.pw x K ∧ 1 ≤ K ∧ K ≤ 7 ^ d ∧ ∀ m, Grp.pw x m = 1 → K ∣ m
theorem PerI.start (x : El p) : PerI x x 0 1 := ⟨Tl.zero x, (Grp.pw_one x).symm, Nat.le_refl _, by simp, fun m _ => Nat.one_dvd m⟩
theorem PerI.done {x y : El p} {d K : Nat} (hd : d ≤ p.n) (h : PerI x y d K) (hy : y = 1) : Per x K := by
  obtain ⟨_, h2, h3, h4, h5⟩ := h
  have hn6 := hc.valid.n6
  have h6 : (7 : Nat) ^ d ≤ 7 ^ 6 := Nat.pow_le_pow_right (by omega) (by omega)
  have h7 : (7 : Nat) ^ 6 = 117649 := by decide
  exact ⟨h3, by omega, by rw [← h2, hy], h5⟩
theorem PerI.skip {x y : El p} {d K : Nat} (h : PerI x y d K) (h0 : co y d = 0) : PerI x y (d + 1) K := by
  obtain ⟨h1, h2, h3, h4, h5⟩ := h
  exact ⟨h1.succ h0, h2, h3, Nat.le_trans h4 (Nat.pow_le_pow_right (by omega) (by omega)), h5⟩
theorem dvd_prime {c o : Int} (ho : o = 2 ∨ o = 3 ∨ o = 5 ∨ o = 7) (hc : 0 ≤ c ∧ c < o) (h0 : c ≠ 0) (j : Nat) (h : ((j : Int) * c) % o = 0) : o.toNat ∣ j := by
  have hd : j % o.toNat = 0 := by
    have hcc : c = 1 ∨ c = 2 ∨ c = 3 ∨ c = 4 ∨ c = 5 ∨ c = 6 := by omega
    rcases ho with rfl | rfl | rfl | rfl <;> rcases hcc with rfl | rfl | rfl | rfl | rfl | rfl <;> simp only [Int.reduceToNat] <;> omega
  exact Nat.dvd_of_mod_eq_zero hd
theorem PerI.step {x y : El p} {d K : Nat} (hd : d < p.n) (h : PerI x y d K) (h0 : co y d ≠ 0) : PerI x (Grp.pw y (p.o d).toNat) (d + 1) (K * (p.o d).toNat) := by
  obtain ⟨h1, h2, h3, h4, h5⟩ := h
  have ho := hc.valid.opos hd
  have hr := co_rng y hd
  refine ⟨(h1.pw (by omega) _).succ ?_, by rw [Grp.pw_mul, ← h2], Nat.mul_pos h3 (by omega), ?_, fun m hm => ?_⟩
  · rw [co_pw hd h1, Int.toNat_of_nonneg (by omega)]
    exact Int.mul_emod_right _ _
  · rw [Nat.pow_succ]; exact Nat.mul_le_mul h4 (by omega)
  · obtain ⟨j, rfl⟩ := h5 m hm
    rw [Grp.pw_mul, ← h2] at hm
    have h6 := co_pw hd h1 j
    rw [hm, co_one] at h6
    exact Nat.mul_dvd_mul_left K (dvd_prime (hc.valid.prime d hd) hr h0 j h6.symm)
theorem Per.mod {x : El p} {K : Nat} (h : Per x K) (m : Nat) : Grp.pw x (m % K) = Grp.pw x m := by
  have e : Grp.pw x m = Grp.pw x (K * (m / K) + m % K) := by rw [Nat.div_add_mod]
  rw [e, Grp.pw_add, Grp.pw_mul, h.2.2.1, Grp.one_pw, Grp.one_mul]
theorem Per.mod_zero {x : El p} {K : Nat} (h : Per x K) (m : Nat) : m % K = 0 ↔ Grp.pw x m = 1 :=
  ⟨fun e => by rw [← h.mod, e, Grp.pw_zero], fun e => Nat.mod_eq_zero_of_dvd (h.2.2.2 m e)⟩
end
/-- The code of a group that is enumerated and an exponent. -/
def PcV (p : Pr) (k e : Int) : Prop := (¬ IsGrp p ∧ e = 1) ∨ (IsGrp p ∧ ((¬ (1 ≤ k ∧ k ≤ 1000000) ∧ e = 2) ∨ ((1 ≤ k ∧ k ≤ 1000000) ∧ ((128 < ordN p ∧ e = 3) ∨ (ordN p ≤ 128 ∧ e = 0)))))
/-- What a subgroup of powers is, with its code. -/
def PsV (p : Pr) (k : Int) (C : ConAll p → List (List Int)) (r : List (List Int)) (e : Int) : Prop := (¬ (1 ≤ k ∧ k ≤ 1000000) ∧ r = [] ∧ e = 2) ∨ ((1 ≤ k ∧ k ≤ 1000000) ∧ ((128 < ordN p ∧ r = [] ∧ e = 3) ∨ (ordN p ≤ 128 ∧ (∃ c : ConAll p, r = C c) ∧ e = 0)))
theorem PsV.uniq {p : Pr} {k : Int} {C : ConAll p → List (List Int)} (a b : List (List Int)) (c d : Int) (h : PsV p k C a c) (g : PsV p k C b d) : a = b ∧ c = d := by
  rcases h with ⟨h1, rfl, rfl⟩ | ⟨h1, ⟨h2, rfl, rfl⟩ | ⟨h2, ⟨_, rfl⟩, rfl⟩⟩ <;> rcases g with ⟨g1, rfl, rfl⟩ | ⟨g1, ⟨g2, rfl, rfl⟩ | ⟨g2, ⟨_, rfl⟩, rfl⟩⟩
  · exact ⟨rfl, rfl⟩
  · exact absurd g1 h1
  · exact absurd g1 h1
  · exact absurd h1 g1
  · exact ⟨rfl, rfl⟩
  · omega
  · exact absurd h1 g1
  · omega
  · exact ⟨rfl, rfl⟩
theorem PcV.zero {p : Pr} {k : Int} (h : PcV p k 0) : IsGrp p ∧ (1 ≤ k ∧ k ≤ 1000000) ∧ ordN p ≤ 128 := by
  rcases h with ⟨_, h2⟩ | ⟨h1, ⟨_, h2⟩ | ⟨h2, ⟨_, h3⟩ | ⟨h3, _⟩⟩⟩
  · omega
  · omega
  · omega
  · exact ⟨h1, h2, h3⟩
end Go.Proofs.Ytflniifngfiekaa

/-
  Walks: the program's order of an element; PowerSubgroup, OrderSubgroup.
  Conditions: what the arguments read as.
-/
namespace Go.Proofs.Ytflniifngfiekaa
open Go Go.Pc
end Go.Proofs.Ytflniifngfiekaa

/-
  Plain mathematics: a presentation whose normal forms are told apart in a group that respects its relations is a group's.
  Conditions: none; nothing of the program stands here.
-/
namespace Go.Proofs.Ytflniifngfiekaa
open Go Go.Pc Go.Pc.Grp
/-- A group that holds the normal forms of a presentation. -/
structure Emb (q : Pr) {K : Type} [Grp K] (c : Nat → K) : Prop where
  valid : Valid q
  P : ∀ j, j < q.n → pw (c j) (q.o j).toNat = phi c (q.w j) (j + 1) (q.n - (j + 1))
  C : ∀ j k, j < k → k < q.n → cj (c k) (c j) = phi c (q.c j k) (j + 1) (q.n - (j + 1))
  inj : ∀ x y, InR q x → InR q y → phi c x 0 q.n = phi c y 0 q.n → x = y
  inv : ∀ i x, i ≤ q.n → InR q x → ZU i x → ∃ y, InR q y ∧ ZU i y ∧ phi c y 0 q.n * phi c x 0 q.n = 1
section
variable {q : Pr} {K : Type} [Grp K] {c : Nat → K}
theorem phi_zu (c : Nat → K) {x : List Int} {i n : Nat} (hi : i ≤ n) (hz : ZU i x) : phi c x 0 n = phi c x i (n - i) := by
  have e : n = i + (n - i) := by omega
  have h := phi_split c x i 0 (n - i)
  rw [← e, Nat.zero_add] at h
  rw [h, phi_none c i 0 (fun j _ hj => .inl (hz j (by omega))), Grp.one_mul]
theorem Emb.mul (h : Emb q c) {i : Nat} (hi : i ≤ q.n) {x y : List Int} (hx : InR q x) (hy : InR q y) (zx : ZU i x) (zy : ZU i y) : phi c (atv q i x y) 0 q.n = phi c x 0 q.n * phi c y 0 q.n := by
  have hin := atv_in h.valid _ i rfl _ _ hx hy zx zy
  rw [phi_zu c hi hin.2, phi_zu c hi zx, phi_zu c hi zy]
  exact dyck c h.valid i (fun j _ hj => h.P j hj) (fun j k _ hj hk => h.C j k hj hk) _ i (Nat.le_refl _) rfl x y hx hy zx zy
theorem Emb.con (h : Emb q c) {i : Nat} (hi : i ≤ q.n) : Con q i where
  valid := h.valid
  assoc := fun x y z => by
    have h1 := atv_in h.valid _ i rfl _ _ x.inr y.inr x.zu y.zu
    have h2 := atv_in h.valid _ i rfl _ _ y.inr z.inr y.zu z.zu
    have h3 := atv_in h.valid _ i rfl _ _ h1.1 z.inr h1.2 z.zu
    have h4 := atv_in h.valid _ i rfl _ _ x.inr h2.1 x.zu h2.2
    apply T.ext
    refine h.inj _ _ h3.1 h4.1 ?_
    show phi c (atv q i (atv q i x.v y.v) z.v) 0 q.n = phi c (atv q i x.v (atv q i y.v z.v)) 0 q.n
    rw [h.mul hi h1.1 z.inr h1.2 z.zu, h.mul hi x.inr y.inr x.zu y.zu, h.mul hi x.inr h2.1 x.zu h2.2, h.mul hi y.inr z.inr y.zu z.zu, Grp.mul_assoc]
  inv := fun x => by
    obtain ⟨y, hy, zy, e⟩ := h.inv i x.v hi x.inr x.zu
    have h1 := atv_in h.valid _ i rfl _ _ hy x.inr zy x.zu
    refine ⟨⟨y, hy, zy⟩, T.ext ?_⟩
    refine h.inj _ _ h1.1 h.valid.zeros_in ?_
    show phi c (atv q i y x.v) 0 q.n = phi c (zeros q.n) 0 q.n
    rw [h.mul hi hy x.inr zy x.zu, e, phi_zero c _ _ fun j _ => zeros_getD _ _]
theorem cj_cj' {G : Type} [Grp G] (a b g : G) : cj (cj a g) (cj b g) = cj (cj a b) g := by
  rw [cj_cj, cj_cj, mul_cj]
theorem cj_self {G : Type} [Grp G] (a : G) : cj a a = a := by unfold cj; rw [inv_mul_cancel_left]
/-- The level's conditions hold. -/
theorem Emb.lev (h : Emb q c) {i : Nat} (hi : i < q.n) : Lev q i := by
  have hcon : Con q (i + 1) := h.con hi
  let up : T q (i + 1) → K := fun x => phi c x.v 0 q.n
  have upv : ∀ x : T q (i + 1), up x = phi c x.v 0 q.n := fun _ => rfl
  have upi : ∀ x y : T q (i + 1), up x = up y → x = y := fun x y e => T.ext (h.inj _ _ x.inr y.inr e)
  have upm : ∀ x y : T q (i + 1), up (x * y) = up x * up y := fun x y => h.mul (i := i + 1) hi x.inr y.inr x.zu y.zu
  have up1 : up 1 = 1 := Grp.mul_left_cancel (a := up 1) (by rw [← upm, Grp.one_mul, Grp.mul_one])
  have upp : ∀ (x : T q (i + 1)) k, up (pw x k) = pw (up x) k := fun x k => by
    induction k with
    | zero => exact up1
    | succ k ih => rw [pw_succ, upm, ih, pw_succ]
  have upn : ∀ x : T q (i + 1), up x⁻¹ = (up x)⁻¹ := fun x => eq_inv_of_mul (by rw [← upm, Grp.inv_mul, up1])
  have upc : ∀ x y : T q (i + 1), up (cj x y) = cj (up x) (up y) := fun x y => by unfold cj; rw [upm, upm, upn]
  have hom : ∀ x y, InR q x → InR q y → ZU (i + 1) x → ZU (i + 1) y → phi c (atv q (i + 1) x y) (i + 1) (q.n - (i + 1)) = phi c x (i + 1) (q.n - (i + 1)) * phi c y (i + 1) (q.n - (i + 1)) := fun x y hx hy zx zy =>
    dyck c h.valid (i + 1) (fun j _ hj => h.P j hj) (fun j k _ hj hk => h.C j k hj hk) _ (i + 1) (Nat.le_refl _) rfl x y hx hy zx zy
  have upg : ∀ x : T q (i + 1), up (Timg h.valid x) = cj (up x) (c i) := fun x => by
    have e := phi_rep_img c h.valid hi hom (fun k h1 h2 => h.C i k h1 h2) x.v 1
    rw [rep_succ, rep_zero, pw_one] at e
    rw [upv, upv, phi_zu c hi (Timg h.valid x).zu, phi_zu c hi x.zu]
    exact e
  have upr : ∀ (x : T q (i + 1)) k, up (rep k (Timg h.valid) x) = cj (up x) (pw (c i) k) := fun x k => by
    induction k with
    | zero => rw [rep_zero, pw_zero, cj_by_one]
    | succ k ih => rw [rep_succ, upg, ih, cj_cj, pw_succ]
  have upC : ∀ j (hj : i < j ∧ j < q.n), up (Tc h.valid hj) = cj (c j) (c i) := fun j hj => by
    rw [upv, phi_zu c hi (Tc h.valid hj).zu]
    exact (h.C i j hj.1 hj.2).symm
  have upW : ∀ j (hj : i ≤ j) (hn : j < q.n) hin hz, up (⟨q.w j, hin, hz⟩ : T q (i + 1)) = pw (c j) (q.o j).toNat := fun j hj hn hin hz => by
    rw [upv, h.P j hn]
    exact phi_zu c (by omega) (h.valid.w_zu j hn)
  have upG : ∀ j (hj : i + 1 ≤ j ∧ j < q.n), up (gen h.valid (i + 1) j hj) = c j := fun j hj => by
    rw [upv]
    have e : (gen h.valid (i + 1) j hj).v = unitv q j 1 := rfl
    have z : ZU j (unitv q j 1) := unitv_zu q (Nat.le_refl _) 1
    rw [e, phi_zu c (by omega) z, show q.n - j = (q.n - (j + 1)) + 1 by omega, phi]
    have g : (unitv q j 1).getD j 0 = 1 := Pc.getD_set_eq _ _ _ (by rw [h.valid.zeros_in.len]; exact hj.2)
    rw [g, phi_zero c _ _ (fun k hk => by rw [unitv, Pc.getD_set_ne _ _ _ _ (by omega), zeros_getD]), Grp.mul_one]
    exact pw_one _
  refine ⟨hcon, hi, ⟨fun j hj => upi _ _ ?_, fun j k hj hk hjk => upi _ _ ?_, upi _ _ ?_, fun j hj => upi _ _ ?_⟩⟩
  · rw [upp, upg, upC, upW j (by omega) hj.2, cj_pw]
  · rw [upc, upg, upC, upC, cj_cj']
    congr 1
    rw [upv, phi_zu c (by omega) (h.valid.c_zu j k hjk hk.2)]
    exact h.C j k hjk hk.2
  · rw [upg, show up (Tw h.valid hi) = pw (c i) (q.o i).toNat from upW i (Nat.le_refl _) hi _ _, cj_pw, cj_self]
  · rw [upr, upc, upG, show up (Tw h.valid hi) = pw (c i) (q.o i).toNat from upW i (Nat.le_refl _) hi _ _]
theorem Emb.grp (h : Emb q c) : IsGrp q := ⟨h.valid, fun _ _ hj => h.lev hj⟩
end
/-! ### the quotient by a normal subgroup -/
structure NSub (G : Type) [Grp G] where
  N : G → Prop
  sub : Pc.Sub N
  nrm : ∀ a b, N a → N (cj a b)
section
variable {G : Type} [Grp G] (S : NSub G)
theorem NSub.comm {a b : G} (h : S.N (a * b)) : S.N (b * a) := by
  have := S.nrm _ a h
  unfold cj at this
  rwa [Grp.mul_assoc, inv_mul_cancel_left] at this
def NSub.setoid : Setoid G where
  r x y := S.N (x⁻¹ * y)
  iseqv := ⟨fun x => by rw [Grp.inv_mul]; exact S.sub.one, fun {x y} h => by
    have := S.sub.inv _ h
    rwa [mul_inv_rev, Grp.inv_inv] at this, fun {x y z} h k => by
    have := S.sub.mul _ _ h k
    rwa [Grp.mul_assoc, mul_inv_cancel_left] at this⟩
def NSub.Q : Type := Quotient S.setoid
def NSub.qk (x : G) : S.Q := Quotient.mk S.setoid x
theorem NSub.eq {x y : G} : S.qk x = S.qk y ↔ S.N (x⁻¹ * y) := ⟨fun h => Quotient.exact h, fun h => Quotient.sound h⟩
instance NSub.grp : Grp S.Q where
  mul a b := Quotient.liftOn₂ a b (fun x y => S.qk (x * y)) fun x y x' y' h k => S.eq.2 (by
    have h1 : S.N (x⁻¹ * x') := h
    have k1 : S.N (y⁻¹ * y') := k
    have h2 := S.sub.mul _ _ (S.nrm _ y h1) k1
    have e : cj (x⁻¹ * x') y * (y⁻¹ * y') = (x * y)⁻¹ * (x' * y') := by
      unfold cj
      rw [mul_inv_rev]
      simp only [Grp.mul_assoc]
      rw [mul_inv_cancel_left]
    rwa [e] at h2)
  one := S.qk 1
  inv a := Quotient.liftOn a (fun x => S.qk x⁻¹) fun x y h => S.eq.2 (by
    have h1 : S.N (x⁻¹ * y) := h
    have h2 := S.sub.inv _ h1
    rw [mul_inv_rev, Grp.inv_inv] at h2
    have h3 := S.comm h2
    rwa [Grp.inv_inv])
  mul_assoc a b c := by
    induction a using Quotient.ind; induction b using Quotient.ind; induction c using Quotient.ind
    exact congrArg S.qk (Grp.mul_assoc _ _ _)
  one_mul a := by
    induction a using Quotient.ind
    exact congrArg S.qk (Grp.one_mul _)
  inv_mul a := by
    induction a using Quotient.ind
    exact congrArg S.qk (Grp.inv_mul _)
end
end Go.Proofs.Ytflniifngfiekaa

/-
  Plain mathematics: the presentation of a quotient is a group's.
  Conditions: none; nothing of the program stands here.
-/
namespace Go.Proofs.Ytflniifngfiekaa
open Go Go.Pc Go.Pc.Grp
section
variable {p : Pr} [hc : ConAll p] {ys : List (El p)}
theorem repEx (hs : SeqOk ys) (x : El p) : ∃ r, RepOf ys x r := by
  have hasc : ∀ i j (hi : i < ys.length) (hj : j < ys.length), i < j → lead (ys[i]).v < lead (ys[j]).v := fun i j hi hj hij => List.pairwise_iff_getElem.1 hs.asc i j hi hj hij
  have key : ∀ k, k ≤ ys.length → ∃ r : El p, (∀ H : El p → Prop, Pc.Sub H → (∀ y, y ∈ ys → H y) → H (x⁻¹ * r)) ∧ (∀ i (hi : i < ys.length), i < k → co r (lead (ys[i]).v) = 0) ∧ (∀ t, (∀ y, y ∈ ys → t < lead y.v) → co r t = co x t) := by
    intro k
    induction k with
    | zero => exact fun _ => ⟨x, fun H hH _ => by rw [Grp.inv_mul]; exact hH.one, fun i _ h => by omega, fun _ _ => rfl⟩
    | succ k ih =>
      intro hk
      have hkn : k < ys.length := by omega
      obtain ⟨r, h1, h2, h3⟩ := ih (by omega)
      have hm := List.getElem_mem hkn
      obtain ⟨hd, hy1⟩ := hs.lead1 _ hm
      have ht : Tl (lead (ys[k]).v) (ys[k]) := lead_tl _
      have hrr := co_rng r hd
      have hpt := ht.pw (Nat.le_of_lt hd) (p.o (lead (ys[k]).v) - co r (lead (ys[k]).v)).toNat
      refine ⟨r * pw (ys[k]) (p.o (lead (ys[k]).v) - co r (lead (ys[k]).v)).toNat, fun H hH hy => ?_, fun i hi hik => ?_, fun t hq => ?_⟩
      · rw [← Grp.mul_assoc]
        exact hH.mul _ _ (h1 H hH hy) (hH.pw (hy _ hm) _)
      · by_cases e : i = k
        · subst e
          rw [co_at r hd hpt, co_pw hd ht, hy1, Int.mul_one]
          by_cases h0 : co r (lead (ys[i]).v) = 0
          · have e1 : ((p.o (lead (ys[i]).v) - co r (lead (ys[i]).v)).toNat : Int) = p.o (lead (ys[i]).v) := by omega
            rw [e1, h0, Int.emod_self]; rfl
          · have e1 : ((p.o (lead (ys[i]).v) - co r (lead (ys[i]).v)).toNat : Int) = p.o (lead (ys[i]).v) - co r (lead (ys[i]).v) := by omega
            have e2 : (p.o (lead (ys[i]).v) - co r (lead (ys[i]).v)) % p.o (lead (ys[i]).v) = p.o (lead (ys[i]).v) - co r (lead (ys[i]).v) := Int.emod_eq_of_lt (by omega) (by omega)
            rw [e1, e2, show co r (lead (ys[i]).v) + (p.o (lead (ys[i]).v) - co r (lead (ys[i]).v)) = p.o (lead (ys[i]).v) by omega, Int.emod_self]
        · have hlt := hasc i k hi hkn (by omega)
          rw [co_low r hd hpt hlt]
          exact h2 i hi (by omega)
      · rw [co_low r hd hpt (hq _ hm)]
        exact h3 t hq
  obtain ⟨r, h1, h2, h3⟩ := key ys.length (Nat.le_refl _)
  refine ⟨r, h1, fun y hy => ?_, h3⟩
  obtain ⟨i, hi, rfl⟩ := List.getElem_of_mem hy
  exact h2 i hi hi
/-! ### the element with some exponents -/
/-! ### the quotient -/
end
end Go.Proofs.Ytflniifngfiekaa

/-
  Plain mathematics: homomorphisms by images; automorphisms are one to one, and each comes back.
  Conditions: none; nothing of the program stands here.
-/
namespace Go.Proofs.Ytflniifngfiekaa
open Go Go.Pc Go.Pc.Grp
/-- Of n + 1 numbers below n two are the same. -/
theorem pigeon : ∀ (n : Nat) (g : Nat → Nat), (∀ i, i ≤ n → g i < n) → ∃ a b, a < b ∧ b ≤ n ∧ g a = g b
  | 0, g, h => absurd (h 0 (Nat.le_refl _)) (Nat.not_lt_zero _)
  | n + 1, g, h => by
    by_cases e : ∃ a, a ≤ n ∧ g a = g (n + 1)
    · obtain ⟨a, ha, e⟩ := e
      exact ⟨a, n + 1, by omega, Nat.le_refl _, e⟩
    · obtain ⟨a, b, h1, h2, h3⟩ := pigeon n (fun i => if g (n + 1) < g i then g i - 1 else g i) (fun i hi => by
        have h1 := h i (by omega)
        have h2 := h (n + 1) (Nat.le_refl _)
        have h3 : g i ≠ g (n + 1) := fun k => e ⟨i, hi, k⟩
        split <;> omega)
      have ha : g a ≠ g (n + 1) := fun k => e ⟨a, by omega, k⟩
      have hb : g b ≠ g (n + 1) := fun k => e ⟨b, h2, k⟩
      refine ⟨a, b, h1, by omega, ?_⟩
      split at h3 <;> split at h3 <;> omega
def itF {α : Type} (f : α → α) : Nat → α → α
  | 0, x => x
  | k + 1, x => f (itF f k x)
theorem itF_add {α : Type} (f : α → α) (b : Nat) (x : α) : ∀ a, itF f (a + b) x = itF f a (itF f b x)
  | 0 => by rw [Nat.zero_add]; rfl
  | a + 1 => by rw [Nat.add_right_comm]; exact congrArg f (itF_add f b x a)
theorem itF_comm {α : Type} (f : α → α) (x : α) (k : Nat) : itF f (k + 1) x = itF f k (f x) := itF_add f 1 x k
theorem itF_mul {α : Type} {f : α → α} {m : Nat} {x : α} (h : itF f m x = x) : ∀ k, itF f (m * k) x = x
  | 0 => rfl
  | k + 1 => by rw [Nat.mul_succ, itF_add, h]; exact itF_mul h k
/-- What is onto a finite set brings each element back. -/
theorem period {α : Type} {f : α → α} {num : α → Nat} {n : Nat} (hn : ∀ x, num x < n) (hi : ∀ x y, num x = num y → x = y) (hs : ∀ y, ∃ x, f x = y) (x : α) : ∃ m, 1 ≤ m ∧ itF f m x = x := by
  obtain ⟨g, hg⟩ : ∃ g : α → α, ∀ y, f (g y) = y := ⟨fun y => Classical.choose (hs y), fun y => Classical.choose_spec (hs y)⟩
  have hk : ∀ k y, itF f k (itF g k y) = y := by
    intro k
    induction k with
    | zero => exact fun y => rfl
    | succ k ih =>
      intro y
      rw [itF_comm]
      show itF f k (f (g (itF g k y))) = y
      rw [hg]
      exact ih y
  obtain ⟨a, b, hab, _, e⟩ := pigeon n (fun i => num (itF g i x)) (fun i _ => hn _)
  have e' : itF g a x = itF g b x := hi _ _ e
  refine ⟨b - a, by omega, ?_⟩
  have h1 : itF g (b - a) x = x := by
    have h2 := congrArg (itF f a) e'
    have h3 : itF g b x = itF g a (itF g (b - a) x) := by
      rw [← itF_add, show a + (b - a) = b by omega]
    rw [h3, hk, hk] at h2
    exact h2.symm
  have h3 := hk (b - a) x
  rwa [h1] at h3
theorem periods {α : Type} {f : α → α} (h : ∀ x : α, ∃ m, 1 ≤ m ∧ itF f m x = x) : ∀ l : List α, ∃ m, 1 ≤ m ∧ ∀ x, x ∈ l → itF f m x = x
  | [] => ⟨1, Nat.le_refl _, fun x hx => absurd hx List.not_mem_nil⟩
  | y :: l => by
    obtain ⟨m, hm, h1⟩ := periods h l
    obtain ⟨k, hk, h2⟩ := h y
    refine ⟨m * k, Nat.mul_pos hm hk, fun x hx => ?_⟩
    rcases List.mem_cons.1 hx with rfl | hx
    · rw [Nat.mul_comm]; exact itF_mul h2 m
    · exact itF_mul (h1 x hx) k
theorem period_inj {α : Type} {f : α → α} (h : ∀ x : α, ∃ m, 1 ≤ m ∧ itF f m x = x) {x y : α} (e : f x = f y) : x = y := by
  obtain ⟨m, hm, k⟩ := periods h [x, y]
  have h1 := k x (by simp)
  have h2 := k y (by simp)
  obtain ⟨j, rfl⟩ : ∃ j, m = j + 1 := ⟨m - 1, by omega⟩
  rw [itF_comm, e] at h1
  rw [itF_comm, h1] at h2
  exact h2
/-! ### homomorphisms by images -/
theorem inR_nonneg {p : Pr} {x : List Int} (h : InR p x) (i : Nat) : 0 ≤ x.getD i 0 := by
  by_cases hi : i < p.n
  · exact (h.rng i hi).1
  · rw [List.getD_eq_getElem?_getD, List.getElem?_eq_none (by rw [h.len]; omega)]
    exact Int.le_refl _
section
variable {q : Pr} [hq : ConAll q]
theorem prodTo_phi (ys : List (El q)) {x : List Int} (h : ∀ i, 0 ≤ x.getD i 0) : ∀ k, prodTo ys x k = phi (fun j => ys.getD j 1) x 0 k
  | 0 => rfl
  | k + 1 => by
    rw [phi_last, Nat.zero_add]
    show prodTo ys x k * pwz (ys.getD k 1) (x.getD k 0) = _
    rw [pwz_of _ (h k), prodTo_phi ys h k]
theorem letV_neg (ys : List (El q)) {a : Int} (ha : a ≠ 0) : letV ys (-a) = (letV ys a)⁻¹ := by
  unfold letV
  by_cases h : 0 < a
  · rw [if_neg (by omega), if_pos h, show - -a - 1 = a - 1 by omega]
  · rw [if_pos (by omega), if_neg h, Grp.inv_inv]
theorem evalW_one (ys : List (El q)) (a : Int) : evalW ys [a] = letV ys a := by
  show 1 * letV ys a = _
  rw [Grp.one_mul]
theorem evalW_inv (ys : List (El q)) : ∀ w : List Int, (∀ a, a ∈ w → a ≠ 0) → evalW ys (invW w) * evalW ys w = 1
  | [], _ => Grp.one_mul _
  | l :: w, h => by
    have e1 : invW (l :: w) = invW w ++ [-l] := by simp [invW]
    have e2 : evalW ys (l :: w) = letV ys l * evalW ys w := by rw [← evalW_one, ← evalW_append]; rfl
    rw [e1, evalW_append, evalW_one, letV_neg ys (h l List.mem_cons_self), e2, Grp.mul_assoc, ← Grp.mul_assoc (letV ys l)⁻¹, Grp.inv_mul, Grp.one_mul]
    exact evalW_inv ys w fun a ha => h a (List.mem_cons_of_mem _ ha)
theorem evalW_rel (ys : List (El q)) {u v : List Int} (hv : ∀ a, a ∈ v → a ≠ 0) (h : evalW ys (u ++ invW v) = 1) : evalW ys u = evalW ys v := by
  rw [evalW_append] at h
  have h1 := evalW_inv ys v hv
  calc evalW ys u = evalW ys u * (evalW ys (invW v) * evalW ys v) := by rw [h1, Grp.mul_one]
    _ = (evalW ys u * evalW ys (invW v)) * evalW ys v := by rw [Grp.mul_assoc]
    _ = evalW ys v := by rw [h, Grp.one_mul]
theorem evalW_full (ys : List (El q)) {x : List Int} (h : ∀ i, 0 ≤ x.getD i 0) : evalW ys (wordV x) = phi (fun j => ys.getD j 1) x 0 x.length := by
  have h1 := evalW_word (ys := ys) (x := x) (fun i _ => h i) x.length (Nat.le_refl _)
  rw [List.take_length, prodTo_phi ys h] at h1
  exact h1
variable {p : Pr}
theorem relOk_mem {ys : List (El q)} (h : RelOk p ys) {w : List Int} (hw : w ∈ rels p) : evalW ys w = 1 := by
  obtain ⟨i, hi, rfl⟩ := List.getElem_of_mem hw
  have := h i hi
  rwa [List.getD_eq_getElem?_getD, List.getElem?_eq_getElem hi] at this
theorem relP_mem {i : Nat} (hi : i < p.n) : relP p i ∈ rels p := List.mem_append.2 (.inl (List.mem_map.2 ⟨i, List.mem_range.2 hi, rfl⟩))
theorem relC_mem {i k : Nat} (hi : i < p.n) (hk : k < p.n - 1 - i) : relC p i k ∈ rels p :=
  List.mem_append.2 (.inr (List.mem_flatMap.2 ⟨i, List.mem_range.2 hi, List.mem_map.2 ⟨k, List.mem_range.2 hk, rfl⟩⟩))
theorem img_P {ys : List (El q)} (hv : Valid p) (h : RelOk p ys) {j : Nat} (hj : j < p.n) : pw (ys.getD j 1) (p.o j).toNat = phi (fun j => ys.getD j 1) (p.w j) (j + 1) (p.n - (j + 1)) := by
  have hi := hv.w_in j hj
  have h1 := relOk_mem h (relP_mem hj)
  have h2 := evalW_rel ys (u := List.replicate (p.o j).toNat ((j : Int) + 1)) (v := wordV (p.w j)) (fun a ha => (letW_word hi.len a ha).1) h1
  rw [evalW_rep, evalW_full ys (inR_nonneg hi), hi.len, phi_zu _ (by omega) (hv.w_zu j hj)] at h2
  exact h2
theorem img_C {ys : List (El q)} (hv : Valid p) (h : RelOk p ys) {j k : Nat} (hjk : j < k) (hk : k < p.n) : cj (ys.getD k 1) (ys.getD j 1) = phi (fun j => ys.getD j 1) (p.c j k) (j + 1) (p.n - (j + 1)) := by
  have hi := hv.c_in j k hjk hk
  obtain ⟨m, rfl⟩ : ∃ m, k = j + 1 + m := ⟨k - (j + 1), by omega⟩
  have ec : (p.cnj.getD j []).getD m [] = p.c j (j + 1 + m) := by
    unfold Pr.c
    congr 1
    omega
  have h1 := relOk_mem h (relC_mem (i := j) (k := m) (by omega) (by omega))
  unfold relC at h1
  rw [ec] at h1
  have h2 := evalW_rel ys (v := wordV (p.c j (j + 1 + m))) (fun a ha => (letW_word hi.len a ha).1) h1
  rw [evalW_full ys (inR_nonneg hi), hi.len, phi_zu _ (by omega) (hv.c_zu j _ hjk hk)] at h2
  rw [← h2]
  show _ = ((1 * letV ys (-(j : Int) - 1)) * letV ys (((j + 1 + m : Nat) : Int) + 1)) * letV ys ((j : Int) + 1)
  have e1 : letV ys (-(j : Int) - 1) = (ys.getD j 1)⁻¹ := by
    unfold letV
    rw [if_neg (by omega), show (-(-(j : Int) - 1) - 1).toNat = j by omega]
  have e2 : letV ys (((j + 1 + m : Nat) : Int) + 1) = ys.getD (j + 1 + m) 1 := by
    unfold letV
    rw [if_pos (by omega), show ((((j + 1 + m : Nat) : Int) + 1) - 1).toNat = j + 1 + m by omega]
  have e3 : letV ys ((j : Int) + 1) = ys.getD j 1 := by
    unfold letV
    rw [if_pos (by omega), show ((j : Int) + 1 - 1).toNat = j by omega]
  rw [e1, e2, e3, Grp.one_mul, Grp.mul_assoc]
  rfl
theorem imgE_phi {ys : List (El q)} (hl : ys.length = p.n) {x : List Int} (hx : InR p x) : imgE ys x = phi (fun j => ys.getD j 1) x 0 p.n := by
  unfold imgE
  rw [prodTo_phi ys (inR_nonneg hx), hl]
variable [hc : ConAll p]
theorem img_hom {ys : List (El q)} (hl : ys.length = p.n) (h : RelOk p ys) (x y : El p) : imgE ys (x * y).v = imgE ys x.v * imgE ys y.v := by
  have hv := hc.valid
  have h1 := dyck (fun j => ys.getD j 1) hv 0 (fun j _ hj => img_P hv h hj) (fun j k _ hjk hk => img_C hv h hjk hk) p.n 0 (Nat.le_refl _) (Nat.sub_zero _) x.v y.v x.inr y.inr x.zu y.zu
  rw [imgE_phi hl (x * y).inr, imgE_phi hl x.inr, imgE_phi hl y.inr]
  exact h1
theorem img_unit {ys : List (El q)} (hl : ys.length = p.n) {i : Nat} (hi : i < p.n) : imgE ys (gOf p 0 i : El p).v = ys.getD i 1 := by
  have key : ∀ k, k ≤ p.n → prodTo ys (gOf p 0 i : El p).v k = if i < k then ys.getD i 1 else 1 := by
    intro k
    induction k with
    | zero => exact fun _ => rfl
    | succ k ih =>
      intro hk
      show prodTo ys _ k * pwz (ys.getD k 1) ((gOf p 0 i : El p).v.getD k 0) = _
      have e : (gOf p 0 i : El p).v.getD k 0 = if k = i then 1 else 0 := by
        have := co_gOf (p := p) (e := k) hi
        rw [show (gOf p 0 i : El p).v.getD k 0 = co (gOf p 0 i) k from rfl, this]
      rw [ih (by omega), e]
      by_cases h1 : k = i
      · subst h1
        rw [if_neg (Nat.lt_irrefl _), if_pos rfl, if_pos (Nat.lt_succ_self _), Grp.one_mul]
        exact Grp.one_mul _
      · rw [if_neg h1]
        have e0 : pwz (ys.getD k 1) 0 = 1 := rfl
        rw [e0, Grp.mul_one]
        by_cases h2 : i < k
        · rw [if_pos h2, if_pos (by omega)]
        · rw [if_neg h2, if_neg (by omega)]
  unfold imgE
  rw [key _ (by omega), if_pos (by omega)]
end
/-! ### numbers -/
section
variable {p : Pr} {l : List Nat}
end
/-! ### automorphisms -/
section
variable {p : Pr} [hc : ConAll p]
theorem full_gen {ys : List (El p)} (hs : SeqEl ys) (h : ordOf p ys = ordL p (List.range p.n)) (x : El p) : Gen (fun a : El p => a ∈ ys) x := by
  have hv := hc.valid
  have hord := ordOf_rng (ys := ys) (k := ys.length) (by have := hs.len; have := hv.n6; omega) (Nat.le_refl _) fun y hy => (hs.ok.lead1 y hy).1
  rw [List.take_length] at hord
  have hsp := ord_split hs.ok
  have hone : ordL p (freeL p ys p.n) = 1 := by
    rw [← h] at hsp
    have h2 : 1 * ordOf p ys = ordL p (freeL p ys p.n) * ordOf p ys := by rw [Int.one_mul]; exact hsp
    exact (Int.eq_of_mul_eq_mul_right (by omega) h2).symm
  have hnil : freeL p ys p.n = [] := by
    by_cases e : freeL p ys p.n = []
    · exact e
    · have h2 := (foldl_ge p.o (freeL p ys p.n) 1 (Int.le_refl _) fun d hd => (hv.opos (freeL_lt hd)).1).2 e
      have h3 : ordL p (freeL p ys p.n) = (freeL p ys p.n).foldl (fun a d => a * p.o d) 1 := rfl
      omega
  have hcov := (free_nil_iff ys p.n).1 hnil
  obtain ⟨r, hr⟩ := repEx hs.ok x
  have hr1 : r = 1 := T.ext (list_ext0 (by rw [r.inr.len, (1 : El p).inr.len]) fun d hd => by
    rw [r.inr.len] at hd
    obtain ⟨y, hy, e⟩ := hcov d hd
    have h1 : r.v.getD d 0 = 0 := by rw [← e]; exact hr.zero y hy
    rw [h1]
    exact (co_one d).symm)
  have h2 := hr.mem _ (Gen.sub _) (fun y hy => Gen.of (S := fun a : El p => a ∈ ys) y hy)
  rw [hr1, Grp.mul_one] at h2
  have h3 := Gen.inv _ h2
  rwa [Grp.inv_inv] at h3
theorem aut_onto {ys : List (El p)} (hl : ys.length = p.n) (h : RelOk p ys) (hf : ordOf p (canEls (Gen (fun a : El p => a ∈ ys))) = ordL p (List.range p.n)) (z : El p) : ∃ x : El p, imgE ys x.v = z := by
  have h1 := full_gen (seqEl_can (Gen.sub (fun a : El p => a ∈ ys))) hf z
  have e1 : imgE ys (1 : El p).v = 1 := by
    have h2 := img_hom hl h (1 : El p) 1
    rw [Grp.one_mul] at h2
    have h3 := congrArg (fun a => (imgE ys (1 : El p).v)⁻¹ * a) h2
    simp only [← Grp.mul_assoc, Grp.inv_mul, Grp.one_mul] at h3
    exact h3.symm
  have hS : Pc.Sub (fun z : El p => ∃ x : El p, imgE ys x.v = z) := ⟨⟨1, e1⟩, fun a b ⟨x, hx⟩ ⟨y, hy⟩ => ⟨x * y, by rw [img_hom hl h, hx, hy]⟩, fun a ⟨x, hx⟩ => ⟨x⁻¹, by
    have h2 := img_hom hl h x⁻¹ x
    rw [Grp.inv_mul, e1, hx] at h2
    exact Grp.eq_inv_of_mul h2.symm⟩⟩
  have h2 := (gen_can (Gen.sub (fun a : El p => a ∈ ys)) z).1 h1
  refine Gen.le hS (fun a ha => ?_) z h2
  obtain ⟨i, hi, rfl⟩ := List.getElem_of_mem ha
  refine ⟨gOf p 0 i, ?_⟩
  rw [img_unit hl (by omega)]
  simp [hi]
theorem aut_period {ys : List (El p)} (hl : ys.length = p.n) (h : RelOk p ys) (hf : ordOf p (canEls (Gen (fun a : El p => a ∈ ys))) = ordL p (List.range p.n)) (x : El p) : ∃ m, 1 ≤ m ∧ itF (fun x : El p => imgE ys x.v) m x = x := by
  obtain ⟨num, hn⟩ : ∃ num : El p → Nat, ∀ x, num x < ordN p ∧ x = allE p (num x) := ⟨fun x => Classical.choose (allE_surj x), fun x => Classical.choose_spec (allE_surj x)⟩
  exact period (num := num) (fun x => (hn x).1) (fun x y e => by rw [(hn x).2, (hn y).2, e]) (aut_onto hl h hf) x
theorem aut_inj {ys : List (El p)} (hl : ys.length = p.n) (h : RelOk p ys) (hf : ordOf p (canEls (Gen (fun a : El p => a ∈ ys))) = ordL p (List.range p.n)) {x y : El p} (e : imgE ys x.v = imgE ys y.v) : x = y :=
  period_inj (f := fun x : El p => imgE ys x.v) (aut_period hl h hf) e
/-- The images that an inverse automorphism has. -/
def InV (p : Pr) (xss r : List (List Int)) (e : Int) : Prop := (∃ (_ : ConAll p) (ys zs : List (El p)), xss = vecs ys ∧ zs.length = p.n ∧ (∀ i, i < p.n → imgE ys (zs.getD i 1).v = gOf p 0 i) ∧ r = vecs zs) ∧ e = 0
end
theorem InV.uniq {p : Pr} {xss : List (List Int)} (hI : IsoP p p xss) (a b : List (List Int)) (c d : Int) (h : InV p xss a c) (k : InV p xss b d) : a = b ∧ c = d := by
  obtain ⟨⟨hc, ys, zs, h1, h2, h3, rfl⟩, rfl⟩ := h
  obtain ⟨⟨kc, ys', zs', k1, k2, k3, rfl⟩, rfl⟩ := k
  obtain rfl := vecs_inj (h1.symm.trans k1)
  obtain ⟨_, hlen, _, hq, _, hC⟩ := hI
  rw [h1] at hC hlen
  obtain ⟨hR, hf⟩ := isoC_iff.1 hC
  have hl : ys.length = p.n := by simpa using hlen
  have e : zs = zs' := by
    refine List.ext_getElem (by omega) fun i hi hi' => ?_
    have e1 := h3 i (by omega)
    have e2 := k3 i (by omega)
    have e3 := aut_inj hl hR hf (e1.trans e2.symm)
    simpa [hi, hi'] using e3
  exact ⟨by rw [e], rfl⟩
end Go.Proofs.Ytflniifngfiekaa

/-
  Classes of conjugate elements; the order of lists of numbers is the order of the elements' numbers; a sorted list of distinct elements is determined by its members.
  Conditions: the tails at all levels are groups.
-/
namespace Go.Proofs.Ytflniifngfiekaa
open Go Go.Pc
/-! ### comparison of lists -/
section
variable {p : Pr} [hc : ConAll p]
/-! ### numbers of elements -/
/-! ### sorted lists -/
/-! ### classes -/
def Cnj (x y : El p) : Prop := ∃ z, y = Grp.cj x z
theorem Cnj.refl (x : El p) : Cnj x x := ⟨1, (Grp.cj_by_one x).symm⟩
theorem Cnj.symm {x y : El p} (h : Cnj x y) : Cnj y x := by
  obtain ⟨z, rfl⟩ := h
  exact ⟨z⁻¹, by rw [Grp.cj_cj, Grp.mul_inv, Grp.cj_by_one]⟩
theorem Cnj.trans {x y z : El p} (h : Cnj x y) (k : Cnj y z) : Cnj x z := by
  obtain ⟨a, rfl⟩ := h
  obtain ⟨b, rfl⟩ := k
  exact ⟨a * b, Grp.cj_cj _ _ _⟩
end
end Go.Proofs.Ytflniifngfiekaa

/-
  Walk: the program's number of an element (numberOf).
  Conditions: stated at the theorem.
-/
namespace Go.Proofs.Ytflniifngfiekaa
open Go Go.Pc
end Go.Proofs.Ytflniifngfiekaa

/-
  Centralizers, normalizers, conjugators of subgroups: what the answers are.
  Conditions: none.
-/
namespace Go.Proofs.Ytflniifngfiekaa
open Go Go.Pc
section
variable {p : Pr} [hc : ConAll p]
/-- The element commutes with all elements of a list. -/
def CenP (ys : List (El p)) (a : El p) : Prop := ∀ i (h : i < ys.length), a * ys[i] = ys[i] * a
/-- The element carries the elements of a list into a subgroup. -/
def CarP (ys zs : List (El p)) (a : El p) : Prop := ∀ i (h : i < ys.length), Gen (fun b : El p => b ∈ zs) (Grp.cj ys[i] a)
end
def CeV (p : Pr) (xss r : List (List Int)) (e : Int) : Prop := (∃ (_ : ConAll p) (ys : List (El p)), xss = vecs ys ∧ r = canon (Gen (fun a : El p => CenP ys a))) ∧ e = 0
theorem CeV.uniq {p : Pr} {xss : List (List Int)} (a b : List (List Int)) (c d : Int) (h : CeV p xss a c) (k : CeV p xss b d) : a = b ∧ c = d := by
  obtain ⟨⟨hc, ys, h2, h4⟩, h5⟩ := h
  obtain ⟨⟨hc', ys', k2, k4⟩, k5⟩ := k
  obtain rfl := vecs_inj (h2.symm.trans k2)
  exact ⟨by rw [h4, k4], by rw [h5, k5]⟩
def NzV (p : Pr) (xss r : List (List Int)) (e : Int) : Prop := (∃ (_ : ConAll p) (ys : List (El p)), xss = vecs ys ∧ r = canon (Gen (fun a : El p => CarP ys ys a))) ∧ e = 0
theorem NzV.uniq {p : Pr} {xss : List (List Int)} (a b : List (List Int)) (c d : Int) (h : NzV p xss a c) (k : NzV p xss b d) : a = b ∧ c = d := by
  obtain ⟨⟨hc, ys, h2, h4⟩, h5⟩ := h
  obtain ⟨⟨hc', ys', k2, k4⟩, k5⟩ := k
  obtain rfl := vecs_inj (h2.symm.trans k2)
  exact ⟨by rw [h4, k4], by rw [h5, k5]⟩
/-- The least element that carries a subgroup to another one. -/
def ScV (p : Pr) (xss yss : List (List Int)) (r : List Int) (e : Int) : Prop := ∃ (_ : ConAll p) (ys zs : List (El p)), xss = vecs ys ∧ yss = vecs zs ∧
  (((ordOf p ys ≠ ordOf p zs ∨ ∀ j, j < ordN p → ¬ CarP ys zs (allE p j)) ∧ r = [] ∧ e = 4) ∨ (ordOf p ys = ordOf p zs ∧ ∃ k, k < ordN p ∧ CarP ys zs (allE p k) ∧ (∀ j, j < k → ¬ CarP ys zs (allE p j)) ∧ r = (allE p k).v ∧ e = 0))
theorem ScV.uniq {p : Pr} {xss yss : List (List Int)} (a b : List Int) (c d : Int) (h : ScV p xss yss a c) (k : ScV p xss yss b d) : a = b ∧ c = d := by
  obtain ⟨hc, ys, zs, h2, h3, h4⟩ := h
  obtain ⟨hc', ys', zs', k2, k3, k4⟩ := k
  obtain rfl := vecs_inj (h2.symm.trans k2)
  obtain rfl := vecs_inj (h3.symm.trans k3)
  rcases h4 with ⟨h5, rfl, rfl⟩ | ⟨h5, i, hi, h6, h7, rfl, rfl⟩ <;> rcases k4 with ⟨k5, rfl, rfl⟩ | ⟨k5, j, hj, k6, k7, rfl, rfl⟩
  · exact ⟨rfl, rfl⟩
  · rcases h5 with h5 | h5
    · exact absurd k5 h5
    · exact absurd k6 (h5 j hj)
  · rcases k5 with k5 | k5
    · exact absurd h5 k5
    · exact absurd h6 (k5 i hi)
  · rcases Nat.lt_trichotomy i j with e | e | e
    · exact absurd h6 (k7 i e)
    · subst e; exact ⟨rfl, rfl⟩
    · exact absurd k6 (h7 j e)
/-- The index of the centre. -/
def CiV (p : Pr) (r e : Int) : Prop := (∃ (_ : ConAll p), r = idxOf p (canEls (Gen (fun a : El p => AbP [] a)))) ∧ e = 0
theorem CiV.uniq {p : Pr} (a b : Int) (c d : Int) (h : CiV p a c) (k : CiV p b d) : a = b ∧ c = d := by
  obtain ⟨⟨_, h1⟩, h2⟩ := h
  obtain ⟨⟨_, k1⟩, k2⟩ := k
  exact ⟨by rw [h1, k1], by rw [h2, k2]⟩
end Go.Proofs.Ytflniifngfiekaa

/-
  Walks: the reference's order, index, transversal elements; Transversal.
  Conditions: stated at each theorem.
-/
namespace Go.Proofs.Ytflniifngfiekaa
open Go Go.Pc
end Go.Proofs.Ytflniifngfiekaa

/-
  Walks: the reference's element with a number, the elements above a subgroup; Center.
  Conditions: stated at each theorem.
-/
namespace Go.Proofs.Ytflniifngfiekaa
open Go Go.Pc
end Go.Proofs.Ytflniifngfiekaa

/-
  Walks: the reference's ElementCentralizer, SubgroupCentralizer, SubgroupNormalizer, SubgroupConjugator, CountInner.
  Conditions: stated at each theorem.
-/
namespace Go.Proofs.Ytflniifngfiekaa
open Go Go.Pc
end Go.Proofs.Ytflniifngfiekaa

/-
  Walks: the reference's ConsistencyFault, IsConsistent, PresentationOrder, Conjugate, Power.
  Conditions: stated at each theorem.
-/
namespace Go.Proofs.Ytflniifngfiekaa
open Go Go.Pc
/-- What ConsistencyFault answers. -/
def FaO (p : Pr) (u : Value) (e : Int) : Prop := (Valid p ∧ FaultIs p u ∧ e = 0) ∨ (¬ Valid p ∧ u = faultV 0 0 0 0 ∧ e = 1)
theorem FaO.uniq {p : Pr} {u u' : Value} {e e' : Int} (h : FaO p u e) (h' : FaO p u' e') : u = u' ∧ e = e' := by
  rcases h with ⟨hv, h, rfl⟩ | ⟨hv, rfl, rfl⟩ <;> rcases h' with ⟨kv, k, rfl⟩ | ⟨kv, rfl, rfl⟩
  · exact ⟨h.uniq k, rfl⟩
  · exact absurd hv kv
  · exact absurd kv hv
  · exact ⟨rfl, rfl⟩
theorem FaultIs.form {p : Pr} {u : Value} (h : FaultIs p u) : ∃ k l f s : Int, u = faultV k l f s := by
  rcases h with ⟨h, _⟩ | ⟨k, f, s, i, _, _, _, h, _⟩
  · exact ⟨_, _, _, _, h⟩
  · exact ⟨_, _, _, _, h⟩
set_option maxHeartbeats 1000000 in
theorem spec_IsConsistent_ok {p : Pr} {w : World} {vp : Value} {lo hi : Nat} [hp : Pres lo hi w vp p] (hl : p.ord.length ≤ 2000000) :
    Calls Try.prog 9 #[vp] w (Ret fun v w' => ∃ b, v = .bool b ∧ (b = true ↔ IsGrp p) ∧ Ext w w') := by
  obtain ⟨vo, vpw, vc, ps, cs, css, rfl, h1, h2, h3⟩ := hp.ex
  refine enter (args := [.agg #[vo, vpw, vc]]) (l := [.tmp 2]) Try.func9 rfl rfl Try.ntmps9 (by simp) ?_
  refine go ?_
  refine st_box3 (by ((try simp only [ev_tmp, ev_const, ev_func, get_put, get_args, get_putL, get_putL_nil, Nat.reduceEqDiff, reduceIte, List.getD_cons_zero, List.getD_cons_succ, List.getD_nil]); first | done | with_reducible rfl)) (by first | exact True.intro | exact ⟨_, rfl, by ((try simp only [ev_tmp, ev_const, ev_func, get_put, get_args, get_putL, get_putL_nil, Nat.reduceEqDiff, reduceIte, List.getD_cons_zero, List.getD_cons_succ, List.getD_nil, Bool.not_true, Bool.not_false]); first | done | with_reducible rfl)⟩) fun w1 b he1 hb1 hs1 hc0 hc1 hc2 => ?_
  refine go ?_
  refine rc (l08Group_ok (p := p) hl) (next := fun v5 w5 h5 => ?_)
  obtain ⟨b5, rfl, hb5, he5⟩ := h5
  refine go ?_
  exact ret1 ⟨_, rfl, hb5, he1.trans he5⟩
/-- Both are elements of a group. -/
def GrpE2 (p : Pr) (xs ys : List Int) : Prop := IsGrp p ∧ InR p xs ∧ InR p ys
/-- What an operation on two elements answers. -/
def BinV (f : (p : Pr) → [ConAll p] → El p → El p → El p) (p : Pr) (xs ys : List Int) (r : List Int) (e : Int) : Prop := ∃ (_ : ConAll p) (x y : El p), xs = x.v ∧ ys = y.v ∧ r = (f p x y).v ∧ e = 0
theorem BinV.uniq {f : (p : Pr) → [ConAll p] → El p → El p → El p} {p : Pr} {xs ys : List Int} (a b : List Int) (c d : Int) (h : BinV f p xs ys a c) (k : BinV f p xs ys b d) : a = b ∧ c = d := by
  obtain ⟨_, x, y, h0, h1, rfl, rfl⟩ := h
  obtain ⟨_, x', y', k0, k1, rfl, rfl⟩ := k
  obtain rfl : x = x' := T.ext (h0.symm.trans k0)
  obtain rfl : y = y' := T.ext (h1.symm.trans k1)
  exact ⟨rfl, rfl⟩
theorem inR_el {p : Pr} {xs : List Int} (h : InR p xs) : ∃ x : El p, xs = x.v := ⟨⟨xs, h, fun i hi => absurd hi (Nat.not_lt_zero i)⟩, rfl⟩
noncomputable def muF (p : Pr) [ConAll p] (x y : El p) : El p := x * y
/-- What a power answers. -/
def PwV (p : Pr) (xs : List Int) (k : Int) (r : List Int) (e : Int) : Prop := ∃ (_ : ConAll p) (x : El p), xs = x.v ∧ ((¬ (-1000000 ≤ k ∧ k ≤ 1000000) ∧ r = [] ∧ e = 2) ∨ ((-1000000 ≤ k ∧ k ≤ 1000000) ∧ r = (Grp.pwz x k).v ∧ e = 0))
theorem PwV.uniq {p : Pr} {xs : List Int} {k : Int} (a b : List Int) (c d : Int) (h : PwV p xs k a c) (g : PwV p xs k b d) : a = b ∧ c = d := by
  obtain ⟨_, x, h0, h⟩ := h
  obtain ⟨_, y, k0, g⟩ := g
  obtain rfl : x = y := T.ext (h0.symm.trans k0)
  rcases h with ⟨h1, rfl, rfl⟩ | ⟨h1, rfl, rfl⟩ <;> rcases g with ⟨k1, rfl, rfl⟩ | ⟨k1, rfl, rfl⟩
  · exact ⟨rfl, rfl⟩
  · exact absurd k1 h1
  · exact absurd h1 k1
  · exact ⟨rfl, rfl⟩
end Go.Proofs.Ytflniifngfiekaa

/-
  Walks: the program's ConsistencyFault, ConsistentFrom, Multiply, Conjugate, Commutator, Power, ElementOrder, ElementNumber, ElementAt.
  Conditions: stated at each theorem.
-/
namespace Go.Proofs.Ytflniifngfiekaa
open Go Go.Pc
theorem rows_two1 {w w' : World} {v u t : Value} {xs ys : List Int} {lo hi lo1 hi1 lo2 hi2 : Nat} (hu : Ints lo hi w u xs) (ht : Ints lo1 hi1 w t ys) (x : Ext w w') (hs : Sl lo2 hi2 w' v [u, t]) : Pc.Rows 0 w'.heap.size w' v [u, t] [xs, ys] := by
  refine ⟨hs.wide, rfl, fun i => ?_⟩
  match i with
  | 0 => exact (hu.same (x.same _ _)).wide
  | 1 => exact (ht.same (x.same _ _)).wide
  | i + 2 => exact (Ints.nil_ w').mono (Nat.le_refl 0) (Nat.zero_le _)
theorem Per.pwz {p : Pr} [ConAll p] {x : El p} {K : Nat} (h : Per x K) (k : Int) : Grp.pw x (k % (K : Int)).toNat = Grp.pwz x k := by
  have hK : (0 : Int) < K := by have := h.1; omega
  have h0 := Int.emod_nonneg k (show (K : Int) ≠ 0 by omega)
  by_cases hk : 0 ≤ k
  · obtain ⟨m, rfl⟩ : ∃ m : Nat, k = m := ⟨k.toNat, by omega⟩
    rw [Grp.pwz_nat, ← h.mod m, ← Int.natCast_emod, Int.toNat_natCast]
  · obtain ⟨m, hm⟩ : ∃ m : Nat, k = -(m : Int) := ⟨(-k).toNat, by omega⟩
    subst hm
    rw [Grp.pwz_neg]
    obtain ⟨r, hr⟩ : ∃ r : Nat, (-(m : Int)) % (K : Int) = r := ⟨((-(m : Int)) % (K : Int)).toNat, by omega⟩
    rw [hr, Int.toNat_natCast]
    have hd : K ∣ r + m := by
      have h1 := Int.emod_add_mul_ediv (-(m : Int)) (K : Int)
      rw [hr] at h1
      have h2 : ((r + m : Nat) : Int) = (K : Int) * (-((-(m : Int)) / (K : Int))) := by rw [Int.mul_neg]; push_cast; omega
      exact Int.natCast_dvd_natCast.1 ⟨_, h2⟩
    have h3 : Grp.pw x (r + m) = 1 := (h.mod_zero _).1 (Nat.mod_eq_zero_of_dvd hd)
    rw [Grp.pw_add] at h3
    exact Grp.mul_right_cancel (c := Grp.pw x m) (by rw [h3, Grp.inv_mul])
set_option maxHeartbeats 2000000 in
theorem impl_Multiply_ok {p : Pr} {w : World} {vp vx vy : Value} {xs ys : List Int} {lo hi lo1 hi1 lo2 hi2 : Nat} [hp : Pres lo hi w vp p] [hx : Ints lo1 hi1 w vx xs] [hy : Ints lo2 hi2 w vy ys] (hl : p.ord.length ≤ 2000000) :
    Calls Try.prog 25 #[vp, vx, vy] w (Ret fun v w' => ∃ (u : Value) (r : List Int) (e : Int), v = .tuple #[u, .int .i64 e] ∧ Ans (GrpE2 p xs ys) (BinV muF p xs ys) [] r e ∧ Ext w w' ∧ Fr w.heap.size w' u r) := by
  obtain ⟨vo, vpw, vc, ps, cs, css, rfl, h1, h2, h3⟩ := hp.ex
  refine enter (args := [.agg #[vo, vpw, vc], vx, vy]) (l := [.tmp 6, .tmp 7]) Try.func25 rfl rfl Try.ntmps25 (by simp) ?_
  refine go ?_
  refine st_box3 (by ((try simp only [ev_tmp, ev_const, ev_func, get_put, get_args, get_putL, get_putL_nil, Nat.reduceEqDiff, reduceIte, List.getD_cons_zero, List.getD_cons_succ, List.getD_nil]); first | done | with_reducible rfl)) (by first | exact True.intro | exact ⟨_, rfl, by ((try simp only [ev_tmp, ev_const, ev_func, get_put, get_args, get_putL, get_putL_nil, Nat.reduceEqDiff, reduceIte, List.getD_cons_zero, List.getD_cons_succ, List.getD_nil, Bool.not_true, Bool.not_false]); first | done | with_reducible rfl)⟩) fun w1 b he1 hb1 hs1 hc0 hc1 hc2 => ?_
  have hpp := hp.boxed he1 hc0 hc1 hc2
  refine go ?_
  refine st_slice2 (u := vx) (v := vy) (by ((try simp only [ev_tmp, ev_const, ev_func, get_put, get_args, get_putL, get_putL_nil, Nat.reduceEqDiff, reduceIte, List.getD_cons_zero, List.getD_cons_succ, List.getD_nil]); first | done | with_reducible rfl)) (by ((try simp only [ev_tmp, ev_const, ev_func, get_put, get_args, get_putL, get_putL_nil, Nat.reduceEqDiff, reduceIte, List.getD_cons_zero, List.getD_cons_succ, List.getD_nil]); first | done | with_reducible rfl)) hx.sl.cells hy.sl.cells rfl (by first | exact True.intro | exact ⟨_, rfl, by ((try simp only [ev_tmp, ev_const, ev_func, get_put, get_args, get_putL, get_putL_nil, Nat.reduceEqDiff, reduceIte, List.getD_cons_zero, List.getD_cons_succ, List.getD_nil, Bool.not_true, Bool.not_false]); first | done | with_reducible rfl)⟩) fun w2 v2 he2 hs2 ho2 => ?_
  have hE2 := he1.trans he2
  have hR2 := rows_two1 hx hy hE2 ho2
  refine go ?_
  refine rc (areElements_ok (p := p) (xss := [xs, ys]) hl (by simp)) (next := fun v5 w5 h5 => ?_)
  obtain ⟨b5, rfl, hb5, he5⟩ := h5
  have hb5' : b5 = true ↔ GrpE2 p xs ys := hb5.trans ⟨fun h => ⟨h.1, h.2 0 (by simp), h.2 1 (by simp)⟩, fun h => ⟨h.1, fun i hi => by
    match i, hi with
    | 0, _ => exact h.2.1
    | 1, _ => exact h.2.2
    | i + 2, hi => simp at hi; omega⟩⟩
  have hE5 := hE2.trans he5
  refine go ?_
  refine c_b (fun e5 => ?_) (fun e5 => ?_)
  · refine go ?_
    refine ret2 ⟨_, [], _, rfl, .inr ⟨fun h => ?_, rfl, rfl⟩, hE5, Fr.nilR _ _⟩
    rw [hb5'.2 h] at e5; cases e5
  obtain ⟨hG, hx5, hy5⟩ := hb5'.1 (by simpa using e5)
  haveI : ConAll p := ⟨hG.con⟩
  obtain ⟨x, rfl⟩ := inR_el hx5
  obtain ⟨y, rfl⟩ := inR_el hy5
  refine go ?_
  refine rc (multiply_ok (p := p) (x := x) (y := y) (Nat.zero_le _) rfl rfl) (next := fun v8 w8 h8 => ?_)
  obtain ⟨he8, hf8⟩ := h8
  refine go ?_
  exact ret2 ⟨_, _, 0, rfl, .inl ⟨⟨hG, hx5, hy5⟩, ⟨this, x, y, rfl, rfl, rfl, rfl⟩⟩, hE5.trans he8, hf8.mono hE5.size⟩
end Go.Proofs.Ytflniifngfiekaa

/-
  Walks: the statements' own big, likeInts, mul9, size9.
  Conditions: stated at each theorem.
-/
namespace Go.Proofs.Ytflniifngfiekaa
open Go Go.Pc
theorem big_ok {w : World} {v : Value} {us : List Value} {lo hi : Nat} (hs : Sl lo hi w v us) :
    Calls Try.prog 4 #[v] w (Ret fun v' w' => v' = .bool (decide ((us.length : Int) > 4096)) ∧ Ext w w') := by
  have hl := hs.toLen
  refine enter (args := [v]) (l := [.tmp 2]) Try.func4 rfl rfl Try.ntmps4 (by simp) ?_
  refine go ?_
  exact ret1 ⟨rfl, Ext.refl _⟩
set_option maxHeartbeats 1000000 in
/-- The same list twice. -/
theorem likeInts_ok {w : World} {va vb : Value} {xs : List Int} {lo hi lo' hi' : Nat} [hx : Ints lo hi w va xs] [hy : Ints lo' hi' w vb xs] (hl : xs.length ≤ 2000000) :
    Calls Try.prog 8 #[va, vb] w (Ret fun v w' => v = .bool true ∧ Ext w w') := by
  refine enter (args := [va, vb]) (l := [.tmp 4]) Try.func8 rfl rfl Try.ntmps8 (by simp) ?_
  refine go ?_
  refine c_if (fun h1 => ?_) (fun _ => ?_)
  · exact absurd rfl h1
  refine go ?_
  refine r_for xs.length (fun k ρ w' => Has ρ [(0, va), (1, vb), (5, .int .i64 k)] ∧ Ext w w') ?_ ?_
  · refine ⟨?_, Ext.refl _⟩
    exact hasP
  rintro k ρ w2 hk ⟨hH, he2⟩
  refine rwp_has hH fun ρ0 => ?_
  refine go ?_
  refine c_if (fun h4 => ?_) (fun h4 => ?_)
  · have hkl : k < xs.length := by omega
    refine go ?_
    refine d_region fun w3 he3 hz3 => ?_
    refine dgo ?_
    refine d_end (h := ?_)
    refine go ?_
    refine c_if (fun h5 => ?_) (fun h5 => ?_)
    · exact absurd rfl h5
    · refine go ?_
      refine forQ_normal (by omega) ⟨?_, he2.trans he3⟩
      exact hasP
  · refine go ?_
    exact ret1 ⟨rfl, he2⟩
set_option maxHeartbeats 1000000 in
theorem mul9_ok {p : Pr} (hG : IsGrp p) [hc : ConAll p] {x y : El p} {w : World} {vp vx vy : Value} {xs ys : List Int} {lo hi lo1 hi1 lo2 hi2 : Nat} [hp : Pres lo hi w vp p] [hx : Ints lo1 hi1 w vx xs] [hy : Ints lo2 hi2 w vy ys] (hxe : xs = x.v) (hye : ys = y.v) :
    Calls Try.prog 10 #[vp, vx, vy] w (Ret fun v w' => Ext w w' ∧ Fr w.heap.size w' v (x * y).v) := by
  subst hxe hye
  have hn6 := hG.valid.n6
  have hol : p.ord.length = p.n := rfl
  obtain ⟨vo, vpw, vc, ps, cs, css, rfl, h1, h2, h3⟩ := hp.ex
  refine enter (args := [.agg #[vo, vpw, vc], vx, vy]) (l := [.tmp 6]) Try.func10 rfl rfl Try.ntmps10 (by simp) ?_
  refine go ?_
  refine st_box3 (by ((try simp only [ev_tmp, ev_const, ev_func, get_put, get_args, get_putL, get_putL_nil, Nat.reduceEqDiff, reduceIte, List.getD_cons_zero, List.getD_cons_succ, List.getD_nil]); first | done | with_reducible rfl)) (by first | exact True.intro | exact ⟨_, rfl, by ((try simp only [ev_tmp, ev_const, ev_func, get_put, get_args, get_putL, get_putL_nil, Nat.reduceEqDiff, reduceIte, List.getD_cons_zero, List.getD_cons_succ, List.getD_nil, Bool.not_true, Bool.not_false]); first | done | with_reducible rfl)⟩) fun w1 b he1 hb1 hs1 hc0 hc1 hc2 => ?_
  refine go ?_
  refine rc (impl_Multiply_ok (p := p) (xs := x.v) (ys := y.v) (by omega)) (next := fun v2 w2 h2 => ?_)
  obtain ⟨u, r, e, rfl, hA, he2, hf2⟩ := h2
  have hr : r = (x * y).v := by
    rcases hA with ⟨_, _, x', y', h1, h2, h3, _⟩ | ⟨hn, _⟩
    · obtain rfl : x = x' := T.ext h1
      obtain rfl : y = y' := T.ext h2
      exact h3
    · exact absurd ⟨hG, x.inr, y.inr⟩ hn
  subst hr
  refine go ?_
  exact ret1 ⟨he1.trans he2, hf2.mono he1.size⟩
end Go.Proofs.Ytflniifngfiekaa

/-
  Walks: the program's words (slices.Reverse, invertWord, normalWord).
  Conditions: stated at each theorem.
-/
namespace Go.Proofs.Ytflniifngfiekaa
open Go Go.Pc
theorem app_repl' (w : List Int) (m : Nat) (a : Int) : (w ++ List.replicate m a) ++ [a] = w ++ List.replicate (m + 1) a := by
  rw [List.append_assoc]
  congr 1
  exact (List.replicate_succ' (n := m) (a := a)).symm
set_option maxHeartbeats 2000000 in
theorem normalWord_ok {e : List Int} {w : World} {vx : Value} {lo hi : Nat} [hx : Ints lo hi w vx e] (hl : e.length ≤ 100) (hr : ∀ i, i < e.length → 0 ≤ e.getD i 0 ∧ e.getD i 0 ≤ 100) :
    Calls Try.prog 19 #[vx] w (Ret fun v w' => Ext w w' ∧ GrowI 2 w.heap.size w' v (wordV e)) := by
  have hwl : ∀ k, (wordV (e.take k)).length ≤ 10000 := fun k => by
    have h1 := wordA_len (b := 100) (e.take k) 0 fun x hx => by
      obtain ⟨i, hi, rfl⟩ := List.getElem_of_mem (List.mem_of_mem_take hx)
      have := (hr i hi).2
      simpa [hi] using this
    have h2 : (e.take k).length * 100 ≤ 100 * 100 := Nat.mul_le_mul_right _ (by rw [List.length_take]; omega)
    exact Nat.le_trans h1 h2
  refine enter (args := [vx]) (l := [.tmp 2]) Try.func19 rfl rfl Try.ntmps19 (by simp) ?_
  refine go ?_
  refine r_for e.length (fun k ρ w' => ∃ vl, Has ρ [(3, vl), (6, vx), (7, .int .i64 e.length), (8, .int .i64 k)] ∧ Ext w w' ∧ GrowI 2 w.heap.size w' vl (wordV (e.take k))) ?_ ?_
  · refine ⟨nilv, ?_, Ext.refl _, GrowI.nil _ _ _⟩
    exact hasP
  rintro k ρ w2 hk ⟨vl, hH, he2, hG2⟩
  refine rwp_has hH fun ρ0 => ?_
  refine go ?_
  refine c_if (fun h4 => ?_) (fun h4 => ?_)
  · have hkn : k < e.length := by omega
    have hrk := hr k hkn
    have hst := wordV_take hkn
    have hwk := hwl k
    refine go ?_
    refine r_for (e.getD k 0).toNat (fun j ρ w' => ∃ vl, Has ρ [(3, vl), (4, .int .i64 k), (6, vx), (7, .int .i64 e.length), (8, .int .i64 k), (13, .int .i64 (e.getD k 0)), (14, .int .i64 j)] ∧ Ext w w' ∧ GrowI 2 w.heap.size w' vl (wordV (e.take k) ++ List.replicate j ((k : Int) + 1))) ?_ ?_
    · refine ⟨vl, ?_, he2, by simpa using hG2⟩
      exact hasP
    clear hG2 he2
    rintro j ρ w3 hj ⟨vl, hH3, he3, hG3⟩
    refine rwp_has hH3 fun ρ1 => ?_
    have hz3 := he3.size
    refine go ?_
    refine c_if (fun h5 => ?_) (fun h5 => ?_)
    · refine go ?_
      refine st_growi hG3 hz3 (by simp only [List.length_append, List.length_replicate]; omega) (next := fun v4 v5 w5 hG5 hx5 hz5 hgs5 => ?_)
      refine go ?_
      refine forQ_normal (by omega) ⟨v5, ?_, hx5 w he3 (Nat.le_refl _), ?_⟩
      · exact hasP
      · rw [← app_repl']; exact hG5
    · obtain rfl : j = (e.getD k 0).toNat := by omega
      rw [← hst] at hG3
      refine go ?_
      refine forQ_normal (by omega) ⟨vl, ?_, he3, hG3⟩
      exact hasP
  · obtain rfl : k = e.length := by omega
    rw [List.take_length] at hG2
    refine go ?_
    exact ret1 ⟨he2, hG2⟩
end Go.Proofs.Ytflniifngfiekaa
