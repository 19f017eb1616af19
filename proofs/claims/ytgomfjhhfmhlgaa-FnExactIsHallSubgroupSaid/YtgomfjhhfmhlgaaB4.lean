/-
  Texts of one proof, put together by program: I12b, I12c, I12d, Seq2, W12d, Ans, Ans2, Clo, W13, W01d, W13b, W13c, W16, Ans3, Ans4, Dig, Enum, Ans5, Ser, Ser2, W14, W15, W16b, W17, W18, W20, W23, Grow2, Cat, W19.
  Conditions: those told at each part.
-/
import Derived.Test.YtgomfjhhfmhlgaaB3
import Derived.Lib.AppendZeros
set_option linter.unusedVariables false
set_option linter.unusedSimpArgs false
set_option linter.unusedSectionVars false
set_option linter.constructorNameAsVariable false
set_option linter.unnecessarySimpa false
set_option linter.deprecated false
/-
  Walk: the program's addition of elements to a sequence (sequence.add).
  Conditions: the tails at all levels are groups; the sequence's table has no element waiting.
-/
namespace Go.Proofs.Ytgomfjhhfmhlgaa
open Go Go.Pc
/-- The table and the queue, side by side; one element more waits. -/
theorem tq_push {p : Pr} {e base s b0 : Nat} {av : Nat → Prop} {w w' : World} {vt vw vw' u : Value} {usT usW : List Value} {t : Tab p} {zs : List (El p)} {x : El p}
    (hT : Lst e base (fun g => av g ∨ vw.ownBlock = some g) w vt usT (tabL t)) (hW : QLst e s (fun g => g = b0) w vw usW (vecs zs))
    (hu : IntsAp (fun g => g = b0 ∨ vw.ownBlock = some g) w u x.v) (ho : OwnQ e s w' vw' (usW ++ [u])) (hg : w.grownBy w' vw.ownBlock) (hv : vw'.ownBlock = vw.ownBlock ∨ vw'.ownBlock = some w.heap.size) :
    Lst e base (fun g => av g ∨ vw'.ownBlock = some g) w' vt usT (tabL t) ∧ QLst e s (fun g => g = b0) w' vw' (usW ++ [u]) (vecs (zs ++ [x])) := by
  have hW' := hW.push hu ho hg hv
  refine ⟨hT.beside hg (fun g e => .inr e) fun g hg' => ?_, by unfold vecs; rw [List.map_append]; exact hW'⟩
  rcases hg' with hg' | hg'
  · exact .inl (.inl hg')
  · rcases hv with e | e
    · rw [e] at hg'; exact .inl (.inr hg')
    · have := (hW'.lt hg').2
      rw [e] at hg'; injection hg' with hg'
      exact .inr ⟨hg'.symm, by omega⟩
theorem b_push {A : Nat → Prop} {w w' : World} {v v' u : Value} {xs : List Int} (h : IntsAp (fun g => A g ∨ v.ownBlock = some g) w u xs) (hg : w.grownBy w' v.ownBlock) (hv : v'.ownBlock = v.ownBlock ∨ v'.ownBlock = some w.heap.size) : IntsAp (fun g => A g ∨ v'.ownBlock = some g) w' u xs :=
  h.beside hg (fun g e => .inr e) fun g hg' => by
    rcases hg' with hg' | hg'
    · exact .inl (.inl hg')
    · rcases hv with e | e
      · rw [e] at hg'; exact .inl (.inr hg')
      · rw [e] at hg'; injection hg' with hg'; exact .inr hg'.symm
/-- A sequence in memory: its struct and its table, of which the block b0 is written. -/
structure SeqAt {p : Pr} (bs b0 base : Nat) (av : Nat → Prop) (w : World) (vp vb : Value) (t : Tab p) : Prop where
  c0 : Cell w bs 0 vp
  c1 : Cell w bs 1 vb
  ne : bs ≠ b0
  own : vb.ownBlock = some b0
  lst : ∃ us, Lst 22 base av w vb us (tabL t) ∧ ∀ d, d < p.n → t d = none → us.getD d nilv = nilv
set_option maxHeartbeats 8000000 in
theorem add_ok {p : Pr} [hcon : ConAll p] {S : El p → Prop} {t0 : Tab p} {av : Nat → Prop} {base bs b0 : Nat} {w : World} {vp vb vl : Value} {us : List Value} {ys : List (El p)} {lo hi lo1 hi1 : Nat} [hp : PresP lo hi w vp p] (hhi : hi ≤ w.heap.size) [hap : Apart lo hi b0]
    (hq : SeqAt bs b0 base av w vp vb t0) (hw0 : Wk S t0 (fun _ => False)) [hsl : Sl lo1 hi1 w vl us] (hr : RowsAp (fun g => g = b0) w us (vecs ys)) (hn : ys.length ≤ 100000) :
    Calls Try.prog 143 #[.pointer (some ⟨bs, 0, none⟩), vl] w (Ret fun v w' => ∃ (bg : Bool) (t : Tab p), v = .bool bg ∧ Chg b0 w w' ∧ SeqAt bs b0 base av w' vp vb t ∧ Wk (fun a => S a ∨ a ∈ ys) t (fun _ => False) ∧ (bg = true ↔ ∃ a, a ∈ ys ∧ ¬ Gen S a)) := by
  have hv := hcon.valid
  have hn6 := hv.n6
  have hol : p.ord.length = p.n := rfl
  obtain ⟨c0, c1, hbsn, hvb, usT0, hT0, hnil0⟩ := hq
  have hb0l := (hT0.lt hvb).2
  have hbsl := c0.lt
  have hapb : Apart bs (bs + 1) b0 := ⟨by omega⟩
  obtain ⟨g, vo, vpw, vc, ps, cs, css, rfl, hg1, hg2, hc0, hc1, hc2, h1, h2, h3⟩ := hp.ex
  have hag : Apart g (g + 1) b0 := ⟨by have := hap.out; omega⟩
  have hul : us.length = ys.length := by rw [hr.len]; simp
  refine enter (args := [.pointer (some ⟨bs, 0, none⟩), vl]) (l := [.tmp 4]) Try.func143 rfl rfl Try.ntmps143 (by simp) ?_
  refine go ?_
  refine rc (cloneR_ok (us := us) ?_ ?_) (next := fun v1 w1 h4 => ?_)
  · intro u hu
    obtain ⟨i, hi, rfl⟩ := List.getElem_of_mem hu
    have := (hr.at_ i).ints.sl.one
    rwa [show us.getD i nilv = us[i] by simp [hi]] at this
  · omega
  obtain ⟨he1, hO1⟩ := h4
  have hz1 := he1.size
  have hQ1 : QLst 22 w.heap.size (fun g => g = b0) w1 v1 us (vecs ys) := by
    refine ⟨hO1.toQ, (hr.weak fun g hg => ?_).ext he1, fun g hg e => ?_, fun g e => by omega⟩
    · rcases hg with hg | hg
      · exact .inl hg
      · exact .inr (hO1.lt g hg).1
    · have := (hO1.lt g hg).1; omega
  have hT1 : Lst 22 base (fun g => av g ∨ v1.ownBlock = some g) w1 vb usT0 (tabL t0) := by
    refine ⟨(hT0.ext he1).own, ((hT0.rows.weak (av' := fun g => (av g ∨ v1.ownBlock = some g) ∨ vb.ownBlock = some g) fun g hg => ?_).ext he1), fun g hg h' => ?_, fun g hg => ?_⟩
    · rcases hg with (hg | hg) | hg
      · exact .inl (.inl hg)
      · exact .inr (hO1.lt g hg).1
      · exact .inl (.inr hg)
    · rcases h' with h' | h'
      · exact hT0.free g hg h'
      · have := (hO1.lt g h').1; have := (hT0.lt hg).2; omega
    · rcases hg with hg | hg
      · have := hT0.bd g hg; omega
      · exact (hO1.lt g hg).2
  refine go ?_
  refine r_loop (fun m ρ w' => ∃ (vq : Value) (usT usQ : List Value) (t : Tab p) (zs : List (El p)) (bg : Bool), Has ρ [(0, .pointer (some ⟨bs, 0, none⟩)), (5, .bool bg), (6, vq)] ∧ Chg b0 w w' ∧ Lst 22 base (fun g => av g ∨ vq.ownBlock = some g) w' vb usT (tabL t) ∧
    QLst 22 w.heap.size (fun g => g = b0) w' vq usQ (vecs zs) ∧ (∀ d, d < p.n → t d = none → usT.getD d nilv = nilv) ∧ Wk (fun a => S a ∨ a ∈ ys) t (fun a => a ∈ zs) ∧ (bg = true → ∃ d, t0 d = none ∧ t d ≠ none) ∧ (bg = false → t = t0) ∧ (∀ d, t d = none → t0 d = none) ∧
    m = 8 * empt t + zs.length ∧ m ≤ ys.length + 48) (8 * empt t0 + ys.length) ?_ ?_
  · refine ⟨v1, usT0, us, t0, ys, false, ?_, Chg.ofExt he1, hT1, hQ1, hnil0, hw0.more, fun h => (by cases h), fun _ => rfl, fun _ h => h, rfl, ?_⟩
    · exact hasP
    · have := empt_le t0; omega
  clear hQ1 hT1 hO1 he1
  rintro m ρ w4 ⟨vq, usT, usQ, t, zs, bg, hH4, hch4, hT, hQ, hnil, hWk, hbt, hbf, hab, rfl, hm⟩
  refine rwp_has hH4 fun ρ0 => ?_
  have hTr := hT.toRows
  have hQr := hQ.toRows
  have htl := tabL_len t
  have hz4 := hch4.size
  have hcs0 : Cell w4 bs 0 (.pointer (some ⟨g, 0, none⟩)) := inferInstance
  have hcs1 : Cell w4 bs 1 vb := inferInstance
  refine go ?_
  refine c_if (fun h4 => ?_) (fun h4 => ?_)
  · cases zs with
    | nil => simp at h4
    | cons x zs =>
    have hQl := hQ.len
    cases usQ with
    | nil => simp at hQl
    | cons u usQ =>
    have hql : usQ.length = zs.length := by simpa using hQl
    have hzl : (vecs (x :: zs)).length = usQ.length + 1 := by simp [hql]
    have hzl2 : (x :: zs).length = zs.length + 1 := rfl
    have hx4 : IntsAp (fun g => g = b0 ∨ vq.ownBlock = some g) w4 (Pc.rowAt vq (u :: usQ) 0) x.v := hQ.rows.at_ 0
    refine go ?_
    refine rc (sift_ok hWk.ok (x := x) hnil hx4 ?_) (next := fun v5 w5 h5 => ?_)
    · rintro g (rfl | hg)
      · omega
      · exact (hQ.lt hg).2
    obtain ⟨he5, r, hr5, hL⟩ := h5
    have hri := hr5.ints
    have hrl := r.inr.len
    refine go ?_
    rw [hzl]
    have hQ5 : QLst 22 w.heap.size (fun g => g = b0) w5 (cut vq 1 (usQ.length + 1)) usQ (vecs zs) := (hQ.ext he5).tail
    have hT5 : Lst 22 base (fun g => av g ∨ (cut vq 1 (usQ.length + 1)).ownBlock = some g) w5 vb usT (tabL t) := by rw [cut_block]; exact hT.ext he5
    rw [← cut_block vq 1 (usQ.length + 1)] at hr5
    have hqb := cut_block vq 1 (usQ.length + 1)
    generalize cut vq 1 (usQ.length + 1) = vq5 at hQ5 hT5 hr5 hqb
    refine rc (depthOf_ok (xs := r.v) ?_) (next := fun v6 w6 h6 => ?_)
    · omega
    obtain ⟨rfl, he6⟩ := h6
    obtain ⟨d, hd⟩ : ∃ d, lead r.v = d := ⟨_, rfl⟩
    rw [hd] at hL ⊢
    refine go ?_
    have hch6 : Chg b0 w w6 := (hch4.grow he5).grow he6
    refine c_if (fun h5 => ?_) (fun h5 => ?_)
    · have hr1 : r = 1 := by
        have := hL.tl
        rw [show d = p.n by omega] at this
        exact this.end_
      subst hr1
      refine go ?_
      refine loopQ_normal ?_ ⟨vq5, usT, usQ, t, zs, bg, ?_, hch6, hT5.ext he6, hQ5.ext he6, hnil, hWk.drop hL.stp ?_ ?_, hbt, hbf, hab, rfl, ?_⟩
      · omega
      · exact hasP
      · intro a ha
        rcases List.mem_cons.1 ha with ha | ha
        · exact .inl ha
        · exact .inr ha
      · exact fun a ha => List.mem_cons_of_mem _ ha
      · omega
    · have hdn : d < p.n := by have := hL.le; omega
      obtain ⟨htd, hrd⟩ := hL.some hdn
      have hrr := r.inr.rng d hdn
      have hod := hv.opos hdn
      have hpr := hv.prime d hdn
      have hr0 : r.v.getD d 0 ≠ 0 := hrd
      refine go ?_
      refine d_region fun w7 he7 _ => ?_
      refine dgo ?_
      refine dce (inverseMod_ok hpr ?_) (next := fun v8 w8 h8 => ?_)
      · exact ⟨by omega, hrr.2⟩
      obtain ⟨k, rfl, hk1, hk2, hk3, he8⟩ := h8
      refine dgo ?_
      refine d_end (h := ?_)
      have hE58 : Ext w5 w8 := he6.trans (he7.trans he8)
      have hT8 := hT5.ext hE58
      have hQ8 := hQ5.ext hE58
      have hr8 := hr5.ext hE58
      have hri8 := hr8.ints
      have hch8 := hch6.grow (he7.trans he8)
      refine go ?_
      refine st_slice1 (u := v5) (by ((try simp only [ev_tmp, ev_const, ev_func, get_put, get_args, get_putL, get_putL_nil, Nat.reduceEqDiff, reduceIte, List.getD_cons_zero, List.getD_cons_succ, List.getD_nil]); first | done | with_reducible rfl)) ?_ ?_ (by first | exact True.intro | exact ⟨_, rfl, by ((try simp only [ev_tmp, ev_const, ev_func, get_put, get_args, get_putL, get_putL_nil, Nat.reduceEqDiff, reduceIte, List.getD_cons_zero, List.getD_cons_succ, List.getD_nil, Bool.not_true, Bool.not_false]); first | done | with_reducible rfl)⟩) fun w9 v9 he9 hs9 ho9 => ?_
      · exact hri8.sl.cells
      · rfl
      refine go ?_
      have hT9 := hT8.ext he9
      have hQ9 := hQ8.ext he9
      have hr9 := hr8.ext he9
      have hO9 := hQ9.own
      have hz8 := hch8.size
      have hz9 := he9.size
      refine st_appendQ (hv := hO9) (hy := ho9) (by ((try simp only [ev_tmp, ev_const, ev_func, get_put, get_args, get_putL, get_putL_nil, Nat.reduceEqDiff, reduceIte, List.getD_cons_zero, List.getD_cons_succ, List.getD_nil]); first | done | with_reducible rfl)) (by ((try simp only [ev_tmp, ev_const, ev_func, get_put, get_args, get_putL, get_putL_nil, Nat.reduceEqDiff, reduceIte, List.getD_cons_zero, List.getD_cons_succ, List.getD_nil]); first | done | with_reducible rfl)) rfl ?_ ?_ ?_ ?_ (by first | exact True.intro | exact ⟨_, rfl, by ((try simp only [ev_tmp, ev_const, ev_func, get_put, get_args, get_putL, get_putL_nil, Nat.reduceEqDiff, reduceIte, List.getD_cons_zero, List.getD_cons_succ, List.getD_nil, Bool.not_true, Bool.not_false]); first | done | with_reducible rfl)⟩) fun v10 w10 ho10 hg10 ha10 => ?_
      · exact hri8.sl.one
      · omega
      · simp only [maxLen]; omega
      · omega
      obtain ⟨hT10, hQ10⟩ := tq_push hT9 hQ9 hr9 ho10 hg10 ha10
      have hr10 := b_push hr9 hg10 ha10
      have hch10 : Chg b0 w w10 := (hch8.grow he9).app hg10 (fun k hk => (hQ9.lt hk).1)
      have hri10 := hr10.ints
      have hz10 := hch10.size
      clear hT5 hQ5 hr5 hri hT8 hQ8 hr8 hri8 hch8 hT9 hQ9 hr9 hO9 hch6 ho9 hQr hTr hx4 hcs0 hcs1
      refine go ?_
      refine rc (power_ok (p := p) (x := r) (Nat.zero_le _) rfl ?_) (next := fun v11 w11 h11 => ?_)
      · omega
      obtain ⟨he11, hf11⟩ := h11
      obtain ⟨y, hy⟩ : ∃ y, Grp.pw r k.toNat = y := ⟨_, rfl⟩
      rw [hy] at hf11
      have hT11 := hT10.ext he11
      have hQ11 := hQ10.ext he11
      have hch11 := hch10.grow he11
      have hy11 : IntsAp (fun g => g < w.heap.size ∨ v10.ownBlock = some g) w11 v11 y.v := IntsAp.ofFr hf11 (fun g hg => by
        rcases hg with hg | hg
        · omega
        · exact (hQ10.lt hg).2)
      have hyi := hy11.ints
      have hz11 := he11.size
      clear hT10 hQ10 hch10 hf11 hr10 hri10
      obtain ⟨b', hb', hvb'⟩ := own_some v10 w.heap.size w11.heap.size (by omega) (fun g h => (hQ11.lt h).1)
      have ap1 : Apart lo hi b' := ⟨.inr (by omega)⟩
      have ap2 : Apart bs (bs + 1) b' := ⟨.inr (by omega)⟩
      have ap3 : Apart g (g + 1) b' := ⟨.inr (by omega)⟩
      have hl11 := hQ11.len
      refine go ?_
      refine z_order b' (List.range 20) (h := fun w12 he12 _ => ?_)
      refine zgo ?_
      refine zc (power_ok (p := p) (x := y) (Nat.zero_le _) rfl ?_) (next := fun v13 w13 h13 => ?_)
      · have hoe : p.o d = p.ord.getD d 0 := rfl
        omega
      obtain ⟨he13, hf13⟩ := h13
      have hoe : p.o d = p.ord.getD d 0 := rfl
      rw [← hoe] at hf13
      refine z_slice1 (u := v13) (h := (by ((try simp only [ev_tmp, ev_const, ev_func, get_put, get_args, get_putL, get_putL_nil, Nat.reduceEqDiff, reduceIte, List.getD_cons_zero, List.getD_cons_succ, List.getD_nil]); first | done | with_reducible rfl))) (hu := ?_) (hz := ?_) (next := fun w14 v14 he14 hs14 ho14 => ?_)
      · exact hf13.ints.sl.cells
      · rfl
      have hE14 := (he12.trans he13).trans he14
      have hT14 := hT11.ext hE14
      have hQ14 := hQ11.ext hE14
      have hO14 := hQ14.own
      have hz14 := hE14.size
      have hz12 := he12.size
      have hz13 := he13.size
      have hl14 : (usQ ++ [v5]).length = zs.length + 1 := by simp [hql]
      refine z_appendQ (hv := hO14) (hy := ho14) (hs := (by ((try simp only [ev_tmp, ev_const, ev_func, get_put, get_args, get_putL, get_putL_nil, Nat.reduceEqDiff, reduceIte, List.getD_cons_zero, List.getD_cons_succ, List.getD_nil]); first | done | with_reducible rfl))) (hx := (by ((try simp only [ev_tmp, ev_const, ev_func, get_put, get_args, get_putL, get_putL_nil, Nat.reduceEqDiff, reduceIte, List.getD_cons_zero, List.getD_cons_succ, List.getD_nil]); first | done | with_reducible rfl))) (hz := rfl) (h1 := ?_) (hb := ?_) (hl := ?_) (hbase := ?_) (hvb := hvb') (next := fun v15 w15 ho15 hg15 ha15 => ?_)
      · exact hf13.ints.sl.one
      · omega
      · simp only [maxLen]; omega
      · omega
      have hp14 : IntsAp (fun g => g = b0 ∨ v10.ownBlock = some g) w14 v13 (Grp.pw y (p.o d).toNat).v :=
        (IntsAp.ofFr hf13 (fun g hg => by
          rcases hg with hg | hg
          · omega
          · have := (hQ11.lt hg).2; omega)).ext he14
      obtain ⟨hT15, hQ15⟩ := tq_push hT14 hQ14 hp14 ho15 hg15 ha15
      have hy15 := b_push (hy11.ext hE14) hg15 ha15
      have hch15 : Chg b0 w w15 := (hch11.grow hE14).app hg15 (fun k hk => (hQ14.lt hk).1)
      refine zgo ?_
      refine z_end ?_
      clear hT11 hQ11 hch11 hy11 hyi hT14 hQ14 hO14 hp14 ap1 ap2 ap3 ho14 hvb'
      have hTr := hT15.toRows
      refine go ?_
      refine r_for p.n (fun e ρ w' => ∃ (vq : Value) (usQ : List Value), Has ρ [(0, .pointer (some ⟨bs, 0, none⟩)), (5, .bool true), (6, vq), (7, v11), (8, .int .i64 d), (82, vb), (83, .int .i64 (tabL t).length), (84, .int .i64 e)] ∧ Chg b0 w w' ∧
        Lst 22 base (fun g => av g ∨ vq.ownBlock = some g) w' vb usT (tabL t) ∧
        QLst 22 w.heap.size (fun g => g = b0) w' vq usQ (vecs (zs ++ [r] ++ [Grp.pw y (p.o d).toNat] ++ commsL t y e)) ∧ IntsAp (fun g => g < w.heap.size ∨ vq.ownBlock = some g) w' v11 y.v) ?_ ?_
      · refine ⟨v15, usQ ++ [v5] ++ [v13], ?_, hch15, hT15, ?_, hy15⟩
        · exact hasP
        · have : commsL t y 0 = [] := rfl
          rw [this, List.append_nil]
          exact hQ15
      clear hT15 hQ15 hch15 hy15 hTr
      rintro e ρ w16 he ⟨vq2, usQ2, hH16, hch16, hT16, hQ16, hy16⟩
      refine rwp_has hH16 fun ρ1 => ?_
      have hTr := hT16.toRows
      have hyi := hy16.ints
      have hz16 := hch16.size
      have hl16 : usQ2.length = zs.length + 2 + (commsL t y e).length := by rw [hQ16.len]; simp; omega
      have hcl := commsL_len (t := t) (y := y) (e := e)
      refine go ?_
      refine c_if (fun h6 => ?_) (fun h6 => ?_)
      · have hen : e < p.n := by omega
        cases hte : t e with
        | none =>
          have hn2 : Pc.rowAt vb usT e = nilv := hnil e hen hte
          have hnb : NilB (Pc.rowAt vb usT e) true := by rw [hn2]; infer_instance
          refine go ?_
          refine forQ_normal (by omega) ⟨vq2, usQ2, ?_, hch16, hT16, ?_, hy16⟩
          · exact hasP
          · rw [commsL_skip hte]; exact hQ16
        | some z =>
          have hze : (tabL t).getD e [] = z.v := by rw [tabL_at t hen, rowOf_some hte]
          have hnb : NilB (Pc.rowAt vb usT e) false := by
            have hrow : Ints 0 w16.heap.size w16 (Pc.rowAt vb usT e) ((tabL t).getD e []) := by infer_instance
            exact hrow.nn (by rw [hze, z.inr.len]; omega)
          refine go ?_
          refine rc (commutator_ok (p := p) (x := z) (y := y) (Nat.zero_le _) hze rfl) (next := fun v18 w18 h18 => ?_)
          obtain ⟨he18, hf18⟩ := h18
          refine go ?_
          refine st_slice1 (u := v18) (by ((try simp only [ev_tmp, ev_const, ev_func, get_put, get_args, get_putL, get_putL_nil, Nat.reduceEqDiff, reduceIte, List.getD_cons_zero, List.getD_cons_succ, List.getD_nil]); first | done | with_reducible rfl)) ?_ ?_ (by first | exact True.intro | exact ⟨_, rfl, by ((try simp only [ev_tmp, ev_const, ev_func, get_put, get_args, get_putL, get_putL_nil, Nat.reduceEqDiff, reduceIte, List.getD_cons_zero, List.getD_cons_succ, List.getD_nil, Bool.not_true, Bool.not_false]); first | done | with_reducible rfl)⟩) fun w19 v19 he19 hs19 ho19 => ?_
          · exact hf18.ints.sl.cells
          · rfl
          have hE19 := he18.trans he19
          have hT19 := hT16.ext hE19
          have hQ19 := hQ16.ext hE19
          have hO19 := hQ19.own
          have hz19 := hE19.size
          refine go ?_
          refine st_appendQ (hv := hO19) (hy := ho19) (by ((try simp only [ev_tmp, ev_const, ev_func, get_put, get_args, get_putL, get_putL_nil, Nat.reduceEqDiff, reduceIte, List.getD_cons_zero, List.getD_cons_succ, List.getD_nil]); first | done | with_reducible rfl)) (by ((try simp only [ev_tmp, ev_const, ev_func, get_put, get_args, get_putL, get_putL_nil, Nat.reduceEqDiff, reduceIte, List.getD_cons_zero, List.getD_cons_succ, List.getD_nil]); first | done | with_reducible rfl)) rfl ?_ ?_ ?_ ?_ (by first | exact True.intro | exact ⟨_, rfl, by ((try simp only [ev_tmp, ev_const, ev_func, get_put, get_args, get_putL, get_putL_nil, Nat.reduceEqDiff, reduceIte, List.getD_cons_zero, List.getD_cons_succ, List.getD_nil, Bool.not_true, Bool.not_false]); first | done | with_reducible rfl)⟩) fun v20 w20 ho20 hg20 ha20 => ?_
          · exact hf18.ints.sl.one
          · omega
          · simp only [maxLen]; omega
          · omega
          have hp19 : IntsAp (fun g => g = b0 ∨ vq2.ownBlock = some g) w19 v18 (Grp.cm z y).v :=
            (IntsAp.ofFr hf18 (fun g hg => by
              rcases hg with hg | hg
              · omega
              · exact (hQ16.lt hg).2)).ext he19
          obtain ⟨hT20, hQ20⟩ := tq_push hT19 hQ19 hp19 ho20 hg20 ha20
          refine go ?_
          refine forQ_normal (by omega) ⟨v20, usQ2 ++ [v18], ?_, (hch16.grow hE19).app hg20 (fun k hk => (hQ19.lt hk).1), hT20, ?_, b_push (hy16.ext hE19) hg20 ha20⟩
          · exact hasP
          · rw [commsL_some hte, ← List.append_assoc]; exact hQ20
      · obtain rfl : e = p.n := by omega
        have hes := empt_set (y := y) hdn htd
        have hyk : y = Grp.pw r k.toNat := hy.symm
        have hkk : ((k.toNat : Int) * co r d) % p.o d = 1 := by
          rw [Int.toNat_of_nonneg (by omega), Int.mul_comm]; exact hk3
        have hO16 := hT16.toOwn hvb
        have hulT : usT.length = p.n := by rw [hT16.len, htl]
        refine go ?_
        refine st_store_val (h := hO16) (by ((try simp only [ev_tmp, ev_const, ev_func, get_put, get_args, get_putL, get_putL_nil, Nat.reduceEqDiff, reduceIte, List.getD_cons_zero, List.getD_cons_succ, List.getD_nil]); first | done | with_reducible rfl)) (by ((try simp only [ev_tmp, ev_const, ev_func, get_put, get_args, get_putL, get_putL_nil, Nat.reduceEqDiff, reduceIte, List.getD_cons_zero, List.getD_cons_succ, List.getD_nil]); first | done | with_reducible rfl)) ?_ ?_ (by first | exact True.intro | exact ⟨_, rfl, by ((try simp only [ev_tmp, ev_const, ev_func, get_put, get_args, get_putL, get_putL_nil, Nat.reduceEqDiff, reduceIte, List.getD_cons_zero, List.getD_cons_succ, List.getD_nil, Bool.not_true, Bool.not_false]); first | done | with_reducible rfl)⟩) fun w21 hc21 hs21 ho21 => ?_
        · exact hyi.sl.one
        · omega
        have hT21 : Lst 22 base (fun g => av g ∨ vq2.ownBlock = some g) w21 vb (usT.set d v11) (tabL (Tab.set t d y)) := by
          rw [tabL_set]
          refine hT16.set hvb (hy16.weak fun g hg => .inl ?_) hc21 ho21 (by omega)
          rcases hg with (hg | hg) | hg
          · exact .inl (hT0.bd g hg)
          · exact .inr hg
          · rw [hvb] at hg; injection hg with hg; exact .inl (by omega)
        have hQ21 := hQ16.chg hc21 rfl
        refine go ?_
        refine loopQ_normal ?_ ⟨vq2, usT.set d v11, usQ2, Tab.set t d y, zs ++ [r] ++ [Grp.pw y (p.o d).toNat] ++ commsL t y p.n, true, ?_, hch16.trans hc21, hT21, hQ21, ?_, ?_, fun _ => ⟨d, ?_, ?_⟩, fun h => (by cases h), fun f hf => ?_, rfl, ?_⟩
        · simp only [List.length_append, List.length_singleton, List.length_cons, List.length_nil]; omega
        · exact hasP
        · intro f hf hfn
          by_cases ef : d = f
          · subst ef; unfold Tab.set at hfn; rw [if_pos rfl] at hfn; cases hfn
          · have : t f = none := by unfold Tab.set at hfn; rw [if_neg (fun e => ef e.symm)] at hfn; exact hfn
            have h8 := hnil f hf this
            rw [List.getD_eq_getElem?_getD, List.getElem?_set_ne ef, ← List.getD_eq_getElem?_getD]
            exact h8
        · refine hWk.fill hdn hL.stp (List.mem_cons_self) hL.tl hrd htd hyk hkk ?_ ?_ ?_ ?_ ?_
          · intro a ha
            rcases List.mem_cons.1 ha with ha | ha
            · exact .inl ha
            · exact .inr (by simp [ha])
          · intro a ha
            rcases List.mem_append.1 ha with ha | ha
            · rcases List.mem_append.1 ha with ha | ha
              · rcases List.mem_append.1 ha with ha | ha
                · exact .inl (List.mem_cons_of_mem _ ha)
                · exact .inr (.inl (List.mem_singleton.1 ha))
              · exact .inr (.inr (.inl (List.mem_singleton.1 ha)))
            · obtain ⟨k, z, _, h8, h9⟩ := commsL_mem.1 ha
              exact .inr (.inr (.inr ⟨k, z, h8, .inr h9⟩))
          · simp
          · simp
          · intro e z hz
            exact .inr (List.mem_append_right _ (commsL_mem.2 ⟨e, z, hWk.ok.lt e z hz, hz, rfl⟩))
        · exact hab d htd
        · unfold Tab.set; rw [if_pos rfl]; simp
        · refine hab f ?_
          unfold Tab.set at hf
          split at hf
          · cases hf
          · exact hf
        · simp only [List.length_append, List.length_singleton, List.length_cons, List.length_nil]; omega
  · have hz0 : zs = [] := by
      cases zs with
      | nil => rfl
      | cons a l => exfalso; apply h4; simp
    subst hz0
    refine go ?_
    have hWk' : Wk (fun a => S a ∨ a ∈ ys) t (fun _ => False) := hWk.congr (fun a => by simp)
    refine ret1 ⟨bg, t, rfl, hch4, ⟨hcs0, hcs1, hbsn, hvb, usT, hT.weak (fun g hg => .inl (.inl hg)) (fun g hg h => hT.free g hg (.inl h)) (fun g hg => hT.bd g (.inl hg)), hnil⟩, hWk', ?_⟩
    cases bg with
    | true =>
      obtain ⟨d, h5, h6⟩ := hbt rfl
      exact ⟨fun _ => hw0.grown hWk' h5 h6, fun _ => rfl⟩
    | false =>
      have := hbf rfl
      subst this
      have hs := hw0.same hWk'
      refine ⟨fun h => (by cases h), ?_⟩
      rintro ⟨a, ha, hna⟩
      exact absurd (hs a ha) hna
end Go.Proofs.Ytgomfjhhfmhlgaa

/-
  Walk: the program's representative of a coset (representative).
  Conditions: the tails at all levels are groups; the list has leading exponents 1 at ascending depths.
-/
namespace Go.Proofs.Ytgomfjhhfmhlgaa
open Go Go.Pc
/-- Elements with the leading exponent 1, their depths ascending. -/
structure SeqOk {p : Pr} (ys : List (El p)) : Prop where
  lead1 : ∀ y, y ∈ ys → lead y.v < p.n ∧ co y (lead y.v) = 1
  asc : ys.Pairwise fun a b => lead a.v < lead b.v
/-- What a representative is: it differs by a product of the list's elements, and is zero at their depths. -/
structure RepOf {p : Pr} [ConAll p] (ys : List (El p)) (x r : El p) : Prop where
  mem : ∀ H : El p → Prop, Pc.Sub H → (∀ y, y ∈ ys → H y) → H (x⁻¹ * r)
  zero : ∀ y, y ∈ ys → co r (lead y.v) = 0
  low : ∀ t, (∀ y, y ∈ ys → t < lead y.v) → co r t = co x t
theorem vecs_getD {p : Pr} (ys : List (El p)) {i : Nat} (h : i < ys.length) : (vecs ys).getD i [] = (ys[i]).v := by simp [vecs, h]
set_option maxHeartbeats 2000000 in
theorem representative_ok {p : Pr} [hcon : ConAll p] {ys : List (El p)} (hs : SeqOk ys) {w : World} {vp vu vx : Value} {us : List Value} {x : El p} {xs : List Int} {xss : List (List Int)} {lo hi lo1 hi1 lo2 hi2 : Nat} [hp : PresP lo hi w vp p] [hu : Pc.Rows lo1 hi1 w vu us xss] [hx : Ints lo2 hi2 w vx xs] (hus : xss = vecs ys) (hxs : xs = x.v) (hl : ys.length ≤ 100000) :
    Calls Try.prog 162 #[vp, vu, vx] w (Ret fun v w' => Ext w w' ∧ ∃ r : El p, Fr w.heap.size w' v r.v ∧ RepOf ys x r) := by
  subst hus hxs
  have hv := hcon.valid
  have hn6 := hv.n6
  have hxl := x.inr.len
  replace hp := hp.wide
  replace hu := hu.wide
  have hvl : (vecs ys).length = ys.length := by simp
  refine enter (args := [vp, vu, vx]) (l := [.tmp 6]) Try.func162 rfl rfl Try.ntmps162 (by simp) ?_
  refine go ?_
  refine rc (cloneI_ok (xs := x.v) ?_) (next := fun v1 w1 h4 => ?_)
  · omega
  obtain ⟨he1, hf1⟩ := h4
  refine go ?_
  refine rc (pivots_ok (xss := vecs ys) ?_ ?_) (next := fun v2 w2 h5 => ?_)
  · omega
  · intro i hi
    rw [vecs_getD ys (by omega), (ys[i]'(by omega)).inr.len]
    exact ⟨(hs.lead1 _ (List.getElem_mem _)).1, by omega⟩
  obtain ⟨he2, hf2⟩ := h5
  have hpi := hf2.ints
  have hpl : ((vecs ys).map fun x => (lead x : Int)).length = ys.length := by simp
  have hpg : ∀ i (h : i < ys.length), ((vecs ys).map fun x => (lead x : Int)).getD i 0 = (lead (ys[i]).v : Int) := fun i h => by simp [vecs, h]
  by_cases hn : p.n = 0
  · have hy0 : ys = [] := by
      cases ys with
      | nil => rfl
      | cons y l => have := (hs.lead1 y (List.mem_cons_self)).1; omega
    subst hy0
    refine go ?_
    refine r_for 0 (fun k ρ w' => Has ρ [(7, v1), (14, .int .i64 ((vecs ([] : List (El p))).map fun x => (lead x : Int)).length), (15, .int .i64 k)] ∧ Ext w2 w') ?_ ?_
    · refine ⟨?_, Ext.refl _⟩
      exact hasP
    rintro k ρ w3 hk ⟨hH, he3⟩
    refine rwp_has hH fun ρ0 => ?_
    refine go ?_
    refine c_if (fun h4 => ?_) (fun h4 => ?_)
    · simp at h4; omega
    refine go ?_
    refine ret1 ⟨(he1.trans he2).trans he3, x, hf1.ext' (he2.trans he3), fun H hH _ => by rw [Grp.inv_mul]; exact hH.one, fun y hy => (by cases hy), fun t _ => rfl⟩
  obtain ⟨te, b1, hb1, ho1⟩ := hf1.own (by intro e; rw [e] at hxl; simp at hxl; omega)
  have hbl := ho1.lt
  have ho2 : OwnI te b1 w2 v1 x.v := inferInstance
  have ap1 : Apart 0 w.heap.size b1 := ⟨.inr hb1⟩
  have ap2 : Apart w1.heap.size w2.heap.size b1 := ⟨.inl hbl⟩
  have hE2 := he1.trans he2
  clear hf1 ho1 hf2
  refine go ?_
  refine r_for ys.length (fun k ρ w' => ∃ (r : El p) (xs : List Int), Has ρ [(0, vp), (1, vu), (7, v1), (13, v2), (14, .int .i64 ((vecs ys).map fun x => (lead x : Int)).length), (15, .int .i64 k)] ∧ Chg b1 w2 w' ∧ OwnI te b1 w' v1 xs ∧ xs = r.v ∧
    (∀ H : El p → Prop, Pc.Sub H → (∀ y, y ∈ ys → H y) → H (x⁻¹ * r)) ∧ (∀ i (h : i < ys.length), i < k → co r (lead (ys[i]).v) = 0) ∧ (∀ t, (∀ y, y ∈ ys → t < lead y.v) → co r t = co x t)) ?_ ?_
  · refine ⟨x, _, ?_, Chg.refl _ _, ho2, rfl, fun H hH _ => by rw [Grp.inv_mul]; exact hH.one, fun i h hi => by omega, fun t _ => rfl⟩
    exact hasP
  clear ho2
  rintro k ρ w3 hk ⟨r, xs3, hH, hch3, ho3, hxs3, hm, hz, hlow⟩
  refine rwp_has hH fun ρ0 => ?_
  refine go ?_
  refine c_if (fun h4 => ?_) (fun h4 => ?_)
  · have hkn : k < ys.length := by omega
    have hpk := hpg k hkn
    obtain ⟨d, hd⟩ : ∃ d, lead (ys[k]).v = d := ⟨_, rfl⟩
    obtain ⟨hdn, hy1⟩ := hs.lead1 _ (List.getElem_mem hkn)
    rw [hd] at hpk hdn hy1
    have hyt : Tl d (ys[k]) := by rw [← hd]; exact lead_tl _
    have hod := hv.opos hdn
    have hasc : ∀ i (h : i < ys.length), i < k → lead (ys[i]).v < d := fun i h hi => by
      rw [← hd]; exact List.pairwise_iff_getElem.1 hs.asc i k h hkn hi
    refine go ?_
    rw [hpk]
    refine r_loop (fun m ρ w' => ∃ (r : El p) (xs : List Int), Has ρ [(0, vp), (1, vu), (7, v1), (8, .int .i64 k), (9, .int .i64 d), (13, v2), (14, .int .i64 ((vecs ys).map fun x => (lead x : Int)).length), (15, .int .i64 k)] ∧ Chg b1 w2 w' ∧ OwnI te b1 w' v1 xs ∧ xs = r.v ∧
      (∀ H : El p → Prop, Pc.Sub H → (∀ y, y ∈ ys → H y) → H (x⁻¹ * r)) ∧ (∀ i (h : i < ys.length), i < k → co r (lead (ys[i]).v) = 0) ∧ (∀ t, (∀ y, y ∈ ys → t < lead y.v) → co r t = co x t) ∧ m = if co r d = 0 then 0 else (p.o d - co r d).toNat) (if co r d = 0 then 0 else (p.o d - co r d).toNat) ?_ ?_
    · refine ⟨r, xs3, ?_, hch3, ho3, hxs3, hm, hz, hlow, rfl⟩
      exact hasP
    clear ho3 hm hz hlow hch3
    rintro m ρ w4 ⟨r, xs4, hH4, hch4, ho4, hxs4, hm, hz, hlow, hme⟩
    refine rwp_has hH4 fun ρ1 => ?_
    have hrl : xs4.length = p.n := by rw [hxs4]; exact r.inr.len
    have hrr := co_rng r hdn
    have hco : xs4.getD d 0 = co r d := by rw [hxs4]; rfl
    refine go ?_
    refine c_if (fun h5 => ?_) (fun h5 => ?_)
    · have h5' : co r d ≠ 0 := by rw [← hco]; exact h5
      rw [if_neg h5'] at hme
      refine go ?_
      refine rc (timesVector_ok (p := p) 0 (x := r) (y := ys[k]) (Nat.zero_le _) hxs4 (vecs_getD ys hkn) (fun k hk => absurd hk (Nat.not_lt_zero _))) (next := fun v5 w5 h6 => ?_)
      obtain ⟨hch5, ho5⟩ := h6
      have hlo : ∀ t, t < d → co (r * ys[k]) t = co r t := fun t ht => co_low r hdn hyt ht
      have hat : co (r * ys[k]) d = (co r d + 1) % p.o d := by rw [co_at r hdn hyt, hy1]
      refine go ?_
      refine loopQ_normal ?_ ⟨r * ys[k], _, ?_, hch4.trans hch5, ho5, rfl, fun H hH hy => ?_, fun i h hi => ?_, fun t ht => ?_, rfl⟩
      · rw [hat, hme]
        by_cases h8 : co r d + 1 = p.o d
        · rw [if_pos (by rw [h8, Int.emod_self])]; omega
        · rw [Int.emod_eq_of_lt (by omega) (by omega), if_neg (by omega)]; omega
      · exact hasP
      · rw [← Grp.mul_assoc]
        exact hH.mul _ _ (hm H hH hy) (hy _ (List.getElem_mem hkn))
      · rw [hlo _ (hasc i h hi)]; exact hz i h hi
      · have h9 := ht _ (List.getElem_mem hkn)
        rw [hd] at h9
        rw [hlo t h9]; exact hlow t ht
    · have h5' : co r d = 0 := by rw [← hco]; exact Decidable.not_not.1 h5
      refine go ?_
      refine forQ_normal (by omega) ⟨r, xs4, ?_, hch4, ho4, hxs4, hm, fun i h hi => ?_, hlow⟩
      · exact hasP
      · by_cases e : i = k
        · subst e; rw [hd]; exact h5'
        · exact hz i h (by omega)
  · refine go ?_
    refine ret1 ⟨hch3.ext hE2 hb1, r, ?_, hm, fun y hy => ?_, hlow⟩
    · rw [← hxs3]; exact ho3.toFr hb1
    · obtain ⟨i, hi, rfl⟩ := List.getElem_of_mem hy
      exact hz i hi (by omega)
end Go.Proofs.Ytgomfjhhfmhlgaa

/-
  Walks: the program's canonical sequence, and its subgroup generated by a list (canonical, generated).
  Conditions: the tails at all levels are groups.
-/
namespace Go.Proofs.Ytgomfjhhfmhlgaa
open Go Go.Pc
theorem canElsF_ok {p : Pr} [hcon : ConAll p] (H : El p → Prop) (d : Nat) : SeqOk (canElsF H d) := by
  refine ⟨fun y hy => ?_, ?_⟩
  · obtain ⟨e, h1, h2, h3⟩ := canElsF_mem.1 hy
    have hc := canT_some h3
    have hl := lead_of hc.tl (by rw [hc.lead]; omega)
    rw [hl]
    exact ⟨h2, hc.lead⟩
  · unfold canElsF
    rw [List.pairwise_filterMap]
    refine List.Pairwise.imp ?_ (List.pairwise_lt_range' (s := d) (n := p.n - d))
    intro a b hab x hx y hy
    have ha := canT_some hx
    have hb := canT_some hy
    rw [lead_of ha.tl (by rw [ha.lead]; omega), lead_of hb.tl (by rw [hb.lead]; omega)]
    exact hab
theorem canElsF_lead {p : Pr} [hcon : ConAll p] {H : El p → Prop} {d : Nat} {y : El p} (hy : y ∈ canElsF H d) : d ≤ lead y.v := by
  obtain ⟨e, h1, h2, h3⟩ := canElsF_mem.1 hy
  have hc := canT_some h3
  rw [lead_of hc.tl (by rw [hc.lead]; omega)]
  exact h1
/-- The representative of an entry by the canonical elements behind it is canonical. -/
theorem rep_can {p : Pr} [hcon : ConAll p] {t : Tab p} (hf : Full t) {d : Nat} {y r : El p} (hy : t d = some y) (hcn : ∀ e, d + 1 ≤ e → t e ≠ none → canT (Gen (Ents t)) e ≠ none) (hr : RepOf (canElsF (Gen (Ents t)) (d + 1)) y r) : CanAt (Gen (Ents t)) d r := by
  have hH := Gen.sub (Ents t)
  have hyt := hf.ok.tl d y hy
  have hyl := hf.ok.lead d y hy
  have hym : Gen (Ents t) y := .of y ⟨d, hy⟩
  have hlow : ∀ k, k < d + 1 → co r k = co y k := fun k hk => hr.low k fun z hz => by have := canElsF_lead hz; omega
  refine ⟨?_, fun k hk => ?_, by rw [hlow d (by omega)]; exact hyl, fun e he hne => ?_⟩
  · have h1 := hr.mem (Gen (Ents t)) hH fun z hz => by
      obtain ⟨e, _, _, h3⟩ := canElsF_mem.1 hz
      exact (canT_some h3).mem
    have := hH.mul _ _ hym h1
    rwa [Grp.mul_inv_cancel_left] at this
  · show co r k = 0
    rw [hlow k (by omega)]; exact hyt k hk
  · by_cases h1 : e < d
    · rw [hlow e (by omega)]; exact hyt e h1
    · have hte := hf.dep.1 he
      cases hc : canT (Gen (Ents t)) e with
      | none => exact absurd hc (hcn e (by omega) hte)
      | some z =>
        have hza := canT_some hc
        have h2 := hr.zero z (canElsF_mem.2 ⟨e, by omega, hza.lt, hc⟩)
        rwa [lead_of hza.tl (by rw [hza.lead]; omega)] at h2
set_option maxHeartbeats 2000000 in
theorem canonicalO_ok {p : Pr} [hcon : ConAll p] {t : Tab p} (hf : Full t) {av : Nat → Prop} {base bs b0 : Nat} {w : World} {vp vb : Value} {lo hi : Nat} [hp : PresP lo hi w vp p] (hq : SeqAt bs b0 base av w vp vb t) :
    Calls Try.prog 144 #[.pointer (some ⟨bs, 0, none⟩)] w (Ret fun v w' => Ext w w' ∧ ∃ rs, Lst 22 w.heap.size (· < w.heap.size) w' v (rs.map (·.1)) (rs.map (·.2)) ∧ canon (Gen (Ents t)) = rs.map (·.2) ∧ RowsO w.heap.size w' rs) := by
  have hv := hcon.valid
  have hn6 := hv.n6
  have hH := Gen.sub (Ents t)
  have htl := tabL_len t
  obtain ⟨c0, c1, hbsn, hvb, usT, hT, hnil⟩ := hq
  have hTr := hT.toRows
  obtain ⟨g, vo, vpw, vc, ps, cs, css, rfl, hg1, hg2, hc0, hc1, hc2, h1, h2, h3⟩ := hp.ex
  refine enter (args := [.pointer (some ⟨bs, 0, none⟩)]) (l := [.tmp 2]) Try.func144 rfl rfl Try.ntmps144 (by simp) ?_
  refine go ?_
  refine r_for p.n (fun k ρ w' => ∃ vo rs, Has ρ [(0, .pointer (some ⟨bs, 0, none⟩)), (3, vo), (4, .int .i64 (p.n - 1 - k))] ∧ Ext w w' ∧ (Lst 22 w.heap.size (· < w.heap.size) w' vo (rs.map (·.1)) (vecs (canElsF (Gen (Ents t)) (p.n - k))) ∧ vecs (canElsF (Gen (Ents t)) (p.n - k)) = rs.map (·.2) ∧ RowsO w.heap.size w' rs) ∧ ∀ e, p.n - k ≤ e → t e ≠ none → canT (Gen (Ents t)) e ≠ none) ?_ ?_
  · refine ⟨nilv, [], ?_, Ext.refl _, ?_, fun e h1 h2 => ?_⟩
    · exact hasP
    · rw [Nat.sub_zero, canElsF_end]; exact ⟨Lst.nil _ _ _ (fun g hg => hg), rfl, RowsO.nil _ _⟩
    · have := (hf.dep.2 h2).lt; omega
  rintro k ρ w2 hk ⟨vo', rs, hH2, he2, ⟨hL, hrs, hO⟩, hcn⟩
  obtain ⟨us, hus⟩ : ∃ us, rs.map (·.1) = us := ⟨_, rfl⟩
  rw [hus] at hL
  refine rwp_has hH2 fun ρ0 => ?_
  refine go ?_
  refine c_if (fun h4 => ?_) (fun h4 => ?_)
  · have hkn : k < p.n := by omega
    obtain ⟨d, hd⟩ : ∃ d, p.n - 1 - k = d := ⟨_, rfl⟩
    have hdn : d < p.n := by omega
    have hd1 : p.n - k = d + 1 := by omega
    have hd2 : p.n - (k + 1) = d := by omega
    rw [hd1] at hL hcn hrs
    cases htd : t d with
    | none =>
      have hn2 : Pc.rowAt vb usT (p.n - 1 - k) = nilv := by rw [hd]; exact hnil d hdn htd
      have hnb : NilB (Pc.rowAt vb usT (p.n - 1 - k)) true := by rw [hn2]; infer_instance
      refine go ?_
      refine forQ_normal (by omega) ⟨vo', rs, ?_, he2, ?_, fun e h1 h2 => ?_⟩
      · exact hasP
      · rw [hd2, canElsF_none hdn (hf.canT_none htd), hus]; exact ⟨hL, hrs, hO⟩
      · by_cases ee : e = d
        · subst ee; exact absurd htd h2
        · exact hcn e (by omega) h2
    | some y =>
      have hye : (tabL t).getD (p.n - 1 - k) [] = y.v := by rw [hd, tabL_at t hdn, rowOf_some htd]
      have hnb : NilB (Pc.rowAt vb usT (p.n - 1 - k)) false := by
        have hrow : Ints 0 w.heap.size w (Pc.rowAt vb usT (p.n - 1 - k)) ((tabL t).getD (p.n - 1 - k) []) := by infer_instance
        exact hrow.nn (by rw [hye, y.inr.len]; omega)
      have hLr := hL.toRows
      have hll := canElsF_len (Gen (Ents t)) (d + 1)
      have hul := hL.len
      have hul2 : us.length = (canElsF (Gen (Ents t)) (d + 1)).length := by rw [hul]; simp
      refine go ?_
      refine d_region fun w3 he3 _ => ?_
      refine dgo ?_
      refine dce (representative_ok (p := p) (ys := canElsF (Gen (Ents t)) (d + 1)) (x := y) (canElsF_ok _ _) rfl hye ?_) (next := fun v4 w4 h5 => ?_)
      · omega
      obtain ⟨he4, r, hf4, hrep⟩ := h5
      refine dgo ?_
      refine d_end (h := ?_)
      have hcan := rep_can hf htd hcn hrep
      have hE3 := he2.trans he3
      have hE4 := hE3.trans he4
      have hz3 := hE3.size
      have hz4 := hE4.size
      refine go ?_
      refine st_slice1o (u := v4) (by ((try simp only [ev_tmp, ev_const, ev_func, get_put, get_args, get_putL, get_putL_nil, Nat.reduceEqDiff, reduceIte, List.getD_cons_zero, List.getD_cons_succ, List.getD_nil]); first | done | with_reducible rfl)) ?_ ?_ (by first | exact True.intro | exact ⟨_, rfl, by ((try simp only [ev_tmp, ev_const, ev_func, get_put, get_args, get_putL, get_putL_nil, Nat.reduceEqDiff, reduceIte, List.getD_cons_zero, List.getD_cons_succ, List.getD_nil, Bool.not_true, Bool.not_false]); first | done | with_reducible rfl)⟩) fun w5 v5 he5 hs5 ho5 => ?_
      · exact hf4.ints.sl.cells
      · rfl
      have hL4 := hL.ext (he3.trans he4)
      have hL5 := hL4.ext he5
      have hsl5 := hL5.own.toSl
      have hz5 := he5.size
      refine go ?_
      refine st_append (hv := ho5.toN) (hy := hsl5) (by ((try simp only [ev_tmp, ev_const, ev_func, get_put, get_args, get_putL, get_putL_nil, Nat.reduceEqDiff, reduceIte, List.getD_cons_zero, List.getD_cons_succ, List.getD_nil]); first | done | with_reducible rfl)) (by ((try simp only [ev_tmp, ev_const, ev_func, get_put, get_args, get_putL, get_putL_nil, Nat.reduceEqDiff, reduceIte, List.getD_cons_zero, List.getD_cons_succ, List.getD_nil]); first | done | with_reducible rfl)) rfl ?_ ?_ ?_ ?_ (by first | exact True.intro | exact ⟨_, rfl, by ((try simp only [ev_tmp, ev_const, ev_func, get_put, get_args, get_putL, get_putL_nil, Nat.reduceEqDiff, reduceIte, List.getD_cons_zero, List.getD_cons_succ, List.getD_nil, Bool.not_true, Bool.not_false]); first | done | with_reducible rfl)⟩) fun v6 w6 ho6 hg6 ha6 => ?_
      · intro a ha
        obtain ⟨i, hi, rfl⟩ := List.getElem_of_mem ha
        have := (hL5.rows.at_ i).ints.sl.one
        rwa [show us.getD i nilv = us[i] by simp [hi]] at this
      · simp; omega
      · simp [maxLen]; omega
      · omega
      have hob : v5.ownBlock = some w4.heap.size := ho5.toN_block
      rw [hob] at hg6 ha6
      have hru : IntsAp (· < w.heap.size) w4 v4 r.v := IntsAp.ofFr hf4 (fun g hg => by omega)
      have hrL : RowsAp (· < w.heap.size) w4 us (vecs (canElsF (Gen (Ents t)) (d + 1))) := hL4.rows.weak fun g hg => .inl (.inl hg)
      have hL6 := Lst.front (e := 22) (base := w.heap.size) hrL hru (fun g hg => by omega) he5 (Nat.le_refl _) hg6 (ho6.mono (by omega)) (fun g hg => by
        rcases ha6 with e | e
        · rw [e] at hg; injection hg with hg; omega
        · rw [e] at hg; injection hg with hg; omega)
      refine go ?_
      have hO4 := (hO.ext he3).cons he4 (by omega) hf4
      have hO6 := (hO4.ext he5).wr (.one (B := fun g => g = w4.heap.size) rfl ⟨hg6⟩) (fun g hg e => by have := (hO4.blk hg).2; omega)
      refine forQ_normal (by omega) ⟨v6, (v4, r.v) :: rs, ?_, (hE4.trans he5).app hg6 (fun k hk => by injection hk with hk; omega), ?_, fun e h1 h2 => ?_⟩
      · exact hasP
      · rw [hd2, canElsF_some hdn (canT_eq hH hcan)]
        refine ⟨by rw [List.map_cons, hus]; exact hL6, by simp only [vecs, List.map_cons] at hrs ⊢; rw [hrs], hO6⟩
      · by_cases ee : e = d
        · subst ee; rw [canT_eq hH hcan]; simp
        · exact hcn e (by omega) h2
  · obtain rfl : k = p.n := by omega
    refine go ?_
    rw [Nat.sub_self, canElsF_zero, ← canon_vecs] at hL hrs
    refine ret1 ⟨he2, rs, ?_, hrs, hO⟩
    rw [← hrs, hus]; exact hL
theorem canonical_ok {p : Pr} [hcon : ConAll p] {t : Tab p} (hf : Full t) {av : Nat → Prop} {base bs b0 : Nat} {w : World} {vp vb : Value} {lo hi : Nat} [hp : PresP lo hi w vp p] (hq : SeqAt bs b0 base av w vp vb t) :
    Calls Try.prog 144 #[.pointer (some ⟨bs, 0, none⟩)] w (Ret fun v w' => Ext w w' ∧ ∃ us', Lst 22 w.heap.size (· < w.heap.size) w' v us' (canon (Gen (Ents t)))) :=
  Pc.Calls.ret_mono (canonicalO_ok hf hq) fun _ _ ⟨h1, rs, h2, h3, _⟩ => ⟨h1, rs.map (·.1), by rw [h3]; exact h2⟩
set_option maxHeartbeats 1000000 in
theorem generatedO_ok {p : Pr} [hcon : ConAll p] {w : World} {vp vl : Value} {us : List Value} {ys : List (El p)} {xss : List (List Int)} {lo hi lo1 hi1 : Nat} [hp : PresP lo hi w vp p] [hl : Pc.Rows lo1 hi1 w vl us xss] (hx : xss = vecs ys) (hn : ys.length ≤ 100000) :
    Calls Try.prog 105 #[vp, vl] w (Ret fun v w' => Ext w w' ∧ ∃ rs, Lst 22 w.heap.size (· < w.heap.size) w' v (rs.map (·.1)) (rs.map (·.2)) ∧ canon (Gen (fun a : El p => a ∈ ys)) = rs.map (·.2) ∧ RowsO w.heap.size w' rs) := by
  subst hx
  have hn6 := hcon.valid.n6
  replace hp := hp.wide
  replace hl := hl.wide
  refine enter (args := [vp, vl]) (l := [.tmp 4]) Try.func105 rfl rfl Try.ntmps105 (by simp) ?_
  refine go ?_
  refine rc (newSequence_ok (p := p) hn6) (next := fun v1 w1 h1 => ?_)
  obtain ⟨bs, vb, rfl, he1, hc0, hc1, hbs, hvb, ho⟩ := h1
  have hz1 := he1.size
  have hq : SeqAt bs w.heap.size w.heap.size (fun _ => False) w1 vp vb (fun _ => none : Tab p) := by
    refine ⟨hc0, hc1, by omega, hvb, List.replicate p.n nilv, ?_, fun d hd _ => ?_⟩
    · rw [tabL_none]
      exact Lst.ofNils ho (Nat.le_refl _) (fun h => h) (fun g h => h.elim)
    · rw [List.getD_eq_getElem?_getD, List.getElem?_replicate]; split <;> rfl
  have hap : Apart 0 w.heap.size w.heap.size := ⟨.inr (Nat.le_refl _)⟩
  have hr : RowsAp (fun g => g = w.heap.size) w1 us (vecs ys) := (hl.ap (Nat.le_refl _) (fun g hg => .inr (by omega))).ext he1
  have hsl : Sl 0 w.heap.size w1 vl us := inferInstance
  refine go ?_
  refine rc (add_ok (p := p) (S := fun _ => False) hz1 hq Wk.none hr hn) (next := fun v2 w2 h2 => ?_)
  obtain ⟨bg, t, rfl, hch2, hq2, hWk, _⟩ := h2
  have he2 : Ext w w2 := hch2.ext he1 (Nat.le_refl _)
  have hz2 := he2.size
  clear hch2 hsl
  refine go ?_
  refine rc (canonicalO_ok (p := p) (hWk.full (fun _ h => h)) hq2) (next := fun v3 w3 h3 => ?_)
  obtain ⟨he3, us3, hL3, hus3, hO3⟩ := h3
  refine go ?_
  rw [hWk.gen (fun _ h => h)] at hus3
  have e : (fun a : El p => False ∨ a ∈ ys) = fun a => a ∈ ys := by funext a; simp
  rw [e] at hus3
  exact ret1 ⟨he2.trans he3, us3, (hL3.mono hz2).weak (fun g hg => .inl (by omega)) (fun g hg h => by have := (hL3.lt hg).1; omega) (fun g hg => by have := he3.size; omega), hus3, hO3.mono hz2⟩
theorem generated_ok {p : Pr} [hcon : ConAll p] {w : World} {vp vl : Value} {us : List Value} {ys : List (El p)} {xss : List (List Int)} {lo hi lo1 hi1 : Nat} [hp : PresP lo hi w vp p] [hl : Pc.Rows lo1 hi1 w vl us xss] (hx : xss = vecs ys) (hn : ys.length ≤ 100000) :
    Calls Try.prog 105 #[vp, vl] w (Ret fun v w' => Ext w w' ∧ ∃ us', Lst 22 w.heap.size (· < w.heap.size) w' v us' (canon (Gen (fun a : El p => a ∈ ys)))) :=
  Pc.Calls.ret_mono (generatedO_ok hx hn) fun _ _ ⟨h1, rs, h2, h3, _⟩ => ⟨h1, rs.map (·.1), by rw [h3]; exact h2⟩
theorem generatedM_ok {p : Pr} [hcon : ConAll p] {w : World} {vp vl : Value} {us : List Value} {ys : List (El p)} {xss : List (List Int)} {lo hi lo1 hi1 : Nat} [hp : PresP lo hi w vp p] [hl : Pc.Rows lo1 hi1 w vl us xss] (hx : xss = vecs ys) (hn : ys.length ≤ 100000) :
    Calls Try.prog 105 #[vp, vl] w (Ret fun v w' => Ext w w' ∧ ∃ rs, canon (Gen (fun a : El p => a ∈ ys)) = rs.map (·.2) ∧ MatO w.heap.size w'.heap.size w' v rs) :=
  Pc.Calls.ret_mono (generatedO_ok hx hn) fun _ _ ⟨h1, rs, h2, h3, h4⟩ => ⟨h1, rs, h3, MatO.ofLst h2 h4 h2.newRows⟩
end Go.Proofs.Ytgomfjhhfmhlgaa

/-
  Canonical sequences: every depth of a subgroup has its element; representatives are unique; the order.
  Conditions: the tails at all levels are groups; nothing of the program stands here.
-/
namespace Go.Proofs.Ytgomfjhhfmhlgaa
open Go Go.Pc
section
variable {p : Pr} [hc : ConAll p] {H : El p → Prop} {d : Nat}
theorem dep_one (hH : Pc.Sub H) (h : Dep H d) : ∃ z, H z ∧ Tl d z ∧ co z d = 1 := by
  have hd := h.lt
  obtain ⟨x, h1, h2, h3⟩ := h
  have hr := co_rng x hd
  obtain ⟨k, _, _, hk⟩ := inv_ex (hc.valid.prime d hd) ⟨by omega, hr.2⟩
  exact ⟨Grp.pwz x k, hH.pwz h1 k, h2.pwz (by omega) k, by rw [co_pwz hd h2, Int.mul_comm]; exact hk⟩
theorem can_ex (hH : Pc.Sub H) (h : Dep H d) : ∃ x, CanAt H d x := by
  have key : ∀ m e, e ≤ p.n → p.n - e = m → d < e → (∃ x, CanTo H d e x) → ∃ x, CanTo H d p.n x := by
    intro m
    induction m with
    | zero =>
      intro e h1 h2 _ h4
      obtain rfl : e = p.n := by omega
      exact h4
    | succ m ih =>
      intro e h1 h2 h3 ⟨x, h4⟩
      refine ih (e + 1) (by omega) (by omega) (by omega) ?_
      by_cases hD : Dep H e
      · obtain ⟨z, hz, hzt, hz1⟩ := dep_one hH hD
        exact ⟨_, h4.step hH h3 hD.lt hz hzt hz1⟩
      · exact ⟨x, h4.skip (.inr hD)⟩
  have hd := h.lt
  obtain ⟨z, hz, hzt, hz1⟩ := dep_one hH h
  obtain ⟨x, hx⟩ := key (p.n - (d + 1)) (d + 1) (by omega) rfl (by omega) ⟨z, hz, hzt, hz1, fun k h1 h2 _ => by omega⟩
  exact ⟨x, hx.can⟩
theorem canT_ex (hH : Pc.Sub H) (h : Dep H d) : ∃ x, canT H d = some x := by
  obtain ⟨x, hx⟩ := can_ex hH h
  exact ⟨x, canT_eq hH hx⟩
/-- The elements of a canonical sequence. -/
structure SeqEl (ys : List (El p)) : Prop where
  can : canon (Gen (fun a : El p => a ∈ ys)) = vecs ys
theorem SeqEl.eq {ys : List (El p)} (h : SeqEl ys) : ys = canElsF (Gen (fun a : El p => a ∈ ys)) 0 := by
  have := vecs_inj (h.can.symm.trans (canon_vecs _))
  rw [canElsF_zero]; exact this
theorem SeqEl.ok {ys : List (El p)} (h : SeqEl ys) : SeqOk ys := by
  have := canElsF_ok (Gen (fun a : El p => a ∈ ys)) 0
  rwa [← h.eq] at this
theorem SeqEl.len {ys : List (El p)} (h : SeqEl ys) : ys.length ≤ p.n := by
  have := canElsF_len (Gen (fun a : El p => a ∈ ys)) 0
  rwa [← h.eq] at this
theorem SeqEl.dep {ys : List (El p)} (h : SeqEl ys) {d : Nat} (hd : Dep (Gen (fun a : El p => a ∈ ys)) d) : ∃ y, y ∈ ys ∧ lead y.v = d := by
  obtain ⟨x, hx⟩ := canT_ex (Gen.sub _) hd
  have hm := canElsF_mem.2 ⟨d, Nat.zero_le _, hd.lt, hx⟩
  rw [← h.eq] at hm
  have hca := canT_some hx
  exact ⟨x, hm, lead_of hca.tl (by rw [hca.lead]; omega)⟩
theorem isSeq_iff {xss : List (List Int)} : IsSeq p xss ↔ ∃ ys : List (El p), xss = vecs ys ∧ SeqEl ys :=
  ⟨fun ⟨ys, h1, h2⟩ => ⟨ys, h1, ⟨h2.trans h1⟩⟩, fun ⟨ys, h1, h2⟩ => ⟨ys, h1, h2.can.trans h1.symm⟩⟩
variable {ys : List (El p)} {x r s : El p}
theorem RepOf.gen (h : RepOf ys x r) : Gen (fun a : El p => a ∈ ys) (x⁻¹ * r) := h.mem _ (Gen.sub _) fun y hy => .of y hy
theorem RepOf.unique (hs : SeqEl ys) (h : RepOf ys x r) (k : RepOf ys x s) : r = s := by
  refine rep_unique (Gen.sub (fun a : El p => a ∈ ys)) ?_ fun d hd => ?_
  · have h1 := (Gen.sub (fun a : El p => a ∈ ys)).mul _ _ ((Gen.sub _).inv _ h.gen) k.gen
    rwa [Grp.mul_inv_rev, Grp.inv_inv, Grp.mul_assoc, Grp.mul_inv_cancel_left] at h1
  · obtain ⟨y, hy, rfl⟩ := hs.dep hd
    rw [h.zero y hy, k.zero y hy]
theorem RepOf.one_iff (hs : SeqEl ys) (h : RepOf ys x r) : r = 1 ↔ Gen (fun a : El p => a ∈ ys) x := by
  have hS := Gen.sub (fun a : El p => a ∈ ys)
  constructor
  · rintro rfl
    have h1 := hS.inv _ h.gen
    rwa [Grp.mul_one, Grp.inv_inv] at h1
  · intro hx
    have h1 := hS.mul _ _ hx h.gen
    rw [Grp.mul_inv_cancel_left] at h1
    refine rep_unique hS (hS.mul _ _ (hS.inv _ h1) hS.one) fun d hd => ?_
    obtain ⟨y, hy, rfl⟩ := hs.dep hd
    rw [h.zero y hy, co_one]
/-- The order that a sequence tells. -/
def ordOf (p : Pr) (ys : List (El p)) : Int := ys.foldl (fun a y => a * p.o (lead y.v)) 1
theorem ordOf_take (ys : List (El p)) {k : Nat} (hk : k < ys.length) : ordOf p (ys.take (k + 1)) = ordOf p (ys.take k) * p.o (lead (ys[k]).v) := by
  unfold ordOf
  rw [List.take_succ_eq_append_getElem hk, List.foldl_append]; rfl
theorem ordOf_bd : ∀ k : Nat, k ≤ ys.length → (∀ y, y ∈ ys → lead y.v < p.n) → 1 ≤ ordOf p (ys.take k) ∧ ordOf p (ys.take k) ≤ (7 ^ k : Nat)
  | 0, _, _ => by simp [ordOf]
  | k + 1, hk, h => by
    have ih := ordOf_bd k (by omega) h
    have ho := hc.valid.opos (h _ (List.getElem_mem (show k < ys.length by omega)))
    rw [ordOf_take ys (by omega)]
    refine ⟨?_, ?_⟩
    · have := Int.mul_le_mul ih.1 (show (1 : Int) ≤ p.o (lead (ys[k]).v) by omega) (by omega) (by omega)
      simpa using this
    · have := Int.mul_le_mul ih.2 ho.2 (by omega) (by omega)
      rw [Nat.pow_succ]
      push_cast
      push_cast at this
      exact this
theorem ordOf_rng {k : Nat} (h6 : ys.length ≤ 6) (hk : k ≤ ys.length) (h : ∀ y, y ∈ ys → lead y.v < p.n) : 1 ≤ ordOf p (ys.take k) ∧ ordOf p (ys.take k) ≤ 117649 := by
  have h1 := ordOf_bd k hk h
  have h2 : 7 ^ k ≤ 7 ^ 6 := Nat.pow_le_pow_right (by omega) (by omega)
  refine ⟨h1.1, ?_⟩
  have h3 : ((7 ^ k : Nat) : Int) ≤ (117649 : Nat) := Int.ofNat_le.2 h2
  omega
/-- The table of a sequence. -/
def tabOf (ys : List (El p)) : Tab p := ys.foldl (fun t y => Tab.set t (lead y.v) y) (fun _ => none)
theorem tabOf_take (ys : List (El p)) {k : Nat} (hk : k < ys.length) : tabOf (ys.take (k + 1)) = Tab.set (tabOf (ys.take k)) (lead (ys[k]).v) (ys[k]) := by
  unfold tabOf
  rw [List.take_succ_eq_append_getElem hk, List.foldl_append]; rfl
theorem tabOf_some_take (ys : List (El p)) : ∀ k, k ≤ ys.length → ∀ d y, tabOf (ys.take k) d = some y → y ∈ ys ∧ lead y.v = d
  | 0, _, d, y, h => by cases h
  | k + 1, hk, d, y, h => by
    rw [tabOf_take ys (by omega)] at h
    unfold Tab.set at h
    split at h
    · rename_i e
      injection h with h
      subst h
      exact ⟨List.getElem_mem _, e.symm⟩
    · exact tabOf_some_take ys k (by omega) d y h
theorem tabOf_some {d : Nat} {y : El p} (h : tabOf ys d = some y) : y ∈ ys ∧ lead y.v = d := by
  have := tabOf_some_take ys ys.length (Nat.le_refl _) d y
  rw [List.take_length] at this
  exact this h
theorem tabOf_ok (hs : SeqOk ys) : TabOk (tabOf ys) := by
  refine ⟨fun d y h => ?_, fun d y h => ?_, fun d y h => ?_⟩ <;> obtain ⟨h1, rfl⟩ := tabOf_some h
  · exact (hs.lead1 y h1).1
  · exact lead_tl y
  · exact (hs.lead1 y h1).2
theorem tabOf_mem (hs : SeqOk ys) {y : El p} (hy : y ∈ ys) : tabOf ys (lead y.v) ≠ none := by
  have key : ∀ k, k ≤ ys.length → ∀ i (h : i < ys.length), i < k → tabOf (ys.take k) (lead (ys[i]).v) ≠ none := by
    intro k
    induction k with
    | zero => intro _ i h h1; omega
    | succ k ih =>
      intro hk i h h1
      rw [tabOf_take ys (by omega)]
      unfold Tab.set
      split
      · simp
      · rename_i e
        refine ih (by omega) i h ?_
        by_cases e2 : i = k
        · subst e2; exact absurd rfl e
        · omega
  obtain ⟨i, hi, rfl⟩ := List.getElem_of_mem hy
  have := key ys.length (Nat.le_refl _) i hi hi
  rwa [List.take_length] at this
end
end Go.Proofs.Ytgomfjhhfmhlgaa

/-
  Walks: the reference's test of subgroups (l12Is, IsSubgroup).
  Conditions: stated at each theorem.
-/
namespace Go.Proofs.Ytgomfjhhfmhlgaa
open Go Go.Pc
/-- The presentation is a group, and the list is the canonical sequence of a subgroup of it. -/
def IsSubP (p : Pr) (xss : List (List Int)) : Prop := ∃ h : IsGrp p, @IsSeq p ⟨h.con⟩ xss
set_option maxHeartbeats 1000000 in
theorem l12Is_ok {p : Pr} [hc : ConAll p] {w : World} {vp vu : Value} {us : List Value} {xss : List (List Int)} {lo hi lo1 hi1 : Nat} [hp : Pres lo hi w vp p] [hu : Pc.Rows lo1 hi1 w vu us xss] :
    Calls Try.prog 114 #[vp, vu] w (Ret fun v w' => ∃ b, v = .bool b ∧ (b = true ↔ IsSeq p xss) ∧ Ext w w') := by
  have hv := hc.valid
  have hn6 := hv.n6
  have hol : p.ord.length = p.n := rfl
  obtain ⟨vo, vpw, vc, ps, cs, css, rfl, h1, h2, h3⟩ := hp.ex
  refine enter (args := [.agg #[vo, vpw, vc], vu]) (l := [.tmp 4]) Try.func114 rfl rfl Try.ntmps114 (by simp) ?_
  refine go ?_
  refine st_box3 (by ((try simp only [ev_tmp, ev_const, ev_func, get_put, get_args, get_putL, get_putL_nil, Nat.reduceEqDiff, reduceIte, List.getD_cons_zero, List.getD_cons_succ, List.getD_nil]); first | done | with_reducible rfl)) (by first | exact True.intro | exact ⟨_, rfl, by ((try simp only [ev_tmp, ev_const, ev_func, get_put, get_args, get_putL, get_putL_nil, Nat.reduceEqDiff, reduceIte, List.getD_cons_zero, List.getD_cons_succ, List.getD_nil, Bool.not_true, Bool.not_false]); first | done | with_reducible rfl)⟩) fun w1 b he1 hb1 hs1 hc0 hc1 hc2 => ?_
  refine go ?_
  refine spd (fun h4 => ?_) (fun h4 => ?_)
  · refine go ?_
    refine rc (l10Elements_ok hv (xss := xss) ?_) (next := fun v5 w5 h5 => ?_)
    · omega
    obtain ⟨b5, rfl, hb5, he5⟩ := h5
    refine go ?_
    refine sp (fun e5 => ?_) (fun e5 => ?_)
    · obtain ⟨ys, hys⟩ := els_of (hb5.1 e5)
      have hyl : xss.length = ys.length := by rw [hys]; simp
      refine go ?_
      refine rc (l12Close_ok (ys := ys) hys ?_) (next := fun v6 w6 h6 => ?_)
      · omega
      obtain ⟨he6, us6, hL6⟩ := h6
      have hr6 := hL6.toRows
      have hcl := canTo_len (Gen (fun a : El p => a ∈ ys)) p.n
      rw [canTo_end] at hcl
      refine go ?_
      refine rc (l01Same2_ok (xss := canon (Gen (fun a : El p => a ∈ ys))) (yss := xss) ?_ ?_) (next := fun v7 w7 h7 => ?_)
      · intro i
        have := canon_row (Gen (fun a : El p => a ∈ ys)) i
        omega
      · omega
      obtain ⟨b7, rfl, hb7, he7⟩ := h7
      refine go ?_
      refine ret1 ⟨_, rfl, hb7.trans ⟨fun h => ⟨ys, hys, h⟩, ?_⟩, ((he1.trans he5).trans he6).trans he7⟩
      rintro ⟨zs, hzs, h⟩
      obtain rfl : ys = zs := vecs_inj (hys.symm.trans hzs)
      exact h
    · refine go ?_
      refine ret1 ⟨_, rfl, ?_, he1.trans he5⟩
      simp only [Bool.false_eq_true, false_iff]
      rintro ⟨ys, hys, _⟩
      have := hb5.2 (by rw [hys]; exact fun i hi => vecs_in hi)
      rw [e5] at this; cases this
  · refine go ?_
    refine ret1 ⟨_, rfl, ?_, he1⟩
    simp only [Bool.false_eq_true, false_iff]
    intro h
    have := h.len
    omega
set_option maxHeartbeats 1000000 in
theorem spec_IsSubgroup_ok {p : Pr} {w : World} {vp vu : Value} {us : List Value} {xss : List (List Int)} {lo hi lo1 hi1 : Nat} [hp : Pres lo hi w vp p] [hu : Pc.Rows lo1 hi1 w vu us xss] (hl : p.ord.length ≤ 2000000) :
    Calls Try.prog 71 #[vp, vu] w (Ret fun v w' => ∃ b, v = .bool b ∧ (b = true ↔ IsSubP p xss) ∧ Ext w w') := by
  obtain ⟨vo, vpw, vc, ps, cs, css, rfl, h1, h2, h3⟩ := hp.ex
  refine enter (args := [.agg #[vo, vpw, vc], vu]) (l := [.tmp 4]) Try.func71 rfl rfl Try.ntmps71 (by simp) ?_
  refine go ?_
  refine st_box3 (by ((try simp only [ev_tmp, ev_const, ev_func, get_put, get_args, get_putL, get_putL_nil, Nat.reduceEqDiff, reduceIte, List.getD_cons_zero, List.getD_cons_succ, List.getD_nil]); first | done | with_reducible rfl)) (by first | exact True.intro | exact ⟨_, rfl, by ((try simp only [ev_tmp, ev_const, ev_func, get_put, get_args, get_putL, get_putL_nil, Nat.reduceEqDiff, reduceIte, List.getD_cons_zero, List.getD_cons_succ, List.getD_nil, Bool.not_true, Bool.not_false]); first | done | with_reducible rfl)⟩) fun w1 b he1 hb1 hs1 hc0 hc1 hc2 => ?_
  refine go ?_
  refine rc (l08Group_ok hl) (next := fun v5 w5 h5 => ?_)
  obtain ⟨b5, rfl, hb5, he5⟩ := h5
  refine go ?_
  refine sp (fun e5 => ?_) (fun e5 => ?_)
  · have hG := hb5.1 e5
    haveI : ConAll p := ⟨hG.con⟩
    refine go ?_
    refine rc (l12Is_ok (xss := xss)) (next := fun v6 w6 h6 => ?_)
    obtain ⟨b6, rfl, hb6, he6⟩ := h6
    refine go ?_
    exact ret1 ⟨_, rfl, hb6.trans ⟨fun h => ⟨hG, h⟩, fun ⟨_, h⟩ => h⟩, (he1.trans he5).trans he6⟩
  · refine go ?_
    refine ret1 ⟨_, rfl, ?_, he1.trans he5⟩
    simp only [Bool.false_eq_true, false_iff]
    rintro ⟨h, _⟩
    have := hb5.2 h
    rw [e5] at this; cases this
end Go.Proofs.Ytgomfjhhfmhlgaa

/-
  Answers that the program and the reference give: what they have to be, and that they are the same.
  Conditions: none.
-/
namespace Go.Proofs.Ytgomfjhhfmhlgaa
open Go Go.Pc
/-- An answer with a code: under A the pair meets V, else it is z with the code 1. -/
def Ans {α : Type} (A : Prop) (V : α → Int → Prop) (z k : α) (e : Int) : Prop := (A ∧ V k e) ∨ (¬ A ∧ k = z ∧ e = 1)
theorem Ans.same {α : Type} {A : Prop} {V : α → Int → Prop} {z k k' : α} {e e' : Int} (h : Ans A V z k e) (h' : Ans A V z k' e') (hu : A → ∀ a b c d, V a c → V b d → a = b ∧ c = d) : k = k' ∧ e = e' := by
  rcases h with ⟨h1, h2⟩ | ⟨h1, h2, h3⟩ <;> rcases h' with ⟨k1, k2⟩ | ⟨k1, k2, k3⟩
  · exact hu h1 _ _ _ _ h2 k2
  · exact absurd h1 k1
  · exact absurd k1 h1
  · exact ⟨by rw [h2, k2], by rw [h3, k3]⟩
theorem bool_eq {b c : Bool} {P : Prop} (h : b = true ↔ P) (k : c = true ↔ P) : b = c := by
  have e : b = true ↔ c = true := h.trans k.symm
  cases b <;> cases c <;> simp_all
theorem el_one_iff {p : Pr} [hc : ConAll p] (r : El p) : r = 1 ↔ ∀ i, i < r.v.length → r.v.getD i 0 = 0 := by
  have hl := r.inr.len
  constructor
  · rintro rfl i _; exact co_one i
  · intro h; exact el_ext fun d hd => by rw [co_one]; exact h d (by omega)
/-- The list is an element of the subgroup that the sequence tells. -/
def MemP (p : Pr) (xss : List (List Int)) (xs : List Int) : Prop := ∃ (_ : ConAll p) (ys : List (El p)) (x : El p), xss = vecs ys ∧ xs = x.v ∧ Gen (fun a : El p => a ∈ ys) x
theorem memP_iff {p : Pr} [hc : ConAll p] {ys : List (El p)} {x : El p} : MemP p (vecs ys) x.v ↔ Gen (fun a : El p => a ∈ ys) x := by
  constructor
  · rintro ⟨hc', ys', x', h1, h2, h3⟩
    obtain rfl := vecs_inj h1
    obtain rfl : x = x' := T.ext h2
    exact h3
  · exact fun h => ⟨hc, ys, x, rfl, rfl, h⟩
def MemV (p : Pr) (xss : List (List Int)) (xs : List Int) (b : Bool) (e : Int) : Prop := (b = true ↔ MemP p xss xs) ∧ e = 0
theorem MemV.uniq {p : Pr} {xss : List (List Int)} {xs : List Int} (a b : Bool) (c d : Int) (h : MemV p xss xs a c) (k : MemV p xss xs b d) : a = b ∧ c = d := ⟨bool_eq h.1 k.1, by rw [h.2, k.2]⟩
def SubV (p : Pr) (xss yss : List (List Int)) (b : Bool) (e : Int) : Prop := (b = true ↔ ∀ x, x ∈ xss → MemP p yss x) ∧ e = 0
theorem SubV.uniq {p : Pr} {xss yss : List (List Int)} (a b : Bool) (c d : Int) (h : SubV p xss yss a c) (k : SubV p xss yss b d) : a = b ∧ c = d := ⟨bool_eq h.1 k.1, by rw [h.2, k.2]⟩
theorem subV_iff {p : Pr} [hc : ConAll p] {ys zs : List (El p)} : (∀ x, x ∈ vecs ys → MemP p (vecs zs) x) ↔ ∀ y, y ∈ ys → Gen (fun a : El p => a ∈ zs) y := by
  constructor
  · exact fun h y hy => memP_iff.1 (h y.v (List.mem_map.2 ⟨y, hy, rfl⟩))
  · intro h x hx
    obtain ⟨y, hy, rfl⟩ := List.mem_map.1 hx
    exact memP_iff.2 (h y hy)
/-- Two lists are both sequences of subgroups. -/
def TwoP (p : Pr) (xss yss : List (List Int)) : Prop := IsSubP p xss ∧ IsSubP p yss
end Go.Proofs.Ytgomfjhhfmhlgaa

/-
  Answers that are lists: representatives, subgroups.
  Conditions: none.
-/
namespace Go.Proofs.Ytgomfjhhfmhlgaa
open Go Go.Pc
def RepV (p : Pr) (xss : List (List Int)) (xs r : List Int) (e : Int) : Prop := (∃ (_ : ConAll p) (ys : List (El p)) (x y : El p), xss = vecs ys ∧ xs = x.v ∧ r = y.v ∧ RepOf ys x y) ∧ e = 0
theorem RepV.uniq {p : Pr} {xss : List (List Int)} {xs : List Int} (hS : IsSubP p xss) (a b : List Int) (c d : Int) (h : RepV p xss xs a c) (k : RepV p xss xs b d) : a = b ∧ c = d := by
  obtain ⟨⟨hc, ys, x, y, h1, h2, h3, h4⟩, h5⟩ := h
  obtain ⟨⟨hc', ys', x', y', k1, k2, k3, k4⟩, k5⟩ := k
  obtain ⟨hG, hq⟩ := hS
  haveI : ConAll p := ⟨hG.con⟩
  obtain ⟨zs, hzs, hse⟩ := isSeq_iff.1 hq
  obtain rfl : ys = zs := vecs_inj (h1.symm.trans hzs)
  obtain rfl : ys' = ys := vecs_inj (k1.symm.trans hzs)
  obtain rfl : x = x' := T.ext (h2.symm.trans k2)
  exact ⟨by rw [h3, k3, RepOf.unique hse h4 k4], by rw [h5, k5]⟩
theorem el_len {p : Pr} (y : El p) : y.v.length = p.ord.length := y.inr.len
theorem CosetRepresentative_sz0 {p : Pr} {xss : List (List Int)} {xs r : List Int} {e : Int} (hl : p.ord.length ≤ 2000000) (h : Ans (IsSubP p xss ∧ InR p xs) (RepV p xss xs) [] r e) : r.length ≤ 2000000 := by
  rcases h with ⟨_, ⟨_, _, _, y, _, _, rfl, _⟩, _⟩ | ⟨_, rfl, _⟩
  · have := el_len y; omega
  · simp
end Go.Proofs.Ytgomfjhhfmhlgaa

/-
  Canonical sequences of subgroups: they generate the subgroup, their lengths tell the subgroups apart; closures under conjugation.
  Conditions: the tails at all levels are groups.
-/
namespace Go.Proofs.Ytgomfjhhfmhlgaa
open Go Go.Pc Grp
section
variable {p : Pr} [hc : ConAll p] {H K : El p → Prop} {d : Nat}
theorem sub_le_of_dep (hH : Pc.Sub H) (hK : Pc.Sub K) (hle : ∀ a, H a → K a) (hd : ∀ d, Dep K d → Dep H d) : ∀ a, K a → H a := by
  have key : ∀ m d, d ≤ p.n → p.n - d = m → ∀ x, K x → Tl d x → H x := by
    intro m
    induction m with
    | zero =>
      intro d h1 h2 x hx ht
      obtain rfl : d = p.n := by omega
      rw [ht.end_]; exact hH.one
    | succ m ih =>
      intro d h1 h2 x hx ht
      by_cases h0 : co x d = 0
      · exact ih (d + 1) (by omega) (by omega) x hx (ht.succ h0)
      · have hdn : d < p.n := by omega
        obtain ⟨z, hz, hzt, hz1⟩ := dep_one hH (hd d ⟨x, hx, ht, h0⟩)
        have h3 := ih (d + 1) (by omega) (by omega) (x * Grp.pwz z (-(co x d))) (hK.mul _ _ hx (hK.pwz (hle z hz) _)) (strip_step hdn ht hzt hz1)
        exact (hH.right (hH.pwz hz _)).1 h3
  exact fun a ha => key p.n 0 (Nat.zero_le _) (by omega) a ha (Tl.zero a)
theorem canEls_mem {x : El p} : x ∈ canEls H ↔ ∃ d, d < p.n ∧ canT H d = some x := by
  rw [← canElsF_zero, canElsF_mem]
  exact ⟨fun ⟨e, _, h2, h3⟩ => ⟨e, h2, h3⟩, fun ⟨e, h2, h3⟩ => ⟨e, Nat.zero_le _, h2, h3⟩⟩
theorem gen_can (hH : Pc.Sub H) (a : El p) : Gen (fun a : El p => a ∈ canEls H) a ↔ H a := by
  have h1 : ∀ a, Gen (fun a : El p => a ∈ canEls H) a → H a := Gen.le hH fun a ha => by
    obtain ⟨d, _, h⟩ := canEls_mem.1 ha
    exact (canT_some h).mem
  refine ⟨h1 a, sub_le_of_dep (Gen.sub _) hH h1 (fun d hd => ?_) a⟩
  obtain ⟨x, hx⟩ := canT_ex hH hd
  have hca := canT_some hx
  exact ⟨x, .of _ (canEls_mem.2 ⟨d, hd.lt, hx⟩), hca.tl, by rw [hca.lead]; omega⟩
theorem gen_can_eq (hH : Pc.Sub H) : Gen (fun a : El p => a ∈ canEls H) = H := by
  funext a; exact propext (gen_can hH a)
theorem seqEl_can (hH : Pc.Sub H) : SeqEl (canEls H) := ⟨by rw [gen_can_eq hH, canon_vecs]⟩
theorem SeqEl.els {ys : List (El p)} (h : SeqEl ys) : canEls (Gen (fun a : El p => a ∈ ys)) = ys := by
  have := h.eq
  rw [canElsF_zero] at this
  exact this.symm
theorem canT_isSome (hH : Pc.Sub H) : (canT H d).isSome = true ↔ Dep H d := by
  constructor
  · intro h
    cases e : canT H d with
    | none => rw [e] at h; cases h
    | some x => exact (canT_some e).dep
  · intro h
    obtain ⟨x, hx⟩ := canT_ex hH h
    rw [hx]; rfl
theorem canEls_len : (canEls H).length = (List.range p.n).countP fun d => (canT H d).isSome := by
  unfold canEls
  rw [List.length_filterMap_eq_countP]
theorem countP_le_of {α : Type} {f g : α → Bool} : ∀ l : List α, (∀ x, x ∈ l → f x = true → g x = true) → l.countP f ≤ l.countP g
  | [], _ => Nat.le_refl _
  | x :: l, h => by
    have ih := countP_le_of l fun y hy => h y (List.mem_cons_of_mem _ hy)
    have h0 := h x List.mem_cons_self
    simp only [List.countP_cons]
    by_cases hf : f x = true
    · rw [if_pos hf, if_pos (h0 hf)]; omega
    · rw [if_neg hf]; omega
theorem countP_lt_of {α : Type} {f g : α → Bool} : ∀ l : List α, (∀ x, x ∈ l → f x = true → g x = true) → (∃ x, x ∈ l ∧ g x = true ∧ f x = false) → l.countP f < l.countP g
  | [], _, ⟨x, hx, _⟩ => by cases hx
  | x :: l, h, ⟨y, hy, hg, hf⟩ => by
    have hr : ∀ y, y ∈ l → f y = true → g y = true := fun y hy => h y (List.mem_cons_of_mem _ hy)
    have h0 := h x List.mem_cons_self
    simp only [List.countP_cons]
    rcases List.mem_cons.1 hy with rfl | hy
    · have := countP_le_of l hr
      rw [hg, hf]; simp; omega
    · have ih := countP_lt_of l hr ⟨y, hy, hg, hf⟩
      by_cases hfx : f x = true
      · rw [if_pos hfx, if_pos (h0 hfx)]; omega
      · rw [if_neg hfx]; omega
theorem can_len_le (hH : Pc.Sub H) (hK : Pc.Sub K) (hle : ∀ a, H a → K a) : (canEls H).length ≤ (canEls K).length := by
  rw [canEls_len, canEls_len]
  refine countP_le_of _ fun d _ h => ?_
  obtain ⟨x, h1, h2, h3⟩ := (canT_isSome hH).1 h
  exact (canT_isSome hK).2 ⟨x, hle x h1, h2, h3⟩
theorem same_of_len (hH : Pc.Sub H) (hK : Pc.Sub K) (hle : ∀ a, H a → K a) (hl : (canEls K).length ≤ (canEls H).length) : ∀ a, K a → H a := by
  refine sub_le_of_dep hH hK hle fun d hd => ?_
  by_cases hn : Dep H d
  · exact hn
  exfalso
  rw [canEls_len, canEls_len] at hl
  have := countP_lt_of (f := fun d => (canT H d).isSome) (g := fun d => (canT K d).isSome) (List.range p.n) (fun e _ h => by
    obtain ⟨x, h1, h2, h3⟩ := (canT_isSome hH).1 h
    exact (canT_isSome hK).2 ⟨x, hle x h1, h2, h3⟩) ⟨d, List.mem_range.2 hd.lt, (canT_isSome hK).2 hd, by
      cases e : (canT H d).isSome with
      | false => rfl
      | true => exact absurd ((canT_isSome hH).1 e) hn⟩
  omega
/-- The smallest subgroup that contains S and is closed under conjugation by the elements of B. -/
inductive Clo {G : Type} [Grp G] (S B : G → Prop) : G → Prop
  | of (a : G) : S a → Clo S B a
  | one : Clo S B 1
  | mul (a b : G) : Clo S B a → Clo S B b → Clo S B (a * b)
  | inv (a : G) : Clo S B a → Clo S B a⁻¹
  | cj (a b : G) : Clo S B a → B b → Clo S B (Grp.cj a b)
theorem Clo.sub {G : Type} [Grp G] (S B : G → Prop) : Pc.Sub (Clo S B) := ⟨.one, fun _ _ => .mul _ _, fun _ => .inv _⟩
theorem Clo.le {G : Type} [Grp G] {S B K : G → Prop} (hK : Pc.Sub K) (h : ∀ a, S a → K a) (hcj : ∀ a b, K a → B b → K (Grp.cj a b)) : ∀ a, Clo S B a → K a := by
  intro a ha
  induction ha with
  | of a ha => exact h a ha
  | one => exact hK.one
  | mul a b _ _ i1 i2 => exact hK.mul _ _ i1 i2
  | inv a _ i1 => exact hK.inv _ i1
  | cj a b _ hb i1 => exact hcj _ _ i1 hb
/-- What conjugation does to the elements of a set it does to the subgroup. -/
theorem Gen.cj_closed {G : Type} [Grp G] {S K : G → Prop} {b : G} (hK : Pc.Sub K) (h : ∀ a, S a → K (Grp.cj a b)) : ∀ a, Gen S a → K (Grp.cj a b) := by
  intro a ha
  induction ha with
  | of a ha => exact h a ha
  | one => rw [Grp.cj_one]; exact hK.one
  | mul a b _ _ i1 i2 => rw [Grp.cj_mul]; exact hK.mul _ _ i1 i2
  | inv a _ i1 => rw [Grp.cj_inv]; exact hK.inv _ i1
theorem gen_eq_clo {S B : El p → Prop} (h : ∀ a b, S a → B b → Gen S (Grp.cj a b)) : Clo S B = Gen S := by
  funext a
  refine propext ⟨Clo.le (Gen.sub S) (fun a ha => .of a ha) (fun a b ha hb => Gen.cj_closed (Gen.sub S) (fun a ha => h a b ha hb) a ha) a, Gen.le (Clo.sub S B) (fun a ha => .of a ha) a⟩
/-- The closure is the same for whatever generates the same subgroup. -/
theorem clo_congr {S S' B : El p → Prop} (h : ∀ a, S a → Gen S' a) (h' : ∀ a, S' a → Gen S a) : Clo S B = Clo S' B := by
  have key : ∀ {S S' : El p → Prop}, (∀ a, S a → Gen S' a) → ∀ a, Clo S B a → Clo S' B a := fun {S S'} h =>
    Clo.le (Clo.sub S' B) (fun a ha => Gen.le (Clo.sub S' B) (fun b hb => .of b hb) a (h a ha)) fun a b ha hb => .cj a b ha hb
  funext a
  exact propext ⟨key h a, key h' a⟩
theorem clo_can {S B : El p → Prop} : Clo (fun a : El p => a ∈ canEls (Gen S)) B = Clo S B := by
  refine clo_congr (fun a ha => ?_) (fun a ha => ?_)
  · obtain ⟨d, _, hd⟩ := canEls_mem.1 ha
    exact (canT_some hd).mem
  · rw [gen_can_eq (Gen.sub S)]; exact .of a ha
/-- The commutators of two lists. -/
noncomputable def commsL2 (ys zs : List (El p)) : List (El p) := ys.flatMap fun y => zs.map (Grp.cm y)
noncomputable def CommC (ys zs : List (El p)) : El p → Prop := Clo (fun a : El p => a ∈ commsL2 ys zs) (fun a : El p => a ∈ ys ++ zs)
theorem commsL2_succ {ys zs : List (El p)} {i : Nat} (hi : i < ys.length) : commsL2 (ys.take (i + 1)) zs = commsL2 (ys.take i) zs ++ zs.map (Grp.cm ys[i]) := by
  unfold commsL2
  rw [List.take_succ_eq_append_getElem hi, List.flatMap_append]
  simp
end
end Go.Proofs.Ytgomfjhhfmhlgaa

/-
  Walks: the reference's depth, order, table, reduction, representative and membership (l02Lead, l12Depth, l12Order).
  Conditions: stated at each theorem.
-/
namespace Go.Proofs.Ytgomfjhhfmhlgaa
open Go Go.Pc
set_option maxHeartbeats 400000 in
theorem l02Lead_ok {w : World} {v : Value} {xs : List Int} {lo hi : Nat} [hx : Ints lo hi w v xs] (hl : xs.length ≤ 2000000) :
    Calls Try.prog 163 #[v] w (Ret fun v w' => v = .int .i64 (lead xs) ∧ Ext w w') := by
  refine enter (args := [v]) (l := [.tmp 2]) Try.func163 rfl rfl Try.ntmps163 (by simp) ?_
  refine go ?_
  refine r_for xs.length (fun k ρ w' => Has ρ [(0, v), (3, .int .i64 k)] ∧ Ext w w' ∧ ∀ i, i < k → xs.getD i 0 = 0) ?_ ?_
  · refine ⟨?_, Ext.refl _, fun i hi => by omega⟩
    exact hasP
  rintro k ρ w2 hk ⟨hH, he2, hI⟩
  refine rwp_has hH fun ρ0 => ?_
  refine go ?_
  refine c_if (fun h4 => ?_) (fun h4 => ?_)
  · refine go ?_
    refine c_if (fun h5 => ?_) (fun h5 => ?_)
    · refine go ?_
      exact ret1 ⟨by rw [lead_eq hI h5], he2⟩
    · refine go ?_
      refine forQ_normal (by omega) ⟨?_, he2, fun i hi => ?_⟩
      · exact hasP
      · by_cases e : i = k
        · subst e; exact Decidable.not_not.1 h5
        · exact hI i (by omega)
  · refine go ?_
    exact ret1 ⟨by rw [lead_len fun i hi => hI i (by omega)], he2⟩
theorem l12Depth_ok {w : World} {v : Value} {xs : List Int} {lo hi : Nat} [hx : Ints lo hi w v xs] (hl : xs.length ≤ 2000000) :
    Calls Try.prog 120 #[v] w (Ret fun v w' => v = .int .i64 (lead xs) ∧ Ext w w') := by
  refine enter (args := [v]) (l := [.tmp 2]) Try.func120 rfl rfl Try.ntmps120 (by simp) ?_
  refine go ?_
  refine rc (l02Lead_ok (xs := xs) hl) (next := fun v1 w1 h1 => ?_)
  obtain ⟨rfl, he1⟩ := h1
  refine go ?_
  exact ret1 ⟨rfl, he1⟩
set_option maxHeartbeats 1000000 in
theorem l12Order_ok {p : Pr} [hc : ConAll p] {ys : List (El p)} (hs : SeqEl ys) {w : World} {vp vu : Value} {us : List Value} {xss : List (List Int)} {lo hi lo1 hi1 : Nat} [hp : Pres lo hi w vp p] [hu : Pc.Rows lo1 hi1 w vu us xss] (hus : xss = vecs ys) :
    Calls Try.prog 79 #[vp, vu] w (Ret fun v w' => v = .int .i64 (ordOf p ys) ∧ Ext w w') := by
  subst hus
  have hv := hc.valid
  have hn6 := hv.n6
  have hol : p.ord.length = p.n := rfl
  have hlen := hs.len
  have hvl : (vecs ys).length = ys.length := by simp
  obtain ⟨vo, vpw, vc, ps, cs, css, rfl, h1, h2, h3⟩ := hp.ex
  refine enter (args := [.agg #[vo, vpw, vc], vu]) (l := [.tmp 4]) Try.func79 rfl rfl Try.ntmps79 (by simp) ?_
  refine go ?_
  refine st_box3 (by ((try simp only [ev_tmp, ev_const, ev_func, get_put, get_args, get_putL, get_putL_nil, Nat.reduceEqDiff, reduceIte, List.getD_cons_zero, List.getD_cons_succ, List.getD_nil]); first | done | with_reducible rfl)) (by first | exact True.intro | exact ⟨_, rfl, by ((try simp only [ev_tmp, ev_const, ev_func, get_put, get_args, get_putL, get_putL_nil, Nat.reduceEqDiff, reduceIte, List.getD_cons_zero, List.getD_cons_succ, List.getD_nil, Bool.not_true, Bool.not_false]); first | done | with_reducible rfl)⟩) fun w1 b he1 hb1 hs1 hc0 hc1 hc2 => ?_
  refine go ?_
  refine r_for ys.length (fun k ρ w' => Has ρ [(1, vu), (2, .pointer (some ⟨b, 0, none⟩)), (5, .int .i64 (ordOf p (ys.take k))), (6, .int .i64 k)] ∧ Ext w1 w') ?_ ?_
  · refine ⟨?_, Ext.refl _⟩
    exact hasP
  rintro k ρ w2 hk ⟨hH, he2⟩
  refine rwp_has hH fun ρ0 => ?_
  refine go ?_
  refine c_if (fun h4 => ?_) (fun h4 => ?_)
  · have hkn : k < ys.length := by omega
    have hg := vecs_getD ys hkn
    have hgl : ((vecs ys).getD k []).length = p.n := by rw [hg]; exact (ys[k]).inr.len
    obtain ⟨hdn, hy1⟩ := hs.ok.lead1 _ (List.getElem_mem hkn)
    obtain ⟨d, hd⟩ : ∃ d, lead (ys[k]).v = d := ⟨_, rfl⟩
    rw [hd] at hdn
    have hod := hv.opos hdn
    have hr := ordOf_rng (k := k) (by omega) (by omega) fun y hy => (hs.ok.lead1 y hy).1
    have hm : 0 ≤ ordOf p (ys.take k) * p.o d ∧ ordOf p (ys.take k) * p.o d ≤ 117649 * 7 := ⟨Int.mul_nonneg (by omega) (by omega), Int.mul_le_mul hr.2 hod.2 (by omega) (by omega)⟩
    have hmb : -9223372036854775808 ≤ ordOf p (ys.take k) * p.o d ∧ ordOf p (ys.take k) * p.o d ≤ 9223372036854775807 := ⟨by omega, by omega⟩
    refine go ?_
    refine d_region fun w4 he4 _ => ?_
    refine dgo ?_
    refine dce (l12Depth_ok (xs := (vecs ys).getD k []) ?_) (next := fun v5 w5 h7 => ?_)
    · omega
    obtain ⟨rfl, he5⟩ := h7
    rw [hg, hd]
    refine dgo ?_
    rw [show p.ord.getD d 0 = p.o d from rfl]
    refine da (h := rs_mul (by ((try simp only [ev_tmp, ev_const, ev_func, get_put, get_args, get_putL, get_putL_nil, Nat.reduceEqDiff, reduceIte, List.getD_cons_zero, List.getD_cons_succ, List.getD_nil]); first | done | with_reducible rfl)) (by ((try simp only [ev_tmp, ev_const, ev_func, get_put, get_args, get_putL, get_putL_nil, Nat.reduceEqDiff, reduceIte, List.getD_cons_zero, List.getD_cons_succ, List.getD_nil]); first | done | with_reducible rfl)) hmb) (next := ?_)
    refine dgo ?_
    refine d_end (h := ?_)
    refine go ?_
    refine forQ_normal (by omega) ⟨?_, (he2.trans he4).trans he5⟩
    have ht := ordOf_take ys hkn
    rw [hd] at ht
    rw [ht]
    exact hasP
  · refine go ?_
    rw [show k = ys.length by omega, List.take_length]
    exact ret1 ⟨rfl, he1.trans he2⟩
/-- The order of a list that is a sequence. -/
def ordOfL (p : Pr) (xss : List (List Int)) : Int := xss.foldl (fun a x => a * p.o (lead x)) 1
theorem ordOfL_vecs {p : Pr} (ys : List (El p)) : ordOfL p (vecs ys) = ordOf p ys := by
  unfold ordOfL ordOf vecs
  rw [List.foldl_map]
/-- The answer of SubgroupOrder. -/
def OrdAns (p : Pr) (xss : List (List Int)) (k e : Int) : Prop := (IsSubP p xss ∧ k = ordOfL p xss ∧ e = 0) ∨ (¬ IsSubP p xss ∧ k = 0 ∧ e = 1)
theorem OrdAns.same {p : Pr} {xss : List (List Int)} {k e k' e' : Int} (h : OrdAns p xss k e) (h' : OrdAns p xss k' e') : k' = k ∧ e' = e := by
  rcases h with ⟨h1, h2, h3⟩ | ⟨h1, h2, h3⟩ <;> rcases h' with ⟨k1, k2, k3⟩ | ⟨k1, k2, k3⟩
  · exact ⟨by rw [h2, k2], by rw [h3, k3]⟩
  · exact absurd h1 k1
  · exact absurd k1 h1
  · exact ⟨by rw [h2, k2], by rw [h3, k3]⟩
end Go.Proofs.Ytgomfjhhfmhlgaa

/-
  Walk: the reference's copy of a list of lists, as the call's own (l01Own2).
  Conditions: stated at the theorem.
-/
namespace Go.Proofs.Ytgomfjhhfmhlgaa
open Go Go.Pc
set_option maxHeartbeats 1000000 in
theorem l01Own2G_ok {w : World} {va : Value} {us : List Value} {xss : List (List Int)} {lo hi : Nat} [hx : Pc.Rows lo hi w va us xss] (hm : ∀ i, (xss.getD i []).length ≤ 2000000) (hl : xss.length ≤ 1000000) :
    Calls Try.prog 137 #[va] w (Ret fun v w' => Ext w w' ∧ ∃ rs, GrowL 22 w.heap.size w' v rs ∧ rs.map (·.2) = xss) := by
  have hul := hx.vals.len
  refine enter (args := [va]) (l := [.tmp 2]) Try.func137 rfl rfl Try.ntmps137 (by simp) ?_
  refine go ?_
  refine st_slice0 (by first | exact True.intro | exact ⟨_, rfl, by ((try simp only [ev_tmp, ev_const, ev_func, get_put, get_args, get_putL, get_putL_nil, Nat.reduceEqDiff, reduceIte, List.getD_cons_zero, List.getD_cons_succ, List.getD_nil, Bool.not_true, Bool.not_false]); first | done | with_reducible rfl)⟩) fun w1 v1 he1 hs1 ho1 => ?_
  refine go ?_
  refine r_for xss.length (fun k ρ w' => ∃ v' rs, Has ρ [(0, va), (3, v'), (4, .int .i64 k)] ∧ Ext w w' ∧ GrowL 22 w.heap.size w' v' rs ∧ rs.map (·.2) = xss.take k) ?_ ?_
  · refine ⟨v1, [], ?_, he1, GrowL.start ho1 (Nat.le_refl _), by simp⟩
    exact hasP
  rintro k ρ w2 hk ⟨v2, rs, hH, he2, hG, hrs⟩
  refine rwp_has hH fun ρ0 => ?_
  have hrl : rs.length = k := by have := congrArg List.length hrs; simp at this; omega
  refine go ?_
  refine c_if (fun h4 => ?_) (fun h4 => ?_)
  · refine go ?_
    refine rc (l01Own_ok (xs := xss.getD k []) (hm k)) (next := fun v3 w3 h3 => ?_)
    obtain ⟨he3, hf3⟩ := h3
    refine go ?_
    refine st_grow hG he3 hf3 he2.size (by omega) (next := fun v4 v5 w5 hG5 hx5 hz5 hgs5 => ?_)
    refine go ?_
    refine forQ_normal (by omega) ⟨v5, _, ?_, hx5 w (he2.trans he3) (Nat.le_refl _), hG5, ?_⟩
    · exact hasP
    · rw [List.take_succ_eq_append_getElem (by omega), List.map_append, hrs]
      simp [show k < xss.length by omega]
  · refine go ?_
    rw [show k = xss.length by omega, List.take_length] at hrs
    exact ret1 ⟨he2, rs, hG, hrs⟩
end Go.Proofs.Ytgomfjhhfmhlgaa

/-
  Walks: the reference's table, reduction, representative and membership (l12Table, l12Reduce, l12Sift, l12Has).
  Conditions: the tails at all levels are groups; the list is a sequence.
-/
namespace Go.Proofs.Ytgomfjhhfmhlgaa
open Go Go.Pc
set_option maxHeartbeats 1000000 in
/-- A reduction keeps the coset, and clears the places of the table's entries. -/
theorem l12Reduce_ok {p : Pr} [hc : ConAll p] {t : Tab p} (hT : TabOk t) {w : World} {vp vt vx : Value} {us : List Value} {x : El p} {xs : List Int} {lo hi lo1 hi1 lo2 hi2 : Nat} [hp : Pres lo hi w vp p] [ht : Pc.Rows lo1 hi1 w vt us (tabL t)] [hx : Ints lo2 hi2 w vx xs] (hxe : xs = x.v) :
    Calls Try.prog 185 #[vp, vt, vx] w (Ret fun v w' => Ext w w' ∧ ∃ r : El p, Fr w.heap.size w' v r.v ∧ (∀ H : El p → Prop, Pc.Sub H → (∀ d y, t d = some y → H y) → H (x⁻¹ * r)) ∧ (∀ d, t d ≠ none → co r d = 0) ∧ ∀ e, (∀ d, t d ≠ none → e < d) → co r e = co x e) := by
  subst hxe
  have hv := hc.valid
  have hn6 := hv.n6
  have htl := tabL_len t
  have hxl := x.inr.len
  obtain ⟨vo, vpw, vc, ps, cs, css, rfl, h1, h2, h3⟩ := hp.ex
  refine enter (args := [.agg #[vo, vpw, vc], vt, vx]) (l := [.tmp 6]) Try.func185 rfl rfl Try.ntmps185 (by simp) ?_
  refine go ?_
  refine st_box3 (by ((try simp only [ev_tmp, ev_const, ev_func, get_put, get_args, get_putL, get_putL_nil, Nat.reduceEqDiff, reduceIte, List.getD_cons_zero, List.getD_cons_succ, List.getD_nil]); first | done | with_reducible rfl)) (by first | exact True.intro | exact ⟨_, rfl, by ((try simp only [ev_tmp, ev_const, ev_func, get_put, get_args, get_putL, get_putL_nil, Nat.reduceEqDiff, reduceIte, List.getD_cons_zero, List.getD_cons_succ, List.getD_nil, Bool.not_true, Bool.not_false]); first | done | with_reducible rfl)⟩) fun w1 b he1 hb1 hs1 hc0 hc1 hc2 => ?_
  refine go ?_
  refine rc (l01Own_ok (xs := x.v) ?_) (next := fun v2 w2 h2 => ?_)
  · omega
  obtain ⟨he2, hf2⟩ := h2
  refine go ?_
  refine r_for p.n (fun k ρ w' => ∃ vr r, Has ρ [(1, vt), (3, .pointer (some ⟨b, 0, none⟩)), (7, vr), (8, .int .i64 k)] ∧ Ext w1 w' ∧ Fr w.heap.size w' vr (T.v (p := p) (i := 0) r) ∧
    (∀ H : El p → Prop, Pc.Sub H → (∀ d y, t d = some y → H y) → H (x⁻¹ * r)) ∧ (∀ d, d < k → t d ≠ none → co r d = 0) ∧ ∀ e, (∀ d, t d ≠ none → e < d) → co r e = co x e) ?_ ?_
  · refine ⟨v2, x, ?_, he2, hf2.mono he1.size, fun H hH _ => by rw [Grp.inv_mul]; exact hH.one, fun d hd => by omega, fun e _ => rfl⟩
    exact hasP
  rintro k ρ w3 hk ⟨vr, r, hH, he3, hf3, hm, hz, hlow⟩
  refine rwp_has hH fun ρ0 => ?_
  have hrl := r.inr.len
  refine go ?_
  refine c_if (fun h4 => ?_) (fun h4 => ?_)
  · have hkn : k < p.n := by omega
    have hrk := r.inr.rng k hkn
    have hok := hv.opos hkn
    have hrow : ((tabL t).getD k []).length = 0 ↔ t k = none := by rw [tabL_at t hkn]; exact rowOf_len hkn
    refine go ?_
    refine spd (fun h5 => ?_) (fun h5 => ?_)
    · refine go ?_
      refine c_if (fun h6 => ?_) (fun h6 => ?_)
      · obtain ⟨y, hy⟩ : ∃ y, t k = some y := by
          cases e : t k with
          | none => exact absurd (hrow.2 e) (by omega)
          | some y => exact ⟨y, rfl⟩
        have hye : (tabL t).getD k [] = y.v := by rw [tabL_at t hkn, rowOf_some hy]
        refine go ?_
        refine d_region fun w4 he4 _ => ?_
        refine dgo ?_
        refine dc (l10Pow_ok (p := p) (x := y) hye ?_) (next := fun v5 w5 h7 => ?_)
        · omega
        obtain ⟨he5, hf5⟩ := h7
        refine ⟨fun h => h.trans he5, ?_⟩
        refine dc (l08Mul_ok (p := p) (x := r) (y := Grp.pwz y (-(r.v.getD k 0))) rfl rfl) (next := fun v6 w6 h8 => ?_)
        obtain ⟨he6, hf6⟩ := h8
        refine ⟨fun h => h.trans he6, ?_⟩
        refine dgo ?_
        refine d_end (h := ?_)
        refine go ?_
        have hyt := hT.tl k y hy
        have hyl := hT.lead k y hy
        have hzt := hyt.pwz (by omega) (-(co r k))
        have hE := (he3.trans he4).trans he5
        have hsz := he1.size
        have hsz2 := hE.size
        refine forQ_normal (by omega) ⟨v6, r * Grp.pwz y (-(co r k)), ?_, hE.trans he6, hf6.mono (by omega), fun H hH hy' => ?_, fun d hd hne => ?_, fun e he => ?_⟩
        · exact hasP
        · rw [← Grp.mul_assoc]
          exact hH.mul _ _ (hm H hH hy') (hH.pwz (hy' k y hy) _)
        · by_cases e : d = k
          · subst e
            rw [co_at _ hkn hzt, co_pwz hkn hyt, hyl, Int.mul_one, Int.add_emod_emod, Int.add_right_neg, Int.zero_emod]
          · rw [co_low _ hkn hzt (by omega)]; exact hz d (by omega) hne
        · rw [co_low _ hkn hzt (he k (by rw [hy]; simp))]; exact hlow e he
      · refine go ?_
        refine forQ_normal (by omega) ⟨vr, r, ?_, he3, hf3, hm, fun d hd hne => ?_, hlow⟩
        · exact hasP
        · by_cases e : d = k
          · subst e; exact Decidable.not_not.1 h6
          · exact hz d (by omega) hne
    · refine go ?_
      refine forQ_normal (by omega) ⟨vr, r, ?_, he3, hf3, hm, fun d hd hne => ?_, hlow⟩
      · exact hasP
      · by_cases e : d = k
        · subst e; exact absurd (hrow.1 (by omega)) hne
        · exact hz d (by omega) hne
  · refine go ?_
    refine ret1 ⟨he1.trans he3, r, hf3, hm, fun d hne => hz d ?_ hne, hlow⟩
    cases e : t d with
    | none => exact absurd e hne
    | some y => have := hT.lt d y e; omega
end Go.Proofs.Ytgomfjhhfmhlgaa

/-
  Walks: the reference's table, representative and membership (l12Table, l12Sift, l12Has, l12Within).
  Conditions: the tails at all levels are groups; the list is a sequence.
-/
namespace Go.Proofs.Ytgomfjhhfmhlgaa
open Go Go.Pc
set_option maxHeartbeats 400000 in
theorem l01Zero_ok {w : World} {v : Value} {xs : List Int} {lo hi : Nat} [hx : Ints lo hi w v xs] (hl : xs.length ≤ 2000000) :
    Calls Try.prog 156 #[v] w (Ret fun v w' => ∃ b, v = .bool b ∧ (b = true ↔ ∀ i, i < xs.length → xs.getD i 0 = 0) ∧ Ext w w') := by
  refine enter (args := [v]) (l := [.tmp 2]) Try.func156 rfl rfl Try.ntmps156 (by simp) ?_
  refine go ?_
  refine r_for xs.length (fun k ρ w' => Has ρ [(0, v), (3, .int .i64 k)] ∧ Ext w w' ∧ ∀ i, i < k → xs.getD i 0 = 0) ?_ ?_
  · refine ⟨?_, Ext.refl _, fun i hi => by omega⟩
    exact hasP
  rintro k ρ w2 hk ⟨hH, he2, hI⟩
  refine rwp_has hH fun ρ0 => ?_
  refine go ?_
  refine c_if (fun h4 => ?_) (fun h4 => ?_)
  · refine go ?_
    refine c_if (fun h5 => ?_) (fun h5 => ?_)
    · refine go ?_
      refine ret1 ⟨_, rfl, ?_, he2⟩
      simp only [Bool.false_eq_true, false_iff]
      exact fun h => h5 (h k (by omega))
    · refine go ?_
      refine forQ_normal (by omega) ⟨?_, he2, fun i hi => ?_⟩
      · exact hasP
      · by_cases e : i = k
        · subst e; exact Decidable.not_not.1 h5
        · exact hI i (by omega)
  · refine go ?_
    refine ret1 ⟨_, rfl, ?_, he2⟩
    simp only [true_iff]
    exact fun i hi => hI i (by omega)
set_option maxHeartbeats 1000000 in
/-- The table of a sequence. -/
theorem l12Table_ok {p : Pr} [hc : ConAll p] (hv : Valid p) {ys : List (El p)} (hs : SeqOk ys) {w : World} {vp vu : Value} {us : List Value} {xss : List (List Int)} {lo hi lo1 hi1 : Nat} [hp : Pres lo hi w vp p] [hu : Pc.Rows lo1 hi1 w vu us xss] (hus : xss = vecs ys) :
    Calls Try.prog 186 #[vp, vu] w (Ret fun v w' => Ext w w' ∧ ∃ us', Pc.Rows 0 w'.heap.size w' v us' (tabL (tabOf ys))) := by
  subst hus
  have hn6 := hv.n6
  have hol : p.ord.length = p.n := rfl
  have hvl : (vecs ys).length = ys.length := by simp
  have hul := hu.vals.len
  have hul2 := hu.sl.le_max
  replace hu := hu.wide
  obtain ⟨vo, vpw, vc, ps, cs, css, rfl, h1, h2, h3⟩ := hp.ex
  refine enter (args := [.agg #[vo, vpw, vc], vu]) (l := [.tmp 4]) Try.func186 rfl rfl Try.ntmps186 (by simp) ?_
  refine go ?_
  refine st_box3 (by ((try simp only [ev_tmp, ev_const, ev_func, get_put, get_args, get_putL, get_putL_nil, Nat.reduceEqDiff, reduceIte, List.getD_cons_zero, List.getD_cons_succ, List.getD_nil]); first | done | with_reducible rfl)) (by first | exact True.intro | exact ⟨_, rfl, by ((try simp only [ev_tmp, ev_const, ev_func, get_put, get_args, get_putL, get_putL_nil, Nat.reduceEqDiff, reduceIte, List.getD_cons_zero, List.getD_cons_succ, List.getD_nil, Bool.not_true, Bool.not_false]); first | done | with_reducible rfl)⟩) fun w1 b he1 hb1 hs1 hc0 hc1 hc2 => ?_
  refine go ?_
  refine st_make_nil (by ((try simp only [ev_tmp, ev_const, ev_func, get_put, get_args, get_putL, get_putL_nil, Nat.reduceEqDiff, reduceIte, List.getD_cons_zero, List.getD_cons_succ, List.getD_nil]); first | done | with_reducible rfl)) (by ((try simp only [ev_tmp, ev_const, ev_func, get_put, get_args, get_putL, get_putL_nil, Nat.reduceEqDiff, reduceIte, List.getD_cons_zero, List.getD_cons_succ, List.getD_nil]); first | done | with_reducible rfl)) (by omega) (by omega) (by first | exact True.intro | exact ⟨_, rfl, by ((try simp only [ev_tmp, ev_const, ev_func, get_put, get_args, get_putL, get_putL_nil, Nat.reduceEqDiff, reduceIte, List.getD_cons_zero, List.getD_cons_succ, List.getD_nil, Bool.not_true, Bool.not_false]); first | done | with_reducible rfl)⟩) fun w2 v2 he2 hs2 ho2 => ?_
  have hE2 := he1.trans he2
  have hz1 := he1.size
  have hvb := ho2.toN_block
  have hL2 : Lst 22 w.heap.size (fun _ => False) w2 v2 _ _ := Lst.ofNils ho2 hz1 (fun h => h) (fun g h => h.elim)
  rw [hol, ← tabL_none] at hL2
  clear ho2
  have ap1 : Apart 0 w.heap.size w1.heap.size := ⟨.inr hz1⟩
  have ap2 : Apart b (b + 1) w1.heap.size := ⟨.inr (by omega)⟩
  refine go ?_
  refine r_for ys.length (fun k ρ w' => ∃ us', Has ρ [(1, vu), (2, .pointer (some ⟨b, 0, none⟩)), (5, v2), (6, .int .i64 k)] ∧ Ext w w' ∧ Lst 22 w.heap.size (fun _ => False) w' v2 us' (tabL (tabOf (ys.take k)))) ?_ ?_
  · refine ⟨_, ?_, hE2, by simpa [tabOf] using hL2⟩
    exact hasP
  clear hL2
  rintro k ρ w3 hk ⟨us3, hH, he3, hL3⟩
  refine rwp_has hH fun ρ0 => ?_
  have hz3 := he3.size
  refine go ?_
  refine c_if (fun h4 => ?_) (fun h4 => ?_)
  · have hkn : k < ys.length := by omega
    have hg := vecs_getD ys hkn
    have hgl : ((vecs ys).getD k []).length = p.n := by rw [hg]; exact (ys[k]).inr.len
    obtain ⟨hdn, hy1⟩ := hs.lead1 _ (List.getElem_mem hkn)
    obtain ⟨d, hd⟩ : ∃ d, lead (ys[k]).v = d := ⟨_, rfl⟩
    rw [hd] at hdn
    have htl := tabL_len (tabOf (ys.take k))
    have hul3 := hL3.len
    refine go ?_
    refine z_order w1.heap.size [0, 1, 2, 3, 4, 6, 7, 8, 9, 5, 10, 11] (h := fun w4 he4 _ => ?_)
    have hSl4 := ((hL3.ext he4).toOwn hvb).toSl
    have hlen4 := hSl4.toLen
    clear hSl4
    refine zgo ?_
    refine zc (l12Depth_ok (xs := (vecs ys).getD k []) ?_) (next := fun v5 w5 h7 => ?_)
    · omega
    obtain ⟨rfl, he5⟩ := h7
    rw [hg, hd]
    have hL5 := hL3.ext (he4.trans he5)
    have hO5 := hL5.toOwn hvb
    refine zgo ?_
    refine z_store_val (h := hO5) (hx := (by ((try simp only [ev_tmp, ev_const, ev_func, get_put, get_args, get_putL, get_putL_nil, Nat.reduceEqDiff, reduceIte, List.getD_cons_zero, List.getD_cons_succ, List.getD_nil]); first | done | with_reducible rfl))) (hy := (by ((try simp only [ev_tmp, ev_const, ev_func, get_put, get_args, get_putL, get_putL_nil, Nat.reduceEqDiff, reduceIte, List.getD_cons_zero, List.getD_cons_succ, List.getD_nil]); first | done | with_reducible rfl))) (hu := ?_) (hm := ?_) (next := fun w6 hc6 hs6 ho6 => ?_)
    · exact (hu.vals.at_ k).sl.one
    · omega
    refine z_end ?_
    refine go ?_
    have hu5 : IntsAp (fun g => False ∨ v2.ownBlock = some g) w5 (Pc.rowAt vu us k) ((vecs ys).getD k []) :=
      ((hu.ap (av := fun g => False ∨ v2.ownBlock = some g) (Nat.le_refl _) (fun g hg => by
        rcases hg with hg | hg
        · exact hg.elim
        · rw [hvb] at hg; injection hg with hg; exact .inr (by omega))).at_ k).ext ((he3.trans he4).trans he5)
    have hL6 := hL5.set hvb hu5 hc6 ho6 (by omega)
    have ht := tabOf_take ys hkn
    rw [hd] at ht
    have e : tabL (tabOf (ys.take (k + 1))) = (tabL (tabOf (ys.take k))).set d ((vecs ys).getD k []) := by rw [ht, tabL_set, hg]
    refine forQ_normal (by omega) ⟨_, ?_, hc6.ext ((he3.trans he4).trans he5) hz1, by rw [e]; exact hL6⟩
    exact hasP
  · refine go ?_
    obtain rfl : k = ys.length := by omega
    rw [List.take_length] at hL3
    exact ret1 ⟨he3, us3, hL3.toRows⟩
theorem tabOf_none {p : Pr} [ConAll p] {ys : List (El p)} {d : Nat} : tabOf ys d ≠ none → ∃ y, y ∈ ys ∧ lead y.v = d := fun h => by
  cases e : tabOf ys d with
  | none => exact absurd e h
  | some y => exact ⟨y, tabOf_some e⟩
set_option maxHeartbeats 1000000 in
theorem l12Sift_ok {p : Pr} [hc : ConAll p] {ys : List (El p)} (hs : SeqOk ys) {w : World} {vp vu vx : Value} {us : List Value} {xss : List (List Int)} {x : El p} {xs : List Int} {lo hi lo1 hi1 lo2 hi2 : Nat} [hp : Pres lo hi w vp p] [hu : Pc.Rows lo1 hi1 w vu us xss] [hx : Ints lo2 hi2 w vx xs] (hus : xss = vecs ys) (hxe : xs = x.v) :
    Calls Try.prog 157 #[vp, vu, vx] w (Ret fun v w' => Ext w w' ∧ ∃ r : El p, Fr w.heap.size w' v r.v ∧ RepOf ys x r) := by
  have hv := hc.valid
  obtain ⟨vo, vpw, vc, ps, cs, css, rfl, h1, h2, h3⟩ := hp.ex
  refine enter (args := [.agg #[vo, vpw, vc], vu, vx]) (l := [.tmp 6]) Try.func157 rfl rfl Try.ntmps157 (by simp) ?_
  refine go ?_
  refine st_box3 (by ((try simp only [ev_tmp, ev_const, ev_func, get_put, get_args, get_putL, get_putL_nil, Nat.reduceEqDiff, reduceIte, List.getD_cons_zero, List.getD_cons_succ, List.getD_nil]); first | done | with_reducible rfl)) (by first | exact True.intro | exact ⟨_, rfl, by ((try simp only [ev_tmp, ev_const, ev_func, get_put, get_args, get_putL, get_putL_nil, Nat.reduceEqDiff, reduceIte, List.getD_cons_zero, List.getD_cons_succ, List.getD_nil, Bool.not_true, Bool.not_false]); first | done | with_reducible rfl)⟩) fun w1 b he1 hb1 hs1 hc0 hc1 hc2 => ?_
  refine go ?_
  refine d_order [0, 1, 2, 4, 3, 5, 6] (h := fun w2 he2 _ => ?_)
  refine dgo ?_
  refine dce (l12Table_ok (p := p) hv hs hus) (next := fun v3 w3 h4 => ?_)
  obtain ⟨he3, us3, hR3⟩ := h4
  refine dgo ?_
  refine dce (l12Reduce_ok (p := p) (x := x) (tabOf_ok hs) hxe) (next := fun v4 w4 h5 => ?_)
  obtain ⟨he4, r, hf4, hm, hz, hlow⟩ := h5
  refine dgo ?_
  refine d_end (h := ?_)
  refine go ?_
  have hE := (he1.trans he2).trans he3
  refine ret1 ⟨hE.trans he4, r, hf4.mono hE.size, fun H hH hy => hm H hH fun d y e => hy y (tabOf_some e).1, fun y hy => hz _ (tabOf_mem hs hy), fun t ht => hlow t fun d hd => ?_⟩
  obtain ⟨y, hy, rfl⟩ := tabOf_none hd
  exact ht y hy
set_option maxHeartbeats 1000000 in
theorem l12Has_ok {p : Pr} [hc : ConAll p] {ys : List (El p)} (hs : SeqEl ys) {w : World} {vp vu vx : Value} {us : List Value} {xss : List (List Int)} {x : El p} {xs : List Int} {lo hi lo1 hi1 lo2 hi2 : Nat} [hp : Pres lo hi w vp p] [hu : Pc.Rows lo1 hi1 w vu us xss] [hx : Ints lo2 hi2 w vx xs] (hus : xss = vecs ys) (hxe : xs = x.v) :
    Calls Try.prog 115 #[vp, vu, vx] w (Ret fun v w' => ∃ b, v = .bool b ∧ (b = true ↔ Gen (fun a : El p => a ∈ ys) x) ∧ Ext w w') := by
  have hn6 := hc.valid.n6
  obtain ⟨vo, vpw, vc, ps, cs, css, rfl, h1, h2, h3⟩ := hp.ex
  refine enter (args := [.agg #[vo, vpw, vc], vu, vx]) (l := [.tmp 6]) Try.func115 rfl rfl Try.ntmps115 (by simp) ?_
  refine go ?_
  refine st_box3 (by ((try simp only [ev_tmp, ev_const, ev_func, get_put, get_args, get_putL, get_putL_nil, Nat.reduceEqDiff, reduceIte, List.getD_cons_zero, List.getD_cons_succ, List.getD_nil]); first | done | with_reducible rfl)) (by first | exact True.intro | exact ⟨_, rfl, by ((try simp only [ev_tmp, ev_const, ev_func, get_put, get_args, get_putL, get_putL_nil, Nat.reduceEqDiff, reduceIte, List.getD_cons_zero, List.getD_cons_succ, List.getD_nil, Bool.not_true, Bool.not_false]); first | done | with_reducible rfl)⟩) fun w1 b he1 hb1 hs1 hc0 hc1 hc2 => ?_
  refine go ?_
  refine rc (l12Sift_ok (p := p) (x := x) hs.ok hus hxe) (next := fun v2 w2 h4 => ?_)
  obtain ⟨he2, r, hf2, hr⟩ := h4
  have hrl := r.inr.len
  refine go ?_
  refine rc (l01Zero_ok (xs := r.v) (by omega)) (next := fun v3 w3 h5 => ?_)
  obtain ⟨b3, rfl, hb3, he3⟩ := h5
  refine go ?_
  exact ret1 ⟨b3, rfl, by rw [hb3, ← el_one_iff, hr.one_iff hs], (he1.trans he2).trans he3⟩
end Go.Proofs.Ytgomfjhhfmhlgaa

/-
  Walks: the reference's conjugates, conjugate subgroups, closures under conjugation, normality (l10Conj, l13Conj, l12Whole, l13Stable, l13Normal).
  Conditions: the tails at all levels are groups; the lists are those told.
-/
namespace Go.Proofs.Ytgomfjhhfmhlgaa
open Go Go.Pc
set_option maxHeartbeats 1000000 in
theorem l10Conj_ok {p : Pr} [hc : ConAll p] {w : World} {vp vx vy : Value} {x y : El p} {xs ys : List Int} {lo hi lo1 hi1 lo2 hi2 : Nat} [hp : Pres lo hi w vp p] [hx : Ints lo1 hi1 w vx xs] [hy : Ints lo2 hi2 w vy ys] (hxe : xs = x.v) (hye : ys = y.v) :
    Calls Try.prog 175 #[vp, vx, vy] w (Ret fun v w' => Ext w w' ∧ Fr w.heap.size w' v (Grp.cj x y).v) := by
  obtain ⟨vo, vpw, vc, ps, cs, css, rfl, h1, h2, h3⟩ := hp.ex
  refine enter (args := [.agg #[vo, vpw, vc], vx, vy]) (l := [.tmp 6]) Try.func175 rfl rfl Try.ntmps175 (by simp) ?_
  refine go ?_
  refine st_box3 (by ((try simp only [ev_tmp, ev_const, ev_func, get_put, get_args, get_putL, get_putL_nil, Nat.reduceEqDiff, reduceIte, List.getD_cons_zero, List.getD_cons_succ, List.getD_nil]); first | done | with_reducible rfl)) (by first | exact True.intro | exact ⟨_, rfl, by ((try simp only [ev_tmp, ev_const, ev_func, get_put, get_args, get_putL, get_putL_nil, Nat.reduceEqDiff, reduceIte, List.getD_cons_zero, List.getD_cons_succ, List.getD_nil, Bool.not_true, Bool.not_false]); first | done | with_reducible rfl)⟩) fun w1 b he1 hb1 hs1 hc0 hc1 hc2 => ?_
  refine go ?_
  refine d_order [0, 1, 2, 4, 5, 6, 3, 7, 8, 9] (h := fun w2 he2 _ => ?_)
  refine dgo ?_
  refine dce (l10Inv_ok (p := p) hye) (next := fun v4 w4 h4 => ?_)
  obtain ⟨he4, hf4⟩ := h4
  refine dce (l08Mul_ok (p := p) hxe hye) (next := fun v5 w5 h5 => ?_)
  obtain ⟨he5, hf5⟩ := h5
  refine dce (l08Mul_ok (p := p) (x := y⁻¹) (y := x * y) (xs := (y⁻¹).v) (ys := (x * y).v) rfl rfl) (next := fun v6 w6 h6 => ?_)
  obtain ⟨he6, hf6⟩ := h6
  refine dgo ?_
  refine d_end (h := ?_)
  refine go ?_
  have hE := ((he1.trans he2).trans he4).trans he5
  exact ret1 ⟨hE.trans he6, hf6.mono hE.size⟩
/-- The generators. -/
noncomputable def gensL (p : Pr) [ConAll p] : List (El p) := (List.range p.n).map (gOf p 0)
theorem gOf_val {p : Pr} [hc : ConAll p] {i : Nat} (hi : i < p.n) : (gOf p 0 i : El p).v = unitv p i 1 := by
  rw [gOf_eq (h := hc.con 0) ⟨Nat.zero_le _, hi⟩]; rfl
theorem gensL_len (p : Pr) [ConAll p] : (gensL p).length = p.n := by simp [gensL]
set_option maxHeartbeats 1000000 in
theorem l02Unit_ok {n : Nat} {w : World} {kn : Int} (hkn : kn = n) (hn : n ≤ 1000) :
    Calls Try.prog 135 #[.int .i64 kn] w (Ret fun v w' => Ext w w' ∧ ∃ us', Pc.Rows w.heap.size w'.heap.size w' v us' ((List.range n).map fun i => (zeros n).set i 1)) := by
  subst hkn
  refine enter (args := [.int .i64 n]) (l := [.tmp 2]) Try.func135 rfl rfl Try.ntmps135 (by simp) ?_
  refine go ?_
  refine st_slice0 (by first | exact True.intro | exact ⟨_, rfl, by ((try simp only [ev_tmp, ev_const, ev_func, get_put, get_args, get_putL, get_putL_nil, Nat.reduceEqDiff, reduceIte, List.getD_cons_zero, List.getD_cons_succ, List.getD_nil, Bool.not_true, Bool.not_false]); first | done | with_reducible rfl)⟩) fun w2 v2 he2 hs2 ho2 => ?_
  refine go ?_
  refine r_for n (fun k ρ w' => ∃ vl rs, Has ρ [(0, .int .i64 n), (3, vl), (4, .int .i64 k)] ∧ Ext w w' ∧ GrowL 22 w.heap.size w' vl rs ∧ rs.map (·.2) = (List.range k).map fun i => (zeros n).set i 1) ?_ ?_
  · refine ⟨v2, [], ?_, he2, GrowL.start ho2 (Nat.le_refl _), by simp⟩
    exact hasP
  clear ho2
  rintro k ρ w3 hk ⟨vl, rs, hH, he3, hG, hrs⟩
  refine rwp_has hH fun ρ0 => ?_
  have hz3 := he3.size
  have hrl : rs.length = k := by have := congrArg List.length hrs; simp at this; omega
  refine go ?_
  refine c_if (fun h4 => ?_) (fun h4 => ?_)
  · refine go ?_
    refine st_make_int (by ((try simp only [ev_tmp, ev_const, ev_func, get_put, get_args, get_putL, get_putL_nil, Nat.reduceEqDiff, reduceIte, List.getD_cons_zero, List.getD_cons_succ, List.getD_nil]); first | done | with_reducible rfl)) (by ((try simp only [ev_tmp, ev_const, ev_func, get_put, get_args, get_putL, get_putL_nil, Nat.reduceEqDiff, reduceIte, List.getD_cons_zero, List.getD_cons_succ, List.getD_nil]); first | done | with_reducible rfl)) (by omega) (by omega) (by first | exact True.intro | exact ⟨_, rfl, by ((try simp only [ev_tmp, ev_const, ev_func, get_put, get_args, get_putL, get_putL_nil, Nat.reduceEqDiff, reduceIte, List.getD_cons_zero, List.getD_cons_succ, List.getD_nil, Bool.not_true, Bool.not_false]); first | done | with_reducible rfl)⟩) fun w4 v4 he4 hs4 ho4 => ?_
    have hzl : (List.replicate n (0 : Int)).length = n := by simp
    refine go ?_
    refine st_store_int (h := ho4) (by ((try simp only [ev_tmp, ev_const, ev_func, get_put, get_args, get_putL, get_putL_nil, Nat.reduceEqDiff, reduceIte, List.getD_cons_zero, List.getD_cons_succ, List.getD_nil]); first | done | with_reducible rfl)) (by ((try simp only [ev_tmp, ev_const, ev_func, get_put, get_args, get_putL, get_putL_nil, Nat.reduceEqDiff, reduceIte, List.getD_cons_zero, List.getD_cons_succ, List.getD_nil]); first | done | with_reducible rfl)) ?_ (by first | exact True.intro | exact ⟨_, rfl, by ((try simp only [ev_tmp, ev_const, ev_func, get_put, get_args, get_putL, get_putL_nil, Nat.reduceEqDiff, reduceIte, List.getD_cons_zero, List.getD_cons_succ, List.getD_nil, Bool.not_true, Bool.not_false]); first | done | with_reducible rfl)⟩) fun w5 hc5 hs5 ho5 => ?_
    · omega
    have he35 : Ext w3 w5 := hc5.ext he4 (Nat.le_refl _)
    have hf5 : Fr w3.heap.size w5 v4 ((zeros n).set k 1) := ho5.toFr (Nat.le_refl _)
    clear ho4 ho5 hc5
    refine go ?_
    refine st_grow hG he35 hf5 hz3 (by omega) (next := fun v6 v7 w7 hG7 hx7 hz7 hgs7 => ?_)
    refine go ?_
    refine forQ_normal (by omega) ⟨v7, _, ?_, hx7 w (he3.trans he35) (Nat.le_refl _), hG7, ?_⟩
    · exact hasP
    · rw [List.range_succ, List.map_append, List.map_append, hrs]; simp
  · obtain rfl : k = n := by omega
    refine go ?_
    refine ret1 ⟨he3, rs.map (·.1), ?_⟩
    rw [← hrs]
    exact hG.rows
theorem l12Whole_ok {p : Pr} [hc : ConAll p] {w : World} {vp : Value} {lo hi : Nat} [hp : Pres lo hi w vp p] :
    Calls Try.prog 95 #[vp] w (Ret fun v w' => Ext w w' ∧ ∃ us', Pc.Rows w.heap.size w'.heap.size w' v us' (vecs (gensL p))) := by
  have hn6 := hc.valid.n6
  have hol : p.ord.length = p.n := rfl
  obtain ⟨vo, vpw, vc, ps, cs, css, rfl, h1, h2, h3⟩ := hp.ex
  refine enter (args := [.agg #[vo, vpw, vc]]) (l := [.tmp 2]) Try.func95 rfl rfl Try.ntmps95 (by simp) ?_
  refine go ?_
  refine st_box3 (by ((try simp only [ev_tmp, ev_const, ev_func, get_put, get_args, get_putL, get_putL_nil, Nat.reduceEqDiff, reduceIte, List.getD_cons_zero, List.getD_cons_succ, List.getD_nil]); first | done | with_reducible rfl)) (by first | exact True.intro | exact ⟨_, rfl, by ((try simp only [ev_tmp, ev_const, ev_func, get_put, get_args, get_putL, get_putL_nil, Nat.reduceEqDiff, reduceIte, List.getD_cons_zero, List.getD_cons_succ, List.getD_nil, Bool.not_true, Bool.not_false]); first | done | with_reducible rfl)⟩) fun w1 b he1 hb1 hs1 hc0 hc1 hc2 => ?_
  refine go ?_
  refine rc (l02Unit_ok (n := p.n) ?_ (by omega)) (next := fun v2 w2 h4 => ?_)
  · omega
  obtain ⟨he2, us2, hR2⟩ := h4
  refine go ?_
  refine ret1 ⟨he1.trans he2, us2, ?_⟩
  have e : vecs (gensL p) = (List.range p.n).map fun i => (zeros p.n).set i 1 := by
    unfold vecs gensL
    rw [List.map_map]
    exact List.map_congr_left fun i hi => gOf_val (List.mem_range.1 hi)
  rw [e]
  exact hR2.mono he1.size (Nat.le_refl _)
end Go.Proofs.Ytgomfjhhfmhlgaa

/-
  Answers: generated subgroups, conjugate subgroups, normality, indices, depths.
  Conditions: none.
-/
namespace Go.Proofs.Ytgomfjhhfmhlgaa
open Go Go.Pc
/-- The list is the canonical sequence of a subgroup told by elements. -/
theorem canon_sz {p : Pr} [ConAll p] (H : El p → Prop) (h6 : p.n ≤ 6) : (canon H).length ≤ 2000000 ∧ ∀ i, ((canon H).getD i []).length ≤ 2000000 := by
  have hcl := canTo_len H p.n
  rw [canTo_end] at hcl
  exact ⟨by omega, fun i => by have := canon_row H i; omega⟩
def GrpL (p : Pr) (xss : List (List Int)) : Prop := IsGrp p ∧ ∀ i, i < xss.length → InR p (xss.getD i [])
def GenV (p : Pr) (xss r : List (List Int)) (e : Int) : Prop := (24 < xss.length ∧ r = [] ∧ e = 3) ∨ (xss.length ≤ 24 ∧ (∃ (_ : ConAll p) (ys : List (El p)), xss = vecs ys ∧ r = canon (Gen (fun a : El p => a ∈ ys))) ∧ e = 0)
theorem GenV.uniq {p : Pr} {xss : List (List Int)} (a b : List (List Int)) (c d : Int) (h : GenV p xss a c) (k : GenV p xss b d) : a = b ∧ c = d := by
  rcases h with ⟨h1, h2, h3⟩ | ⟨h1, ⟨hc, ys, h2, h3⟩, h4⟩ <;> rcases k with ⟨k1, k2, k3⟩ | ⟨k1, ⟨hc', ys', k2, k3⟩, k4⟩
  · exact ⟨by rw [h2, k2], by rw [h3, k3]⟩
  · omega
  · omega
  · obtain rfl := vecs_inj (h2.symm.trans k2)
    exact ⟨by rw [h3, k3], by rw [h4, k4]⟩
theorem GeneratedSubgroup_sz0 {p : Pr} {xss r : List (List Int)} {e : Int} (_ : p.ord.length ≤ 2000000) (_ : xss.length ≤ 2000000) (h : Ans (GrpL p xss) (GenV p xss) [] r e) : r.length ≤ 2000000 ∧ ∀ i, (r.getD i []).length ≤ 2000000 := by
  rcases h with ⟨⟨hG, _⟩, h⟩ | ⟨_, rfl, _⟩
  · rcases h with ⟨_, rfl, _⟩ | ⟨_, ⟨hc, ys, _, rfl⟩, _⟩
    · simp
    · exact canon_sz _ hG.valid.n6
  · simp
def ConjV (p : Pr) (xss : List (List Int)) (xs : List Int) (r : List (List Int)) (e : Int) : Prop := (∃ (_ : ConAll p) (ys : List (El p)) (x : El p), xss = vecs ys ∧ xs = x.v ∧ r = canon (Gen (fun a : El p => a ∈ ys.map (Grp.cj · x)))) ∧ e = 0
theorem ConjV.uniq {p : Pr} {xss : List (List Int)} {xs : List Int} (a b : List (List Int)) (c d : Int) (h : ConjV p xss xs a c) (k : ConjV p xss xs b d) : a = b ∧ c = d := by
  obtain ⟨⟨hc, ys, x, h2, h3, h4⟩, h5⟩ := h
  obtain ⟨⟨hc', ys', x', k2, k3, k4⟩, k5⟩ := k
  obtain rfl := vecs_inj (h2.symm.trans k2)
  obtain rfl : x = x' := T.ext (h3.symm.trans k3)
  exact ⟨by rw [h4, k4], by rw [h5, k5]⟩
theorem ConjugateSubgroup_sz0 {p : Pr} {xss : List (List Int)} {xs : List Int} {r : List (List Int)} {e : Int} (_ : p.ord.length ≤ 2000000) (h : Ans (IsSubP p xss ∧ InR p xs) (ConjV p xss xs) [] r e) : r.length ≤ 2000000 ∧ ∀ i, (r.getD i []).length ≤ 2000000 := by
  rcases h with ⟨⟨⟨hG, _⟩, _⟩, ⟨hc, ys, x, _, _, rfl⟩, _⟩ | ⟨_, rfl, _⟩
  · exact canon_sz _ hG.valid.n6
  · simp
/-- The subgroup is normal. -/
def NormP (p : Pr) (xss : List (List Int)) : Prop := ∃ (_ : ConAll p) (ys : List (El p)), xss = vecs ys ∧ ∀ y, y ∈ ys → ∀ g, g ∈ gensL p → Gen (fun a : El p => a ∈ ys) (Grp.cj y g)
theorem normP_iff {p : Pr} [hc : ConAll p] {ys : List (El p)} : NormP p (vecs ys) ↔ ∀ y, y ∈ ys → ∀ g, g ∈ gensL p → Gen (fun a : El p => a ∈ ys) (Grp.cj y g) := by
  constructor
  · rintro ⟨_, ys', h1, h2⟩
    obtain rfl := vecs_inj h1
    exact h2
  · exact fun h => ⟨hc, ys, rfl, h⟩
def NormV (p : Pr) (xss : List (List Int)) (b : Bool) (e : Int) : Prop := (b = true ↔ NormP p xss) ∧ e = 0
theorem NormV.uniq {p : Pr} {xss : List (List Int)} (a b : Bool) (c d : Int) (h : NormV p xss a c) (k : NormV p xss b d) : a = b ∧ c = d := ⟨bool_eq h.1 k.1, by rw [h.2, k.2]⟩
theorem normal_len {p : Pr} [hc : ConAll p] {ys : List (El p)} (hs : SeqEl ys) : (canon (Clo (fun a : El p => a ∈ ys) (fun a : El p => a ∈ gensL p))).length = ys.length ↔ ∀ y, y ∈ ys → ∀ g, g ∈ gensL p → Gen (fun a : El p => a ∈ ys) (Grp.cj y g) := by
  have hSY := Gen.sub (fun a : El p => a ∈ ys)
  have hSC := Clo.sub (fun a : El p => a ∈ ys) (fun a : El p => a ∈ gensL p)
  have e : (canon (Clo (fun a : El p => a ∈ ys) (fun a : El p => a ∈ gensL p))).length = (canEls (Clo (fun a : El p => a ∈ ys) (fun a : El p => a ∈ gensL p))).length := by rw [canon_vecs]; simp
  rw [e]
  constructor
  · intro h y hy g hg
    exact same_of_len hSY hSC (Gen.le hSC fun a ha => .of a ha) (by rw [hs.els]; omega) _ (.cj _ _ (.of _ hy) hg)
  · intro h
    rw [gen_eq_clo fun a b ha hb => h a ha b hb, hs.els]
/-- The index of a subgroup. -/
def IdxV (p : Pr) (xss yss : List (List Int)) (k e : Int) : Prop := ((∀ x, x ∈ yss → MemP p xss x) ∧ k = ordOfL p xss / ordOfL p yss ∧ e = 0) ∨ (¬ (∀ x, x ∈ yss → MemP p xss x) ∧ k = 0 ∧ e = 5)
theorem IdxV.uniq {p : Pr} {xss yss : List (List Int)} (a b c d : Int) (h : IdxV p xss yss a c) (k : IdxV p xss yss b d) : a = b ∧ c = d := by
  rcases h with ⟨h1, h2, h3⟩ | ⟨h1, h2, h3⟩ <;> rcases k with ⟨k1, k2, k3⟩ | ⟨k1, k2, k3⟩
  · exact ⟨by rw [h2, k2], by rw [h3, k3]⟩
  · exact absurd h1 k1
  · exact absurd k1 h1
  · exact ⟨by rw [h2, k2], by rw [h3, k3]⟩
def DepV (xss : List (List Int)) (r : List Int) (e : Int) : Prop := r = xss.map (fun x => (lead x : Int)) ∧ e = 0
theorem DepV.uniq {xss : List (List Int)} (a b : List Int) (c d : Int) (h : DepV xss a c) (k : DepV xss b d) : a = b ∧ c = d := ⟨by rw [h.1, k.1], by rw [h.2, k.2]⟩
theorem SubgroupDepths_sz0 {p : Pr} {xss : List (List Int)} {r : List Int} {e : Int} (hl : p.ord.length ≤ 2000000) (h : Ans (IsSubP p xss) (DepV xss) [] r e) : r.length ≤ 2000000 := by
  rcases h with ⟨⟨hG, hq⟩, rfl, _⟩ | ⟨_, rfl, _⟩
  · haveI : ConAll p := ⟨hG.con⟩
    have h1 := hq.len
    have h2 := hG.valid.n6
    simp; omega
  · simp
end Go.Proofs.Ytgomfjhhfmhlgaa

/-
  Answers: coset numbers, elements and exponents of subgroups.
  Conditions: none.
-/
namespace Go.Proofs.Ytgomfjhhfmhlgaa
open Go Go.Pc
section
variable {p : Pr}
/-- The places that are no depths of the elements. -/
def freeL (p : Pr) (ys : List (El p)) (k : Nat) : List Nat := (List.range k).filter fun d => ys.all fun y => decide (lead y.v ≠ d)
abbrev ints (l : List Nat) : List Int := l.map fun d : Nat => (d : Int)
theorem freeL_len (p : Pr) (ys : List (El p)) (k : Nat) : (freeL p ys k).length ≤ k := by unfold freeL; exact Nat.le_trans (List.length_filter_le _ _) (by simp)
theorem freeL_lt {ys : List (El p)} {k d : Nat} (h : d ∈ freeL p ys k) : d < k := List.mem_range.1 (List.mem_filter.1 h).1
theorem freeL_yes {ys : List (El p)} {k : Nat} (h : ∀ y, y ∈ ys → lead y.v ≠ k) : freeL p ys (k + 1) = freeL p ys k ++ [k] := by
  unfold freeL
  rw [List.range_succ, List.filter_append]
  congr 1
  rw [List.filter_cons_of_pos, List.filter_nil]
  simpa using h
theorem freeL_no {ys : List (El p)} {k : Nat} {y : El p} (hy : y ∈ ys) (h : lead y.v = k) : freeL p ys (k + 1) = freeL p ys k := by
  unfold freeL
  rw [List.range_succ, List.filter_append, List.filter_cons_of_neg, List.filter_nil, List.append_nil]
  simp only [List.all_eq_true, decide_eq_true_eq]
  exact fun h' => h' y hy h
/-- The number that the free places of an element tell. -/
def numF (p : Pr) (l : List Nat) (r : El p) : Int := l.foldl (fun a d => a * p.o d + co r d) 0
theorem numF_take (l : List Nat) (r : El p) {k : Nat} (hk : k < l.length) : numF p (l.take (k + 1)) r = numF p (l.take k) r * p.o l[k] + co r l[k] := by
  unfold numF
  rw [List.take_succ_eq_append_getElem hk, List.foldl_append]; rfl
theorem numF_bd (hv : Valid p) (l : List Nat) (r : El p) (hl : ∀ d, d ∈ l → d < p.n) : ∀ k, k ≤ l.length → 0 ≤ numF p (l.take k) r ∧ numF p (l.take k) r + 1 ≤ (7 ^ k : Nat)
  | 0, _ => by simp [numF]
  | k + 1, h => by
    have ih := numF_bd hv l r hl k (by omega)
    rw [numF_take l r (by omega)]
    have hd := hl _ (List.getElem_mem (show k < l.length by omega))
    have ho := hv.opos hd
    have hc := r.inr.rng _ hd
    have hc' : 0 ≤ co r l[k] ∧ co r l[k] < p.o l[k] := hc
    generalize numF p (l.take k) r = a at ih ⊢
    generalize co r l[k] = c at hc' ⊢
    generalize p.o l[k] = o at ho hc' ⊢
    have e : ((7 ^ (k + 1) : Nat) : Int) = (7 ^ k : Nat) * 7 := by rw [Nat.pow_succ]; simp
    rw [e]
    have h1 : 0 ≤ a * o := Int.mul_nonneg ih.1 (by omega)
    have h2 : a * o ≤ a * 7 := Int.mul_le_mul_of_nonneg_left ho.2 ih.1
    omega
theorem numF_rng (hv : Valid p) (l : List Nat) (r : El p) (hl : ∀ d, d ∈ l → d < p.n) (h6 : l.length ≤ 6) {k : Nat} (hk : k ≤ l.length) : 0 ≤ numF p (l.take k) r ∧ numF p (l.take k) r ≤ 117648 := by
  have h := numF_bd hv l r hl k hk
  have h2 : (7 ^ k : Nat) ≤ 7 ^ 6 := Nat.pow_le_pow_right (by omega) (by omega)
  have h3 : (7 : Nat) ^ 6 = 117649 := by decide
  omega
def NumV (p : Pr) (xss : List (List Int)) (xs : List Int) (k e : Int) : Prop := (∃ (_ : ConAll p) (ys : List (El p)) (x r : El p), xss = vecs ys ∧ xs = x.v ∧ RepOf ys x r ∧ k = numF p (freeL p ys p.n) r) ∧ e = 0
theorem NumV.uniq {xss : List (List Int)} {xs : List Int} (hS : IsSubP p xss) (a b c d : Int) (h : NumV p xss xs a c) (k : NumV p xss xs b d) : a = b ∧ c = d := by
  obtain ⟨⟨hc, ys, x, y, h1, h2, h3, h4⟩, h5⟩ := h
  obtain ⟨⟨hc', ys', x', y', k1, k2, k3, k4⟩, k5⟩ := k
  obtain ⟨hG, hq⟩ := hS
  haveI : ConAll p := ⟨hG.con⟩
  obtain ⟨zs, hzs, hse⟩ := isSeq_iff.1 hq
  obtain rfl : ys = zs := vecs_inj (h1.symm.trans hzs)
  obtain rfl : ys' = ys := vecs_inj (k1.symm.trans hzs)
  obtain rfl : x = x' := T.ext (h2.symm.trans k2)
  exact ⟨by rw [h4, k4, RepOf.unique hse h3 k3], by rw [h5, k5]⟩
end
section
variable {p : Pr} [hc : ConAll p]
/-- The product of powers of elements. -/
noncomputable def prodTo (ys : List (El p)) (as_ : List Int) : Nat → El p
  | 0 => 1
  | k + 1 => prodTo ys as_ k * Grp.pwz (ys.getD k 1) (as_.getD k 0)
/-- What is left of an element behind its first exponents. -/
noncomputable def stE (ys : List (El p)) (x : El p) : Nat → El p
  | 0 => x
  | k + 1 => Grp.pwz (ys.getD k 1) (-(co (stE ys x k) (lead (ys.getD k 1).v))) * stE ys x k
noncomputable def expsL (ys : List (El p)) (x : El p) (k : Nat) : List Int := (List.range k).map fun i => co (stE ys x i) (lead (ys.getD i 1).v)
theorem expsL_succ (ys : List (El p)) (x : El p) (k : Nat) : expsL ys x (k + 1) = expsL ys x k ++ [co (stE ys x k) (lead (ys.getD k 1).v)] := by
  unfold expsL; rw [List.range_succ, List.map_append]; rfl
theorem expsL_len (ys : List (El p)) (x : El p) (k : Nat) : (expsL ys x k).length = k := by simp [expsL]
theorem getD_one {ys : List (El p)} {k : Nat} (hk : k < ys.length) : ys.getD k 1 = ys[k] := by simp [hk]
theorem stE_gen (ys : List (El p)) (x : El p) : ∀ k, k ≤ ys.length → (Gen (fun a : El p => a ∈ ys) (stE ys x k) ↔ Gen (fun a : El p => a ∈ ys) x)
  | 0, _ => Iff.rfl
  | k + 1, h => by
    have hk : k < ys.length := by omega
    rw [← stE_gen ys x k (by omega)]
    show Gen _ (Grp.pwz (ys.getD k 1) _ * stE ys x k) ↔ _
    rw [getD_one hk]
    exact (Gen.sub _).left ((Gen.sub _).pwz (.of _ (List.getElem_mem hk)) _)
theorem tl_up {ys : List (El p)} (hs : SeqEl ys) {h : El p} (hh : Gen (fun a : El p => a ∈ ys) h) : ∀ m d d', d' - d = m → d ≤ d' → d' ≤ p.n → (∀ y, y ∈ ys → lead y.v < d ∨ d' ≤ lead y.v) → Tl d h → Tl d' h := by
  intro m
  induction m with
  | zero => intro d d' h1 h2 _ _ h5; rwa [show d' = d by omega]
  | succ m ih =>
    intro d d' h1 h2 h3 h4 h5
    refine ih (d + 1) d' (by omega) (by omega) h3 (fun y hy => ?_) (h5.succ ?_)
    · rcases h4 y hy with h | h
      · exact .inl (by omega)
      · exact .inr h
    · by_cases h0 : co h d = 0
      · exact h0
      · obtain ⟨y, hy, e⟩ := hs.dep ⟨h, hh, h5, h0⟩
        rcases h4 y hy with h | h <;> omega
theorem stE_one {ys : List (El p)} (hs : SeqEl ys) (x : El p) : stE ys x ys.length = 1 ↔ Gen (fun a : El p => a ∈ ys) x := by
  constructor
  · intro h
    rw [← stE_gen ys x ys.length (Nat.le_refl _), h]; exact .one
  · intro hx
    have hok := hs.ok
    have hasc : ∀ i j (hi : i < ys.length) (hj : j < ys.length), i < j → lead (ys[i]).v < lead (ys[j]).v := fun i j hi hj hij => List.pairwise_iff_getElem.1 hok.asc i j hi hj hij
    have key : ∀ k, k ≤ ys.length → ∀ d', (∀ i (h : i < ys.length), k ≤ i → d' ≤ lead (ys[i]).v) → d' ≤ p.n → Tl d' (stE ys x k) := by
      intro k
      induction k with
      | zero =>
        intro _ d' h1 h2
        refine tl_up hs hx _ 0 d' rfl (Nat.zero_le _) h2 (fun y hy => ?_) (Tl.zero x)
        obtain ⟨i, hi, rfl⟩ := List.getElem_of_mem hy
        exact .inr (h1 i hi (Nat.zero_le _))
      | succ k ih =>
        intro hk d' h1 h2
        have hkn : k < ys.length := by omega
        obtain ⟨hdn, hy1⟩ := hok.lead1 _ (List.getElem_mem hkn)
        have ht := ih (by omega) (lead (ys[k]).v) (fun i hi hki => by
          by_cases e : i = k
          · subst e; exact Nat.le_refl _
          · exact Nat.le_of_lt (hasc k i hkn hi (by omega))) (by omega)
        have hyt : Tl (lead (ys[k]).v) (ys[k]) := lead_tl _
        have hmem := (stE_gen ys x (k + 1) hk).2 hx
        have hstep : Tl (lead (ys[k]).v + 1) (stE ys x (k + 1)) := by
          show Tl _ (Grp.pwz (ys.getD k 1) (-(co (stE ys x k) (lead (ys.getD k 1).v))) * stE ys x k)
          rw [getD_one hkn]
          refine (Tl.mul (by omega) (hyt.pwz (by omega) _) ht).succ ?_
          rw [co_at _ hdn ht, co_pwz hdn hyt, hy1, Int.mul_one, Int.emod_add_emod, Int.add_left_neg, Int.zero_emod]
        by_cases hd : lead (ys[k]).v + 1 ≤ d'
        · refine tl_up hs hmem _ _ d' rfl hd h2 (fun y hy => ?_) hstep
          obtain ⟨i, hi, rfl⟩ := List.getElem_of_mem hy
          by_cases hik : k + 1 ≤ i
          · exact .inr (h1 i hi hik)
          · left
            by_cases e : i = k
            · subst e; omega
            · have := hasc i k hi hkn (by omega); omega
        · exact hstep.mono (by omega)
    exact (key ys.length (Nat.le_refl _) p.n (fun i hi h => by omega) (Nat.le_refl _)).end_
end
/-- The exponents lie in their ranges. -/
def RangeP (p : Pr) (xss : List (List Int)) (as_ : List Int) : Prop := as_.length = xss.length ∧ ∀ i, i < xss.length → 0 ≤ as_.getD i 0 ∧ as_.getD i 0 ≤ p.o (lead (xss.getD i [])) - 1
def MeV (p : Pr) (xss : List (List Int)) (as_ r : List Int) (e : Int) : Prop := (RangeP p xss as_ ∧ (∃ (_ : ConAll p) (ys : List (El p)), xss = vecs ys ∧ r = (prodTo ys as_ ys.length).v) ∧ e = 0) ∨ (¬ RangeP p xss as_ ∧ r = [] ∧ e = 2)
theorem MeV.uniq {p : Pr} {xss : List (List Int)} {as_ : List Int} (a b : List Int) (c d : Int) (h : MeV p xss as_ a c) (k : MeV p xss as_ b d) : a = b ∧ c = d := by
  rcases h with ⟨h1, ⟨_, ys, h2, h3⟩, h4⟩ | ⟨h1, h2, h3⟩ <;> rcases k with ⟨k1, ⟨_, ys', k2, k3⟩, k4⟩ | ⟨k1, k2, k3⟩
  · obtain rfl := vecs_inj (h2.symm.trans k2)
    exact ⟨by rw [h3, k3], by rw [h4, k4]⟩
  · exact absurd h1 k1
  · exact absurd k1 h1
  · exact ⟨by rw [h2, k2], by rw [h3, k3]⟩
theorem MemberElement_sz0 {p : Pr} {xss : List (List Int)} {as_ r : List Int} {e : Int} (hl : p.ord.length ≤ 2000000) (_ : as_.length ≤ 2000000) (h : Ans (IsSubP p xss) (MeV p xss as_) [] r e) : r.length ≤ 2000000 := by
  rcases h with ⟨_, ⟨_, ⟨_, ys, _, rfl⟩, _⟩ | ⟨_, rfl, _⟩⟩ | ⟨_, rfl, _⟩
  · have := el_len (prodTo ys as_ ys.length); omega
  · simp
  · simp
def MxV (p : Pr) (xss : List (List Int)) (xs r : List Int) (e : Int) : Prop := (MemP p xss xs ∧ (∃ (_ : ConAll p) (ys : List (El p)) (x : El p), xss = vecs ys ∧ xs = x.v ∧ r = expsL ys x ys.length) ∧ e = 0) ∨ (¬ MemP p xss xs ∧ r = [] ∧ e = 4)
theorem MxV.uniq {p : Pr} {xss : List (List Int)} {xs : List Int} (a b : List Int) (c d : Int) (h : MxV p xss xs a c) (k : MxV p xss xs b d) : a = b ∧ c = d := by
  rcases h with ⟨h1, ⟨_, ys, x, h2, hx, h3⟩, h4⟩ | ⟨h1, h2, h3⟩ <;> rcases k with ⟨k1, ⟨_, ys', x', k2, kx, k3⟩, k4⟩ | ⟨k1, k2, k3⟩
  · obtain rfl := vecs_inj (h2.symm.trans k2)
    obtain rfl : x = x' := T.ext (hx.symm.trans kx)
    exact ⟨by rw [h3, k3], by rw [h4, k4]⟩
  · exact absurd h1 k1
  · exact absurd k1 h1
  · exact ⟨by rw [h2, k2], by rw [h3, k3]⟩
theorem MemberExponents_sz0 {p : Pr} {xss : List (List Int)} {xs r : List Int} {e : Int} (hl : p.ord.length ≤ 2000000) (h : Ans (IsSubP p xss ∧ InR p xs) (MxV p xss xs) [] r e) : r.length ≤ 2000000 := by
  rcases h with ⟨⟨⟨hG, hq⟩, _⟩, ⟨_, ⟨_, ys, x, hys, _, rfl⟩, _⟩ | ⟨_, rfl, _⟩⟩ | ⟨_, rfl, _⟩
  · haveI : ConAll p := ⟨hG.con⟩
    have h1 := hq.len
    have h2 := hG.valid.n6
    have h3 : xss.length = ys.length := by rw [hys]; simp
    rw [expsL_len]; omega
  · simp
  · simp
end Go.Proofs.Ytgomfjhhfmhlgaa

/-
  Digits: the element with a number along a list of places; the products of the orders; lists of all such elements.
  Conditions: none.
-/
namespace Go.Proofs.Ytgomfjhhfmhlgaa
open Go Go.Pc
section
variable {p : Pr} {l : List Nat}
def elTo (p : Pr) (l : List Nat) : Nat → Int → List Int
  | 0, _ => zeros p.n
  | k + 1, t => (elTo p l k (t / p.o (l.getD k 0))).set (l.getD k 0) (t % p.o (l.getD k 0))
theorem elTo_len : ∀ (k : Nat) (t : Int), (elTo p l k t).length = p.n
  | 0, _ => zeros_len _
  | k + 1, t => by simp [elTo, elTo_len k]
theorem getD_mem {k : Nat} (hk : k < l.length) : l.getD k 0 ∈ l := by simp [hk]
theorem elTo_in (hv : Valid p) (hl : ∀ d, d ∈ l → d < p.n) : ∀ k, k ≤ l.length → ∀ t : Int, 0 ≤ t → InR p (elTo p l k t)
  | 0, _, _, _ => hv.zeros_in
  | k + 1, h, t, ht => by
    have hd := hl _ (getD_mem (show k < l.length by omega))
    have ho := hv.opos hd
    exact (elTo_in hv hl k (by omega) _ (Int.ediv_nonneg ht (by omega))).set (Int.emod_nonneg _ (by omega)) (fun _ => Int.emod_lt_of_pos _ (by omega))
def elAtT (hv : Valid p) (l : List Nat) (hl : ∀ d, d ∈ l → d < p.n) (t : Int) (ht : 0 ≤ t) : El p := ⟨elTo p l l.length t, elTo_in hv hl _ (Nat.le_refl _) t ht, fun i hi => absurd hi (Nat.not_lt_zero i)⟩
/-- The same, filled from the last place on. -/
def fillTo (p : Pr) (l : List Nat) : Nat → Int → List Int → List Int
  | 0, _, v => v
  | k + 1, t, v => fillTo p l k (t / p.o (l.getD k 0)) (v.set (l.getD k 0) (t % p.o (l.getD k 0)))
theorem fillTo_len : ∀ (k : Nat) (t : Int) (v : List Int), (fillTo p l k t v).length = v.length
  | 0, _, _ => rfl
  | k + 1, t, v => by simp [fillTo, fillTo_len k]
theorem take_mem_succ {k : Nat} (hk : k < l.length) {d : Nat} : d ∈ l.take (k + 1) ↔ d ∈ l.take k ∨ d = l.getD k 0 := by
  rw [List.take_succ_eq_append_getElem hk, List.mem_append, List.mem_singleton]; simp [hk]
theorem not_take (hn : l.Nodup) {k : Nat} (hk : k < l.length) : l.getD k 0 ∉ l.take k := by
  intro h
  have h1 : l.Nodup := hn
  rw [← List.take_append_drop k l] at h1
  have e := List.getElem_cons_drop (h := hk)
  have e2 : l.getD k 0 = l[k] := by simp [hk]
  have h2 := (List.nodup_append.1 h1).2.2 _ h (l.getD k 0) (by rw [← e, e2]; exact List.mem_cons_self)
  exact h2 rfl
theorem fillTo_getD (hn : l.Nodup) (hl : ∀ d, d ∈ l → d < p.n) : ∀ k, k ≤ l.length → ∀ (t : Int) (v : List Int), v.length = p.n → ∀ d, (fillTo p l k t v).getD d 0 = if d ∈ l.take k then (elTo p l k t).getD d 0 else v.getD d 0
  | 0, _, _, _, _, _ => by simp [fillTo]
  | k + 1, h, t, v, hv, d => by
    have hk : k < l.length := by omega
    have hdn := hl _ (getD_mem hk)
    have ih := fillTo_getD hn hl k (by omega) (t / p.o (l.getD k 0)) (v.set (l.getD k 0) (t % p.o (l.getD k 0))) (by simpa using hv) d
    show (fillTo p l k _ _).getD d 0 = _
    rw [ih]
    by_cases h1 : d ∈ l.take k
    · have hne : l.getD k 0 ≠ d := fun e => not_take hn hk (by rw [e]; exact h1)
      rw [if_pos h1, if_pos ((take_mem_succ hk).2 (.inl h1))]
      show _ = ((elTo p l k _).set _ _).getD d 0
      rw [Pc.getD_set_ne _ _ _ _ hne]
    · rw [if_neg h1]
      by_cases h2 : d = l.getD k 0
      · rw [if_pos ((take_mem_succ hk).2 (.inr h2))]
        subst h2
        show _ = ((elTo p l k _).set _ _).getD _ 0
        rw [Pc.getD_set_eq _ _ _ (by rw [hv]; exact hdn), Pc.getD_set_eq _ _ _ (by rw [elTo_len]; exact hdn)]
      · rw [if_neg (fun h3 => ((take_mem_succ hk).1 h3).elim h1 h2), Pc.getD_set_ne _ _ _ _ (Ne.symm h2)]
theorem elTo_out : ∀ (k : Nat), k ≤ l.length → ∀ (t : Int) (d : Nat), d ∉ l.take k → (elTo p l k t).getD d 0 = 0
  | 0, _, _, d, _ => zeros_getD _ _
  | k + 1, h, t, d, hd => by
    have hk : k < l.length := by omega
    have h1 : d ∉ l.take k := fun h => hd ((take_mem_succ hk).2 (.inl h))
    have h2 : l.getD k 0 ≠ d := fun e => hd ((take_mem_succ hk).2 (.inr e.symm))
    show ((elTo p l k _).set _ _).getD d 0 = 0
    rw [Pc.getD_set_ne _ _ _ _ h2]
    exact elTo_out k (by omega) _ d h1
theorem fill_eq (hn : l.Nodup) (hl : ∀ d, d ∈ l → d < p.n) (t : Int) : fillTo p l l.length t (zeros p.n) = elTo p l l.length t := by
  refine list_ext0 (by rw [fillTo_len, elTo_len, zeros_len]) fun d _ => ?_
  rw [fillTo_getD hn hl _ (Nat.le_refl _) _ _ (zeros_len _)]
  split
  · rfl
  · rename_i h
    rw [zeros_getD, elTo_out _ (Nat.le_refl _) _ _ h]
/-- The product of the orders at places. -/
def ordL (p : Pr) (l : List Nat) : Int := l.foldl (fun a d => a * p.o d) 1
theorem ordL_app (l : List Nat) (d : Nat) : ordL p (l ++ [d]) = ordL p l * p.o d := by unfold ordL; rw [List.foldl_append]; rfl
theorem ordL_take (l : List Nat) {k : Nat} (hk : k < l.length) : ordL p (l.take (k + 1)) = ordL p (l.take k) * p.o (l.getD k 0) := by
  rw [List.take_succ_eq_append_getElem hk, ordL_app]; simp [hk]
theorem ordL_bd (hv : Valid p) (hl : ∀ d, d ∈ l → d < p.n) : ∀ k, k ≤ l.length → 1 ≤ ordL p (l.take k) ∧ ordL p (l.take k) ≤ (7 ^ k : Nat)
  | 0, _ => by simp [ordL]
  | k + 1, h => by
    have ih := ordL_bd hv hl k (by omega)
    have hk : k < l.length := by omega
    rw [ordL_take l hk]
    have ho := hv.opos (hl _ (getD_mem hk))
    generalize ordL p (l.take k) = a at ih ⊢
    generalize p.o (l.getD k 0) = o at ho ⊢
    have e : ((7 ^ (k + 1) : Nat) : Int) = (7 ^ k : Nat) * 7 := by rw [Nat.pow_succ]; simp
    rw [e]
    have h1 : a * 1 ≤ a * o := Int.mul_le_mul_of_nonneg_left (by omega) (by omega)
    have h2 : a * o ≤ a * 7 := Int.mul_le_mul_of_nonneg_left ho.2 (by omega)
    omega
theorem ordL_rng (hv : Valid p) (hl : ∀ d, d ∈ l → d < p.n) (h6 : l.length ≤ 6) {k : Nat} (hk : k ≤ l.length) : 1 ≤ ordL p (l.take k) ∧ ordL p (l.take k) ≤ 117649 := by
  have h := ordL_bd hv hl k hk
  have h2 : (7 ^ k : Nat) ≤ 7 ^ 6 := Nat.pow_le_pow_right (by omega) (by omega)
  have h3 : (7 : Nat) ^ 6 = 117649 := by decide
  omega
/-- All elements with digits at the first places. -/
def trTo (p : Pr) (l : List Nat) : Nat → List (List Int)
  | 0 => [zeros p.n]
  | k + 1 => (trTo p l k).flatMap fun x => (List.range (p.o (l.getD k 0)).toNat).map fun e : Nat => x.set (l.getD k 0) (e : Int)
theorem range_mul {α : Type} (g : Nat → α) (o : Nat) : ∀ a : Nat, (List.range a).flatMap (fun s => (List.range o).map fun e => g (s * o + e)) = (List.range (a * o)).map g
  | 0 => by simp
  | a + 1 => by
    rw [List.range_succ, List.flatMap_append, range_mul g o a, Nat.add_mul, Nat.one_mul, List.range_add, List.map_append]
    simp [List.map_map, Function.comp_def]
theorem trTo_eq (hv : Valid p) (hl : ∀ d, d ∈ l → d < p.n) : ∀ k, k ≤ l.length → trTo p l k = (List.range (ordL p (l.take k)).toNat).map fun s : Nat => elTo p l k (s : Int)
  | 0, _ => by simp [trTo, ordL, elTo, List.range_succ]
  | k + 1, h => by
    have hk : k < l.length := by omega
    have ih := trTo_eq hv hl k (by omega)
    have ho := hv.opos (hl _ (getD_mem hk))
    have hb := (ordL_bd hv hl k (by omega)).1
    show (trTo p l k).flatMap _ = _
    rw [ih, List.flatMap_map, ordL_take l hk]
    obtain ⟨a, ha⟩ : ∃ a : Nat, ordL p (l.take k) = a := ⟨(ordL p (l.take k)).toNat, by omega⟩
    obtain ⟨o, hoo⟩ : ∃ o : Nat, p.o (l.getD k 0) = o := ⟨(p.o (l.getD k 0)).toNat, by omega⟩
    have e1 : (ordL p (l.take k) * p.o (l.getD k 0)).toNat = a * o := by rw [ha, hoo, ← Int.natCast_mul]; rfl
    rw [e1, ← range_mul, ha, Int.toNat_natCast]
    congr 1
    funext s
    rw [hoo, Int.toNat_natCast]
    refine List.map_congr_left fun e he => ?_
    have he' := List.mem_range.1 he
    show _ = (elTo p l k (((s * o + e : Nat) : Int) / p.o (l.getD k 0))).set (l.getD k 0) (((s * o + e : Nat) : Int) % p.o (l.getD k 0))
    rw [hoo]
    have d1 : ((s * o + e : Nat) : Int) / (o : Int) = (s : Int) := by
      rw [← Int.natCast_ediv]
      congr 1
      rw [Nat.mul_comm, Nat.mul_add_div (by omega), Nat.div_eq_of_lt he', Nat.add_zero]
    have d2 : ((s * o + e : Nat) : Int) % (o : Int) = (e : Int) := by
      rw [← Int.natCast_emod]
      congr 1
      rw [Nat.mul_comm, Nat.mul_add_mod, Nat.mod_eq_of_lt he']
    rw [d1, d2]
end
section
variable {p : Pr}
theorem freeL_nodup (ys : List (El p)) (k : Nat) : (freeL p ys k).Nodup := List.Nodup.sublist List.filter_sublist List.nodup_range
/-- The order of the group is the index times the order of the subgroup. -/
theorem ord_split [hc : ConAll p] {ys : List (El p)} (hs : SeqOk ys) : ordL p (List.range p.n) = ordL p (freeL p ys p.n) * ordOf p ys := by
  have hasc : ∀ i j (hi : i < ys.length) (hj : j < ys.length), i < j → lead (ys[i]).v < lead (ys[j]).v := fun i j hi hj hij => List.pairwise_iff_getElem.1 hs.asc i j hi hj hij
  have key : ∀ k, k ≤ p.n → ∃ j, j ≤ ys.length ∧ (∀ i (h : i < ys.length), i < j → lead (ys[i]).v < k) ∧ (∀ i (h : i < ys.length), j ≤ i → k ≤ lead (ys[i]).v) ∧ ordL p (List.range k) = ordL p (freeL p ys k) * ordOf p (ys.take j) := by
    intro k
    induction k with
    | zero => exact fun _ => ⟨0, Nat.zero_le _, fun i h hi => absurd hi (Nat.not_lt_zero _), fun i h _ => Nat.zero_le _, by simp [ordL, freeL, ordOf]⟩
    | succ k ih =>
      intro hk
      obtain ⟨j, h1, h2, h3, h4⟩ := ih (by omega)
      have e0 : ordL p (List.range (k + 1)) = ordL p (List.range k) * p.o k := by rw [List.range_succ, ordL_app]
      by_cases hj : ∃ h : j < ys.length, lead (ys[j]).v = k
      · obtain ⟨hjl, hjk⟩ := hj
        refine ⟨j + 1, hjl, fun i h hi => ?_, fun i h hi => ?_, ?_⟩
        · by_cases e : i = j
          · subst e; omega
          · have := h2 i h (by omega); omega
        · have := hasc j i hjl h (by omega); omega
        · rw [e0, h4, freeL_no (List.getElem_mem hjl) hjk, ordOf_take ys hjl, hjk, Int.mul_assoc]
      · have hno : ∀ y, y ∈ ys → lead y.v ≠ k := fun y hy e => by
          obtain ⟨i, hi, rfl⟩ := List.getElem_of_mem hy
          by_cases h5 : i < j
          · have := h2 i hi h5; omega
          · by_cases h6 : i = j
            · subst h6; exact hj ⟨hi, e⟩
            · have h7 := h3 j (by omega) (Nat.le_refl _)
              have := hasc j i (by omega) hi (by omega)
              omega
        refine ⟨j, h1, fun i h hi => by have := h2 i h hi; omega, fun i h hi => ?_, ?_⟩
        · have h5 := h3 i h hi
          have h6 := hno _ (List.getElem_mem h)
          omega
        · rw [e0, h4, freeL_yes hno, ordL_app, Int.mul_assoc, Int.mul_assoc, Int.mul_comm (ordOf p (ys.take j))]
  obtain ⟨j, h1, h2, h3, h4⟩ := key p.n (Nat.le_refl _)
  have hj : j = ys.length := by
    by_cases h : j < ys.length
    · have h5 := h3 j h (Nat.le_refl _)
      have h6 := (hs.lead1 _ (List.getElem_mem h)).1
      omega
    · omega
  rw [h4, hj, List.take_length]
/-- The index of a subgroup in the group. -/
def idxOf (p : Pr) (ys : List (El p)) : Int := ordL p (freeL p ys p.n)
theorem idx_eq [hc : ConAll p] {ys : List (El p)} (hs : SeqOk ys) (h1 : 1 ≤ ordOf p ys) : ordL p (List.range p.n) / ordOf p ys = idxOf p ys := by
  rw [ord_split hs, Int.mul_ediv_cancel _ (by omega)]; rfl
/-- The representatives of the cosets, in ascending order. -/
def transL (p : Pr) (ys : List (El p)) : List (List Int) := trTo p (freeL p ys p.n) (freeL p ys p.n).length
theorem transL_eq (hv : Valid p) (ys : List (El p)) : transL p ys = (List.range (idxOf p ys).toNat).map fun s : Nat => elTo p (freeL p ys p.n) (freeL p ys p.n).length (s : Int) := by
  unfold transL idxOf
  rw [trTo_eq hv (fun d hd => freeL_lt hd) _ (Nat.le_refl _), List.take_length]
end
def TrV (p : Pr) (xss r : List (List Int)) (e : Int) : Prop := ∃ (_ : ConAll p) (ys : List (El p)), xss = vecs ys ∧ ((128 < idxOf p ys ∧ r = [] ∧ e = 3) ∨ (idxOf p ys ≤ 128 ∧ r = transL p ys ∧ e = 0))
theorem TrV.uniq {p : Pr} {xss : List (List Int)} (a b : List (List Int)) (c d : Int) (h : TrV p xss a c) (k : TrV p xss b d) : a = b ∧ c = d := by
  obtain ⟨_, ys, h1, h2⟩ := h
  obtain ⟨_, ys', k1, k2⟩ := k
  obtain rfl := vecs_inj (h1.symm.trans k1)
  rcases h2 with ⟨h3, h4, h5⟩ | ⟨h3, h4, h5⟩ <;> rcases k2 with ⟨k3, k4, k5⟩ | ⟨k3, k4, k5⟩
  · exact ⟨by rw [h4, k4], by rw [h5, k5]⟩
  · omega
  · omega
  · exact ⟨by rw [h4, k4], by rw [h5, k5]⟩
theorem Transversal_sz0 {p : Pr} {xss r : List (List Int)} {e : Int} (_ : p.ord.length ≤ 2000000) (h : Ans (IsSubP p xss) (TrV p xss) [] r e) : r.length ≤ 2000000 ∧ ∀ i, (r.getD i []).length ≤ 2000000 := by
  rcases h with ⟨⟨hG, _⟩, _, ys, _, ⟨_, rfl, _⟩ | ⟨h3, rfl, _⟩⟩ | ⟨_, rfl, _⟩
  · simp
  · have hv := hG.valid
    have hn6 := hv.n6
    rw [transL_eq hv]
    refine ⟨by simp; omega, fun i => ?_⟩
    by_cases hi : i < (idxOf p ys).toNat
    · simp [hi, elTo_len]; omega
    · simp [hi]
  · simp
end Go.Proofs.Ytgomfjhhfmhlgaa

/-
  All elements of a group, by their numbers; elements whose commutators with the generators lie in a subgroup.
  Conditions: the tails at all levels are groups.
-/
namespace Go.Proofs.Ytgomfjhhfmhlgaa
open Go Go.Pc
section
variable {p : Pr}
theorem numF_lt (hv : Valid p) (l : List Nat) (hl : ∀ d, d ∈ l → d < p.n) (x : El p) : ∀ k, k ≤ l.length → 0 ≤ numF p (l.take k) x ∧ numF p (l.take k) x + 1 ≤ ordL p (l.take k)
  | 0, _ => by simp [numF, ordL]
  | k + 1, h => by
    have ih := numF_lt hv l hl x k (by omega)
    have hk : k < l.length := by omega
    have hd := hl _ (List.getElem_mem hk)
    have ho := hv.opos hd
    have hc : 0 ≤ co x l[k] ∧ co x l[k] < p.o l[k] := x.inr.rng _ hd
    rw [numF_take l x hk, ordL_take l hk, show l.getD k 0 = l[k] by simp [hk]]
    generalize numF p (l.take k) x = a at ih ⊢
    generalize ordL p (l.take k) = b at ih ⊢
    generalize co x l[k] = c at hc ⊢
    generalize p.o l[k] = o at ho hc ⊢
    have h1 : 0 ≤ a * o := Int.mul_nonneg ih.1 (by omega)
    have h2 : (a + 1) * o ≤ b * o := Int.mul_le_mul_of_nonneg_right ih.2 (by omega)
    rw [Int.add_mul, Int.one_mul] at h2
    omega
theorem elTo_num (hv : Valid p) (l : List Nat) (hn : l.Nodup) (hl : ∀ d, d ∈ l → d < p.n) (x : El p) : ∀ k, k ≤ l.length → ∀ d, d ∈ l.take k → (elTo p l k (numF p (l.take k) x)).getD d 0 = co x d
  | 0, _, d, hd => by simp at hd
  | k + 1, h, d, hd => by
    have hk : k < l.length := by omega
    have hdk := hl _ (List.getElem_mem hk)
    have ho := hv.opos hdk
    have hc : 0 ≤ co x l[k] ∧ co x l[k] < p.o l[k] := x.inr.rng _ hdk
    have hg : l.getD k 0 = l[k] := by simp [hk]
    show ((elTo p l k (numF p (l.take (k + 1)) x / p.o (l.getD k 0))).set (l.getD k 0) (numF p (l.take (k + 1)) x % p.o (l.getD k 0))).getD d 0 = co x d
    rw [numF_take l x hk, hg]
    have e1 : (numF p (l.take k) x * p.o l[k] + co x l[k]) / p.o l[k] = numF p (l.take k) x := by
      rw [Int.add_comm, Int.add_mul_ediv_right _ _ (by omega), Int.ediv_eq_zero_of_lt hc.1 hc.2, Int.zero_add]
    have e2 : (numF p (l.take k) x * p.o l[k] + co x l[k]) % p.o l[k] = co x l[k] := by
      rw [Int.add_comm, Int.add_mul_emod_self_right, Int.emod_eq_of_lt hc.1 hc.2]
    rw [e1, e2]
    by_cases h1 : l[k] = d
    · subst h1
      rw [Pc.getD_set_eq _ _ _ (by rw [elTo_len]; exact hdk)]
    · rw [Pc.getD_set_ne _ _ _ _ h1]
      have h2 : d ∈ l.take k := ((take_mem_succ hk).1 hd).resolve_right fun e => h1 (by rw [e, hg])
      exact elTo_num hv l hn hl x k (by omega) d h2
end
section
variable {p : Pr} [hc : ConAll p]
/-- The element with a number. -/
def allE (p : Pr) [hc : ConAll p] (i : Nat) : El p := elAtT hc.valid (List.range p.n) (fun _ hd => List.mem_range.1 hd) i (by omega)
theorem allE_val (i : Nat) : (allE p i).v = elTo p (List.range p.n) (List.range p.n).length (i : Int) := rfl
def ordN (p : Pr) : Nat := (ordL p (List.range p.n)).toNat
theorem allE_surj (x : El p) : ∃ i, i < ordN p ∧ x = allE p i := by
  have hv := hc.valid
  have hl : ∀ d, d ∈ List.range p.n → d < p.n := fun d hd => List.mem_range.1 hd
  have hb := numF_lt hv (List.range p.n) hl x (List.range p.n).length (Nat.le_refl _)
  have hn := elTo_num hv (List.range p.n) List.nodup_range hl x (List.range p.n).length (Nat.le_refl _)
  rw [List.take_length] at hb hn
  refine ⟨(numF p (List.range p.n) x).toNat, by unfold ordN; omega, T.ext ?_⟩
  rw [allE_val, Int.toNat_of_nonneg hb.1]
  have hxl := x.inr.len
  refine list_ext0 (by rw [elTo_len]; exact hxl) fun d hd => ?_
  rw [hn d (List.mem_range.2 (by omega))]; rfl
open Classical in
/-- The elements of a kind among the first ones. -/
noncomputable def selL (P : El p → Prop) (k : Nat) : List (El p) := ((List.range k).map (allE p)).filter fun x => decide (P x)
theorem selL_yes {P : El p → Prop} {k : Nat} (h : P (allE p k)) : selL P (k + 1) = selL P k ++ [allE p k] := by simp [selL, List.range_succ, h]
theorem selL_no {P : El p → Prop} {k : Nat} (h : ¬ P (allE p k)) : selL P (k + 1) = selL P k := by simp [selL, List.range_succ, h]
theorem selL_len (P : El p → Prop) (k : Nat) : (selL P k).length ≤ k := Nat.le_trans (List.length_filter_le _ _) (by simp)
open Classical in
theorem selL_all (P : El p → Prop) : (fun a => a ∈ selL P (ordN p)) = P := by
  funext a
  refine propext ⟨fun h => of_decide_eq_true (List.mem_filter.1 h).2, fun h => List.mem_filter.2 ⟨?_, decide_eq_true h⟩⟩
  obtain ⟨i, hi, rfl⟩ := allE_surj a
  exact List.mem_map.2 ⟨i, List.mem_range.2 hi, rfl⟩
theorem ordN_rng (p : Pr) [hc : ConAll p] : ordL p (List.range p.n) = (ordN p : Int) ∧ 1 ≤ ordN p ∧ ordN p ≤ 117649 := by
  have hv := hc.valid
  have hn6 := hv.n6
  have h := ordL_rng hv (l := List.range p.n) (fun d hd => List.mem_range.1 hd) (by simp; omega) (k := p.n) (by simp)
  rw [List.take_of_length_le (by simp)] at h
  unfold ordN
  omega
/-- The commutators with all generators lie in the subgroup. -/
def AbP (ys : List (El p)) (x : El p) : Prop := ∀ i (h : i < (gensL p).length), Gen (fun a : El p => a ∈ ys) (Grp.cm x (gensL p)[i])
theorem gen_nil (a : El p) (h : Gen (fun a : El p => a ∈ ([] : List (El p))) a) : a = 1 := by
  have hs : Sub (fun a : El p => a = 1) := ⟨rfl, fun a b ha hb => by rw [ha, hb, Grp.one_mul], fun a ha => by rw [ha, Grp.inv_one]⟩
  exact Gen.le hs (fun a ha => (List.not_mem_nil ha).elim) a h
theorem seqEl_nil : SeqEl ([] : List (El p)) := by
  refine ⟨?_⟩
  rw [canon_vecs]
  have e : canEls (Gen (fun a : El p => a ∈ ([] : List (El p)))) = [] := by
    refine List.eq_nil_of_length_eq_zero ?_
    rw [canEls_len, List.countP_eq_zero]
    intro d _ h
    obtain ⟨x, h1, _, h3⟩ := (canT_isSome (Gen.sub _)).1 h
    rw [gen_nil x h1, co_one] at h3
    exact h3 rfl
  rw [e]
end
def CtV (p : Pr) (r : List (List Int)) (e : Int) : Prop := (∃ (_ : ConAll p), r = canon (Gen (fun a : El p => AbP [] a))) ∧ e = 0
theorem CtV.uniq {p : Pr} (a b : List (List Int)) (c d : Int) (h : CtV p a c) (k : CtV p b d) : a = b ∧ c = d := by
  obtain ⟨⟨_, h1⟩, h2⟩ := h
  obtain ⟨⟨_, k1⟩, k2⟩ := k
  exact ⟨by rw [h1, k1], by rw [h2, k2]⟩
theorem Center_sz0 {p : Pr} {r : List (List Int)} {e : Int} (_ : p.ord.length ≤ 2000000) (h : Ans (IsGrp p) (CtV p) [] r e) : r.length ≤ 2000000 ∧ ∀ i, (r.getD i []).length ≤ 2000000 := by
  rcases h with ⟨hG, ⟨hc, rfl⟩, _⟩ | ⟨_, rfl, _⟩
  · exact canon_sz _ hG.valid.n6
  · simp
end Go.Proofs.Ytgomfjhhfmhlgaa

/-
  Answers: joins, normal closures, commutator subgroups.
  Conditions: none.
-/
namespace Go.Proofs.Ytgomfjhhfmhlgaa
open Go Go.Pc
def JoinV (p : Pr) (xss yss r : List (List Int)) (e : Int) : Prop := (∃ (_ : ConAll p) (ys zs : List (El p)), xss = vecs ys ∧ yss = vecs zs ∧ r = canon (Gen (fun a : El p => a ∈ ys ++ zs))) ∧ e = 0
theorem JoinV.uniq {p : Pr} {xss yss : List (List Int)} (a b : List (List Int)) (c d : Int) (h : JoinV p xss yss a c) (k : JoinV p xss yss b d) : a = b ∧ c = d := by
  obtain ⟨⟨hc, ys, zs, h2, h3, h4⟩, h5⟩ := h
  obtain ⟨⟨hc', ys', zs', k2, k3, k4⟩, k5⟩ := k
  obtain rfl := vecs_inj (h2.symm.trans k2)
  obtain rfl := vecs_inj (h3.symm.trans k3)
  exact ⟨by rw [h4, k4], by rw [h5, k5]⟩
def CommV (p : Pr) (xss yss r : List (List Int)) (e : Int) : Prop := (∃ (_ : ConAll p) (ys zs : List (El p)), xss = vecs ys ∧ yss = vecs zs ∧ r = canon (CommC ys zs)) ∧ e = 0
theorem CommV.uniq {p : Pr} {xss yss : List (List Int)} (a b : List (List Int)) (c d : Int) (h : CommV p xss yss a c) (k : CommV p xss yss b d) : a = b ∧ c = d := by
  obtain ⟨⟨hc, ys, zs, h2, h3, h4⟩, h5⟩ := h
  obtain ⟨⟨hc', ys', zs', k2, k3, k4⟩, k5⟩ := k
  obtain rfl := vecs_inj (h2.symm.trans k2)
  obtain rfl := vecs_inj (h3.symm.trans k3)
  exact ⟨by rw [h4, k4], by rw [h5, k5]⟩
def NclV (p : Pr) (xss r : List (List Int)) (e : Int) : Prop := (∃ (_ : ConAll p) (ys : List (El p)), xss = vecs ys ∧ r = canon (Clo (fun a : El p => a ∈ ys) (fun a : El p => a ∈ gensL p))) ∧ e = 0
theorem NclV.uniq {p : Pr} {xss : List (List Int)} (a b : List (List Int)) (c d : Int) (h : NclV p xss a c) (k : NclV p xss b d) : a = b ∧ c = d := by
  obtain ⟨⟨hc, ys, h2, h4⟩, h5⟩ := h
  obtain ⟨⟨hc', ys', k2, k4⟩, k5⟩ := k
  obtain rfl := vecs_inj (h2.symm.trans k2)
  exact ⟨by rw [h4, k4], by rw [h5, k5]⟩
theorem SubgroupJoin_sz0 {p : Pr} {xss yss r : List (List Int)} {e : Int} (_ : p.ord.length ≤ 2000000) (h : Ans (IsSubP p xss ∧ IsSubP p yss) (JoinV p xss yss) [] r e) : r.length ≤ 2000000 ∧ ∀ i, (r.getD i []).length ≤ 2000000 := by
  rcases h with ⟨⟨⟨hG, _⟩, _⟩, ⟨hc, ys, zs, _, _, rfl⟩, _⟩ | ⟨_, rfl, _⟩
  · exact canon_sz _ hG.valid.n6
  · simp
theorem CommutatorSubgroup_sz0 {p : Pr} {xss yss r : List (List Int)} {e : Int} (_ : p.ord.length ≤ 2000000) (h : Ans (IsSubP p xss ∧ IsSubP p yss) (CommV p xss yss) [] r e) : r.length ≤ 2000000 ∧ ∀ i, (r.getD i []).length ≤ 2000000 := by
  rcases h with ⟨⟨⟨hG, _⟩, _⟩, ⟨hc, ys, zs, _, _, rfl⟩, _⟩ | ⟨_, rfl, _⟩
  · exact canon_sz _ hG.valid.n6
  · simp
theorem NormalClosure_sz0 {p : Pr} {xss r : List (List Int)} {e : Int} (_ : p.ord.length ≤ 2000000) (h : Ans (IsSubP p xss) (NclV p xss) [] r e) : r.length ≤ 2000000 ∧ ∀ i, (r.getD i []).length ≤ 2000000 := by
  rcases h with ⟨⟨hG, _⟩, ⟨hc, ys, _, rfl⟩, _⟩ | ⟨_, rfl, _⟩
  · exact canon_sz _ hG.valid.n6
  · simp
end Go.Proofs.Ytgomfjhhfmhlgaa

/-
  Series of subgroups: steps until one stands still; the derived and the lower central series.
  Conditions: the tails at all levels are groups.
-/
namespace Go.Proofs.Ytgomfjhhfmhlgaa
open Go Go.Pc
def itL {α : Type} (f : α → α) (y : α) : Nat → α
  | 0 => y
  | k + 1 => f (itL f y k)
def SerR {α : Type} (f : α → α) (y : α) (K : Nat) : Prop := itL f y (K + 1) = itL f y K ∧ ∀ j, j < K → itL f y (j + 1) ≠ itL f y j
theorem SerR.uniq {α : Type} {f : α → α} {y : α} {K J : Nat} (h : SerR f y K) (k : SerR f y J) : K = J := by
  rcases Nat.lt_trichotomy K J with e | e | e
  · exact absurd h.1 (k.2 K e)
  · exact e
  · exact absurd k.1 (h.2 J e)
section
variable {p : Pr} [hc : ConAll p] {ys zs : List (El p)}
theorem co_gOf {d e : Nat} (hd : d < p.n) : co (gOf p 0 d : El p) e = if e = d then 1 else 0 := by
  show (gOf p 0 d : El p).v.getD e 0 = _
  rw [gOf_val hd]
  show ((zeros p.n).set d 1).getD e 0 = _
  split
  · rename_i h
    subst h
    rw [Pc.getD_set_eq _ _ _ (by rw [zeros_len]; exact hd)]
  · rename_i h
    rw [Pc.getD_set_ne _ _ _ _ (Ne.symm h), zeros_getD]
theorem filterMap_some {α β : Type} {f : α → Option β} {g : α → β} : ∀ l : List α, (∀ d, d ∈ l → f d = some (g d)) → l.filterMap f = l.map g
  | [], _ => rfl
  | d :: l, h => by
    rw [List.filterMap_cons, h d List.mem_cons_self, List.map_cons, filterMap_some l fun e he => h e (List.mem_cons_of_mem _ he)]
theorem sub_cj {H : El p → Prop} (hH : Pc.Sub H) {a b : El p} (ha : H a) (hb : H b) : H (Grp.cj a b) := hH.mul _ _ (hH.inv _ hb) (hH.mul _ _ ha hb)
theorem seqEl_gens : SeqEl (gensL p) := by
  have h : ∀ d, d < p.n → canT (Gen (fun a : El p => a ∈ gensL p)) d = some (gOf p 0 d) := fun d hd => by
    refine canT_eq (Gen.sub _) ⟨.of _ (List.mem_map.2 ⟨d, List.mem_range.2 hd, rfl⟩), fun k hk => ?_, ?_, fun e _ he => ?_⟩
    · have := co_gOf (p := p) (e := k) hd
      rw [if_neg (by omega)] at this
      exact this
    · rw [co_gOf hd, if_pos rfl]
    · rw [co_gOf hd, if_neg he]
  refine ⟨?_⟩
  rw [canon_vecs]
  congr 1
  exact filterMap_some _ fun d hd => h d (List.mem_range.1 hd)
theorem seq_len_le (hy : SeqEl ys) (hz : SeqEl zs) (hle : ∀ a, Gen (fun a : El p => a ∈ zs) a → Gen (fun a : El p => a ∈ ys) a) : zs.length ≤ ys.length := by
  have := can_len_le (Gen.sub _) (Gen.sub _) hle
  rwa [hy.els, hz.els] at this
theorem seq_len_iff (hy : SeqEl ys) (hz : SeqEl zs) (hle : ∀ a, Gen (fun a : El p => a ∈ zs) a → Gen (fun a : El p => a ∈ ys) a) : zs.length = ys.length ↔ zs = ys := by
  refine ⟨fun h => ?_, fun h => by rw [h]⟩
  have h2 := same_of_len (Gen.sub _) (Gen.sub _) hle (by rw [hy.els, hz.els]; omega)
  have e : Gen (fun a : El p => a ∈ zs) = Gen (fun a : El p => a ∈ ys) := by
    funext a; exact propext ⟨hle a, h2 a⟩
  rw [← hz.els, ← hy.els, e]
/-- What the walks need of a series. -/
structure SerOk (f : List (El p) → List (El p)) (y0 : List (El p)) : Prop where
  seq : ∀ k, SeqEl (itL f y0 k)
  eqv : ∀ k, (itL f y0 (k + 1)).length = (itL f y0 k).length ↔ itL f y0 (k + 1) = itL f y0 k
  bd : ∀ K, (∀ j, j < K → itL f y0 (j + 1) ≠ itL f y0 j) → K ≤ p.n
/-- A series that goes down. -/
theorem SerOk.down {f : List (El p) → List (El p)} {y0 : List (El p)} (Good : List (El p) → Prop) (h0 : Good y0) (hseq : ∀ ys, Good ys → SeqEl ys) (hf : ∀ ys, Good ys → Good (f ys))
    (hle : ∀ ys, Good ys → ∀ a, Gen (fun a : El p => a ∈ f ys) a → Gen (fun a : El p => a ∈ ys) a) : SerOk f y0 := by
  have hg : ∀ k, Good (itL f y0 k) := by
    intro k
    induction k with
    | zero => exact h0
    | succ k ih => exact hf _ ih
  have hs : ∀ k, SeqEl (itL f y0 k) := fun k => hseq _ (hg k)
  have he : ∀ k, (itL f y0 (k + 1)).length = (itL f y0 k).length ↔ itL f y0 (k + 1) = itL f y0 k := fun k => seq_len_iff (hs k) (hs (k + 1)) (hle _ (hg k))
  refine ⟨hs, he, fun K hK => ?_⟩
  have key : ∀ k, k ≤ K → (itL f y0 k).length + k ≤ p.n := by
    intro k
    induction k with
    | zero => exact fun _ => (hs 0).len
    | succ k ih =>
      intro hk
      have h1 := ih (by omega)
      have h2 := seq_len_le (hs k) (hs (k + 1)) (hle _ (hg k))
      have h3 := hK k (by omega)
      rw [Ne, ← he k] at h3
      omega
  have := key K (Nat.le_refl _)
  omega
/-- A series that goes up. -/
theorem SerOk.up {f : List (El p) → List (El p)} {y0 : List (El p)} (Good : List (El p) → Prop) (h0 : Good y0) (hseq : ∀ ys, Good ys → SeqEl ys) (hf : ∀ ys, Good ys → Good (f ys))
    (hle : ∀ ys, Good ys → ∀ a, Gen (fun a : El p => a ∈ ys) a → Gen (fun a : El p => a ∈ f ys) a) : SerOk f y0 := by
  have hg : ∀ k, Good (itL f y0 k) := by
    intro k
    induction k with
    | zero => exact h0
    | succ k ih => exact hf _ ih
  have hs : ∀ k, SeqEl (itL f y0 k) := fun k => hseq _ (hg k)
  have he : ∀ k, (itL f y0 (k + 1)).length = (itL f y0 k).length ↔ itL f y0 (k + 1) = itL f y0 k := fun k => by
    have := seq_len_iff (hs (k + 1)) (hs k) (hle _ (hg k))
    exact ⟨fun h => (this.1 h.symm).symm, fun h => by rw [h]⟩
  refine ⟨hs, he, fun K hK => ?_⟩
  have key : ∀ k, k ≤ K → k ≤ (itL f y0 k).length := by
    intro k
    induction k with
    | zero => exact fun _ => Nat.zero_le _
    | succ k ih =>
      intro hk
      have h1 := ih (by omega)
      have h2 := seq_len_le (hs (k + 1)) (hs k) (hle _ (hg k))
      have h3 := hK k (by omega)
      rw [Ne, ← he k] at h3
      omega
  have h1 := key K (Nat.le_refl _)
  have h2 := (hs K).len
  omega
noncomputable def derF (ys : List (El p)) : List (El p) := canEls (CommC ys ys)
noncomputable def lowF (ys : List (El p)) : List (El p) := canEls (CommC ys (gensL p))
theorem commC_sub (ys zs : List (El p)) : Pc.Sub (CommC ys zs) := Clo.sub _ _
theorem derF_vecs (ys : List (El p)) : canon (CommC ys ys) = vecs (derF ys) := canon_vecs _
theorem lowF_vecs (ys : List (El p)) : canon (CommC ys (gensL p)) = vecs (lowF ys) := canon_vecs _
theorem commsL2_mem {a : El p} (h : a ∈ commsL2 ys zs) : ∃ y z, y ∈ ys ∧ z ∈ zs ∧ a = Grp.cm y z := by
  unfold commsL2 at h
  obtain ⟨y, hy, h⟩ := List.mem_flatMap.1 h
  obtain ⟨z, hz, rfl⟩ := List.mem_map.1 h
  exact ⟨y, z, hy, hz, rfl⟩
theorem serOk_der : SerOk (derF (p := p)) (gensL p) := by
  refine SerOk.down (fun ys => SeqEl ys) seqEl_gens (fun _ h => h) (fun ys _ => seqEl_can (commC_sub ys ys)) fun ys _ a ha => ?_
  have hS := Gen.sub (fun a : El p => a ∈ ys)
  unfold derF at ha
  rw [gen_can_eq (commC_sub ys ys)] at ha
  refine Clo.le hS (fun a ha => ?_) (fun a b h1 h2 => ?_) a ha
  · obtain ⟨y, z, hy, hz, rfl⟩ := commsL2_mem ha
    exact hS.cm (.of y hy) (.of z hz)
  · refine sub_cj hS h1 (.of b ?_)
    rcases List.mem_append.1 h2 with h | h <;> exact h
theorem serOk_low : SerOk (lowF (p := p)) (gensL p) := by
  refine SerOk.down (fun ys => SeqEl ys ∧ ∀ a, Gen (fun a : El p => a ∈ ys) a → ∀ g, g ∈ gensL p → Gen (fun a : El p => a ∈ ys) (Grp.cj a g)) ⟨seqEl_gens, fun a ha g hg => sub_cj (Gen.sub _) ha (.of g hg)⟩ (fun _ h => h.1) (fun ys _ => ⟨seqEl_can (commC_sub ys (gensL p)), fun a ha g hg => ?_⟩) fun ys hys a ha => ?_
  · unfold lowF at ha ⊢
    rw [gen_can_eq (commC_sub ys (gensL p))] at ha ⊢
    exact .cj a g ha (List.mem_append_right _ hg)
  · have hS := Gen.sub (fun a : El p => a ∈ ys)
    unfold lowF at ha
    rw [gen_can_eq (commC_sub ys (gensL p))] at ha
    refine Clo.le hS (fun a ha => ?_) (fun a b h1 h2 => ?_) a ha
    · obtain ⟨y, z, hy, hz, rfl⟩ := commsL2_mem ha
      exact hS.mul _ _ (hS.inv _ (.of y hy)) (hys.2 y (.of y hy) z hz)
    · rcases List.mem_append.1 h2 with h | h
      · exact sub_cj hS h1 (.of b h)
      · exact hys.2 a h1 b h
end
/-- What a series is, with its code. -/
def SrV (p : Pr) (C : ConAll p → (List (El p) → List (El p)) × List (El p)) (r : List (List (List Int))) (e : Int) : Prop := ∃ (c : ConAll p) (K : Nat), SerR (C c).1 (C c).2 K ∧ r = (List.range (K + 1)).map (fun j => vecs (itL (C c).1 (C c).2 j)) ∧ e = 0
theorem SrV.uniq {p : Pr} {C : ConAll p → (List (El p) → List (El p)) × List (El p)} (a b : List (List (List Int))) (c d : Int) (h : SrV p C a c) (g : SrV p C b d) : a = b ∧ c = d := by
  obtain ⟨_, K, h1, rfl, rfl⟩ := h
  obtain ⟨_, J, g1, rfl, rfl⟩ := g
  obtain rfl := h1.uniq g1
  exact ⟨rfl, rfl⟩
noncomputable def DerC (p : Pr) (c : ConAll p) : (List (El p) → List (El p)) × List (El p) := (derF, gensL p)
noncomputable def LowC (p : Pr) (c : ConAll p) : (List (El p) → List (El p)) × List (El p) := (lowF, gensL p)
/-- The class of a nilpotent group, with its code. -/
def NcV (p : Pr) (r e : Int) : Prop := ∃ (c : ConAll p) (K : Nat), SerR (lowF (p := p)) (gensL p) K ∧ ((0 < (itL (lowF (p := p)) (gensL p) K).length ∧ r = 0 ∧ e = 4) ∨ ((itL (lowF (p := p)) (gensL p) K).length = 0 ∧ r = K ∧ e = 0))
theorem NcV.uniq {p : Pr} (a b c d : Int) (h : NcV p a c) (g : NcV p b d) : a = b ∧ c = d := by
  obtain ⟨_, K, h1, h2⟩ := h
  obtain ⟨_, J, g1, g2⟩ := g
  obtain rfl := h1.uniq g1
  rcases h2 with ⟨h3, rfl, rfl⟩ | ⟨h3, rfl, rfl⟩ <;> rcases g2 with ⟨g3, rfl, rfl⟩ | ⟨g3, rfl, rfl⟩
  · exact ⟨rfl, rfl⟩
  · omega
  · omega
  · exact ⟨rfl, rfl⟩
end Go.Proofs.Ytgomfjhhfmhlgaa

/-
  The upper central series and the lower exponent series.
  Conditions: the tails at all levels are groups.
-/
namespace Go.Proofs.Ytgomfjhhfmhlgaa
open Go Go.Pc
section
variable {p : Pr} [hc : ConAll p]
noncomputable def abF (ys : List (El p)) : List (El p) := canEls (Gen (fun a : El p => AbP ys a))
noncomputable def expL (q : Int) (ys : List (El p)) : List (El p) := lowF ys ++ ys.map fun y => Grp.pwz y q
noncomputable def expF (q : Int) (ys : List (El p)) : List (El p) := canEls (Gen (fun a : El p => a ∈ expL q ys))
theorem abF_vecs (ys : List (El p)) : canon (Gen (fun a : El p => AbP ys a)) = vecs (abF ys) := canon_vecs _
theorem expF_vecs (q : Int) (ys : List (El p)) : canon (Gen (fun a : El p => a ∈ expL q ys)) = vecs (expF q ys) := canon_vecs _
theorem cj_cm (a g : El p) : Grp.cj a g = a * Grp.cm a g := by
  show _ = a * (a⁻¹ * Grp.cj a g)
  rw [← Grp.mul_assoc, Grp.mul_inv, Grp.one_mul]
theorem serOk_up : SerOk (abF (p := p)) [] := by
  have key : ∀ ys : List (El p), (∀ a, Gen (fun a : El p => a ∈ ys) a → ∀ g, g ∈ gensL p → Gen (fun a : El p => a ∈ ys) (Grp.cj a g)) → ∀ a, Gen (fun a : El p => a ∈ ys) a → Gen (fun a : El p => AbP ys a) a := fun ys h a ha =>
    .of a fun i hi => (Gen.sub _).mul _ _ ((Gen.sub _).inv _ ha) (h a ha _ (List.getElem_mem hi))
  refine SerOk.up (fun ys => SeqEl ys ∧ ∀ a, Gen (fun a : El p => a ∈ ys) a → ∀ g, g ∈ gensL p → Gen (fun a : El p => a ∈ ys) (Grp.cj a g)) ⟨seqEl_nil, fun a ha g hg => ?_⟩ (fun _ h => h.1) (fun ys hys => ⟨seqEl_can (Gen.sub _), fun a ha g hg => ?_⟩) fun ys hys a ha => ?_
  · rw [gen_nil a ha, Grp.cj_one]; exact (Gen.sub _).one
  · unfold abF at ha ⊢
    rw [gen_can_eq (Gen.sub _)] at ha ⊢
    refine Gen.cj_closed (Gen.sub _) (fun b hb => ?_) a ha
    obtain ⟨i, hi, rfl⟩ := List.getElem_of_mem hg
    rw [cj_cm]
    exact (Gen.sub _).mul _ _ (.of b hb) (key ys hys.2 _ (hb i hi))
  · unfold abF
    rw [gen_can_eq (Gen.sub _)]
    exact key ys hys.2 a ha
theorem pw_cj {H : El p → Prop} (hH : Pc.Sub H) {y g : El p} (hcj : ∀ c, H c → H (Grp.cj c y)) (hd : H (Grp.cm y g)) : ∀ n, ∃ c, H c ∧ Grp.pw (Grp.cj y g) n = Grp.pw y n * c
  | 0 => ⟨1, hH.one, by rw [Grp.pw_zero, Grp.pw_zero, Grp.one_mul]⟩
  | n + 1 => by
    obtain ⟨c, hc, e⟩ := pw_cj hH hcj hd n
    refine ⟨Grp.cj c y * Grp.cm y g, hH.mul _ _ (hcj c hc) hd, ?_⟩
    have e2 : c * y = y * Grp.cj c y := by
      show _ = y * (y⁻¹ * (c * y))
      rw [← Grp.mul_assoc, Grp.mul_inv, Grp.one_mul]
    rw [Grp.pw_succ, Grp.pw_succ, e, cj_cm y g, Grp.mul_assoc, ← Grp.mul_assoc c, e2]
    simp only [Grp.mul_assoc]
theorem serOk_exp {q : Int} (hq : 0 ≤ q) : SerOk (expF (p := p) q) (gensL p) := by
  have low : ∀ ys : List (El p), Gen (fun a : El p => a ∈ lowF ys) = CommC ys (gensL p) := fun ys => gen_can_eq (commC_sub ys (gensL p))
  have up : ∀ (ys : List (El p)) a, CommC ys (gensL p) a → Gen (fun a : El p => a ∈ expL q ys) a := fun ys a ha => by
    rw [← low ys] at ha
    exact Gen.le (Gen.sub _) (fun b hb => .of b (List.mem_append_left _ hb)) a ha
  refine SerOk.down (fun ys => SeqEl ys ∧ ∀ a, Gen (fun a : El p => a ∈ ys) a → ∀ g, g ∈ gensL p → Gen (fun a : El p => a ∈ ys) (Grp.cj a g)) ⟨seqEl_gens, fun a ha g hg => sub_cj (Gen.sub _) ha (.of g hg)⟩ (fun _ h => h.1) (fun ys hys => ⟨seqEl_can (Gen.sub _), fun a ha g hg => ?_⟩) fun ys hys a ha => ?_
  · unfold expF at ha ⊢
    rw [gen_can_eq (Gen.sub _)] at ha ⊢
    refine Gen.cj_closed (Gen.sub _) (fun b hb => ?_) a ha
    rcases List.mem_append.1 hb with hb | hb
    · have h1 : CommC ys (gensL p) b := by rw [← low ys]; exact .of b hb
      exact up ys _ (.cj b g h1 (List.mem_append_right _ hg))
    · obtain ⟨y, hy, rfl⟩ := List.mem_map.1 hb
      have h2 := hb
      rw [Grp.pwz_of y hq, Grp.cj_pw]
      obtain ⟨c, hc, e⟩ := pw_cj (commC_sub ys (gensL p)) (y := y) (g := g) (fun c hc => .cj c y hc (List.mem_append_left _ hy)) (.of _ (by
        unfold commsL2
        exact List.mem_flatMap.2 ⟨y, hy, List.mem_map.2 ⟨g, hg, rfl⟩⟩)) q.toNat
      rw [e, ← Grp.pwz_of y hq]
      exact (Gen.sub _).mul _ _ (.of _ (List.mem_append_right _ h2)) (up ys c hc)
  · have hS := Gen.sub (fun a : El p => a ∈ ys)
    unfold expF at ha
    rw [gen_can_eq (Gen.sub _)] at ha
    refine Gen.le hS (fun b hb => ?_) a ha
    rcases List.mem_append.1 hb with hb | hb
    · have h1 : CommC ys (gensL p) b := by rw [← low ys]; exact .of b hb
      refine Clo.le hS (fun a ha => ?_) (fun a b h1 h2 => ?_) b h1
      · obtain ⟨y, z, hy, hz, rfl⟩ := commsL2_mem ha
        exact hS.mul _ _ (hS.inv _ (.of y hy)) (hys.2 y (.of y hy) z hz)
      · rcases List.mem_append.1 h2 with h | h
        · exact sub_cj hS h1 (.of b h)
        · exact hys.2 a h1 b h
    · obtain ⟨y, hy, rfl⟩ := List.mem_map.1 hb
      exact hS.pwz (.of y hy) q
end
noncomputable def UpC (p : Pr) (c : ConAll p) : (List (El p) → List (El p)) × List (El p) := (abF, [])
noncomputable def ExpC (p : Pr) (q : Int) (c : ConAll p) : (List (El p) → List (El p)) × List (El p) := (expF q, gensL p)
/-- What a series for a prime is, with its code. -/
def ExV (p : Pr) (q : Int) (r : List (List (List Int))) (e : Int) : Prop := (¬ (q = 2 ∨ q = 3 ∨ q = 5 ∨ q = 7) ∧ r = [] ∧ e = 2) ∨ ((q = 2 ∨ q = 3 ∨ q = 5 ∨ q = 7) ∧ SrV p (ExpC p q) r e)
theorem ExV.uniq {p : Pr} {q : Int} (a b : List (List (List Int))) (c d : Int) (h : ExV p q a c) (g : ExV p q b d) : a = b ∧ c = d := by
  rcases h with ⟨h1, rfl, rfl⟩ | ⟨h1, h2⟩ <;> rcases g with ⟨g1, rfl, rfl⟩ | ⟨g1, g2⟩
  · exact ⟨rfl, rfl⟩
  · exact absurd g1 h1
  · exact absurd h1 g1
  · exact h2.uniq _ _ _ _ g2
end Go.Proofs.Ytgomfjhhfmhlgaa

/-
  Walks: the reference's IsMember and IsSubset.
  Conditions: what the arguments read as.
-/
namespace Go.Proofs.Ytgomfjhhfmhlgaa
open Go Go.Pc
end Go.Proofs.Ytgomfjhhfmhlgaa

/-
  Walks: the reference's CosetRepresentative.
  Conditions: what the arguments read as.
-/
namespace Go.Proofs.Ytgomfjhhfmhlgaa
open Go Go.Pc
end Go.Proofs.Ytgomfjhhfmhlgaa

/-
  Walks: the reference's closure under conjugation, its test of normality (l13Stable, l13Normal).
  Conditions: the tails at all levels are groups; the lists are those told.
-/
namespace Go.Proofs.Ytgomfjhhfmhlgaa
open Go Go.Pc
/-- One round: the elements, and their conjugates. -/
structure Rnd {p : Pr} [ConAll p] (os bs ls : List (El p)) (i j : Nat) : Prop where
  mem : ∀ a, a ∈ ls → a ∈ os ∨ ∃ o, o ∈ os ∧ ∃ b, b ∈ bs ∧ a = Grp.cj o b
  old : ∀ o, o ∈ os → o ∈ ls
  rows : ∀ i' (h : i' < bs.length), i' < i → ∀ o, o ∈ os → Grp.cj o bs[i'] ∈ ls
  part : ∀ (h : i < bs.length) j' (h' : j' < os.length), j' < j → Grp.cj os[j'] bs[i] ∈ ls
  len : ls.length ≤ 6 + i * 6 + j
theorem Rnd.step {p : Pr} [ConAll p] {os bs ls : List (El p)} {i j : Nat} (h : Rnd os bs ls i j) (hi : i < bs.length) (hj : j < os.length) : Rnd os bs (ls ++ [Grp.cj os[j] bs[i]]) i (j + 1) where
  mem a ha := by
    rcases List.mem_append.1 ha with ha | ha
    · exact h.mem a ha
    · exact .inr ⟨_, List.getElem_mem hj, _, List.getElem_mem hi, List.mem_singleton.1 ha⟩
  old o ho := List.mem_append_left _ (h.old o ho)
  rows i' h1 h2 o ho := List.mem_append_left _ (h.rows i' h1 h2 o ho)
  part h1 j' h2 h3 := by
    by_cases e : j' = j
    · subst e; simp
    · exact List.mem_append_left _ (h.part h1 j' h2 (by omega))
  len := by have := h.len; simp only [List.length_append, List.length_singleton]; omega
theorem Rnd.next {p : Pr} [ConAll p] {os bs ls : List (El p)} {i : Nat} (h : Rnd os bs ls i os.length) (hi : i < bs.length) (h6 : os.length ≤ 6) : Rnd os bs ls (i + 1) 0 where
  mem := h.mem
  old := h.old
  rows i' h1 h2 o ho := by
    by_cases e : i' = i
    · subst e
      obtain ⟨j, hj, rfl⟩ := List.getElem_of_mem ho
      exact h.part h1 j hj hj
    · exact h.rows i' h1 (by omega) o ho
  part h1 j' h2 h3 := absurd h3 (Nat.not_lt_zero _)
  len := by have := h.len; omega
theorem vecs_append {p : Pr} (l m : List (El p)) : vecs (l ++ m) = vecs l ++ vecs m := by simp [vecs]
theorem gen_le_gen {p : Pr} [ConAll p] {l m : List (El p)} (h : ∀ a, a ∈ l → Gen (fun a : El p => a ∈ m) a) : ∀ a, Gen (fun a : El p => a ∈ l) a → Gen (fun a : El p => a ∈ m) a := Gen.le (Gen.sub _) h
set_option maxHeartbeats 2000000 in
theorem l13StableL_ok {p : Pr} [hc : ConAll p] {ys bs : List (El p)} (hs : SeqEl ys) (hbl : bs.length ≤ 1000) {w : World} {vp vu vb : Value} {us ub : List Value} {xss yss : List (List Int)} {lo hi lo1 hi1 lo2 hi2 : Nat} [hp : Pres lo hi w vp p] [hu : Pc.Rows lo1 hi1 w vu us xss] [hb : Pc.Rows lo2 hi2 w vb ub yss] (hus : xss = vecs ys) (hbs : yss = vecs bs) :
    Calls Try.prog 136 #[vp, vu, vb] w (Ret fun v w' => Ext w w' ∧ ∃ us', Lst 22 w.heap.size (· < w.heap.size) w' v us' (canon (Clo (fun a : El p => a ∈ ys) (fun a : El p => a ∈ bs)))) := by
  subst hus hbs
  have hv := hc.valid
  have hn6 := hv.n6
  have hbvl : (vecs bs).length = bs.length := by simp
  replace hp := hp.wide
  replace hu := hu.wide
  replace hb := hb.wide
  obtain ⟨vo, vpw, vc, ps, cs, css, rfl, h1, h2, h3⟩ := hp.ex
  refine enter (args := [.agg #[vo, vpw, vc], vu, vb]) (l := [.tmp 6]) Try.func136 rfl rfl Try.ntmps136 (by simp) ?_
  refine go ?_
  refine st_box3 (by ((try simp only [ev_tmp, ev_const, ev_func, get_put, get_args, get_putL, get_putL_nil, Nat.reduceEqDiff, reduceIte, List.getD_cons_zero, List.getD_cons_succ, List.getD_nil]); first | done | with_reducible rfl)) (by first | exact True.intro | exact ⟨_, rfl, by ((try simp only [ev_tmp, ev_const, ev_func, get_put, get_args, get_putL, get_putL_nil, Nat.reduceEqDiff, reduceIte, List.getD_cons_zero, List.getD_cons_succ, List.getD_nil, Bool.not_true, Bool.not_false]); first | done | with_reducible rfl)⟩) fun w1 b he1 hb1 hs1 hc0 hc1 hc2 => ?_
  have hz1 := he1.size
  have hu1 : Pc.Rows 0 w1.heap.size w1 vu us (vecs ys) := Pc.Rows.wide inferInstance
  refine go ?_
  refine r_loop (fun m ρ w' => ∃ vo' uo os, Has ρ [(2, vb), (3, .pointer (some ⟨b, 0, none⟩)), (7, vo')] ∧ Ext w1 w' ∧ Pc.Rows 0 w'.heap.size w' vo' uo (vecs os) ∧ SeqEl os ∧ (∀ y, y ∈ ys → Gen (fun a : El p => a ∈ os) y) ∧ (∀ o, o ∈ os → Clo (fun a : El p => a ∈ ys) (fun a : El p => a ∈ bs) o) ∧ m = p.n - os.length) (p.n - ys.length) ?_ ?_
  · refine ⟨vu, us, ys, ?_, Ext.refl _, hu1, hs, fun y hy => .of y hy, fun y hy => .of y hy, rfl⟩
    exact hasP
  clear hu1
  rintro m ρ w2 ⟨vo', uo, os, hH, he2, hR2, hso, hyo, hoc, hm⟩
  refine rwp_has hH fun ρ0 => ?_
  have hz2 := he2.size
  have hol := hso.len
  have hovl : (vecs os).length = os.length := by simp
  have hE2 := he1.trans he2
  refine go ?_
  refine rc (l01Own2G_ok (xss := vecs os) (fun i => ?_) ?_) (next := fun v3 w3 h4 => ?_)
  · have := vecs_len os i; omega
  · omega
  obtain ⟨he3, rs3, hG3, hrs3⟩ := h4
  refine go ?_
  refine r_for bs.length (fun i ρ w' => ∃ vl rs ls, Has ρ [(2, vb), (3, .pointer (some ⟨b, 0, none⟩)), (7, vo'), (8, vl), (9, .int .i64 i)] ∧ Ext w2 w' ∧ GrowL 22 w2.heap.size w' vl rs ∧ rs.map (·.2) = vecs ls ∧ Rnd os bs ls i 0) ?_ ?_
  · refine ⟨v3, rs3, os, ?_, he3, hG3, hrs3, ⟨fun a ha => .inl ha, fun o ho => ho, fun i' _ h => absurd h (Nat.not_lt_zero _), fun _ j' _ h => absurd h (Nat.not_lt_zero _), by omega⟩⟩
    exact hasP
  clear hG3 hrs3 he3
  rintro i ρ w4 hi ⟨vl, rs, ls, hH4, he4, hG4, hrs4, hK4⟩
  refine rwp_has hH4 fun ρ1 => ?_
  have hz4 := he4.size
  refine go ?_
  refine c_if (fun h4 => ?_) (fun h4 => ?_)
  · have hin : i < bs.length := by omega
    refine go ?_
    refine r_for os.length (fun j ρ w' => ∃ vl rs ls, Has ρ [(2, vb), (3, .pointer (some ⟨b, 0, none⟩)), (7, vo'), (8, vl), (9, .int .i64 i), (10, .int .i64 j)] ∧ Ext w2 w' ∧ GrowL 22 w2.heap.size w' vl rs ∧ rs.map (·.2) = vecs ls ∧ Rnd os bs ls i j) ?_ ?_
    · refine ⟨vl, rs, ls, ?_, he4, hG4, hrs4, hK4⟩
      exact hasP
    clear hG4 hrs4 he4 hK4
    rintro j ρ w5 hj ⟨vl, rs, ls, hH5, he5, hG5, hrs5, hK5⟩
    refine rwp_has hH5 fun ρ2 => ?_
    have hz5 := he5.size
    have hrl : rs.length = ls.length := by have := congrArg List.length hrs5; simpa using this
    have hll := hK5.len
    refine go ?_
    refine c_if (fun h5 => ?_) (fun h5 => ?_)
    · have hjn : j < os.length := by omega
      have hg1 := vecs_getD os hjn
      have hg2 := vecs_getD bs hin
      have hE5 := hE2.trans he5
      obtain ⟨b', hb', hvb'⟩ := own_some' vl w2.heap.size w5.heap.size (by omega) (fun g h => (hG5.lst.lt h).1)
      have ap1 : Apart 0 w.heap.size b' := ⟨.inr (by omega)⟩
      have ap2 : Apart b (b + 1) b' := ⟨.inr (by omega)⟩
      have ap3 : Apart 0 w2.heap.size b' := ⟨.inr (by omega)⟩
      refine go ?_
      refine z_order b' (List.range 14) (h := fun w6 he6 _ => ?_)
      refine zgo ?_
      refine zc (l10Conj_ok (p := p) (x := os[j]) (y := bs[i]) hg1 hg2) (next := fun v7 w7 h7 => ?_)
      obtain ⟨he7, hf7⟩ := h7
      refine z_grow (hG5.ext he6) he7 hf7 (by have := he6.size; omega) (by omega) hvb' (next := fun v8 v9 w9 hG9 hx9 hz9 hgs9 => ?_)
      refine zgo ?_
      refine z_end ?_
      refine go ?_
      refine forQ_normal (by omega) ⟨v9, _, ls ++ [Grp.cj os[j] bs[i]], ?_, hx9 w2 ((he5.trans he6).trans he7) (Nat.le_refl _), hG9, ?_, hK5.step hin hjn⟩
      · exact hasP
      · rw [vecs_append, List.map_append, hrs5]; rfl
    · obtain rfl : j = os.length := by omega
      refine go ?_
      refine forQ_normal (by omega) ⟨vl, rs, ls, ?_, he5, hG5, hrs5, hK5.next hin (by omega)⟩
      exact hasP
  · obtain rfl : i = bs.length := by omega
    have hR4 := hG4.rows
    have hll := hK4.len
    have hE4 := hE2.trans he4
    refine go ?_
    refine rc (l12Close_ok (p := p) (ys := ls) hrs4 ?_) (next := fun v5 w5 h5 => ?_)
    · omega
    obtain ⟨he5, us5, hL5⟩ := h5
    have hN5 := hL5.newRows
    have hE5 := hE4.trans he5
    have hz5 := he5.size
    have hSL := Gen.sub (fun a : El p => a ∈ ls)
    have hSO := Gen.sub (fun a : El p => a ∈ os)
    have hSC := Clo.sub (fun a : El p => a ∈ ys) (fun a : El p => a ∈ bs)
    have hOL : ∀ a, Gen (fun a : El p => a ∈ os) a → Gen (fun a : El p => a ∈ ls) a := gen_le_gen fun a ha => .of a (hK4.old a ha)
    have hLC : ∀ a, Gen (fun a : El p => a ∈ ls) a → Clo (fun a : El p => a ∈ ys) (fun a : El p => a ∈ bs) a := Gen.le hSC fun a ha => by
      rcases hK4.mem a ha with h | ⟨o, ho, b, hb, rfl⟩
      · exact hoc a h
      · exact .cj _ _ (hoc o ho) hb
    have hcl : (canon (Gen (fun a : El p => a ∈ ls))).length = (canEls (Gen (fun a : El p => a ∈ ls))).length := by rw [canon_vecs]; simp
    have hle := can_len_le hSO hSL hOL
    rw [hso.els] at hle
    have hln := (seqEl_can hSL).len
    refine go ?_
    refine c_if (fun h6 => ?_) (fun h6 => ?_)
    · have hlen : (canEls (Gen (fun a : El p => a ∈ ls))).length ≤ os.length := by omega
      have hsame := same_of_len hSO hSL hOL (by rw [hso.els]; exact hlen)
      have hCO : ∀ a, Clo (fun a : El p => a ∈ ys) (fun a : El p => a ∈ bs) a → Gen (fun a : El p => a ∈ os) a :=
        Clo.le hSO (fun y hy => hyo y hy) fun a b ha hb => Gen.cj_closed hSO (fun o ho => hsame _ (.of _ (by
          obtain ⟨i', hi', rfl⟩ := List.getElem_of_mem hb
          exact hK4.rows i' hi' hi' o ho))) a ha
      have hfun : Gen (fun a : El p => a ∈ ls) = Clo (fun a : El p => a ∈ ys) (fun a : El p => a ∈ bs) := by
        funext a; exact propext ⟨hLC a, fun h => hOL a (hCO a h)⟩
      refine go ?_
      refine ret1 ⟨hE5, us5, ?_⟩
      rw [← hfun]
      exact hL5.low (by omega) (by omega)
    · refine go ?_
      have hR5 := hN5.mono (Nat.zero_le _) (Nat.le_refl _)
      refine loopQ_normal ?_ ⟨v5, us5, canEls (Gen (fun a : El p => a ∈ ls)), ?_, (he2.trans he4).trans he5, ?_, seqEl_can hSL, fun y hy => ?_, fun o ho => ?_, rfl⟩
      · omega
      · exact hasP
      · rw [← canon_vecs]; exact hR5
      · rw [gen_can_eq hSL]; exact hOL y (hyo y hy)
      · obtain ⟨d, _, h7⟩ := canEls_mem.1 ho
        exact hLC _ (canT_some h7).mem
theorem l13Stable_ok {p : Pr} [hc : ConAll p] {ys bs : List (El p)} (hs : SeqEl ys) (hbl : bs.length ≤ 1000) {w : World} {vp vu vb : Value} {us ub : List Value} {xss yss : List (List Int)} {lo hi lo1 hi1 lo2 hi2 : Nat} [hp : Pres lo hi w vp p] [hu : Pc.Rows lo1 hi1 w vu us xss] [hb : Pc.Rows lo2 hi2 w vb ub yss] (hus : xss = vecs ys) (hbs : yss = vecs bs) :
    Calls Try.prog 136 #[vp, vu, vb] w (Ret fun v w' => Ext w w' ∧ ∃ us', Pc.Rows w.heap.size w'.heap.size w' v us' (canon (Clo (fun a : El p => a ∈ ys) (fun a : El p => a ∈ bs)))) :=
  Pc.Calls.ret_mono (l13StableL_ok hs hbl hus hbs) fun _ _ ⟨h1, us', h2⟩ => ⟨h1, us', h2.newRows⟩
end Go.Proofs.Ytgomfjhhfmhlgaa

/-
  Walks: the reference's GeneratedSubgroup, ConjugateSubgroup, IsNormalSubgroup, SubgroupIndex, SubgroupDepths.
  Conditions: what the arguments read as.
-/
namespace Go.Proofs.Ytgomfjhhfmhlgaa
open Go Go.Pc
theorem els_inR {p : Pr} {xss : List (List Int)} (h : ∀ i, i < xss.length → InR p (xss.getD i [])) : ∃ ys : List (El p), xss = vecs ys := els_of h
theorem ordOf_pos {p : Pr} [hc : ConAll p] {ys : List (El p)} (hs : SeqEl ys) : 1 ≤ ordOf p ys ∧ ordOf p ys ≤ 117649 := by
  have h := ordOf_rng (ys := ys) (k := ys.length) (by have := hs.len; have := hc.valid.n6; omega) (Nat.le_refl _) fun y hy => (hs.ok.lead1 y hy).1
  rwa [List.take_length] at h
end Go.Proofs.Ytgomfjhhfmhlgaa

/-
  Walks: the reference's CosetNumber, MemberElement, MemberExponents.
  Conditions: what the arguments read as.
-/
namespace Go.Proofs.Ytgomfjhhfmhlgaa
open Go Go.Pc
theorem l10One_ok {p : Pr} [hc : ConAll p] {w : World} {vp : Value} {lo hi : Nat} [hp : Pres lo hi w vp p] :
    Calls Try.prog 148 #[vp] w (Ret fun v w' => Ext w w' ∧ Fr w.heap.size w' v (1 : El p).v) := by
  have hn6 := hc.valid.n6
  have hol : p.ord.length = p.n := rfl
  obtain ⟨vo, vpw, vc, ps, cs, css, rfl, h1, h2, h3⟩ := hp.ex
  refine enter (args := [.agg #[vo, vpw, vc]]) (l := [.tmp 2]) Try.func148 rfl rfl Try.ntmps148 (by simp) ?_
  refine go ?_
  refine st_box3 (by ((try simp only [ev_tmp, ev_const, ev_func, get_put, get_args, get_putL, get_putL_nil, Nat.reduceEqDiff, reduceIte, List.getD_cons_zero, List.getD_cons_succ, List.getD_nil]); first | done | with_reducible rfl)) (by first | exact True.intro | exact ⟨_, rfl, by ((try simp only [ev_tmp, ev_const, ev_func, get_put, get_args, get_putL, get_putL_nil, Nat.reduceEqDiff, reduceIte, List.getD_cons_zero, List.getD_cons_succ, List.getD_nil, Bool.not_true, Bool.not_false]); first | done | with_reducible rfl)⟩) fun w1 b he1 hb1 hs1 hc0 hc1 hc2 => ?_
  refine go ?_
  refine st_make_int (by ((try simp only [ev_tmp, ev_const, ev_func, get_put, get_args, get_putL, get_putL_nil, Nat.reduceEqDiff, reduceIte, List.getD_cons_zero, List.getD_cons_succ, List.getD_nil]); first | done | with_reducible rfl)) (by ((try simp only [ev_tmp, ev_const, ev_func, get_put, get_args, get_putL, get_putL_nil, Nat.reduceEqDiff, reduceIte, List.getD_cons_zero, List.getD_cons_succ, List.getD_nil]); first | done | with_reducible rfl)) (by omega) (by omega) (by first | exact True.intro | exact ⟨_, rfl, by ((try simp only [ev_tmp, ev_const, ev_func, get_put, get_args, get_putL, get_putL_nil, Nat.reduceEqDiff, reduceIte, List.getD_cons_zero, List.getD_cons_succ, List.getD_nil, Bool.not_true, Bool.not_false]); first | done | with_reducible rfl)⟩) fun w2 v2 he2 hs2 ho2 => ?_
  refine go ?_
  exact ret1 ⟨he1.trans he2, (ho2.toFr (lo := w1.heap.size) (Nat.le_refl _)).mono he1.size⟩
set_option maxHeartbeats 1000000 in
theorem l12Product_ok {p : Pr} [hc : ConAll p] {ys : List (El p)} (hyl : ys.length ≤ 1000) {w : World} {vp vu vx : Value} {us : List Value} {xss : List (List Int)} {as_ : List Int} {lo hi lo1 hi1 lo2 hi2 : Nat} [hp : Pres lo hi w vp p] [hu : Pc.Rows lo1 hi1 w vu us xss] [hx : Ints lo2 hi2 w vx as_] (hus : xss = vecs ys) (hal : as_.length = ys.length) (har : ∀ i, i < ys.length → -1000 ≤ as_.getD i 0 ∧ as_.getD i 0 ≤ 1000) :
    Calls Try.prog 126 #[vp, vu, vx] w (Ret fun v w' => Ext w w' ∧ Fr w.heap.size w' v (prodTo ys as_ ys.length).v) := by
  subst hus
  have hvl : (vecs ys).length = ys.length := by simp
  obtain ⟨vo, vpw, vc, ps, cs, css, rfl, h1, h2, h3⟩ := hp.ex
  refine enter (args := [.agg #[vo, vpw, vc], vu, vx]) (l := [.tmp 6]) Try.func126 rfl rfl Try.ntmps126 (by simp) ?_
  refine go ?_
  refine st_box3 (by ((try simp only [ev_tmp, ev_const, ev_func, get_put, get_args, get_putL, get_putL_nil, Nat.reduceEqDiff, reduceIte, List.getD_cons_zero, List.getD_cons_succ, List.getD_nil]); first | done | with_reducible rfl)) (by first | exact True.intro | exact ⟨_, rfl, by ((try simp only [ev_tmp, ev_const, ev_func, get_put, get_args, get_putL, get_putL_nil, Nat.reduceEqDiff, reduceIte, List.getD_cons_zero, List.getD_cons_succ, List.getD_nil, Bool.not_true, Bool.not_false]); first | done | with_reducible rfl)⟩) fun w1 b he1 hb1 hs1 hc0 hc1 hc2 => ?_
  have hz1 := he1.size
  refine go ?_
  refine rc (l10One_ok (p := p)) (next := fun v2 w2 h4 => ?_)
  obtain ⟨he2, hf2⟩ := h4
  refine go ?_
  refine r_for ys.length (fun k ρ w' => ∃ vr, Has ρ [(1, vu), (2, vx), (3, .pointer (some ⟨b, 0, none⟩)), (7, vr), (8, .int .i64 k)] ∧ Ext w1 w' ∧ Fr w1.heap.size w' vr (prodTo ys as_ k).v) ?_ ?_
  · refine ⟨v2, ?_, he2, hf2⟩
    exact hasP
  clear hf2
  rintro k ρ w3 hk ⟨vr, hH, he3, hf3⟩
  refine rwp_has hH fun ρ0 => ?_
  have hz3 := he3.size
  refine go ?_
  refine c_if (fun h4 => ?_) (fun h4 => ?_)
  · have hkn : k < ys.length := by omega
    have hg := vecs_getD ys hkn
    have hak := har k hkn
    refine go ?_
    refine d_region fun w4 he4 _ => ?_
    refine dgo ?_
    refine dce (l10Pow_ok (p := p) (x := ys[k]) hg ?_) (next := fun v5 w5 h5 => ?_)
    · omega
    obtain ⟨he5, hf5⟩ := h5
    refine dce (l08Mul_ok (p := p) (x := prodTo ys as_ k) (y := Grp.pwz ys[k] (as_.getD k 0)) rfl rfl) (next := fun v6 w6 h6 => ?_)
    obtain ⟨he6, hf6⟩ := h6
    refine dgo ?_
    refine d_end (h := ?_)
    refine go ?_
    have hE := (he3.trans he4).trans he5
    refine forQ_normal (by omega) ⟨v6, ?_, hE.trans he6, ?_⟩
    · exact hasP
    · show Fr w1.heap.size w6 v6 (prodTo ys as_ k * Grp.pwz (ys.getD k 1) (as_.getD k 0)).v
      rw [getD_one hkn]
      exact hf6.mono hE.size
  · obtain rfl : k = ys.length := by omega
    refine go ?_
    exact ret1 ⟨he1.trans he3, hf3.mono hz1⟩
theorem range_iff {p : Pr} {ys : List (El p)} {as_ : List Int} : ExpP (ys.map fun y => p.o (lead y.v)) as_ (-1) ↔ RangeP p (vecs ys) as_ := by
  have e : ∀ i, i < ys.length → (ys.map fun y => p.o (lead y.v)).getD i 0 = p.o (lead ((vecs ys).getD i [])) := fun i hi => by simp [vecs, hi]
  constructor
  · rintro ⟨h1, h2⟩
    have hl : as_.length = ys.length := by simpa using h1
    refine ⟨by simpa using h1, fun i hi => ?_⟩
    have hi' : i < ys.length := by simpa using hi
    have := (h2 i (by omega)).1
    rw [e i hi'] at this
    exact this
  · rintro ⟨h1, h2⟩
    have hl : as_.length = ys.length := by simpa using h1
    refine ⟨by simpa using h1, fun i hi => ⟨?_, fun h => by omega⟩⟩
    rw [e i (by omega)]
    exact h2 i (by simp; omega)
end Go.Proofs.Ytgomfjhhfmhlgaa

/-
  Walks: the reference's order, index, transversal elements; Transversal.
  Conditions: stated at each theorem.
-/
namespace Go.Proofs.Ytgomfjhhfmhlgaa
open Go Go.Pc
set_option maxHeartbeats 1000000 in
theorem l10Order_ok {p : Pr} (hv : Valid p) {w : World} {vp : Value} {lo hi : Nat} [hp : Pres lo hi w vp p] :
    Calls Try.prog 81 #[vp] w (Ret fun v w' => v = .int .i64 (ordL p (List.range p.n)) ∧ Ext w w') := by
  have hn6 := hv.n6
  have hol : p.ord.length = p.n := rfl
  have hrl : (List.range p.n).length = p.n := by simp
  obtain ⟨vo, vpw, vc, ps, cs, css, rfl, h1, h2, h3⟩ := hp.ex
  refine enter (args := [.agg #[vo, vpw, vc]]) (l := [.tmp 2]) Try.func81 rfl rfl Try.ntmps81 (by simp) ?_
  refine go ?_
  refine st_box3 (by ((try simp only [ev_tmp, ev_const, ev_func, get_put, get_args, get_putL, get_putL_nil, Nat.reduceEqDiff, reduceIte, List.getD_cons_zero, List.getD_cons_succ, List.getD_nil]); first | done | with_reducible rfl)) (by first | exact True.intro | exact ⟨_, rfl, by ((try simp only [ev_tmp, ev_const, ev_func, get_put, get_args, get_putL, get_putL_nil, Nat.reduceEqDiff, reduceIte, List.getD_cons_zero, List.getD_cons_succ, List.getD_nil, Bool.not_true, Bool.not_false]); first | done | with_reducible rfl)⟩) fun w1 b he1 hb1 hs1 hc0 hc1 hc2 => ?_
  refine go ?_
  refine r_for p.n (fun k ρ w' => Has ρ [(1, .pointer (some ⟨b, 0, none⟩)), (3, .int .i64 (ordL p ((List.range p.n).take k))), (4, .int .i64 k)] ∧ Ext w1 w') ?_ ?_
  · refine ⟨?_, Ext.refl _⟩
    exact hasP
  rintro k ρ w2 hk ⟨hH, he2⟩
  refine rwp_has hH fun ρ0 => ?_
  refine go ?_
  refine c_if (fun h4 => ?_) (fun h4 => ?_)
  · have hkn : k < p.n := by omega
    have hod := hv.opos hkn
    have hr := ordL_rng hv (l := List.range p.n) (fun d hd => List.mem_range.1 hd) (by omega) (k := k) (by omega)
    have hm : 0 ≤ ordL p ((List.range p.n).take k) * p.o k ∧ ordL p ((List.range p.n).take k) * p.o k ≤ 117649 * 7 := ⟨Int.mul_nonneg (by omega) (by omega), Int.mul_le_mul hr.2 hod.2 (by omega) (by omega)⟩
    have hmb : -9223372036854775808 ≤ ordL p ((List.range p.n).take k) * p.o k ∧ ordL p ((List.range p.n).take k) * p.o k ≤ 9223372036854775807 := ⟨by omega, by omega⟩
    have hst := ordL_take (p := p) (List.range p.n) (show k < (List.range p.n).length by omega)
    rw [show (List.range p.n).getD k 0 = k by simp [hkn]] at hst
    refine go ?_
    rw [show p.ord.getD k 0 = p.o k from rfl]
    refine ra (h := rd_mul (by ((try simp only [ev_tmp, ev_const, ev_func, get_put, get_args, get_putL, get_putL_nil, Nat.reduceEqDiff, reduceIte, List.getD_cons_zero, List.getD_cons_succ, List.getD_nil]); first | done | with_reducible rfl)) (by ((try simp only [ev_tmp, ev_const, ev_func, get_put, get_args, get_putL, get_putL_nil, Nat.reduceEqDiff, reduceIte, List.getD_cons_zero, List.getD_cons_succ, List.getD_nil]); first | done | with_reducible rfl)) hmb) (next := ?_)
    refine go ?_
    refine forQ_normal (by omega) ⟨?_, he2⟩
    rw [hst]
    exact hasP
  · refine go ?_
    have e : (List.range p.n).take k = List.range p.n := by rw [show k = p.n by omega, List.take_of_length_le (by omega)]
    rw [e]
    exact ret1 ⟨rfl, he1.trans he2⟩
theorem ordL_all_rng {p : Pr} (hv : Valid p) : 1 ≤ ordL p (List.range p.n) ∧ ordL p (List.range p.n) ≤ 117649 := by
  have hn6 := hv.n6
  have h := ordL_rng hv (l := List.range p.n) (fun d hd => List.mem_range.1 hd) (by simp; omega) (k := p.n) (by simp)
  rwa [List.take_of_length_le (by simp)] at h
theorem idx_rng {p : Pr} (hv : Valid p) (ys : List (El p)) : 1 ≤ idxOf p ys ∧ idxOf p ys ≤ 117649 := by
  have hn6 := hv.n6
  have h := ordL_rng hv (l := freeL p ys p.n) (fun d hd => freeL_lt hd) (by have := freeL_len p ys p.n; omega) (k := (freeL p ys p.n).length) (Nat.le_refl _)
  rwa [List.take_length] at h
set_option maxHeartbeats 1000000 in
theorem l14Index_ok {p : Pr} [hc : ConAll p] {ys : List (El p)} (hs : SeqEl ys) {w : World} {vp vu : Value} {us : List Value} {xss : List (List Int)} {lo hi lo1 hi1 : Nat} [hp : Pres lo hi w vp p] [hu : Pc.Rows lo1 hi1 w vu us xss] (hus : xss = vecs ys) :
    Calls Try.prog 73 #[vp, vu] w (Ret fun v w' => v = .int .i64 (idxOf p ys) ∧ Ext w w') := by
  have hv := hc.valid
  have ho1 := ordL_all_rng hv
  have ho2 := ordOf_pos hs
  obtain ⟨vo, vpw, vc, ps, cs, css, rfl, h1, h2, h3⟩ := hp.ex
  refine enter (args := [.agg #[vo, vpw, vc], vu]) (l := [.tmp 4]) Try.func73 rfl rfl Try.ntmps73 (by simp) ?_
  refine go ?_
  refine st_box3 (by ((try simp only [ev_tmp, ev_const, ev_func, get_put, get_args, get_putL, get_putL_nil, Nat.reduceEqDiff, reduceIte, List.getD_cons_zero, List.getD_cons_succ, List.getD_nil]); first | done | with_reducible rfl)) (by first | exact True.intro | exact ⟨_, rfl, by ((try simp only [ev_tmp, ev_const, ev_func, get_put, get_args, get_putL, get_putL_nil, Nat.reduceEqDiff, reduceIte, List.getD_cons_zero, List.getD_cons_succ, List.getD_nil, Bool.not_true, Bool.not_false]); first | done | with_reducible rfl)⟩) fun w1 b he1 hb1 hs1 hc0 hc1 hc2 => ?_
  refine go ?_
  refine d_order [0, 2, 3, 1, 4, 5, 6] (h := fun w2 he2 _ => ?_)
  refine dgo ?_
  refine dce (l10Order_ok (p := p) hv) (next := fun v3 w3 h4 => ?_)
  obtain ⟨rfl, he3⟩ := h4
  refine dce (l12Order_ok (p := p) hs hus) (next := fun v4 w4 h5 => ?_)
  obtain ⟨rfl, he4⟩ := h5
  refine dgo ?_
  refine d_end (h := ?_)
  refine go ?_
  rw [idx_eq hs.ok ho2.1]
  exact ret1 ⟨rfl, ((he1.trans he2).trans he3).trans he4⟩
end Go.Proofs.Ytgomfjhhfmhlgaa

/-
  Walks: the reference's element with a number, the elements above a subgroup; Center.
  Conditions: stated at each theorem.
-/
namespace Go.Proofs.Ytgomfjhhfmhlgaa
open Go Go.Pc
set_option maxHeartbeats 2000000 in
theorem l10At_ok {p : Pr} [hc : ConAll p] {t : Nat} (ht : t ≤ 1000000) {w : World} {vp : Value} {lo hi : Nat} [hp : Pres lo hi w vp p] :
    Calls Try.prog 106 #[vp, .int .i64 t] w (Ret fun v w' => Ext w w' ∧ Fr w.heap.size w' v (allE p t).v) := by
  have hv := hc.valid
  have hn6 := hv.n6
  have hol : p.ord.length = p.n := rfl
  rw [allE_val]
  obtain ⟨l, hl⟩ : ∃ l, List.range p.n = l := ⟨_, rfl⟩
  have hll : l.length = p.n := by rw [← hl]; simp
  have hlt : ∀ d, d ∈ l → d < p.n := fun d hd => by rw [← hl] at hd; exact List.mem_range.1 hd
  have hnd : l.Nodup := by rw [← hl]; exact List.nodup_range
  have hlg : ∀ i, i < p.n → l.getD i 0 = i := fun i hi => by rw [← hl]; simp [hi]
  rw [hl]
  replace hp := hp.wide
  obtain ⟨vo, vpw, vc, ps, cs, css, rfl, h1, h2, h3⟩ := hp.ex
  refine enter (args := [.agg #[vo, vpw, vc], .int .i64 t]) (l := [.tmp 4]) Try.func106 rfl rfl Try.ntmps106 (by simp) ?_
  refine go ?_
  refine st_box3 (by ((try simp only [ev_tmp, ev_const, ev_func, get_put, get_args, get_putL, get_putL_nil, Nat.reduceEqDiff, reduceIte, List.getD_cons_zero, List.getD_cons_succ, List.getD_nil]); first | done | with_reducible rfl)) (by first | exact True.intro | exact ⟨_, rfl, by ((try simp only [ev_tmp, ev_const, ev_func, get_put, get_args, get_putL, get_putL_nil, Nat.reduceEqDiff, reduceIte, List.getD_cons_zero, List.getD_cons_succ, List.getD_nil, Bool.not_true, Bool.not_false]); first | done | with_reducible rfl)⟩) fun w1 b he1 hb1 hs1 hc0 hc1 hc2 => ?_
  have hz1 := he1.size
  refine go ?_
  refine rc (l10One_ok (p := p)) (next := fun v2 w2 h4 => ?_)
  obtain ⟨he2, hf2⟩ := h4
  have hz2 := he2.size
  have hlen2 : Len w2 v2 p.n := by
    have h := hf2.ints
    have h5 : Len w2 v2 (1 : El p).v.length := inferInstance
    rwa [(1 : El p).inr.len] at h5
  by_cases hn0 : p.n = 0
  · refine go ?_
    refine r_for 0 (fun k ρ w' => Has ρ [(5, v2), (6, .int .i64 (-1))] ∧ w' = w2) ?_ ?_
    · refine ⟨?_, rfl⟩
      rw [hn0]
      exact hasP
    rintro k ρ w4 hk ⟨hH, rfl⟩
    refine rwp_has hH fun ρ0 => ?_
    refine go ?_
    refine c_if (fun h4 => ?_) (fun h4 => ?_)
    · omega
    refine go ?_
    refine ret1 ⟨he1.trans he2, ?_⟩
    have e : elTo p l l.length t = (1 : El p).v := list_ext0 (by rw [elTo_len, (1 : El p).inr.len]) fun d hd => by rw [elTo_len] at hd; omega
    rw [e]
    exact hf2.mono hz1
  obtain ⟨te, b2, hb2, ho2⟩ := hf2.own (by intro e; have := (1 : El p).inr.len; rw [e] at this; simp at this; omega)
  have hbl := ho2.lt
  have ho3 : OwnI te b2 w2 v2 (zeros p.n) := ho2
  have ap1 : Apart 0 w.heap.size b2 := ⟨.inr (by omega)⟩
  have ap2 : Apart b (b + 1) b2 := ⟨.inr (by omega)⟩
  have hE2 := he1.trans he2
  have hzl := zeros_len p.n
  clear hf2 ho2
  refine go ?_
  refine r_for p.n (fun k ρ w' => ∃ (tk : Int) (xs : List Int), Has ρ [(1, .int .i64 tk), (2, .pointer (some ⟨b, 0, none⟩)), (5, v2), (6, .int .i64 (p.n - 1 - k))] ∧ Chg b2 w2 w' ∧ OwnI te b2 w' v2 xs ∧ xs.length = p.n ∧ 0 ≤ tk ∧ tk ≤ 1000000 ∧ fillTo p l (p.n - k) tk xs = elTo p l l.length t) ?_ ?_
  · refine ⟨t, zeros p.n, ?_, Chg.refl _ _, ho3, hzl, by omega, by omega, ?_⟩
    · exact hasP
    · have := fill_eq hnd hlt (t : Int)
      rwa [hll] at this ⊢
  clear ho3
  rintro k ρ w4 hk ⟨tk, xs, hH, hch4, ho4, hxl, ht0, ht1, hfill⟩
  refine rwp_has hH fun ρ0 => ?_
  refine go ?_
  refine c_if (fun h4 => ?_) (fun h4 => ?_)
  · have hkn : k < p.n := by omega
    obtain ⟨i, hi⟩ : ∃ i, p.n - 1 - k = i := ⟨_, rfl⟩
    have hil : i < p.n := by omega
    have hcast : ((p.n : Int) - 1 - k) = (i : Int) := by omega
    have hod := hv.opos hil
    have hmod : 0 ≤ tk % p.o i ∧ tk % p.o i < p.o i := ⟨Int.emod_nonneg _ (by omega), Int.emod_lt_of_pos _ (by omega)⟩
    have hdiv : 0 ≤ tk / p.o i ∧ tk / p.o i ≤ 1000000 := ⟨Int.ediv_nonneg ht0 (by omega), Int.le_trans (Int.ediv_le_self _ ht0) ht1⟩
    have hstep : fillTo p l (p.n - (k + 1)) (tk / p.o i) (xs.set i (tk % p.o i)) = elTo p l l.length t := by
      rw [← hfill, show p.n - k = i + 1 by omega, show p.n - (k + 1) = i by omega]
      show _ = fillTo p l i (tk / p.o (l.getD i 0)) (xs.set (l.getD i 0) (tk % p.o (l.getD i 0)))
      rw [hlg i hil]
    rw [hcast]
    refine go ?_
    first
      | rw [show p.ord.getD i 0 = p.o i from rfl]
      | rw [show p.ord.getD ((i : Int).toNat) 0 = p.o i from rfl]
    refine go ?_
    refine st_store_int (h := ho4) (by ((try simp only [ev_tmp, ev_const, ev_func, get_put, get_args, get_putL, get_putL_nil, Nat.reduceEqDiff, reduceIte, List.getD_cons_zero, List.getD_cons_succ, List.getD_nil]); first | done | with_reducible rfl)) (by ((try simp only [ev_tmp, ev_const, ev_func, get_put, get_args, get_putL, get_putL_nil, Nat.reduceEqDiff, reduceIte, List.getD_cons_zero, List.getD_cons_succ, List.getD_nil]); first | done | with_reducible rfl)) ?_ (by first | exact True.intro | exact ⟨_, rfl, by ((try simp only [ev_tmp, ev_const, ev_func, get_put, get_args, get_putL, get_putL_nil, Nat.reduceEqDiff, reduceIte, List.getD_cons_zero, List.getD_cons_succ, List.getD_nil, Bool.not_true, Bool.not_false]); first | done | with_reducible rfl)⟩) fun w6 hc6 hs6 ho6 => ?_
    · omega
    have hch6 : Chg b2 w2 w6 := hch4.trans hc6
    clear hch4 hc6 ho4
    refine go ?_
    first
      | rw [show p.ord.getD i 0 = p.o i from rfl]
      | rw [show p.ord.getD ((i : Int).toNat) 0 = p.o i from rfl]
    refine go ?_
    refine forQ_normal (by omega) ⟨tk / p.o i, _, ?_, hch6, ho6, by simp [hxl], hdiv.1, hdiv.2, hstep⟩
    exact hasP
  · refine go ?_
    obtain rfl : k = p.n := by omega
    rw [Nat.sub_self] at hfill
    have hx : xs = elTo p l l.length t := hfill
    refine ret1 ⟨hch4.ext hE2 (by omega), ?_⟩
    rw [← hx]
    exact ho4.toFr (by omega)
set_option maxHeartbeats 4000000 in
theorem l17Above_ok {p : Pr} [hc : ConAll p] {ys : List (El p)} (hs : SeqEl ys) {w : World} {vp vu : Value} {us : List Value} {xss : List (List Int)} {lo hi lo1 hi1 : Nat} [hp : Pres lo hi w vp p] [hu : Pc.Rows lo1 hi1 w vu us xss] (hus : xss = vecs ys) :
    Calls Try.prog 74 #[vp, vu] w (Ret fun v w' => Ext w w' ∧ ∃ us', Pc.Rows w.heap.size w'.heap.size w' v us' (canon (Gen (fun a : El p => AbP ys a)))) := by
  have hv := hc.valid
  have hn6 := hv.n6
  have hgl := gensL_len p
  obtain ⟨hoe, ho1, ho2⟩ := ordN_rng p
  replace hp := hp.wide
  replace hu := hu.wide
  obtain ⟨vo, vpw, vc, ps, cs, css, rfl, h1, h2, h3⟩ := hp.ex
  refine enter (args := [.agg #[vo, vpw, vc], vu]) (l := [.tmp 4]) Try.func74 rfl rfl Try.ntmps74 (by simp) ?_
  refine go ?_
  refine st_box3 (by ((try simp only [ev_tmp, ev_const, ev_func, get_put, get_args, get_putL, get_putL_nil, Nat.reduceEqDiff, reduceIte, List.getD_cons_zero, List.getD_cons_succ, List.getD_nil]); first | done | with_reducible rfl)) (by first | exact True.intro | exact ⟨_, rfl, by ((try simp only [ev_tmp, ev_const, ev_func, get_put, get_args, get_putL, get_putL_nil, Nat.reduceEqDiff, reduceIte, List.getD_cons_zero, List.getD_cons_succ, List.getD_nil, Bool.not_true, Bool.not_false]); first | done | with_reducible rfl)⟩) fun w1 b he1 hb1 hs1 hc0 hc1 hc2 => ?_
  have hz1 := he1.size
  refine go ?_
  refine rc (l12Whole_ok (p := p)) (next := fun v2 w2 h4 => ?_)
  obtain ⟨he2, us2, hR2⟩ := h4
  have hvl2 := hR2.vals.len
  have hvgl : (vecs (gensL p)).length = p.n := by simp [hgl]
  refine go ?_
  refine st_slice0 (by first | exact True.intro | exact ⟨_, rfl, by ((try simp only [ev_tmp, ev_const, ev_func, get_put, get_args, get_putL, get_putL_nil, Nat.reduceEqDiff, reduceIte, List.getD_cons_zero, List.getD_cons_succ, List.getD_nil, Bool.not_true, Bool.not_false]); first | done | with_reducible rfl)⟩) fun w3 v3 he3 hs3 ho3 => ?_
  have hz2 := he2.size
  refine go ?_
  refine r_for (ordN p) (fun k ρ w' => ∃ vl rs, Has ρ [(1, vu), (2, .pointer (some ⟨b, 0, none⟩)), (5, v2), (6, vl), (7, .int .i64 k)] ∧ Ext w2 w' ∧ GrowL 22 w2.heap.size w' vl rs ∧ rs.map (·.2) = vecs (selL (AbP ys) k)) ?_ ?_
  · refine ⟨v3, [], ?_, he3, GrowL.start ho3 (Nat.le_refl _), by simp [selL]⟩
    exact hasP
  clear ho3 hs3 he3
  rintro k ρ wa hk ⟨vl, rs, hH, hea, hG, hrs⟩
  refine rwp_has hH fun ρ0 => ?_
  have hza := hea.size
  have hrl : rs.length ≤ k := by have := congrArg List.length hrs; have := selL_len (AbP ys) k; simp at *; omega
  have hEa := (he1.trans he2).trans hea
  refine go ?_
  refine rc (l10Order_ok (p := p) hv) (next := fun v4 w4 h5 => ?_)
  obtain ⟨rfl, he4⟩ := h5
  rw [hoe]
  have hG4 := hG.ext he4
  have hea4 := hea.trans he4
  have hEa4 := hEa.trans he4
  clear hG
  refine go ?_
  refine c_if (fun h6 => ?_) (fun h6 => ?_)
  · have hkn : k < ordN p := by omega
    refine go ?_
    refine rc (l10At_ok (p := p) (t := k) (by omega)) (next := fun v5 w5 h7 => ?_)
    obtain ⟨he5, hf5⟩ := h7
    refine go ?_
    refine r_for p.n (fun i ρ w' => ∃ ib : Bool, Has ρ [(1, vu), (2, .pointer (some ⟨b, 0, none⟩)), (5, v2), (6, vl), (7, .int .i64 k), (8, v5), (9, .bool ib), (10, .int .i64 i)] ∧ Ext w5 w' ∧ (ib = true ↔ ∀ j (h : j < (gensL p).length), j < i → Gen (fun a : El p => a ∈ ys) (Grp.cm (allE p k) (gensL p)[j]))) ?_ ?_
    · refine ⟨true, ?_, Ext.refl _, by simp⟩
      exact hasP
    rintro i ρ wb hi ⟨ib, hHb, heb, hib⟩
    refine rwp_has hHb fun ρ1 => ?_
    have hE5 := hEa4.trans (he5.trans heb)
    refine go ?_
    refine sp (fun eb => ?_) (fun eb => ?_)
    · subst eb
      refine go ?_
      refine c_if (fun h8 => ?_) (fun h8 => ?_)
      · have hin : i < (gensL p).length := by omega
        have hgi := vecs_getD (gensL p) hin
        refine go ?_
        refine d_order [0, 1, 2, 3, 4, 5, 6, 7, 8, 9, 10] (h := fun w6 he6 _ => ?_)
        refine dgo ?_
        refine dce (l10Comm_ok (p := p) (x := allE p k) (y := (gensL p)[i]) rfl hgi) (next := fun v7 w7 h9 => ?_)
        obtain ⟨he7, hf7⟩ := h9
        refine dce (l12Has_ok (p := p) (x := Grp.cm (allE p k) (gensL p)[i]) hs hus rfl) (next := fun v8 w8 h10 => ?_)
        obtain ⟨b8, rfl, hb8, he8⟩ := h10
        refine dgo ?_
        refine d_end (h := ?_)
        refine go ?_
        refine forQ_normal (by omega) ⟨b8, ?_, heb.trans ((he6.trans he7).trans he8), ?_⟩
        · exact hasP
        · rw [hb8]
          refine ⟨fun h j hj hji => ?_, fun h => h i hin (by omega)⟩
          by_cases e : j = i
          · subst e; exact h
          · exact hib.1 rfl j hj (by omega)
      · have hP : AbP ys (allE p k) := fun j hj => hib.1 rfl j hj (by omega)
        refine go ?_
        refine st_grow hG4 (he5.trans heb) (hf5.ext' heb) (by have := hea4.size; omega) (by omega) (next := fun v10 v11 w11 hG11 hx11 hz11 hgs11 => ?_)
        refine go ?_
        refine forQ_normal (by omega) ⟨v11, _, ?_, hx11 w2 (hea4.trans (he5.trans heb)) (Nat.le_refl _), hG11, ?_⟩
        · exact hasP
        · rw [selL_yes hP]; simp [hrs]
    · have hP : ¬ AbP ys (allE p k) := fun h => by rw [hib.2 fun j hj _ => h j hj] at eb; cases eb
      subst eb
      refine go ?_
      refine forQ_normal (by omega) ⟨vl, rs, ?_, hea4.trans (he5.trans heb), hG4.ext (he5.trans heb), ?_⟩
      · exact hasP
      · rw [selL_no hP]; exact hrs
  · obtain rfl : k = ordN p := by omega
    have hRl := hG4.mat.rows
    rw [hrs] at hRl
    have hsl := selL_len (AbP ys) (ordN p)
    refine go ?_
    refine rc (l12Close_ok (p := p) (ys := selL (AbP ys) (ordN p)) rfl (by omega)) (next := fun v12 w12 h12 => ?_)
    obtain ⟨he12, us12, hL12⟩ := h12
    rw [selL_all] at hL12
    refine go ?_
    exact ret1 ⟨hEa4.trans he12, us12, hL12.newRows.mono hEa4.size (Nat.le_refl _)⟩
end Go.Proofs.Ytgomfjhhfmhlgaa

/-
  Lists of lists of rows that grow by one list at a time: 'out = append(out, list)'.
  Conditions: none; nothing of the program stands here.
-/
namespace Go.Pc
open Go Go.RowKit
/-- Rows that lie apart from some blocks. -/
def RsA (s : Nat) (av : Nat → Prop) (w : World) (v : Value) (us : List Value) (xss : List (List Int)) : Prop := ∃ lo hi, Rows lo hi w v us xss ∧ s ≤ lo ∧ hi ≤ w.heap.size ∧ ∀ g, av g → g < lo ∨ hi ≤ g
structure GrowV (e sb s : Nat) (w : World) (v : Value) (us : List Value) (uss : List (List Value)) (xsss : List (List (List Int))) : Prop where
  own : OwnN e sb w v us
  len : us.length = xsss.length
  len' : uss.length = xsss.length
  at_ : ∀ i, i < us.length → RsA s (fun g => v.ownBlock = some g) w (us.getD i nilv) (uss.getD i []) (xsss.getD i [])
/-- The rows of the lists are the call's own. -/
structure OwnC (s : Nat) (w : World) (v : Value) (gs : List (Value × List (Value × List Int))) : Prop where
  own : RowsO s w (flat gs)
  off : ∀ b, v.ownBlock = some b → ¬ BlkOf (flat gs) b
  sp : ∀ q, q ∈ gs → SpA (fun b => BlkOf (flat gs) b ∨ b < s ∨ v.ownBlock = some b) w q.1 (q.2.map (·.1))
section
variable {av av' : Nat → Prop} {e sb s lo hi : Nat} {w w' w0 w1 w2 w3 : World} {v v' u : Value} {us ut : List Value} {uss : List (List Value)} {xss : List (List Int)} {xsss : List (List (List Int))} {rs : List (Value × List Int)} {gs : List (Value × List (Value × List Int))}
theorem RsA.ext (h : RsA s av w v us xss) (x : Ext w w') : RsA s av w' v us xss := by
  obtain ⟨lo, hi, h1, h2, h3, h4⟩ := h
  exact ⟨lo, hi, h1.same (x.same _ _), h2, Nat.le_trans h3 x.size, h4⟩
theorem RsA.beside {ob : Option Nat} (h : RsA s av w v us xss) (hg : w.grownBy w' ob) (hob : ∀ g, ob = some g → av g) (ha : ∀ g, av' g → av g ∨ g = w.heap.size) : RsA s av' w' v us xss := by
  obtain ⟨lo, hi, h1, h2, h3, h4⟩ := h
  refine ⟨lo, hi, h1.same ((Wrt.grown hg).same fun b hb => h4 b (hob b hb)), h2, Nat.le_trans h3 hg.size, fun g hg' => ?_⟩
  rcases ha g hg' with h | h
  · exact h4 g h
  · omega
theorem rows_nilv (lo : Nat) (w : World) : Rows lo lo w nilv [] [] :=
  ⟨⟨⟨none, 0, rfl, Nat.le_refl _, by omega, fun k u hu => by simp at hu⟩⟩, rfl, fun i => ⟨⟨none, 0, by simp, by simp, by omega, fun k u hu => by simp at hu⟩⟩⟩
theorem GrowV.ext (h : GrowV e sb s w v us uss xsss) (x : Ext w w') : GrowV e sb s w' v us uss xsss := ⟨@OwnN.ext _ _ _ _ _ _ x h.own, h.len, h.len', fun i hi => (h.at_ i hi).ext x⟩
theorem GrowV.rowss (h : GrowV e sb s w v us uss xsss) (hsb : s ≤ sb) (hs : s ≤ w.heap.size) : Rowss s w.heap.size w v us uss xsss := by
  refine ⟨h.own.toSl.mono hsb (Nat.le_refl _), h.len, h.len', fun i => ?_⟩
  by_cases hi : i < us.length
  · obtain ⟨lo, hi', h1, h2, h3, _⟩ := h.at_ i hi
    exact h1.mono h2 h3
  · have h1 := h.len
    have h2 := h.len'
    have e1 : us.getD i nilv = nilv := by rw [List.getD_eq_getElem?_getD, List.getElem?_eq_none (by omega)]; rfl
    have e2 : uss.getD i [] = [] := by rw [List.getD_eq_getElem?_getD, List.getElem?_eq_none (by omega)]; rfl
    have e3 : xsss.getD i [] = [] := by rw [List.getD_eq_getElem?_getD, List.getElem?_eq_none (by omega)]; rfl
    rw [e1, e2, e3]
    exact (rows_nilv s w).mono (Nat.le_refl _) hs
theorem GrowV.one {b : Nat} (ho : Own e b w2 v [u]) (hb : b = w1.heap.size) (hsb : sb ≤ b) (hu : Rows s w1.heap.size w1 u ut xss) (hs : s ≤ w1.heap.size) (x : Ext w1 w2) : GrowV e sb s w2 v [u] [ut] [xss] := by
  have h1 := x.size
  refine ⟨ho.toN.mono (by omega), rfl, rfl, fun i hi => ?_⟩
  obtain rfl : i = 0 := by simpa using hi
  refine ⟨s, w1.heap.size, hu.same (x.same _ _), Nat.le_refl _, h1, fun g hg => ?_⟩
  rw [ho.toN_block] at hg; injection hg with hg; omega
theorem GrowV.push (h : GrowV e sb s w0 v us uss xsss) (x01 : Ext w0 w1) (hu : Rows w0.heap.size w1.heap.size w1 u ut xss) (hs : s ≤ w0.heap.size) (x12 : Ext w1 w2)
    (ho : OwnN e sb w3 v' (us ++ [u])) (hg : w2.grownBy w3 v.ownBlock) (hv : v'.ownBlock = v.ownBlock ∨ v'.ownBlock = some w2.heap.size) : GrowV e sb s w3 v' (us ++ [u]) (uss ++ [ut]) (xsss ++ [xss]) := by
  have h1 := h.len
  have h2 := h.len'
  have hav : ∀ g, v'.ownBlock = some g → v.ownBlock = some g ∨ g = w2.heap.size := fun g hg' => by
    rcases hv with e | e
    · rw [e] at hg'; exact .inl hg'
    · rw [e] at hg'; injection hg' with hg'; exact .inr hg'.symm
  refine ⟨ho, by simp [h1], by simp [h2], fun i hi => ?_⟩
  by_cases hi2 : i < us.length
  · have e1 : (us ++ [u]).getD i nilv = us.getD i nilv := by simp [List.getElem?_append_left hi2]
    have e2 : (uss ++ [ut]).getD i [] = uss.getD i [] := by simp [List.getElem?_append_left (show i < uss.length by omega)]
    have e3 : (xsss ++ [xss]).getD i [] = xsss.getD i [] := by simp [List.getElem?_append_left (show i < xsss.length by omega)]
    rw [e1, e2, e3]
    exact ((h.at_ i hi2).ext (x01.trans x12)).beside hg (fun g e => e) hav
  · have hi3 : i = us.length := by simp at hi; omega
    have e1 : (us ++ [u]).getD i nilv = u := by rw [hi3]; simp
    have e2 : (uss ++ [ut]).getD i [] = ut := by rw [show i = uss.length by omega]; simp
    have e3 : (xsss ++ [xss]).getD i [] = xss := by rw [show i = xsss.length by omega]; simp
    rw [e1, e2, e3]
    have hr : RsA s (fun g => v.ownBlock = some g) w2 u ut xss := ⟨w0.heap.size, w1.heap.size, hu.same (x12.same _ _), hs, x12.size, fun g hg' => .inl (h.own.lt g hg').2⟩
    exact hr.beside hg (fun g e => e) hav
theorem OwnC.ext (h : OwnC s w v gs) (x : Ext w w') (hb : ∀ b, v.ownBlock = some b → b < w.heap.size) : OwnC s w' v gs :=
  ⟨h.own.ext x, h.off, fun q hq => (h.sp q hq).grow x fun b hb => .inl hb⟩
theorem OwnC.one {b : Nat} (ho : Own e b w2 v [u]) (hb : b = w1.heap.size) (hM : MatO s w1.heap.size w1 u rs) (hs : s ≤ w1.heap.size) (x : Ext w1 w2) : OwnC s w2 v [(u, rs)] := by
  have hvb := ho.toN_block
  have hf : flat [(u, rs)] = rs := flat_one _
  refine ⟨by rw [hf]; exact hM.own.ext x, fun b' hb' hB => ?_, fun q hq => ?_⟩
  · rw [hf] at hB
    rw [hvb] at hb'; injection hb' with hb'
    have := hM.lt _ hB
    omega
  · obtain rfl := List.mem_singleton.1 hq
    rw [hf]
    refine SpA.grow hM.sp x fun g hg => ?_
    rcases hg with hg | hg | hg
    · exact .inl (.inl hg)
    · exact .inl (.inr hg)
    · rw [hvb] at hg; injection hg with hg; exact .inr (by omega)
theorem OwnC.push (h : OwnC s w0 v gs) (hvl : ∀ b, v.ownBlock = some b → b < w0.heap.size) (x01 : Ext w0 w1) (hM : MatO w0.heap.size w1.heap.size w1 u rs) (hs : s ≤ w0.heap.size) (x12 : Ext w1 w2)
    (hg : w2.grownBy w3 v.ownBlock) (hv : v'.ownBlock = v.ownBlock ∨ v'.ownBlock = some w2.heap.size) : OwnC s w3 v' (gs ++ [(u, rs)]) := by
  have hz1 := x01.size
  have hz2 := x12.size
  have hf : flat (gs ++ [(u, rs)]) = flat gs ++ rs := by rw [flat_append, flat_one]
  have hav : ∀ g, v'.ownBlock = some g → v.ownBlock = some g ∨ g = w2.heap.size := fun g hg' => by
    rcases hv with e | e
    · rw [e] at hg'; exact .inl hg'
    · rw [e] at hg'; injection hg' with hg'; exact .inr hg'.symm
  have hoff : ∀ b, v.ownBlock = some b → ¬ BlkOf (flat gs ++ rs) b := fun b hb hB => by
    rcases blkOf_append'.1 hB with hB | hB
    · exact h.off b hb hB
    · have h1 := (hM.own.blk hB).1
      have h2 := hvl b hb
      omega
  have hO := (h.own.append x01 hs hM.own).ext x12
  refine ⟨?_, fun b hb hB => ?_, fun q hq => ?_⟩
  · rw [hf]
    exact hO.wr (Wrt.grown hg) fun b hb hB => hoff b hB hb
  · rw [hf] at hB
    rcases hav b hb with hb | hb
    · exact hoff b hb hB
    · rcases blkOf_append'.1 hB with hB | hB
      · have := (h.own.blk hB).2; omega
      · have := hM.lt b hB; omega
  · rw [hf]
    have key : SpA (fun b => BlkOf (flat gs ++ rs) b ∨ b < s ∨ v.ownBlock = some b ∨ b = w2.heap.size) w2 q.1 (q.2.map (·.1)) := by
      rcases List.mem_append.1 hq with hq | hq
      · refine SpA.grow (h.sp q hq) (x01.trans x12) fun b hb => ?_
        rcases hb with hb | hb | hb | hb
        · rcases blkOf_append'.1 hb with hb | hb
          · exact .inl (.inl hb)
          · exact .inr (hM.own.blk hb).1
        · exact .inl (.inr (.inl hb))
        · exact .inl (.inr (.inr hb))
        · exact .inr (by omega)
      · obtain rfl := List.mem_singleton.1 hq
        refine SpA.grow hM.sp x12 fun b hb => ?_
        rcases hb with hb | hb | hb | hb
        · rcases blkOf_append'.1 hb with hb | hb
          · exact .inl (.inr (h.own.blk hb).2)
          · exact .inl (.inl hb)
        · exact .inl (.inr (by omega))
        · exact .inl (.inr (hvl b hb))
        · exact .inr (by omega)
    refine (key.wr (Wrt.grown hg) fun b hb => .inr (.inr (.inl hb))).weak fun b hb => ?_
    rcases hb with hb | hb | hb
    · exact .inl hb
    · exact .inr (.inl hb)
    · rcases hav b hb with hb | hb
      · exact .inr (.inr (.inl hb))
      · exact .inr (.inr (.inr hb))
theorem OwnC.cub (h : OwnC s w v gs) (ho : OwnN e sb w v (gs.map (·.1))) (hsb : s ≤ sb) : CubO (fun b => BlkOf (flat gs) b ∨ b < s) w v gs := by
  refine ⟨?_, fun q hq => (h.sp q hq).weak fun b hb => hb.imp id .inl⟩
  cases hv : v.ownBlock with
  | none =>
    rcases ho.own.2 with ⟨rfl, h0⟩ | ⟨g, cap, cur, rfl, _⟩
    · have e0 : gs.map (·.1) = [] := List.eq_nil_of_length_eq_zero h0
      rw [e0]
      exact ⟨0, 0, ⟨⟨none, 0, rfl, Nat.le_refl _, by omega, fun k u hu => by simp at hu⟩⟩, fun b _ => .inr (Nat.zero_le _)⟩
    · cases hv
  | some k =>
    have hk := ho.lt k hv
    refine ⟨k, k + 1, ho.toSlAt hv, fun b hb => ?_⟩
    rcases hb with hb | hb
    · have : b ≠ k := fun e => h.off k hv (e ▸ hb)
      omega
    · omega
end
/-- A list of lists of rows that is the call's own, in blocks from s on, below t. -/
structure MatC (s t : Nat) (w : World) (v : Value) (gs : List (Value × List (Value × List Int))) : Prop where
  rows : Rowss s t w v (gs.map (·.1)) (gs.map fun q => q.2.map (·.1)) (gs.map fun q => q.2.map (·.2))
  own : RowsO s w (flat gs)
  lt : ∀ b, BlkOf (flat gs) b → b < t
  cub : CubO (fun b => BlkOf (flat gs) b ∨ b < s) w v gs
section
variable {e sb s s' t : Nat} {B : Nat → Prop} {w w' : World} {v : Value} {gs : List (Value × List (Value × List Int))}
theorem MatC.of (h : OwnC s w v gs) (hG : GrowV e sb s w v (gs.map (·.1)) (gs.map fun q => q.2.map (·.1)) (gs.map fun q => q.2.map (·.2))) (hsb : s ≤ sb) (hs : s ≤ w.heap.size) : MatC s w.heap.size w v gs :=
  ⟨hG.rowss hsb hs, h.own, fun b hb => (h.own.blk hb).2, h.cub hG.own hsb⟩
theorem MatC.lower (h : MatC s t w v gs) (hs : s' ≤ s) : MatC s' t w v gs :=
  ⟨⟨h.rows.sl.mono hs (Nat.le_refl _), h.rows.vals.len, h.rows.vals.len', fun i => (h.rows.vals.at_ i).mono hs (Nat.le_refl _)⟩, h.own.mono hs, h.lt,
    ⟨h.cub.sp0.weak fun b hb => hb.imp id fun hb => by omega, fun q hq => (h.cub.sp q hq).weak fun b hb => hb.imp id fun hb => by omega⟩⟩
theorem MatC.wr (h : MatC s t w v gs) (k : Wrt B w w') (hb : ∀ b, B b → b < s ∨ t ≤ b) : MatC s t w' v gs := by
  refine ⟨h.rows.same (k.same hb), h.own.wr k (fun b hR hB => by
    have h1 := h.lt b hR
    have h2 := (h.own.blk hR).1
    have := hb b hB; omega), h.lt, ⟨h.cub.sp0.wr' k h.rows.sl hb, fun q hq => ?_⟩⟩
  obtain ⟨i, hi, rfl⟩ := List.getElem_of_mem hq
  have h1 := (h.rows.vals.at_ i).sl
  have e1 : (gs.map (·.1)).getD i nilv = gs[i].1 := by simp [hi]
  have e2 : (gs.map fun q => q.2.map (·.1)).getD i [] = gs[i].2.map (·.1) := by simp [hi]
  rw [e1, e2] at h1
  exact (h.cub.sp _ hq).wr' k h1 hb
theorem MatC.nilR (s t : Nat) (w : World) (hst : s ≤ t) : MatC s t w nilv [] := by
  refine ⟨⟨⟨⟨none, 0, rfl, Nat.le_refl _, by omega, fun k u hu => by simp at hu⟩⟩, rfl, rfl, fun i => (rows_nilv s w).mono (Nat.le_refl _) hst⟩, RowsO.nil _ _, fun b hb => ?_, ⟨⟨0, 0, ⟨⟨none, 0, rfl, Nat.le_refl _, by omega, fun k u hu => by simp at hu⟩⟩, fun b _ => .inr (Nat.zero_le _)⟩, fun q hq => (by cases hq)⟩⟩
  obtain ⟨r, hr, _⟩ := hb
  cases hr
end
section
variable {P : Program} {N : Nat} {ops : Array Oper} {K : Env → World → Prop} {ρ : Env} {w0 w1 : World} {l : List Oper}
variable {ty ty2 : TypeId} {pos pos2 : String} {after after2 : Array Edge} {g g2 : Option (Nat × Bool)} {d d2 : Nat}
theorem st_growv {s x : Operand} {t e bytes sb sr : Nat} {z v u : Value} {us ut : List Value} {uss : List (List Value)} {xss : List (List Int)} {xsss : List (List (List Int))} [ht : SlT P t e] [he : ElT P e 1 bytes z] (hG : GrowV e sb sr w0 v us uss xsss) (x01 : Ext w0 w1) (hu : Rows w0.heap.size w1.heap.size w1 u ut xss) (hs0 : sr ≤ w0.heap.size) (hsb : sb ≤ w0.heap.size)
    (hn : us.length ≤ 1000000) (next : ∀ v1 v' w' w2, GrowV e sb sr w' v' (us ++ [u]) (uss ++ [ut]) (xsss ++ [xss]) → (∀ wb, Ext wb w1 → wb.heap.size ≤ sb → Ext wb w') → w1.heap.size ≤ w'.heap.size → Ext w1 w2 → w2.grownBy w' v.ownBlock → (v'.ownBlock = v.ownBlock ∨ v'.ownBlock = some w2.heap.size) → rops P N ops K l (put (put ρ d v1) d2 v') w')
    (hx : ev ρ x = u := by ((try simp only [ev_tmp, ev_const, ev_func, get_put, get_args, get_putL, get_putL_nil, Nat.reduceEqDiff, reduceIte, List.getD_cons_zero, List.getD_cons_succ, List.getD_nil]); first | done | with_reducible rfl)) (hs : ∀ v1, ev (put ρ d v1) s = v := by intro v1; ((try simp only [ev_tmp, ev_const, ev_func, get_put, get_args, get_putL, get_putL_nil, Nat.reduceEqDiff, reduceIte, List.getD_cons_zero, List.getD_cons_succ, List.getD_nil]); first | done | with_reducible rfl)) (hd : ∀ v1, ev (put ρ d v1) (.tmp d) = v1 := by intro v1; ((try simp only [ev_tmp, ev_const, ev_func, get_put, get_args, get_putL, get_putL_nil, Nat.reduceEqDiff, reduceIte, List.getD_cons_zero, List.getD_cons_succ, List.getD_nil]); first | done | with_reducible rfl)) (hz : z.cells = #[z] := by rfl) (hby : bytes ≤ 100 := by decide) (hg1 : Wants ops ρ g := by first | exact True.intro | exact ⟨_, rfl, by ((try simp only [ev_tmp, ev_const, ev_func, get_put, get_args, get_putL, get_putL_nil, Nat.reduceEqDiff, reduceIte, List.getD_cons_zero, List.getD_cons_succ, List.getD_nil, Bool.not_true, Bool.not_false]); first | done | with_reducible rfl)⟩) (hg2 : ∀ v1, Wants ops (put ρ d v1) g2 := by intro v1; first | exact True.intro | exact ⟨_, rfl, by ((try simp only [ev_tmp, ev_const, ev_func, get_put, get_args, get_putL, get_putL_nil, Nat.reduceEqDiff, reduceIte, List.getD_cons_zero, List.getD_cons_succ, List.getD_nil, Bool.not_true, Bool.not_false]); first | done | with_reducible rfl)⟩) :
    rops P N ops K (⟨some d, .buildSlice t 1 #[(0, x)], ty, pos, after, g⟩ :: ⟨some d2, .call { callee := .builtin .append, args := #[s, .tmp d], argTypes := #[t, t] }, ty2, pos2, after2, g2⟩ :: l) ρ w1 := by
  refine st_slice1 (u := u) hx hu.sl.cells hz hg1 fun w2 v2 he2 hs2 ho2 => ?_
  have hO := (hG.ext (x01.trans he2)).own
  have hz1 := x01.size
  have hz2 := he2.size
  have hb : (us.length + 1) * bytes ≤ 1000001 * 100 := Nat.mul_le_mul (by omega) hby
  refine st_append (hv := hO) (hy := ho2) (hs v2) (hd v2) (by rw [hz]; rfl) ?_ ?_ ?_ ?_ (hg2 v2) fun v3 w3 ho3 hg3 ha3 => ?_
  · intro a ha
    rw [List.mem_singleton.1 ha]; exact hu.sl.one
  · simp only [List.length_singleton]; omega
  · simp only [List.length_singleton, maxLen]; omega
  · omega
  · exact next v2 v3 w3 w2 (hG.push x01 hu hs0 he2 ho3 hg3 ha3) (fun wb hb1 hb2 => (hb1.trans he2).app hg3 (fun k hk => by have := (hO.lt k hk).1; omega)) (Nat.le_trans hz2 hg3.size) he2 hg3 ha3
end
end Go.Pc

/-
  More rules: lists put together ('append(u, v...)', slices.Grow), in plain and in drawn regions.
  Conditions: none; nothing of the program stands here.
-/
namespace Go.Pc
open Go Go.RowKit
section
variable {av : Nat → Prop} {e base : Nat} {w w' : World} {v v' : Value} {us vs : List Value} {xss yss : List (List Int)}
theorem RowsAp.append (h : RowsAp av w us xss) (k : RowsAp av w vs yss) : RowsAp av w (us ++ vs) (xss ++ yss) := by
  refine ⟨by simp [h.len, k.len], fun i => ?_⟩
  by_cases hi : i < us.length
  · have e1 : (us ++ vs).getD i nilv = us.getD i nilv := by simp [List.getElem?_append_left hi]
    have e2 : (xss ++ yss).getD i [] = xss.getD i [] := by simp [List.getElem?_append_left (show i < xss.length by rw [← h.len]; exact hi)]
    rw [e1, e2]; exact h.at_ i
  · have e1 : (us ++ vs).getD i nilv = vs.getD (i - us.length) nilv := by simp [List.getElem?_append_right (Nat.le_of_not_lt hi)]
    have e2 : (xss ++ yss).getD i [] = yss.getD (i - us.length) [] := by rw [h.len]; simp [List.getElem?_append_right (show xss.length ≤ i by rw [← h.len]; omega)]
    rw [e1, e2]; exact k.at_ _
/-- After an append of a whole list. -/
theorem Lst.pushs (h : Lst e base av w v us xss) (hu : RowsAp (fun g => av g ∨ v.ownBlock = some g) w vs yss)
    (ho : OwnN e base w' v' (us ++ vs)) (hg : w.grownBy w' v.ownBlock) (hv : v'.ownBlock = v.ownBlock ∨ v'.ownBlock = some w.heap.size) : Lst e base av w' v' (us ++ vs) (xss ++ yss) := by
  refine ⟨ho, ?_, fun g hg' => ?_, fun g hg' => Nat.lt_of_lt_of_le (h.bd g hg') hg.size⟩
  · have h1 : RowsAp (fun g => (av g ∨ v.ownBlock = some g) ∨ v'.ownBlock = some g) w (us ++ vs) (xss ++ yss) := by
      refine (h.rows.append hu).weak fun g hg' => ?_
      rcases hg' with hg' | hg'
      · exact .inl hg'
      · rcases hv with e | e
        · exact .inl (.inr (by rw [← e]; exact hg'))
        · rw [e] at hg'; injection hg' with hg'; exact .inr (by omega)
    refine (h1.grown hg (fun g e => .inl (.inr e))).weak fun g hg' => .inl ?_
    exact hg'.imp .inl id
  · rcases hv with e | e
    · exact h.free g (by rw [← e]; exact hg')
    · rw [e] at hg'; injection hg' with hg'
      intro ha
      have := h.bd g ha
      omega
end
section
variable {P : Program} {N : Nat} {ops : Array Oper} {π : List Nat} {K : Env → World → Prop} {ρ : Env} {w w0 w1 : World} {l : List Oper}
variable {i : Nat} {ty : TypeId} {pos : String} {after : Array Edge} {g : Option (Nat × Bool)} {d : Nat}
theorem rd_cap_nil {x : Operand} {t e : Nat} (h : ev ρ x = nilv) [ht : SlT P t e] : Rd P (.call { callee := .builtin .cap, args := #[x], argTypes := #[t] }) ty ρ w (.int .i64 0) := by
  constructor; intro _ _ _ _
  simp [execOp, resolve, invoke, builtin, h, Builtin.cap_, run_underlying ht.eq, goInt, IntWalk.i64_in]
/-- append(nil, make(.., n)...): then cut to no element. -/
theorem st_appz {t tn e bytes n : Nat} {z : Value} {s x : Operand} [ht : SlT P t e] [he : ElT P e 1 bytes z] (htn : P.underlying tn = some (.int .i64)) (hs : ev ρ s = nilv) (hx : ev ρ x = .int .i64 n) (hn : 0 < n) (hn2 : n ≤ 1000000) (hby : bytes ≤ 100) (hz : z.cells = #[z]) (hg : Wants ops ρ g)
    (next : ∀ w' v, Ext w w' → Len w' v n → Own e w.heap.size w' (cutTo v 0) [] → rops P N ops K l (put ρ d v) w') : rops P N ops K (⟨some d, .call { callee := .builtin .append, args := #[s, x], argTypes := #[t, tn] }, ty, pos, after, g⟩ :: l) ρ w := by
  obtain ⟨i, hi, hsz, hbt, hz'⟩ := he.ex
  have hb : n * i.bytes ≤ 1000000 * 100 := Nat.mul_le_mul hn2 (by omega)
  have hr := Lib.run_append_nil_zeros (P := P) w t tn ty e i z .i64 .i64 ht.eq htn hi hz' n hn (by omega) (by omega) (by omega)
  have hcap := grownCap_ge w n 0 e
  have hcm : grownCap w n 0 e ≤ maxLen := grownCap_le_maxLen w _ 0 e (by simp [maxLen]; omega)
  refine st_ex (v := .slice (some ⟨w.heap.size, 0, none⟩) n (grownCap w n 0 e)) (w' := w.drew.alloc (.cells (Builtin.zeroCells z.cells n ++ Builtin.zeroCells z.cells (grownCap w n 0 e - n)) e)) hg ⟨fun _ _ _ _ => ?_⟩ (next _ _ ((Ext.drew w).trans (Ext.alloc _ _)) ⟨⟨_, _, rfl, hcap, by simp only [maxLen] at hcm; omega, fun _ => ⟨_, rfl⟩⟩⟩ ?_)
  · simp [execOp, resolve, invoke, builtin, hs, hx, hr]
  · refine ⟨_, _, rfl, heap_alloc_new w.drew _, Nat.zero_le _, hcm, ?_, rfl⟩
    simp [size_zeroCells, hz]; omega
/-- An append to a list that is new since the drawn region began. -/
theorem d_append {s x : Operand} {t e bytes lo hi' base : Nat} {z v y : Value} {us news : List Value} [ht : SlT P t e] [he : ElT P e 1 bytes z] [hv : OwnN e base w v us] [hy : Sl lo hi' w y news] (hi : opAt ops π i = some ⟨some d, .call { callee := .builtin .append, args := #[s, x], argTypes := #[t, t] }, ty, pos, after, g⟩ := by exact rfl)
    (hs : ev ρ s = v) (hx : ev ρ x = y) (hz : z.cells.size = 1) (h1 : ∀ u ∈ news, u.oneCell' = true) (hb : (us.length + news.length) * bytes ≤ 140737488355328) (hl : us.length + news.length ≤ maxLen) (hbase : base ≤ w.heap.size) (hvb : ∀ g, v.ownBlock = some g → w0.heap.size ≤ g)
    (next : ∀ v' w', OwnN e base w' v' (us ++ news) → w.grownBy w' v.ownBlock → (v'.ownBlock = v.ownBlock ∨ v'.ownBlock = some w.heap.size) → dops P N ops π (Ext w0) K (i + 1) (put ρ d v') w')
    (hn : nextOk ops π i = true := by decide +kernel) (hd : d < N := by decide) (hg : Wants ops ρ g := by first | exact True.intro | exact ⟨_, rfl, by ((try simp only [ev_tmp, ev_const, ev_func, get_put, get_args, get_putL, get_putL_nil, Nat.reduceEqDiff, reduceIte, List.getD_cons_zero, List.getD_cons_succ, List.getD_nil, Bool.not_true, Bool.not_false]); first | done | with_reducible rfl)⟩) :
    dops P N ops π (Ext w0) K i ρ w := by
  obtain ⟨v', w', hrun, h2, h3, h4⟩ := run_append (P := P) (ty := ty) ht.eq he hz hv hy h1 hb hl hbase
  have hex : Ex P (.call { callee := .builtin .append, args := #[s, x], argTypes := #[t, t] }) ty ρ w v' w' := by
    constructor; intro _ _ _ _
    simp [execOp, resolve, invoke, builtin, hs, hx, hrun]
  exact dt_ex hi hn hd hg hex (fun hS => hS.app h3 hvb) (next v' w' h2 h3 h4)
end
end Go.Pc

/-
  Walks: the reference's commutator subgroup; SubgroupJoin, NormalClosure, CommutatorSubgroup.
  Conditions: stated at each theorem.
-/
namespace Go.Proofs.Ytgomfjhhfmhlgaa
open Go Go.Pc
theorem rows_oneW {lo hi : Nat} {w : World} {v : Value} {us : List Value} {xss : List (List Int)} (h : Pc.Rows lo hi w v us xss) : ∀ u ∈ us, u.oneCell' = true := by
  intro u hu
  obtain ⟨i, hi, rfl⟩ := List.getElem_of_mem hu
  have := (h.vals.at_ i).sl.one
  rwa [show us.getD i nilv = us[i] by simp [hi]] at this
set_option maxHeartbeats 2000000 in
theorem l13CommL_ok {p : Pr} [hc : ConAll p] {ys zs : List (El p)} (hyl : ys.length ≤ 100) (hzl : zs.length ≤ 100) {w : World} {vp vu vv : Value} {us vs : List Value} {xss yss : List (List Int)} {lo hi lo1 hi1 lo2 hi2 : Nat} [hp : Pres lo hi w vp p] [hu : Pc.Rows lo1 hi1 w vu us xss] [hv : Pc.Rows lo2 hi2 w vv vs yss] (hus : xss = vecs ys) (hvs : yss = vecs zs) :
    Calls Try.prog 96 #[vp, vu, vv] w (Ret fun v w' => Ext w w' ∧ ∃ us', Lst 22 w.heap.size (· < w.heap.size) w' v us' (canon (CommC ys zs))) := by
  subst hus hvs
  have hn6 := hc.valid.n6
  have hyv : (vecs ys).length = ys.length := by simp
  have hzv : (vecs zs).length = zs.length := by simp
  replace hp := hp.wide
  replace hu := hu.wide
  replace hv := hv.wide
  have hvl := hv.vals.len
  obtain ⟨vo, vpw, vc, ps, cs, css, rfl, h1, h2, h3⟩ := hp.ex
  refine enter (args := [.agg #[vo, vpw, vc], vu, vv]) (l := [.tmp 6]) Try.func96 rfl rfl Try.ntmps96 (by simp) ?_
  refine go ?_
  refine st_box3 (by ((try simp only [ev_tmp, ev_const, ev_func, get_put, get_args, get_putL, get_putL_nil, Nat.reduceEqDiff, reduceIte, List.getD_cons_zero, List.getD_cons_succ, List.getD_nil]); first | done | with_reducible rfl)) (by first | exact True.intro | exact ⟨_, rfl, by ((try simp only [ev_tmp, ev_const, ev_func, get_put, get_args, get_putL, get_putL_nil, Nat.reduceEqDiff, reduceIte, List.getD_cons_zero, List.getD_cons_succ, List.getD_nil, Bool.not_true, Bool.not_false]); first | done | with_reducible rfl)⟩) fun w1 b he1 hb1 hs1 hc0 hc1 hc2 => ?_
  refine go ?_
  refine st_slice0 (by first | exact True.intro | exact ⟨_, rfl, by ((try simp only [ev_tmp, ev_const, ev_func, get_put, get_args, get_putL, get_putL_nil, Nat.reduceEqDiff, reduceIte, List.getD_cons_zero, List.getD_cons_succ, List.getD_nil, Bool.not_true, Bool.not_false]); first | done | with_reducible rfl)⟩) fun w0 v0 he0 hs0 ho0 => ?_
  have hz1 := he1.size
  refine go ?_
  refine r_for ys.length (fun i ρ w' => ∃ vl rs, Has ρ [(1, vu), (2, vv), (3, .pointer (some ⟨b, 0, none⟩)), (7, vl), (8, .int .i64 i)] ∧ Ext w1 w' ∧ GrowL 22 w1.heap.size w' vl rs ∧ rs.map (·.2) = vecs (commsL2 (ys.take i) zs) ∧ rs.length ≤ 1000 * i) ?_ ?_
  · refine ⟨v0, [], ?_, he0, GrowL.start ho0 (Nat.le_refl _), by simp [commsL2], by simp⟩
    exact hasP
  clear ho0
  rintro i ρ w2 hi ⟨vl, rs, hH, he2, hG2, hrs2, hl2⟩
  refine rwp_has hH fun ρ0 => ?_
  refine go ?_
  refine c_if (fun h4 => ?_) (fun h4 => ?_)
  · have hin : i < ys.length := by omega
    have hg1 := vecs_getD ys hin
    refine go ?_
    refine r_for zs.length (fun j ρ w' => ∃ vl rs, Has ρ [(1, vu), (2, vv), (3, .pointer (some ⟨b, 0, none⟩)), (7, vl), (8, .int .i64 i), (9, .int .i64 j)] ∧ Ext w1 w' ∧ GrowL 22 w1.heap.size w' vl rs ∧ rs.map (·.2) = vecs (commsL2 (ys.take i) zs ++ (zs.take j).map (Grp.cm ys[i])) ∧ rs.length ≤ 1000 * i + j) ?_ ?_
    · refine ⟨vl, rs, ?_, he2, hG2, by simpa using hrs2, by omega⟩
      exact hasP
    clear he2 hG2 hrs2 hl2
    rintro j ρ w3 hj ⟨vl, rs, hH3, he3, hG3, hrs3, hl3⟩
    refine rwp_has hH3 fun ρ1 => ?_
    have hz3 := he3.size
    have hE3 := he1.trans he3
    refine go ?_
    refine c_if (fun h5 => ?_) (fun h5 => ?_)
    · have hjn : j < zs.length := by omega
      have hg2 := vecs_getD zs hjn
      obtain ⟨b', hb', hvb'⟩ := own_some' vl w1.heap.size w3.heap.size (by omega) (fun g h => (hG3.lst.lt h).1)
      have ap1 : Apart 0 w.heap.size b' := ⟨.inr (by omega)⟩
      have ap2 : Apart b (b + 1) b' := ⟨.inr (by omega)⟩
      refine go ?_
      refine z_order b' (List.range 14) (h := fun w4 he4 _ => ?_)
      refine zgo ?_
      refine zc (l10Comm_ok (p := p) (x := ys[i]) (y := zs[j]) hg1 hg2) (next := fun v5 w5 h6 => ?_)
      obtain ⟨he5, hf5⟩ := h6
      refine z_grow (hG3.ext he4) he5 hf5 (by have := he4.size; omega) (by omega) hvb' (next := fun v6 v7 w7 hG7 hx7 hz7 hgs7 => ?_)
      refine zgo ?_
      refine z_end ?_
      refine go ?_
      refine forQ_normal (by omega) ⟨v7, _, ?_, hx7 w1 ((he3.trans he4).trans he5) (Nat.le_refl _), hG7, ?_, ?_⟩
      · exact hasP
      · rw [List.take_succ_eq_append_getElem hjn]
        simp only [List.map_append, List.map_cons, List.map_nil, hrs3, vecs, List.append_assoc]
      · simp only [List.length_append, List.length_singleton]; omega
    · obtain rfl : j = zs.length := by omega
      rw [List.take_length, ← commsL2_succ hin] at hrs3
      refine go ?_
      refine forQ_normal (by omega) ⟨vl, rs, ?_, he3, hG3, hrs3, by omega⟩
      exact hasP
  · obtain rfl : i = ys.length := by omega
    rw [List.take_length] at hrs2
    have hz2 := he2.size
    have hE2 := he1.trans he2
    have hll : (commsL2 ys zs).length ≤ 100000 := by
      have := congrArg List.length hrs2
      simp at this
      omega
    have hRl := hG2.rows
    refine go ?_
    refine d_order [0, 1, 2, 4, 6, 3, 5, 7, 8, 9] (h := fun w3 he3 _ => ?_)
    refine dgo ?_
    refine dce (l12Close_ok (p := p) (ys := commsL2 ys zs) hrs2 (by omega)) (next := fun v4 w4 h5 => ?_)
    obtain ⟨he4, us4, hL4⟩ := h5
    have hE4 := (hE2.trans he3).trans he4
    refine dce (l01Own2G_ok (xss := vecs ys) (fun i => ?_) ?_) (next := fun v5 w5 h6 => ?_)
    · have := vecs_len ys i; omega
    · omega
    obtain ⟨he5, rs5, hG5, hrs5⟩ := h6
    have hz3 := he3.size
    have hz4 := he4.size
    have hz5 := he5.size
    have hO5 := hG5.lst.own
    have hv5 : Pc.Rows 0 w.heap.size w5 vv vs (vecs zs) := hv.same ((hE4.trans he5).same _ _)
    have hsl5 := hv5.sl
    have hr5l : rs5.length = ys.length := by have := congrArg List.length hrs5; simpa using this
    refine d_append (hv := hO5) (hy := hsl5) (hs := (by ((try simp only [ev_tmp, ev_const, ev_func, get_put, get_args, get_putL, get_putL_nil, Nat.reduceEqDiff, reduceIte, List.getD_cons_zero, List.getD_cons_succ, List.getD_nil]); first | done | with_reducible rfl))) (hx := (by ((try simp only [ev_tmp, ev_const, ev_func, get_put, get_args, get_putL, get_putL_nil, Nat.reduceEqDiff, reduceIte, List.getD_cons_zero, List.getD_cons_succ, List.getD_nil]); first | done | with_reducible rfl))) (hz := rfl) (h1 := rows_oneW hv5) (hb := ?_) (hl := ?_) (hbase := ?_) (hvb := fun g hg => ?_) (next := fun v6 w6 ho6 hg6 ha6 => ?_)
    · simp only [List.length_map]; omega
    · simp only [List.length_map, maxLen]; omega
    · omega
    · have := (hG5.lst.lt hg).1; omega
    have hL6 := (hG5.lst.weak (av' := fun _ => False) (fun _ h => h.elim) (fun _ _ h => h) (fun _ h => h.elim)).pushs (hv5.ap (av := fun g => False ∨ v5.ownBlock = some g) (by have := hE4.size; omega) (fun g hg => .inr (by
      rcases hg with hg | hg
      · exact hg.elim
      · have := (hG5.lst.lt hg).1; have := hE4.size; omega))) ho6 hg6 ha6
    have hx46 : Ext w4 w6 := he5.app hg6 (fun k hk => (hG5.lst.lt hk).1)
    have hE6 := hE4.trans hx46
    have hR6 := hL6.toRows
    have hN4 := hL4.newRows
    have hR46 : Pc.Rows w3.heap.size w4.heap.size w6 v4 us4 (vecs (canEls (Gen (fun a : El p => a ∈ commsL2 ys zs)))) := by
      rw [← canon_vecs]; exact hN4.same (hx46.same _ _)
    clear hO5 hv5 hsl5 hN4
    refine dce (l13StableL_ok (p := p) (ys := canEls (Gen (fun a : El p => a ∈ commsL2 ys zs))) (bs := ys ++ zs) (seqEl_can (Gen.sub _)) (by simp; omega) rfl ?_) (next := fun v7 w7 h8 => ?_)
    · rw [hrs5]; simp [vecs]
    obtain ⟨he7, us7, hR7⟩ := h8
    rw [clo_can] at hR7
    refine dgo ?_
    refine d_end (h := ?_)
    refine go ?_
    exact ret1 ⟨hE6.trans he7, us7, hR7.low hE6.size (hE6.trans he7).size⟩
theorem l13Comm_ok {p : Pr} [hc : ConAll p] {ys zs : List (El p)} (hyl : ys.length ≤ 100) (hzl : zs.length ≤ 100) {w : World} {vp vu vv : Value} {us vs : List Value} {xss yss : List (List Int)} {lo hi lo1 hi1 lo2 hi2 : Nat} [hp : Pres lo hi w vp p] [hu : Pc.Rows lo1 hi1 w vu us xss] [hv : Pc.Rows lo2 hi2 w vv vs yss] (hus : xss = vecs ys) (hvs : yss = vecs zs) :
    Calls Try.prog 96 #[vp, vu, vv] w (Ret fun v w' => Ext w w' ∧ ∃ us', Pc.Rows w.heap.size w'.heap.size w' v us' (canon (CommC ys zs))) :=
  Pc.Calls.ret_mono (l13CommL_ok hyl hzl hus hvs) fun _ _ ⟨h1, us', h2⟩ => ⟨h1, us', h2.newRows⟩
end Go.Proofs.Ytgomfjhhfmhlgaa
