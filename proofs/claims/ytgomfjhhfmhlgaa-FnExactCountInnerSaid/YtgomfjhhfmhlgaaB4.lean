/-
  Texts of one proof, put together by program: I12b, I12c, I12d, Seq2, W12d, Ans, Ans2, Clo, W13, W01d, W13b, W13c, W16, Ans3, Ans5, Ser, Cat, W14, W15, W16b, W17, W19, W25, Fun, I03, I08d, I08e, I12e, I14, I16.
  Conditions: those told at each part.
-/
import Derived.Test.YtgomfjhhfmhlgaaB3
import Derived.Lib.AppendZeros
set_option linter.unusedVariables false
set_option linter.unusedSimpArgs false
set_option linter.unusedSectionVars false
set_option linter.constructorNameAsVariable false
set_option linter.unnecessarySimpa false
set_option linter.deprecated false
/-
  Walk: the program's addition of elements to a sequence (sequence.add).
  Conditions: the tails at all levels are groups; the sequence's table has no element waiting.
-/
namespace Go.Proofs.Ytgomfjhhfmhlgaa
open Go Go.Pc
/-- The table and the queue, side by side; one element more waits. -/
theorem tq_push {p : Pr} {e base s b0 : Nat} {av : Nat → Prop} {w w' : World} {vt vw vw' u : Value} {usT usW : List Value} {t : Tab p} {zs : List (El p)} {x : El p}
    (hT : Lst e base (fun g => av g ∨ vw.ownBlock = some g) w vt usT (tabL t)) (hW : QLst e s (fun g => g = b0) w vw usW (vecs zs))
    (hu : IntsAp (fun g => g = b0 ∨ vw.ownBlock = some g) w u x.v) (ho : OwnQ e s w' vw' (usW ++ [u])) (hg : w.grownBy w' vw.ownBlock) (hv : vw'.ownBlock = vw.ownBlock ∨ vw'.ownBlock = some w.heap.size) :
    Lst e base (fun g => av g ∨ vw'.ownBlock = some g) w' vt usT (tabL t) ∧ QLst e s (fun g => g = b0) w' vw' (usW ++ [u]) (vecs (zs ++ [x])) := by
  have hW' := hW.push hu ho hg hv
  refine ⟨hT.beside hg (fun g e => .inr e) fun g hg' => ?_, by unfold vecs; rw [List.map_append]; exact hW'⟩
  rcases hg' with hg' | hg'
  · exact .inl (.inl hg')
  · rcases hv with e | e
    · rw [e] at hg'; exact .inl (.inr hg')
    · have := (hW'.lt hg').2
      rw [e] at hg'; injection hg' with hg'
      exact .inr ⟨hg'.symm, by omega⟩
theorem b_push {A : Nat → Prop} {w w' : World} {v v' u : Value} {xs : List Int} (h : IntsAp (fun g => A g ∨ v.ownBlock = some g) w u xs) (hg : w.grownBy w' v.ownBlock) (hv : v'.ownBlock = v.ownBlock ∨ v'.ownBlock = some w.heap.size) : IntsAp (fun g => A g ∨ v'.ownBlock = some g) w' u xs :=
  h.beside hg (fun g e => .inr e) fun g hg' => by
    rcases hg' with hg' | hg'
    · exact .inl (.inl hg')
    · rcases hv with e | e
      · rw [e] at hg'; exact .inl (.inr hg')
      · rw [e] at hg'; injection hg' with hg'; exact .inr hg'.symm
/-- A sequence in memory: its struct and its table, of which the block b0 is written. -/
structure SeqAt {p : Pr} (bs b0 base : Nat) (av : Nat → Prop) (w : World) (vp vb : Value) (t : Tab p) : Prop where
  c0 : Cell w bs 0 vp
  c1 : Cell w bs 1 vb
  ne : bs ≠ b0
  own : vb.ownBlock = some b0
  lst : ∃ us, Lst 22 base av w vb us (tabL t) ∧ ∀ d, d < p.n → t d = none → us.getD d nilv = nilv
set_option maxHeartbeats 8000000 in
theorem add_ok {p : Pr} [hcon : ConAll p] {S : El p → Prop} {t0 : Tab p} {av : Nat → Prop} {base bs b0 : Nat} {w : World} {vp vb vl : Value} {us : List Value} {ys : List (El p)} {lo hi lo1 hi1 : Nat} [hp : PresP lo hi w vp p] (hhi : hi ≤ w.heap.size) [hap : Apart lo hi b0]
    (hq : SeqAt bs b0 base av w vp vb t0) (hw0 : Wk S t0 (fun _ => False)) [hsl : Sl lo1 hi1 w vl us] (hr : RowsAp (fun g => g = b0) w us (vecs ys)) (hn : ys.length ≤ 100000) :
    Calls Try.prog 143 #[.pointer (some ⟨bs, 0, none⟩), vl] w (Ret fun v w' => ∃ (bg : Bool) (t : Tab p), v = .bool bg ∧ Chg b0 w w' ∧ SeqAt bs b0 base av w' vp vb t ∧ Wk (fun a => S a ∨ a ∈ ys) t (fun _ => False) ∧ (bg = true ↔ ∃ a, a ∈ ys ∧ ¬ Gen S a)) := by
  have hv := hcon.valid
  have hn6 := hv.n6
  have hol : p.ord.length = p.n := rfl
  obtain ⟨c0, c1, hbsn, hvb, usT0, hT0, hnil0⟩ := hq
  have hb0l := (hT0.lt hvb).2
  have hbsl := c0.lt
  have hapb : Apart bs (bs + 1) b0 := ⟨by omega⟩
  obtain ⟨g, vo, vpw, vc, ps, cs, css, rfl, hg1, hg2, hc0, hc1, hc2, h1, h2, h3⟩ := hp.ex
  have hag : Apart g (g + 1) b0 := ⟨by have := hap.out; omega⟩
  have hul : us.length = ys.length := by rw [hr.len]; simp
  refine enter (args := [.pointer (some ⟨bs, 0, none⟩), vl]) (l := [.tmp 4]) Try.func143 rfl rfl Try.ntmps143 (by simp) ?_
  refine go ?_
  refine rc (cloneR_ok (us := us) ?_ ?_) (next := fun v1 w1 h4 => ?_)
  · intro u hu
    obtain ⟨i, hi, rfl⟩ := List.getElem_of_mem hu
    have := (hr.at_ i).ints.sl.one
    rwa [show us.getD i nilv = us[i] by simp [hi]] at this
  · omega
  obtain ⟨he1, hO1⟩ := h4
  have hz1 := he1.size
  have hQ1 : QLst 22 w.heap.size (fun g => g = b0) w1 v1 us (vecs ys) := by
    refine ⟨hO1.toQ, (hr.weak fun g hg => ?_).ext he1, fun g hg e => ?_, fun g e => by omega⟩
    · rcases hg with hg | hg
      · exact .inl hg
      · exact .inr (hO1.lt g hg).1
    · have := (hO1.lt g hg).1; omega
  have hT1 : Lst 22 base (fun g => av g ∨ v1.ownBlock = some g) w1 vb usT0 (tabL t0) := by
    refine ⟨(hT0.ext he1).own, ((hT0.rows.weak (av' := fun g => (av g ∨ v1.ownBlock = some g) ∨ vb.ownBlock = some g) fun g hg => ?_).ext he1), fun g hg h' => ?_, fun g hg => ?_⟩
    · rcases hg with (hg | hg) | hg
      · exact .inl (.inl hg)
      · exact .inr (hO1.lt g hg).1
      · exact .inl (.inr hg)
    · rcases h' with h' | h'
      · exact hT0.free g hg h'
      · have := (hO1.lt g h').1; have := (hT0.lt hg).2; omega
    · rcases hg with hg | hg
      · have := hT0.bd g hg; omega
      · exact (hO1.lt g hg).2
  refine go ?_
  refine r_loop (fun m ρ w' => ∃ (vq : Value) (usT usQ : List Value) (t : Tab p) (zs : List (El p)) (bg : Bool), Has ρ [(0, .pointer (some ⟨bs, 0, none⟩)), (5, .bool bg), (6, vq)] ∧ Chg b0 w w' ∧ Lst 22 base (fun g => av g ∨ vq.ownBlock = some g) w' vb usT (tabL t) ∧
    QLst 22 w.heap.size (fun g => g = b0) w' vq usQ (vecs zs) ∧ (∀ d, d < p.n → t d = none → usT.getD d nilv = nilv) ∧ Wk (fun a => S a ∨ a ∈ ys) t (fun a => a ∈ zs) ∧ (bg = true → ∃ d, t0 d = none ∧ t d ≠ none) ∧ (bg = false → t = t0) ∧ (∀ d, t d = none → t0 d = none) ∧
    m = 8 * empt t + zs.length ∧ m ≤ ys.length + 48) (8 * empt t0 + ys.length) ?_ ?_
  · refine ⟨v1, usT0, us, t0, ys, false, ?_, Chg.ofExt he1, hT1, hQ1, hnil0, hw0.more, fun h => (by cases h), fun _ => rfl, fun _ h => h, rfl, ?_⟩
    · exact hasP
    · have := empt_le t0; omega
  clear hQ1 hT1 hO1 he1
  rintro m ρ w4 ⟨vq, usT, usQ, t, zs, bg, hH4, hch4, hT, hQ, hnil, hWk, hbt, hbf, hab, rfl, hm⟩
  refine rwp_has hH4 fun ρ0 => ?_
  have hTr := hT.toRows
  have hQr := hQ.toRows
  have htl := tabL_len t
  have hz4 := hch4.size
  have hcs0 : Cell w4 bs 0 (.pointer (some ⟨g, 0, none⟩)) := inferInstance
  have hcs1 : Cell w4 bs 1 vb := inferInstance
  refine go ?_
  refine c_if (fun h4 => ?_) (fun h4 => ?_)
  · cases zs with
    | nil => simp at h4
    | cons x zs =>
    have hQl := hQ.len
    cases usQ with
    | nil => simp at hQl
    | cons u usQ =>
    have hql : usQ.length = zs.length := by simpa using hQl
    have hzl : (vecs (x :: zs)).length = usQ.length + 1 := by simp [hql]
    have hzl2 : (x :: zs).length = zs.length + 1 := rfl
    have hx4 : IntsAp (fun g => g = b0 ∨ vq.ownBlock = some g) w4 (Pc.rowAt vq (u :: usQ) 0) x.v := hQ.rows.at_ 0
    refine go ?_
    refine rc (sift_ok hWk.ok (x := x) hnil hx4 ?_) (next := fun v5 w5 h5 => ?_)
    · rintro g (rfl | hg)
      · omega
      · exact (hQ.lt hg).2
    obtain ⟨he5, r, hr5, hL⟩ := h5
    have hri := hr5.ints
    have hrl := r.inr.len
    refine go ?_
    rw [hzl]
    have hQ5 : QLst 22 w.heap.size (fun g => g = b0) w5 (cut vq 1 (usQ.length + 1)) usQ (vecs zs) := (hQ.ext he5).tail
    have hT5 : Lst 22 base (fun g => av g ∨ (cut vq 1 (usQ.length + 1)).ownBlock = some g) w5 vb usT (tabL t) := by rw [cut_block]; exact hT.ext he5
    rw [← cut_block vq 1 (usQ.length + 1)] at hr5
    have hqb := cut_block vq 1 (usQ.length + 1)
    generalize cut vq 1 (usQ.length + 1) = vq5 at hQ5 hT5 hr5 hqb
    refine rc (depthOf_ok (xs := r.v) ?_) (next := fun v6 w6 h6 => ?_)
    · omega
    obtain ⟨rfl, he6⟩ := h6
    obtain ⟨d, hd⟩ : ∃ d, lead r.v = d := ⟨_, rfl⟩
    rw [hd] at hL ⊢
    refine go ?_
    have hch6 : Chg b0 w w6 := (hch4.grow he5).grow he6
    refine c_if (fun h5 => ?_) (fun h5 => ?_)
    · have hr1 : r = 1 := by
        have := hL.tl
        rw [show d = p.n by omega] at this
        exact this.end_
      subst hr1
      refine go ?_
      refine loopQ_normal ?_ ⟨vq5, usT, usQ, t, zs, bg, ?_, hch6, hT5.ext he6, hQ5.ext he6, hnil, hWk.drop hL.stp ?_ ?_, hbt, hbf, hab, rfl, ?_⟩
      · omega
      · exact hasP
      · intro a ha
        rcases List.mem_cons.1 ha with ha | ha
        · exact .inl ha
        · exact .inr ha
      · exact fun a ha => List.mem_cons_of_mem _ ha
      · omega
    · have hdn : d < p.n := by have := hL.le; omega
      obtain ⟨htd, hrd⟩ := hL.some hdn
      have hrr := r.inr.rng d hdn
      have hod := hv.opos hdn
      have hpr := hv.prime d hdn
      have hr0 : r.v.getD d 0 ≠ 0 := hrd
      refine go ?_
      refine d_region fun w7 he7 _ => ?_
      refine dgo ?_
      refine dce (inverseMod_ok hpr ?_) (next := fun v8 w8 h8 => ?_)
      · exact ⟨by omega, hrr.2⟩
      obtain ⟨k, rfl, hk1, hk2, hk3, he8⟩ := h8
      refine dgo ?_
      refine d_end (h := ?_)
      have hE58 : Ext w5 w8 := he6.trans (he7.trans he8)
      have hT8 := hT5.ext hE58
      have hQ8 := hQ5.ext hE58
      have hr8 := hr5.ext hE58
      have hri8 := hr8.ints
      have hch8 := hch6.grow (he7.trans he8)
      refine go ?_
      refine st_slice1 (u := v5) (by ((try simp only [ev_tmp, ev_const, ev_func, get_put, get_args, get_putL, get_putL_nil, Nat.reduceEqDiff, reduceIte, List.getD_cons_zero, List.getD_cons_succ, List.getD_nil]); first | done | with_reducible rfl)) ?_ ?_ (by first | exact True.intro | exact ⟨_, rfl, by ((try simp only [ev_tmp, ev_const, ev_func, get_put, get_args, get_putL, get_putL_nil, Nat.reduceEqDiff, reduceIte, List.getD_cons_zero, List.getD_cons_succ, List.getD_nil, Bool.not_true, Bool.not_false]); first | done | with_reducible rfl)⟩) fun w9 v9 he9 hs9 ho9 => ?_
      · exact hri8.sl.cells
      · rfl
      refine go ?_
      have hT9 := hT8.ext he9
      have hQ9 := hQ8.ext he9
      have hr9 := hr8.ext he9
      have hO9 := hQ9.own
      have hz8 := hch8.size
      have hz9 := he9.size
      refine st_appendQ (hv := hO9) (hy := ho9) (by ((try simp only [ev_tmp, ev_const, ev_func, get_put, get_args, get_putL, get_putL_nil, Nat.reduceEqDiff, reduceIte, List.getD_cons_zero, List.getD_cons_succ, List.getD_nil]); first | done | with_reducible rfl)) (by ((try simp only [ev_tmp, ev_const, ev_func, get_put, get_args, get_putL, get_putL_nil, Nat.reduceEqDiff, reduceIte, List.getD_cons_zero, List.getD_cons_succ, List.getD_nil]); first | done | with_reducible rfl)) rfl ?_ ?_ ?_ ?_ (by first | exact True.intro | exact ⟨_, rfl, by ((try simp only [ev_tmp, ev_const, ev_func, get_put, get_args, get_putL, get_putL_nil, Nat.reduceEqDiff, reduceIte, List.getD_cons_zero, List.getD_cons_succ, List.getD_nil, Bool.not_true, Bool.not_false]); first | done | with_reducible rfl)⟩) fun v10 w10 ho10 hg10 ha10 => ?_
      · exact hri8.sl.one
      · omega
      · simp only [maxLen]; omega
      · omega
      obtain ⟨hT10, hQ10⟩ := tq_push hT9 hQ9 hr9 ho10 hg10 ha10
      have hr10 := b_push hr9 hg10 ha10
      have hch10 : Chg b0 w w10 := (hch8.grow he9).app hg10 (fun k hk => (hQ9.lt hk).1)
      have hri10 := hr10.ints
      have hz10 := hch10.size
      clear hT5 hQ5 hr5 hri hT8 hQ8 hr8 hri8 hch8 hT9 hQ9 hr9 hO9 hch6 ho9 hQr hTr hx4 hcs0 hcs1
      refine go ?_
      refine rc (power_ok (p := p) (x := r) (Nat.zero_le _) rfl ?_) (next := fun v11 w11 h11 => ?_)
      · omega
      obtain ⟨he11, hf11⟩ := h11
      obtain ⟨y, hy⟩ : ∃ y, Grp.pw r k.toNat = y := ⟨_, rfl⟩
      rw [hy] at hf11
      have hT11 := hT10.ext he11
      have hQ11 := hQ10.ext he11
      have hch11 := hch10.grow he11
      have hy11 : IntsAp (fun g => g < w.heap.size ∨ v10.ownBlock = some g) w11 v11 y.v := IntsAp.ofFr hf11 (fun g hg => by
        rcases hg with hg | hg
        · omega
        · exact (hQ10.lt hg).2)
      have hyi := hy11.ints
      have hz11 := he11.size
      clear hT10 hQ10 hch10 hf11 hr10 hri10
      obtain ⟨b', hb', hvb'⟩ := own_some v10 w.heap.size w11.heap.size (by omega) (fun g h => (hQ11.lt h).1)
      have ap1 : Apart lo hi b' := ⟨.inr (by omega)⟩
      have ap2 : Apart bs (bs + 1) b' := ⟨.inr (by omega)⟩
      have ap3 : Apart g (g + 1) b' := ⟨.inr (by omega)⟩
      have hl11 := hQ11.len
      refine go ?_
      refine z_order b' (List.range 20) (h := fun w12 he12 _ => ?_)
      refine zgo ?_
      refine zc (power_ok (p := p) (x := y) (Nat.zero_le _) rfl ?_) (next := fun v13 w13 h13 => ?_)
      · have hoe : p.o d = p.ord.getD d 0 := rfl
        omega
      obtain ⟨he13, hf13⟩ := h13
      have hoe : p.o d = p.ord.getD d 0 := rfl
      rw [← hoe] at hf13
      refine z_slice1 (u := v13) (h := (by ((try simp only [ev_tmp, ev_const, ev_func, get_put, get_args, get_putL, get_putL_nil, Nat.reduceEqDiff, reduceIte, List.getD_cons_zero, List.getD_cons_succ, List.getD_nil]); first | done | with_reducible rfl))) (hu := ?_) (hz := ?_) (next := fun w14 v14 he14 hs14 ho14 => ?_)
      · exact hf13.ints.sl.cells
      · rfl
      have hE14 := (he12.trans he13).trans he14
      have hT14 := hT11.ext hE14
      have hQ14 := hQ11.ext hE14
      have hO14 := hQ14.own
      have hz14 := hE14.size
      have hz12 := he12.size
      have hz13 := he13.size
      have hl14 : (usQ ++ [v5]).length = zs.length + 1 := by simp [hql]
      refine z_appendQ (hv := hO14) (hy := ho14) (hs := (by ((try simp only [ev_tmp, ev_const, ev_func, get_put, get_args, get_putL, get_putL_nil, Nat.reduceEqDiff, reduceIte, List.getD_cons_zero, List.getD_cons_succ, List.getD_nil]); first | done | with_reducible rfl))) (hx := (by ((try simp only [ev_tmp, ev_const, ev_func, get_put, get_args, get_putL, get_putL_nil, Nat.reduceEqDiff, reduceIte, List.getD_cons_zero, List.getD_cons_succ, List.getD_nil]); first | done | with_reducible rfl))) (hz := rfl) (h1 := ?_) (hb := ?_) (hl := ?_) (hbase := ?_) (hvb := hvb') (next := fun v15 w15 ho15 hg15 ha15 => ?_)
      · exact hf13.ints.sl.one
      · omega
      · simp only [maxLen]; omega
      · omega
      have hp14 : IntsAp (fun g => g = b0 ∨ v10.ownBlock = some g) w14 v13 (Grp.pw y (p.o d).toNat).v :=
        (IntsAp.ofFr hf13 (fun g hg => by
          rcases hg with hg | hg
          · omega
          · have := (hQ11.lt hg).2; omega)).ext he14
      obtain ⟨hT15, hQ15⟩ := tq_push hT14 hQ14 hp14 ho15 hg15 ha15
      have hy15 := b_push (hy11.ext hE14) hg15 ha15
      have hch15 : Chg b0 w w15 := (hch11.grow hE14).app hg15 (fun k hk => (hQ14.lt hk).1)
      refine zgo ?_
      refine z_end ?_
      clear hT11 hQ11 hch11 hy11 hyi hT14 hQ14 hO14 hp14 ap1 ap2 ap3 ho14 hvb'
      have hTr := hT15.toRows
      refine go ?_
      refine r_for p.n (fun e ρ w' => ∃ (vq : Value) (usQ : List Value), Has ρ [(0, .pointer (some ⟨bs, 0, none⟩)), (5, .bool true), (6, vq), (7, v11), (8, .int .i64 d), (82, vb), (83, .int .i64 (tabL t).length), (84, .int .i64 e)] ∧ Chg b0 w w' ∧
        Lst 22 base (fun g => av g ∨ vq.ownBlock = some g) w' vb usT (tabL t) ∧
        QLst 22 w.heap.size (fun g => g = b0) w' vq usQ (vecs (zs ++ [r] ++ [Grp.pw y (p.o d).toNat] ++ commsL t y e)) ∧ IntsAp (fun g => g < w.heap.size ∨ vq.ownBlock = some g) w' v11 y.v) ?_ ?_
      · refine ⟨v15, usQ ++ [v5] ++ [v13], ?_, hch15, hT15, ?_, hy15⟩
        · exact hasP
        · have : commsL t y 0 = [] := rfl
          rw [this, List.append_nil]
          exact hQ15
      clear hT15 hQ15 hch15 hy15 hTr
      rintro e ρ w16 he ⟨vq2, usQ2, hH16, hch16, hT16, hQ16, hy16⟩
      refine rwp_has hH16 fun ρ1 => ?_
      have hTr := hT16.toRows
      have hyi := hy16.ints
      have hz16 := hch16.size
      have hl16 : usQ2.length = zs.length + 2 + (commsL t y e).length := by rw [hQ16.len]; simp; omega
      have hcl := commsL_len (t := t) (y := y) (e := e)
      refine go ?_
      refine c_if (fun h6 => ?_) (fun h6 => ?_)
      · have hen : e < p.n := by omega
        cases hte : t e with
        | none =>
          have hn2 : Pc.rowAt vb usT e = nilv := hnil e hen hte
          have hnb : NilB (Pc.rowAt vb usT e) true := by rw [hn2]; infer_instance
          refine go ?_
          refine forQ_normal (by omega) ⟨vq2, usQ2, ?_, hch16, hT16, ?_, hy16⟩
          · exact hasP
          · rw [commsL_skip hte]; exact hQ16
        | some z =>
          have hze : (tabL t).getD e [] = z.v := by rw [tabL_at t hen, rowOf_some hte]
          have hnb : NilB (Pc.rowAt vb usT e) false := by
            have hrow : Ints 0 w16.heap.size w16 (Pc.rowAt vb usT e) ((tabL t).getD e []) := by infer_instance
            exact hrow.nn (by rw [hze, z.inr.len]; omega)
          refine go ?_
          refine rc (commutator_ok (p := p) (x := z) (y := y) (Nat.zero_le _) hze rfl) (next := fun v18 w18 h18 => ?_)
          obtain ⟨he18, hf18⟩ := h18
          refine go ?_
          refine st_slice1 (u := v18) (by ((try simp only [ev_tmp, ev_const, ev_func, get_put, get_args, get_putL, get_putL_nil, Nat.reduceEqDiff, reduceIte, List.getD_cons_zero, List.getD_cons_succ, List.getD_nil]); first | done | with_reducible rfl)) ?_ ?_ (by first | exact True.intro | exact ⟨_, rfl, by ((try simp only [ev_tmp, ev_const, ev_func, get_put, get_args, get_putL, get_putL_nil, Nat.reduceEqDiff, reduceIte, List.getD_cons_zero, List.getD_cons_succ, List.getD_nil, Bool.not_true, Bool.not_false]); first | done | with_reducible rfl)⟩) fun w19 v19 he19 hs19 ho19 => ?_
          · exact hf18.ints.sl.cells
          · rfl
          have hE19 := he18.trans he19
          have hT19 := hT16.ext hE19
          have hQ19 := hQ16.ext hE19
          have hO19 := hQ19.own
          have hz19 := hE19.size
          refine go ?_
          refine st_appendQ (hv := hO19) (hy := ho19) (by ((try simp only [ev_tmp, ev_const, ev_func, get_put, get_args, get_putL, get_putL_nil, Nat.reduceEqDiff, reduceIte, List.getD_cons_zero, List.getD_cons_succ, List.getD_nil]); first | done | with_reducible rfl)) (by ((try simp only [ev_tmp, ev_const, ev_func, get_put, get_args, get_putL, get_putL_nil, Nat.reduceEqDiff, reduceIte, List.getD_cons_zero, List.getD_cons_succ, List.getD_nil]); first | done | with_reducible rfl)) rfl ?_ ?_ ?_ ?_ (by first | exact True.intro | exact ⟨_, rfl, by ((try simp only [ev_tmp, ev_const, ev_func, get_put, get_args, get_putL, get_putL_nil, Nat.reduceEqDiff, reduceIte, List.getD_cons_zero, List.getD_cons_succ, List.getD_nil, Bool.not_true, Bool.not_false]); first | done | with_reducible rfl)⟩) fun v20 w20 ho20 hg20 ha20 => ?_
          · exact hf18.ints.sl.one
          · omega
          · simp only [maxLen]; omega
          · omega
          have hp19 : IntsAp (fun g => g = b0 ∨ vq2.ownBlock = some g) w19 v18 (Grp.cm z y).v :=
            (IntsAp.ofFr hf18 (fun g hg => by
              rcases hg with hg | hg
              · omega
              · exact (hQ16.lt hg).2)).ext he19
          obtain ⟨hT20, hQ20⟩ := tq_push hT19 hQ19 hp19 ho20 hg20 ha20
          refine go ?_
          refine forQ_normal (by omega) ⟨v20, usQ2 ++ [v18], ?_, (hch16.grow hE19).app hg20 (fun k hk => (hQ19.lt hk).1), hT20, ?_, b_push (hy16.ext hE19) hg20 ha20⟩
          · exact hasP
          · rw [commsL_some hte, ← List.append_assoc]; exact hQ20
      · obtain rfl : e = p.n := by omega
        have hes := empt_set (y := y) hdn htd
        have hyk : y = Grp.pw r k.toNat := hy.symm
        have hkk : ((k.toNat : Int) * co r d) % p.o d = 1 := by
          rw [Int.toNat_of_nonneg (by omega), Int.mul_comm]; exact hk3
        have hO16 := hT16.toOwn hvb
        have hulT : usT.length = p.n := by rw [hT16.len, htl]
        refine go ?_
        refine st_store_val (h := hO16) (by ((try simp only [ev_tmp, ev_const, ev_func, get_put, get_args, get_putL, get_putL_nil, Nat.reduceEqDiff, reduceIte, List.getD_cons_zero, List.getD_cons_succ, List.getD_nil]); first | done | with_reducible rfl)) (by ((try simp only [ev_tmp, ev_const, ev_func, get_put, get_args, get_putL, get_putL_nil, Nat.reduceEqDiff, reduceIte, List.getD_cons_zero, List.getD_cons_succ, List.getD_nil]); first | done | with_reducible rfl)) ?_ ?_ (by first | exact True.intro | exact ⟨_, rfl, by ((try simp only [ev_tmp, ev_const, ev_func, get_put, get_args, get_putL, get_putL_nil, Nat.reduceEqDiff, reduceIte, List.getD_cons_zero, List.getD_cons_succ, List.getD_nil, Bool.not_true, Bool.not_false]); first | done | with_reducible rfl)⟩) fun w21 hc21 hs21 ho21 => ?_
        · exact hyi.sl.one
        · omega
        have hT21 : Lst 22 base (fun g => av g ∨ vq2.ownBlock = some g) w21 vb (usT.set d v11) (tabL (Tab.set t d y)) := by
          rw [tabL_set]
          refine hT16.set hvb (hy16.weak fun g hg => .inl ?_) hc21 ho21 (by omega)
          rcases hg with (hg | hg) | hg
          · exact .inl (hT0.bd g hg)
          · exact .inr hg
          · rw [hvb] at hg; injection hg with hg; exact .inl (by omega)
        have hQ21 := hQ16.chg hc21 rfl
        refine go ?_
        refine loopQ_normal ?_ ⟨vq2, usT.set d v11, usQ2, Tab.set t d y, zs ++ [r] ++ [Grp.pw y (p.o d).toNat] ++ commsL t y p.n, true, ?_, hch16.trans hc21, hT21, hQ21, ?_, ?_, fun _ => ⟨d, ?_, ?_⟩, fun h => (by cases h), fun f hf => ?_, rfl, ?_⟩
        · simp only [List.length_append, List.length_singleton, List.length_cons, List.length_nil]; omega
        · exact hasP
        · intro f hf hfn
          by_cases ef : d = f
          · subst ef; unfold Tab.set at hfn; rw [if_pos rfl] at hfn; cases hfn
          · have : t f = none := by unfold Tab.set at hfn; rw [if_neg (fun e => ef e.symm)] at hfn; exact hfn
            have h8 := hnil f hf this
            rw [List.getD_eq_getElem?_getD, List.getElem?_set_ne ef, ← List.getD_eq_getElem?_getD]
            exact h8
        · refine hWk.fill hdn hL.stp (List.mem_cons_self) hL.tl hrd htd hyk hkk ?_ ?_ ?_ ?_ ?_
          · intro a ha
            rcases List.mem_cons.1 ha with ha | ha
            · exact .inl ha
            · exact .inr (by simp [ha])
          · intro a ha
            rcases List.mem_append.1 ha with ha | ha
            · rcases List.mem_append.1 ha with ha | ha
              · rcases List.mem_append.1 ha with ha | ha
                · exact .inl (List.mem_cons_of_mem _ ha)
                · exact .inr (.inl (List.mem_singleton.1 ha))
              · exact .inr (.inr (.inl (List.mem_singleton.1 ha)))
            · obtain ⟨k, z, _, h8, h9⟩ := commsL_mem.1 ha
              exact .inr (.inr (.inr ⟨k, z, h8, .inr h9⟩))
          · simp
          · simp
          · intro e z hz
            exact .inr (List.mem_append_right _ (commsL_mem.2 ⟨e, z, hWk.ok.lt e z hz, hz, rfl⟩))
        · exact hab d htd
        · unfold Tab.set; rw [if_pos rfl]; simp
        · refine hab f ?_
          unfold Tab.set at hf
          split at hf
          · cases hf
          · exact hf
        · simp only [List.length_append, List.length_singleton, List.length_cons, List.length_nil]; omega
  · have hz0 : zs = [] := by
      cases zs with
      | nil => rfl
      | cons a l => exfalso; apply h4; simp
    subst hz0
    refine go ?_
    have hWk' : Wk (fun a => S a ∨ a ∈ ys) t (fun _ => False) := hWk.congr (fun a => by simp)
    refine ret1 ⟨bg, t, rfl, hch4, ⟨hcs0, hcs1, hbsn, hvb, usT, hT.weak (fun g hg => .inl (.inl hg)) (fun g hg h => hT.free g hg (.inl h)) (fun g hg => hT.bd g (.inl hg)), hnil⟩, hWk', ?_⟩
    cases bg with
    | true =>
      obtain ⟨d, h5, h6⟩ := hbt rfl
      exact ⟨fun _ => hw0.grown hWk' h5 h6, fun _ => rfl⟩
    | false =>
      have := hbf rfl
      subst this
      have hs := hw0.same hWk'
      refine ⟨fun h => (by cases h), ?_⟩
      rintro ⟨a, ha, hna⟩
      exact absurd (hs a ha) hna
end Go.Proofs.Ytgomfjhhfmhlgaa

/-
  Walk: the program's representative of a coset (representative).
  Conditions: the tails at all levels are groups; the list has leading exponents 1 at ascending depths.
-/
namespace Go.Proofs.Ytgomfjhhfmhlgaa
open Go Go.Pc
/-- Elements with the leading exponent 1, their depths ascending. -/
structure SeqOk {p : Pr} (ys : List (El p)) : Prop where
  lead1 : ∀ y, y ∈ ys → lead y.v < p.n ∧ co y (lead y.v) = 1
  asc : ys.Pairwise fun a b => lead a.v < lead b.v
/-- What a representative is: it differs by a product of the list's elements, and is zero at their depths. -/
structure RepOf {p : Pr} [ConAll p] (ys : List (El p)) (x r : El p) : Prop where
  mem : ∀ H : El p → Prop, Pc.Sub H → (∀ y, y ∈ ys → H y) → H (x⁻¹ * r)
  zero : ∀ y, y ∈ ys → co r (lead y.v) = 0
  low : ∀ t, (∀ y, y ∈ ys → t < lead y.v) → co r t = co x t
theorem vecs_getD {p : Pr} (ys : List (El p)) {i : Nat} (h : i < ys.length) : (vecs ys).getD i [] = (ys[i]).v := by simp [vecs, h]
set_option maxHeartbeats 2000000 in
theorem representative_ok {p : Pr} [hcon : ConAll p] {ys : List (El p)} (hs : SeqOk ys) {w : World} {vp vu vx : Value} {us : List Value} {x : El p} {xs : List Int} {xss : List (List Int)} {lo hi lo1 hi1 lo2 hi2 : Nat} [hp : PresP lo hi w vp p] [hu : Pc.Rows lo1 hi1 w vu us xss] [hx : Ints lo2 hi2 w vx xs] (hus : xss = vecs ys) (hxs : xs = x.v) (hl : ys.length ≤ 100000) :
    Calls Try.prog 162 #[vp, vu, vx] w (Ret fun v w' => Ext w w' ∧ ∃ r : El p, Fr w.heap.size w' v r.v ∧ RepOf ys x r) := by
  subst hus hxs
  have hv := hcon.valid
  have hn6 := hv.n6
  have hxl := x.inr.len
  replace hp := hp.wide
  replace hu := hu.wide
  have hvl : (vecs ys).length = ys.length := by simp
  refine enter (args := [vp, vu, vx]) (l := [.tmp 6]) Try.func162 rfl rfl Try.ntmps162 (by simp) ?_
  refine go ?_
  refine rc (cloneI_ok (xs := x.v) ?_) (next := fun v1 w1 h4 => ?_)
  · omega
  obtain ⟨he1, hf1⟩ := h4
  refine go ?_
  refine rc (pivots_ok (xss := vecs ys) ?_ ?_) (next := fun v2 w2 h5 => ?_)
  · omega
  · intro i hi
    rw [vecs_getD ys (by omega), (ys[i]'(by omega)).inr.len]
    exact ⟨(hs.lead1 _ (List.getElem_mem _)).1, by omega⟩
  obtain ⟨he2, hf2⟩ := h5
  have hpi := hf2.ints
  have hpl : ((vecs ys).map fun x => (lead x : Int)).length = ys.length := by simp
  have hpg : ∀ i (h : i < ys.length), ((vecs ys).map fun x => (lead x : Int)).getD i 0 = (lead (ys[i]).v : Int) := fun i h => by simp [vecs, h]
  by_cases hn : p.n = 0
  · have hy0 : ys = [] := by
      cases ys with
      | nil => rfl
      | cons y l => have := (hs.lead1 y (List.mem_cons_self)).1; omega
    subst hy0
    refine go ?_
    refine r_for 0 (fun k ρ w' => Has ρ [(7, v1), (14, .int .i64 ((vecs ([] : List (El p))).map fun x => (lead x : Int)).length), (15, .int .i64 k)] ∧ Ext w2 w') ?_ ?_
    · refine ⟨?_, Ext.refl _⟩
      exact hasP
    rintro k ρ w3 hk ⟨hH, he3⟩
    refine rwp_has hH fun ρ0 => ?_
    refine go ?_
    refine c_if (fun h4 => ?_) (fun h4 => ?_)
    · simp at h4; omega
    refine go ?_
    refine ret1 ⟨(he1.trans he2).trans he3, x, hf1.ext' (he2.trans he3), fun H hH _ => by rw [Grp.inv_mul]; exact hH.one, fun y hy => (by cases hy), fun t _ => rfl⟩
  obtain ⟨te, b1, hb1, ho1⟩ := hf1.own (by intro e; rw [e] at hxl; simp at hxl; omega)
  have hbl := ho1.lt
  have ho2 : OwnI te b1 w2 v1 x.v := inferInstance
  have ap1 : Apart 0 w.heap.size b1 := ⟨.inr hb1⟩
  have ap2 : Apart w1.heap.size w2.heap.size b1 := ⟨.inl hbl⟩
  have hE2 := he1.trans he2
  clear hf1 ho1 hf2
  refine go ?_
  refine r_for ys.length (fun k ρ w' => ∃ (r : El p) (xs : List Int), Has ρ [(0, vp), (1, vu), (7, v1), (13, v2), (14, .int .i64 ((vecs ys).map fun x => (lead x : Int)).length), (15, .int .i64 k)] ∧ Chg b1 w2 w' ∧ OwnI te b1 w' v1 xs ∧ xs = r.v ∧
    (∀ H : El p → Prop, Pc.Sub H → (∀ y, y ∈ ys → H y) → H (x⁻¹ * r)) ∧ (∀ i (h : i < ys.length), i < k → co r (lead (ys[i]).v) = 0) ∧ (∀ t, (∀ y, y ∈ ys → t < lead y.v) → co r t = co x t)) ?_ ?_
  · refine ⟨x, _, ?_, Chg.refl _ _, ho2, rfl, fun H hH _ => by rw [Grp.inv_mul]; exact hH.one, fun i h hi => by omega, fun t _ => rfl⟩
    exact hasP
  clear ho2
  rintro k ρ w3 hk ⟨r, xs3, hH, hch3, ho3, hxs3, hm, hz, hlow⟩
  refine rwp_has hH fun ρ0 => ?_
  refine go ?_
  refine c_if (fun h4 => ?_) (fun h4 => ?_)
  · have hkn : k < ys.length := by omega
    have hpk := hpg k hkn
    obtain ⟨d, hd⟩ : ∃ d, lead (ys[k]).v = d := ⟨_, rfl⟩
    obtain ⟨hdn, hy1⟩ := hs.lead1 _ (List.getElem_mem hkn)
    rw [hd] at hpk hdn hy1
    have hyt : Tl d (ys[k]) := by rw [← hd]; exact lead_tl _
    have hod := hv.opos hdn
    have hasc : ∀ i (h : i < ys.length), i < k → lead (ys[i]).v < d := fun i h hi => by
      rw [← hd]; exact List.pairwise_iff_getElem.1 hs.asc i k h hkn hi
    refine go ?_
    rw [hpk]
    refine r_loop (fun m ρ w' => ∃ (r : El p) (xs : List Int), Has ρ [(0, vp), (1, vu), (7, v1), (8, .int .i64 k), (9, .int .i64 d), (13, v2), (14, .int .i64 ((vecs ys).map fun x => (lead x : Int)).length), (15, .int .i64 k)] ∧ Chg b1 w2 w' ∧ OwnI te b1 w' v1 xs ∧ xs = r.v ∧
      (∀ H : El p → Prop, Pc.Sub H → (∀ y, y ∈ ys → H y) → H (x⁻¹ * r)) ∧ (∀ i (h : i < ys.length), i < k → co r (lead (ys[i]).v) = 0) ∧ (∀ t, (∀ y, y ∈ ys → t < lead y.v) → co r t = co x t) ∧ m = if co r d = 0 then 0 else (p.o d - co r d).toNat) (if co r d = 0 then 0 else (p.o d - co r d).toNat) ?_ ?_
    · refine ⟨r, xs3, ?_, hch3, ho3, hxs3, hm, hz, hlow, rfl⟩
      exact hasP
    clear ho3 hm hz hlow hch3
    rintro m ρ w4 ⟨r, xs4, hH4, hch4, ho4, hxs4, hm, hz, hlow, hme⟩
    refine rwp_has hH4 fun ρ1 => ?_
    have hrl : xs4.length = p.n := by rw [hxs4]; exact r.inr.len
    have hrr := co_rng r hdn
    have hco : xs4.getD d 0 = co r d := by rw [hxs4]; rfl
    refine go ?_
    refine c_if (fun h5 => ?_) (fun h5 => ?_)
    · have h5' : co r d ≠ 0 := by rw [← hco]; exact h5
      rw [if_neg h5'] at hme
      refine go ?_
      refine rc (timesVector_ok (p := p) 0 (x := r) (y := ys[k]) (Nat.zero_le _) hxs4 (vecs_getD ys hkn) (fun k hk => absurd hk (Nat.not_lt_zero _))) (next := fun v5 w5 h6 => ?_)
      obtain ⟨hch5, ho5⟩ := h6
      have hlo : ∀ t, t < d → co (r * ys[k]) t = co r t := fun t ht => co_low r hdn hyt ht
      have hat : co (r * ys[k]) d = (co r d + 1) % p.o d := by rw [co_at r hdn hyt, hy1]
      refine go ?_
      refine loopQ_normal ?_ ⟨r * ys[k], _, ?_, hch4.trans hch5, ho5, rfl, fun H hH hy => ?_, fun i h hi => ?_, fun t ht => ?_, rfl⟩
      · rw [hat, hme]
        by_cases h8 : co r d + 1 = p.o d
        · rw [if_pos (by rw [h8, Int.emod_self])]; omega
        · rw [Int.emod_eq_of_lt (by omega) (by omega), if_neg (by omega)]; omega
      · exact hasP
      · rw [← Grp.mul_assoc]
        exact hH.mul _ _ (hm H hH hy) (hy _ (List.getElem_mem hkn))
      · rw [hlo _ (hasc i h hi)]; exact hz i h hi
      · have h9 := ht _ (List.getElem_mem hkn)
        rw [hd] at h9
        rw [hlo t h9]; exact hlow t ht
    · have h5' : co r d = 0 := by rw [← hco]; exact Decidable.not_not.1 h5
      refine go ?_
      refine forQ_normal (by omega) ⟨r, xs4, ?_, hch4, ho4, hxs4, hm, fun i h hi => ?_, hlow⟩
      · exact hasP
      · by_cases e : i = k
        · subst e; rw [hd]; exact h5'
        · exact hz i h (by omega)
  · refine go ?_
    refine ret1 ⟨hch3.ext hE2 hb1, r, ?_, hm, fun y hy => ?_, hlow⟩
    · rw [← hxs3]; exact ho3.toFr hb1
    · obtain ⟨i, hi, rfl⟩ := List.getElem_of_mem hy
      exact hz i hi (by omega)
end Go.Proofs.Ytgomfjhhfmhlgaa

/-
  Walks: the program's canonical sequence, and its subgroup generated by a list (canonical, generated).
  Conditions: the tails at all levels are groups.
-/
namespace Go.Proofs.Ytgomfjhhfmhlgaa
open Go Go.Pc
theorem canElsF_ok {p : Pr} [hcon : ConAll p] (H : El p → Prop) (d : Nat) : SeqOk (canElsF H d) := by
  refine ⟨fun y hy => ?_, ?_⟩
  · obtain ⟨e, h1, h2, h3⟩ := canElsF_mem.1 hy
    have hc := canT_some h3
    have hl := lead_of hc.tl (by rw [hc.lead]; omega)
    rw [hl]
    exact ⟨h2, hc.lead⟩
  · unfold canElsF
    rw [List.pairwise_filterMap]
    refine List.Pairwise.imp ?_ (List.pairwise_lt_range' (s := d) (n := p.n - d))
    intro a b hab x hx y hy
    have ha := canT_some hx
    have hb := canT_some hy
    rw [lead_of ha.tl (by rw [ha.lead]; omega), lead_of hb.tl (by rw [hb.lead]; omega)]
    exact hab
theorem canElsF_lead {p : Pr} [hcon : ConAll p] {H : El p → Prop} {d : Nat} {y : El p} (hy : y ∈ canElsF H d) : d ≤ lead y.v := by
  obtain ⟨e, h1, h2, h3⟩ := canElsF_mem.1 hy
  have hc := canT_some h3
  rw [lead_of hc.tl (by rw [hc.lead]; omega)]
  exact h1
/-- The representative of an entry by the canonical elements behind it is canonical. -/
theorem rep_can {p : Pr} [hcon : ConAll p] {t : Tab p} (hf : Full t) {d : Nat} {y r : El p} (hy : t d = some y) (hcn : ∀ e, d + 1 ≤ e → t e ≠ none → canT (Gen (Ents t)) e ≠ none) (hr : RepOf (canElsF (Gen (Ents t)) (d + 1)) y r) : CanAt (Gen (Ents t)) d r := by
  have hH := Gen.sub (Ents t)
  have hyt := hf.ok.tl d y hy
  have hyl := hf.ok.lead d y hy
  have hym : Gen (Ents t) y := .of y ⟨d, hy⟩
  have hlow : ∀ k, k < d + 1 → co r k = co y k := fun k hk => hr.low k fun z hz => by have := canElsF_lead hz; omega
  refine ⟨?_, fun k hk => ?_, by rw [hlow d (by omega)]; exact hyl, fun e he hne => ?_⟩
  · have h1 := hr.mem (Gen (Ents t)) hH fun z hz => by
      obtain ⟨e, _, _, h3⟩ := canElsF_mem.1 hz
      exact (canT_some h3).mem
    have := hH.mul _ _ hym h1
    rwa [Grp.mul_inv_cancel_left] at this
  · show co r k = 0
    rw [hlow k (by omega)]; exact hyt k hk
  · by_cases h1 : e < d
    · rw [hlow e (by omega)]; exact hyt e h1
    · have hte := hf.dep.1 he
      cases hc : canT (Gen (Ents t)) e with
      | none => exact absurd hc (hcn e (by omega) hte)
      | some z =>
        have hza := canT_some hc
        have h2 := hr.zero z (canElsF_mem.2 ⟨e, by omega, hza.lt, hc⟩)
        rwa [lead_of hza.tl (by rw [hza.lead]; omega)] at h2
set_option maxHeartbeats 2000000 in
theorem canonicalO_ok {p : Pr} [hcon : ConAll p] {t : Tab p} (hf : Full t) {av : Nat → Prop} {base bs b0 : Nat} {w : World} {vp vb : Value} {lo hi : Nat} [hp : PresP lo hi w vp p] (hq : SeqAt bs b0 base av w vp vb t) :
    Calls Try.prog 144 #[.pointer (some ⟨bs, 0, none⟩)] w (Ret fun v w' => Ext w w' ∧ ∃ rs, Lst 22 w.heap.size (· < w.heap.size) w' v (rs.map (·.1)) (rs.map (·.2)) ∧ canon (Gen (Ents t)) = rs.map (·.2) ∧ RowsO w.heap.size w' rs) := by
  have hv := hcon.valid
  have hn6 := hv.n6
  have hH := Gen.sub (Ents t)
  have htl := tabL_len t
  obtain ⟨c0, c1, hbsn, hvb, usT, hT, hnil⟩ := hq
  have hTr := hT.toRows
  obtain ⟨g, vo, vpw, vc, ps, cs, css, rfl, hg1, hg2, hc0, hc1, hc2, h1, h2, h3⟩ := hp.ex
  refine enter (args := [.pointer (some ⟨bs, 0, none⟩)]) (l := [.tmp 2]) Try.func144 rfl rfl Try.ntmps144 (by simp) ?_
  refine go ?_
  refine r_for p.n (fun k ρ w' => ∃ vo rs, Has ρ [(0, .pointer (some ⟨bs, 0, none⟩)), (3, vo), (4, .int .i64 (p.n - 1 - k))] ∧ Ext w w' ∧ (Lst 22 w.heap.size (· < w.heap.size) w' vo (rs.map (·.1)) (vecs (canElsF (Gen (Ents t)) (p.n - k))) ∧ vecs (canElsF (Gen (Ents t)) (p.n - k)) = rs.map (·.2) ∧ RowsO w.heap.size w' rs) ∧ ∀ e, p.n - k ≤ e → t e ≠ none → canT (Gen (Ents t)) e ≠ none) ?_ ?_
  · refine ⟨nilv, [], ?_, Ext.refl _, ?_, fun e h1 h2 => ?_⟩
    · exact hasP
    · rw [Nat.sub_zero, canElsF_end]; exact ⟨Lst.nil _ _ _ (fun g hg => hg), rfl, RowsO.nil _ _⟩
    · have := (hf.dep.2 h2).lt; omega
  rintro k ρ w2 hk ⟨vo', rs, hH2, he2, ⟨hL, hrs, hO⟩, hcn⟩
  obtain ⟨us, hus⟩ : ∃ us, rs.map (·.1) = us := ⟨_, rfl⟩
  rw [hus] at hL
  refine rwp_has hH2 fun ρ0 => ?_
  refine go ?_
  refine c_if (fun h4 => ?_) (fun h4 => ?_)
  · have hkn : k < p.n := by omega
    obtain ⟨d, hd⟩ : ∃ d, p.n - 1 - k = d := ⟨_, rfl⟩
    have hdn : d < p.n := by omega
    have hd1 : p.n - k = d + 1 := by omega
    have hd2 : p.n - (k + 1) = d := by omega
    rw [hd1] at hL hcn hrs
    cases htd : t d with
    | none =>
      have hn2 : Pc.rowAt vb usT (p.n - 1 - k) = nilv := by rw [hd]; exact hnil d hdn htd
      have hnb : NilB (Pc.rowAt vb usT (p.n - 1 - k)) true := by rw [hn2]; infer_instance
      refine go ?_
      refine forQ_normal (by omega) ⟨vo', rs, ?_, he2, ?_, fun e h1 h2 => ?_⟩
      · exact hasP
      · rw [hd2, canElsF_none hdn (hf.canT_none htd), hus]; exact ⟨hL, hrs, hO⟩
      · by_cases ee : e = d
        · subst ee; exact absurd htd h2
        · exact hcn e (by omega) h2
    | some y =>
      have hye : (tabL t).getD (p.n - 1 - k) [] = y.v := by rw [hd, tabL_at t hdn, rowOf_some htd]
      have hnb : NilB (Pc.rowAt vb usT (p.n - 1 - k)) false := by
        have hrow : Ints 0 w.heap.size w (Pc.rowAt vb usT (p.n - 1 - k)) ((tabL t).getD (p.n - 1 - k) []) := by infer_instance
        exact hrow.nn (by rw [hye, y.inr.len]; omega)
      have hLr := hL.toRows
      have hll := canElsF_len (Gen (Ents t)) (d + 1)
      have hul := hL.len
      have hul2 : us.length = (canElsF (Gen (Ents t)) (d + 1)).length := by rw [hul]; simp
      refine go ?_
      refine d_region fun w3 he3 _ => ?_
      refine dgo ?_
      refine dce (representative_ok (p := p) (ys := canElsF (Gen (Ents t)) (d + 1)) (x := y) (canElsF_ok _ _) rfl hye ?_) (next := fun v4 w4 h5 => ?_)
      · omega
      obtain ⟨he4, r, hf4, hrep⟩ := h5
      refine dgo ?_
      refine d_end (h := ?_)
      have hcan := rep_can hf htd hcn hrep
      have hE3 := he2.trans he3
      have hE4 := hE3.trans he4
      have hz3 := hE3.size
      have hz4 := hE4.size
      refine go ?_
      refine st_slice1o (u := v4) (by ((try simp only [ev_tmp, ev_const, ev_func, get_put, get_args, get_putL, get_putL_nil, Nat.reduceEqDiff, reduceIte, List.getD_cons_zero, List.getD_cons_succ, List.getD_nil]); first | done | with_reducible rfl)) ?_ ?_ (by first | exact True.intro | exact ⟨_, rfl, by ((try simp only [ev_tmp, ev_const, ev_func, get_put, get_args, get_putL, get_putL_nil, Nat.reduceEqDiff, reduceIte, List.getD_cons_zero, List.getD_cons_succ, List.getD_nil, Bool.not_true, Bool.not_false]); first | done | with_reducible rfl)⟩) fun w5 v5 he5 hs5 ho5 => ?_
      · exact hf4.ints.sl.cells
      · rfl
      have hL4 := hL.ext (he3.trans he4)
      have hL5 := hL4.ext he5
      have hsl5 := hL5.own.toSl
      have hz5 := he5.size
      refine go ?_
      refine st_append (hv := ho5.toN) (hy := hsl5) (by ((try simp only [ev_tmp, ev_const, ev_func, get_put, get_args, get_putL, get_putL_nil, Nat.reduceEqDiff, reduceIte, List.getD_cons_zero, List.getD_cons_succ, List.getD_nil]); first | done | with_reducible rfl)) (by ((try simp only [ev_tmp, ev_const, ev_func, get_put, get_args, get_putL, get_putL_nil, Nat.reduceEqDiff, reduceIte, List.getD_cons_zero, List.getD_cons_succ, List.getD_nil]); first | done | with_reducible rfl)) rfl ?_ ?_ ?_ ?_ (by first | exact True.intro | exact ⟨_, rfl, by ((try simp only [ev_tmp, ev_const, ev_func, get_put, get_args, get_putL, get_putL_nil, Nat.reduceEqDiff, reduceIte, List.getD_cons_zero, List.getD_cons_succ, List.getD_nil, Bool.not_true, Bool.not_false]); first | done | with_reducible rfl)⟩) fun v6 w6 ho6 hg6 ha6 => ?_
      · intro a ha
        obtain ⟨i, hi, rfl⟩ := List.getElem_of_mem ha
        have := (hL5.rows.at_ i).ints.sl.one
        rwa [show us.getD i nilv = us[i] by simp [hi]] at this
      · simp; omega
      · simp [maxLen]; omega
      · omega
      have hob : v5.ownBlock = some w4.heap.size := ho5.toN_block
      rw [hob] at hg6 ha6
      have hru : IntsAp (· < w.heap.size) w4 v4 r.v := IntsAp.ofFr hf4 (fun g hg => by omega)
      have hrL : RowsAp (· < w.heap.size) w4 us (vecs (canElsF (Gen (Ents t)) (d + 1))) := hL4.rows.weak fun g hg => .inl (.inl hg)
      have hL6 := Lst.front (e := 22) (base := w.heap.size) hrL hru (fun g hg => by omega) he5 (Nat.le_refl _) hg6 (ho6.mono (by omega)) (fun g hg => by
        rcases ha6 with e | e
        · rw [e] at hg; injection hg with hg; omega
        · rw [e] at hg; injection hg with hg; omega)
      refine go ?_
      have hO4 := (hO.ext he3).cons he4 (by omega) hf4
      have hO6 := (hO4.ext he5).wr (.one (B := fun g => g = w4.heap.size) rfl ⟨hg6⟩) (fun g hg e => by have := (hO4.blk hg).2; omega)
      refine forQ_normal (by omega) ⟨v6, (v4, r.v) :: rs, ?_, (hE4.trans he5).app hg6 (fun k hk => by injection hk with hk; omega), ?_, fun e h1 h2 => ?_⟩
      · exact hasP
      · rw [hd2, canElsF_some hdn (canT_eq hH hcan)]
        refine ⟨by rw [List.map_cons, hus]; exact hL6, by simp only [vecs, List.map_cons] at hrs ⊢; rw [hrs], hO6⟩
      · by_cases ee : e = d
        · subst ee; rw [canT_eq hH hcan]; simp
        · exact hcn e (by omega) h2
  · obtain rfl : k = p.n := by omega
    refine go ?_
    rw [Nat.sub_self, canElsF_zero, ← canon_vecs] at hL hrs
    refine ret1 ⟨he2, rs, ?_, hrs, hO⟩
    rw [← hrs, hus]; exact hL
theorem canonical_ok {p : Pr} [hcon : ConAll p] {t : Tab p} (hf : Full t) {av : Nat → Prop} {base bs b0 : Nat} {w : World} {vp vb : Value} {lo hi : Nat} [hp : PresP lo hi w vp p] (hq : SeqAt bs b0 base av w vp vb t) :
    Calls Try.prog 144 #[.pointer (some ⟨bs, 0, none⟩)] w (Ret fun v w' => Ext w w' ∧ ∃ us', Lst 22 w.heap.size (· < w.heap.size) w' v us' (canon (Gen (Ents t)))) :=
  Pc.Calls.ret_mono (canonicalO_ok hf hq) fun _ _ ⟨h1, rs, h2, h3, _⟩ => ⟨h1, rs.map (·.1), by rw [h3]; exact h2⟩
set_option maxHeartbeats 1000000 in
theorem generatedO_ok {p : Pr} [hcon : ConAll p] {w : World} {vp vl : Value} {us : List Value} {ys : List (El p)} {xss : List (List Int)} {lo hi lo1 hi1 : Nat} [hp : PresP lo hi w vp p] [hl : Pc.Rows lo1 hi1 w vl us xss] (hx : xss = vecs ys) (hn : ys.length ≤ 100000) :
    Calls Try.prog 105 #[vp, vl] w (Ret fun v w' => Ext w w' ∧ ∃ rs, Lst 22 w.heap.size (· < w.heap.size) w' v (rs.map (·.1)) (rs.map (·.2)) ∧ canon (Gen (fun a : El p => a ∈ ys)) = rs.map (·.2) ∧ RowsO w.heap.size w' rs) := by
  subst hx
  have hn6 := hcon.valid.n6
  replace hp := hp.wide
  replace hl := hl.wide
  refine enter (args := [vp, vl]) (l := [.tmp 4]) Try.func105 rfl rfl Try.ntmps105 (by simp) ?_
  refine go ?_
  refine rc (newSequence_ok (p := p) hn6) (next := fun v1 w1 h1 => ?_)
  obtain ⟨bs, vb, rfl, he1, hc0, hc1, hbs, hvb, ho⟩ := h1
  have hz1 := he1.size
  have hq : SeqAt bs w.heap.size w.heap.size (fun _ => False) w1 vp vb (fun _ => none : Tab p) := by
    refine ⟨hc0, hc1, by omega, hvb, List.replicate p.n nilv, ?_, fun d hd _ => ?_⟩
    · rw [tabL_none]
      exact Lst.ofNils ho (Nat.le_refl _) (fun h => h) (fun g h => h.elim)
    · rw [List.getD_eq_getElem?_getD, List.getElem?_replicate]; split <;> rfl
  have hap : Apart 0 w.heap.size w.heap.size := ⟨.inr (Nat.le_refl _)⟩
  have hr : RowsAp (fun g => g = w.heap.size) w1 us (vecs ys) := (hl.ap (Nat.le_refl _) (fun g hg => .inr (by omega))).ext he1
  have hsl : Sl 0 w.heap.size w1 vl us := inferInstance
  refine go ?_
  refine rc (add_ok (p := p) (S := fun _ => False) hz1 hq Wk.none hr hn) (next := fun v2 w2 h2 => ?_)
  obtain ⟨bg, t, rfl, hch2, hq2, hWk, _⟩ := h2
  have he2 : Ext w w2 := hch2.ext he1 (Nat.le_refl _)
  have hz2 := he2.size
  clear hch2 hsl
  refine go ?_
  refine rc (canonicalO_ok (p := p) (hWk.full (fun _ h => h)) hq2) (next := fun v3 w3 h3 => ?_)
  obtain ⟨he3, us3, hL3, hus3, hO3⟩ := h3
  refine go ?_
  rw [hWk.gen (fun _ h => h)] at hus3
  have e : (fun a : El p => False ∨ a ∈ ys) = fun a => a ∈ ys := by funext a; simp
  rw [e] at hus3
  exact ret1 ⟨he2.trans he3, us3, (hL3.mono hz2).weak (fun g hg => .inl (by omega)) (fun g hg h => by have := (hL3.lt hg).1; omega) (fun g hg => by have := he3.size; omega), hus3, hO3.mono hz2⟩
theorem generated_ok {p : Pr} [hcon : ConAll p] {w : World} {vp vl : Value} {us : List Value} {ys : List (El p)} {xss : List (List Int)} {lo hi lo1 hi1 : Nat} [hp : PresP lo hi w vp p] [hl : Pc.Rows lo1 hi1 w vl us xss] (hx : xss = vecs ys) (hn : ys.length ≤ 100000) :
    Calls Try.prog 105 #[vp, vl] w (Ret fun v w' => Ext w w' ∧ ∃ us', Lst 22 w.heap.size (· < w.heap.size) w' v us' (canon (Gen (fun a : El p => a ∈ ys)))) :=
  Pc.Calls.ret_mono (generatedO_ok hx hn) fun _ _ ⟨h1, rs, h2, h3, _⟩ => ⟨h1, rs.map (·.1), by rw [h3]; exact h2⟩
theorem generatedM_ok {p : Pr} [hcon : ConAll p] {w : World} {vp vl : Value} {us : List Value} {ys : List (El p)} {xss : List (List Int)} {lo hi lo1 hi1 : Nat} [hp : PresP lo hi w vp p] [hl : Pc.Rows lo1 hi1 w vl us xss] (hx : xss = vecs ys) (hn : ys.length ≤ 100000) :
    Calls Try.prog 105 #[vp, vl] w (Ret fun v w' => Ext w w' ∧ ∃ rs, canon (Gen (fun a : El p => a ∈ ys)) = rs.map (·.2) ∧ MatO w.heap.size w'.heap.size w' v rs) :=
  Pc.Calls.ret_mono (generatedO_ok hx hn) fun _ _ ⟨h1, rs, h2, h3, h4⟩ => ⟨h1, rs, h3, MatO.ofLst h2 h4 h2.newRows⟩
end Go.Proofs.Ytgomfjhhfmhlgaa

/-
  Canonical sequences: every depth of a subgroup has its element; representatives are unique; the order.
  Conditions: the tails at all levels are groups; nothing of the program stands here.
-/
namespace Go.Proofs.Ytgomfjhhfmhlgaa
open Go Go.Pc
section
variable {p : Pr} [hc : ConAll p] {H : El p → Prop} {d : Nat}
theorem dep_one (hH : Pc.Sub H) (h : Dep H d) : ∃ z, H z ∧ Tl d z ∧ co z d = 1 := by
  have hd := h.lt
  obtain ⟨x, h1, h2, h3⟩ := h
  have hr := co_rng x hd
  obtain ⟨k, _, _, hk⟩ := inv_ex (hc.valid.prime d hd) ⟨by omega, hr.2⟩
  exact ⟨Grp.pwz x k, hH.pwz h1 k, h2.pwz (by omega) k, by rw [co_pwz hd h2, Int.mul_comm]; exact hk⟩
theorem can_ex (hH : Pc.Sub H) (h : Dep H d) : ∃ x, CanAt H d x := by
  have key : ∀ m e, e ≤ p.n → p.n - e = m → d < e → (∃ x, CanTo H d e x) → ∃ x, CanTo H d p.n x := by
    intro m
    induction m with
    | zero =>
      intro e h1 h2 _ h4
      obtain rfl : e = p.n := by omega
      exact h4
    | succ m ih =>
      intro e h1 h2 h3 ⟨x, h4⟩
      refine ih (e + 1) (by omega) (by omega) (by omega) ?_
      by_cases hD : Dep H e
      · obtain ⟨z, hz, hzt, hz1⟩ := dep_one hH hD
        exact ⟨_, h4.step hH h3 hD.lt hz hzt hz1⟩
      · exact ⟨x, h4.skip (.inr hD)⟩
  have hd := h.lt
  obtain ⟨z, hz, hzt, hz1⟩ := dep_one hH h
  obtain ⟨x, hx⟩ := key (p.n - (d + 1)) (d + 1) (by omega) rfl (by omega) ⟨z, hz, hzt, hz1, fun k h1 h2 _ => by omega⟩
  exact ⟨x, hx.can⟩
theorem canT_ex (hH : Pc.Sub H) (h : Dep H d) : ∃ x, canT H d = some x := by
  obtain ⟨x, hx⟩ := can_ex hH h
  exact ⟨x, canT_eq hH hx⟩
/-- The elements of a canonical sequence. -/
structure SeqEl (ys : List (El p)) : Prop where
  can : canon (Gen (fun a : El p => a ∈ ys)) = vecs ys
theorem SeqEl.eq {ys : List (El p)} (h : SeqEl ys) : ys = canElsF (Gen (fun a : El p => a ∈ ys)) 0 := by
  have := vecs_inj (h.can.symm.trans (canon_vecs _))
  rw [canElsF_zero]; exact this
theorem SeqEl.ok {ys : List (El p)} (h : SeqEl ys) : SeqOk ys := by
  have := canElsF_ok (Gen (fun a : El p => a ∈ ys)) 0
  rwa [← h.eq] at this
theorem SeqEl.len {ys : List (El p)} (h : SeqEl ys) : ys.length ≤ p.n := by
  have := canElsF_len (Gen (fun a : El p => a ∈ ys)) 0
  rwa [← h.eq] at this
theorem SeqEl.dep {ys : List (El p)} (h : SeqEl ys) {d : Nat} (hd : Dep (Gen (fun a : El p => a ∈ ys)) d) : ∃ y, y ∈ ys ∧ lead y.v = d := by
  obtain ⟨x, hx⟩ := canT_ex (Gen.sub _) hd
  have hm := canElsF_mem.2 ⟨d, Nat.zero_le _, hd.lt, hx⟩
  rw [← h.eq] at hm
  have hca := canT_some hx
  exact ⟨x, hm, lead_of hca.tl (by rw [hca.lead]; omega)⟩
theorem isSeq_iff {xss : List (List Int)} : IsSeq p xss ↔ ∃ ys : List (El p), xss = vecs ys ∧ SeqEl ys :=
  ⟨fun ⟨ys, h1, h2⟩ => ⟨ys, h1, ⟨h2.trans h1⟩⟩, fun ⟨ys, h1, h2⟩ => ⟨ys, h1, h2.can.trans h1.symm⟩⟩
variable {ys : List (El p)} {x r s : El p}
theorem RepOf.gen (h : RepOf ys x r) : Gen (fun a : El p => a ∈ ys) (x⁻¹ * r) := h.mem _ (Gen.sub _) fun y hy => .of y hy
theorem RepOf.unique (hs : SeqEl ys) (h : RepOf ys x r) (k : RepOf ys x s) : r = s := by
  refine rep_unique (Gen.sub (fun a : El p => a ∈ ys)) ?_ fun d hd => ?_
  · have h1 := (Gen.sub (fun a : El p => a ∈ ys)).mul _ _ ((Gen.sub _).inv _ h.gen) k.gen
    rwa [Grp.mul_inv_rev, Grp.inv_inv, Grp.mul_assoc, Grp.mul_inv_cancel_left] at h1
  · obtain ⟨y, hy, rfl⟩ := hs.dep hd
    rw [h.zero y hy, k.zero y hy]
theorem RepOf.one_iff (hs : SeqEl ys) (h : RepOf ys x r) : r = 1 ↔ Gen (fun a : El p => a ∈ ys) x := by
  have hS := Gen.sub (fun a : El p => a ∈ ys)
  constructor
  · rintro rfl
    have h1 := hS.inv _ h.gen
    rwa [Grp.mul_one, Grp.inv_inv] at h1
  · intro hx
    have h1 := hS.mul _ _ hx h.gen
    rw [Grp.mul_inv_cancel_left] at h1
    refine rep_unique hS (hS.mul _ _ (hS.inv _ h1) hS.one) fun d hd => ?_
    obtain ⟨y, hy, rfl⟩ := hs.dep hd
    rw [h.zero y hy, co_one]
/-- The order that a sequence tells. -/
def ordOf (p : Pr) (ys : List (El p)) : Int := ys.foldl (fun a y => a * p.o (lead y.v)) 1
theorem ordOf_take (ys : List (El p)) {k : Nat} (hk : k < ys.length) : ordOf p (ys.take (k + 1)) = ordOf p (ys.take k) * p.o (lead (ys[k]).v) := by
  unfold ordOf
  rw [List.take_succ_eq_append_getElem hk, List.foldl_append]; rfl
theorem ordOf_bd : ∀ k : Nat, k ≤ ys.length → (∀ y, y ∈ ys → lead y.v < p.n) → 1 ≤ ordOf p (ys.take k) ∧ ordOf p (ys.take k) ≤ (7 ^ k : Nat)
  | 0, _, _ => by simp [ordOf]
  | k + 1, hk, h => by
    have ih := ordOf_bd k (by omega) h
    have ho := hc.valid.opos (h _ (List.getElem_mem (show k < ys.length by omega)))
    rw [ordOf_take ys (by omega)]
    refine ⟨?_, ?_⟩
    · have := Int.mul_le_mul ih.1 (show (1 : Int) ≤ p.o (lead (ys[k]).v) by omega) (by omega) (by omega)
      simpa using this
    · have := Int.mul_le_mul ih.2 ho.2 (by omega) (by omega)
      rw [Nat.pow_succ]
      push_cast
      push_cast at this
      exact this
theorem ordOf_rng {k : Nat} (h6 : ys.length ≤ 6) (hk : k ≤ ys.length) (h : ∀ y, y ∈ ys → lead y.v < p.n) : 1 ≤ ordOf p (ys.take k) ∧ ordOf p (ys.take k) ≤ 117649 := by
  have h1 := ordOf_bd k hk h
  have h2 : 7 ^ k ≤ 7 ^ 6 := Nat.pow_le_pow_right (by omega) (by omega)
  refine ⟨h1.1, ?_⟩
  have h3 : ((7 ^ k : Nat) : Int) ≤ (117649 : Nat) := Int.ofNat_le.2 h2
  omega
/-- The table of a sequence. -/
def tabOf (ys : List (El p)) : Tab p := ys.foldl (fun t y => Tab.set t (lead y.v) y) (fun _ => none)
theorem tabOf_take (ys : List (El p)) {k : Nat} (hk : k < ys.length) : tabOf (ys.take (k + 1)) = Tab.set (tabOf (ys.take k)) (lead (ys[k]).v) (ys[k]) := by
  unfold tabOf
  rw [List.take_succ_eq_append_getElem hk, List.foldl_append]; rfl
theorem tabOf_some_take (ys : List (El p)) : ∀ k, k ≤ ys.length → ∀ d y, tabOf (ys.take k) d = some y → y ∈ ys ∧ lead y.v = d
  | 0, _, d, y, h => by cases h
  | k + 1, hk, d, y, h => by
    rw [tabOf_take ys (by omega)] at h
    unfold Tab.set at h
    split at h
    · rename_i e
      injection h with h
      subst h
      exact ⟨List.getElem_mem _, e.symm⟩
    · exact tabOf_some_take ys k (by omega) d y h
theorem tabOf_some {d : Nat} {y : El p} (h : tabOf ys d = some y) : y ∈ ys ∧ lead y.v = d := by
  have := tabOf_some_take ys ys.length (Nat.le_refl _) d y
  rw [List.take_length] at this
  exact this h
theorem tabOf_ok (hs : SeqOk ys) : TabOk (tabOf ys) := by
  refine ⟨fun d y h => ?_, fun d y h => ?_, fun d y h => ?_⟩ <;> obtain ⟨h1, rfl⟩ := tabOf_some h
  · exact (hs.lead1 y h1).1
  · exact lead_tl y
  · exact (hs.lead1 y h1).2
theorem tabOf_mem (hs : SeqOk ys) {y : El p} (hy : y ∈ ys) : tabOf ys (lead y.v) ≠ none := by
  have key : ∀ k, k ≤ ys.length → ∀ i (h : i < ys.length), i < k → tabOf (ys.take k) (lead (ys[i]).v) ≠ none := by
    intro k
    induction k with
    | zero => intro _ i h h1; omega
    | succ k ih =>
      intro hk i h h1
      rw [tabOf_take ys (by omega)]
      unfold Tab.set
      split
      · simp
      · rename_i e
        refine ih (by omega) i h ?_
        by_cases e2 : i = k
        · subst e2; exact absurd rfl e
        · omega
  obtain ⟨i, hi, rfl⟩ := List.getElem_of_mem hy
  have := key ys.length (Nat.le_refl _) i hi hi
  rwa [List.take_length] at this
end
end Go.Proofs.Ytgomfjhhfmhlgaa

/-
  Walks: the reference's test of subgroups (l12Is, IsSubgroup).
  Conditions: stated at each theorem.
-/
namespace Go.Proofs.Ytgomfjhhfmhlgaa
open Go Go.Pc
/-- The presentation is a group, and the list is the canonical sequence of a subgroup of it. -/
def IsSubP (p : Pr) (xss : List (List Int)) : Prop := ∃ h : IsGrp p, @IsSeq p ⟨h.con⟩ xss
set_option maxHeartbeats 1000000 in
theorem l12Is_ok {p : Pr} [hc : ConAll p] {w : World} {vp vu : Value} {us : List Value} {xss : List (List Int)} {lo hi lo1 hi1 : Nat} [hp : Pres lo hi w vp p] [hu : Pc.Rows lo1 hi1 w vu us xss] :
    Calls Try.prog 114 #[vp, vu] w (Ret fun v w' => ∃ b, v = .bool b ∧ (b = true ↔ IsSeq p xss) ∧ Ext w w') := by
  have hv := hc.valid
  have hn6 := hv.n6
  have hol : p.ord.length = p.n := rfl
  obtain ⟨vo, vpw, vc, ps, cs, css, rfl, h1, h2, h3⟩ := hp.ex
  refine enter (args := [.agg #[vo, vpw, vc], vu]) (l := [.tmp 4]) Try.func114 rfl rfl Try.ntmps114 (by simp) ?_
  refine go ?_
  refine st_box3 (by ((try simp only [ev_tmp, ev_const, ev_func, get_put, get_args, get_putL, get_putL_nil, Nat.reduceEqDiff, reduceIte, List.getD_cons_zero, List.getD_cons_succ, List.getD_nil]); first | done | with_reducible rfl)) (by first | exact True.intro | exact ⟨_, rfl, by ((try simp only [ev_tmp, ev_const, ev_func, get_put, get_args, get_putL, get_putL_nil, Nat.reduceEqDiff, reduceIte, List.getD_cons_zero, List.getD_cons_succ, List.getD_nil, Bool.not_true, Bool.not_false]); first | done | with_reducible rfl)⟩) fun w1 b he1 hb1 hs1 hc0 hc1 hc2 => ?_
  refine go ?_
  refine spd (fun h4 => ?_) (fun h4 => ?_)
  · refine go ?_
    refine rc (l10Elements_ok hv (xss := xss) ?_) (next := fun v5 w5 h5 => ?_)
    · omega
    obtain ⟨b5, rfl, hb5, he5⟩ := h5
    refine go ?_
    refine sp (fun e5 => ?_) (fun e5 => ?_)
    · obtain ⟨ys, hys⟩ := els_of (hb5.1 e5)
      have hyl : xss.length = ys.length := by rw [hys]; simp
      refine go ?_
      refine rc (l12Close_ok (ys := ys) hys ?_) (next := fun v6 w6 h6 => ?_)
      · omega
      obtain ⟨he6, us6, hL6⟩ := h6
      have hr6 := hL6.toRows
      have hcl := canTo_len (Gen (fun a : El p => a ∈ ys)) p.n
      rw [canTo_end] at hcl
      refine go ?_
      refine rc (l01Same2_ok (xss := canon (Gen (fun a : El p => a ∈ ys))) (yss := xss) ?_ ?_) (next := fun v7 w7 h7 => ?_)
      · intro i
        have := canon_row (Gen (fun a : El p => a ∈ ys)) i
        omega
      · omega
      obtain ⟨b7, rfl, hb7, he7⟩ := h7
      refine go ?_
      refine ret1 ⟨_, rfl, hb7.trans ⟨fun h => ⟨ys, hys, h⟩, ?_⟩, ((he1.trans he5).trans he6).trans he7⟩
      rintro ⟨zs, hzs, h⟩
      obtain rfl : ys = zs := vecs_inj (hys.symm.trans hzs)
      exact h
    · refine go ?_
      refine ret1 ⟨_, rfl, ?_, he1.trans he5⟩
      simp only [Bool.false_eq_true, false_iff]
      rintro ⟨ys, hys, _⟩
      have := hb5.2 (by rw [hys]; exact fun i hi => vecs_in hi)
      rw [e5] at this; cases this
  · refine go ?_
    refine ret1 ⟨_, rfl, ?_, he1⟩
    simp only [Bool.false_eq_true, false_iff]
    intro h
    have := h.len
    omega
set_option maxHeartbeats 1000000 in
theorem spec_IsSubgroup_ok {p : Pr} {w : World} {vp vu : Value} {us : List Value} {xss : List (List Int)} {lo hi lo1 hi1 : Nat} [hp : Pres lo hi w vp p] [hu : Pc.Rows lo1 hi1 w vu us xss] (hl : p.ord.length ≤ 2000000) :
    Calls Try.prog 71 #[vp, vu] w (Ret fun v w' => ∃ b, v = .bool b ∧ (b = true ↔ IsSubP p xss) ∧ Ext w w') := by
  obtain ⟨vo, vpw, vc, ps, cs, css, rfl, h1, h2, h3⟩ := hp.ex
  refine enter (args := [.agg #[vo, vpw, vc], vu]) (l := [.tmp 4]) Try.func71 rfl rfl Try.ntmps71 (by simp) ?_
  refine go ?_
  refine st_box3 (by ((try simp only [ev_tmp, ev_const, ev_func, get_put, get_args, get_putL, get_putL_nil, Nat.reduceEqDiff, reduceIte, List.getD_cons_zero, List.getD_cons_succ, List.getD_nil]); first | done | with_reducible rfl)) (by first | exact True.intro | exact ⟨_, rfl, by ((try simp only [ev_tmp, ev_const, ev_func, get_put, get_args, get_putL, get_putL_nil, Nat.reduceEqDiff, reduceIte, List.getD_cons_zero, List.getD_cons_succ, List.getD_nil, Bool.not_true, Bool.not_false]); first | done | with_reducible rfl)⟩) fun w1 b he1 hb1 hs1 hc0 hc1 hc2 => ?_
  refine go ?_
  refine rc (l08Group_ok hl) (next := fun v5 w5 h5 => ?_)
  obtain ⟨b5, rfl, hb5, he5⟩ := h5
  refine go ?_
  refine sp (fun e5 => ?_) (fun e5 => ?_)
  · have hG := hb5.1 e5
    haveI : ConAll p := ⟨hG.con⟩
    refine go ?_
    refine rc (l12Is_ok (xss := xss)) (next := fun v6 w6 h6 => ?_)
    obtain ⟨b6, rfl, hb6, he6⟩ := h6
    refine go ?_
    exact ret1 ⟨_, rfl, hb6.trans ⟨fun h => ⟨hG, h⟩, fun ⟨_, h⟩ => h⟩, (he1.trans he5).trans he6⟩
  · refine go ?_
    refine ret1 ⟨_, rfl, ?_, he1.trans he5⟩
    simp only [Bool.false_eq_true, false_iff]
    rintro ⟨h, _⟩
    have := hb5.2 h
    rw [e5] at this; cases this
end Go.Proofs.Ytgomfjhhfmhlgaa

/-
  Answers that the program and the reference give: what they have to be, and that they are the same.
  Conditions: none.
-/
namespace Go.Proofs.Ytgomfjhhfmhlgaa
open Go Go.Pc
/-- An answer with a code: under A the pair meets V, else it is z with the code 1. -/
def Ans {α : Type} (A : Prop) (V : α → Int → Prop) (z k : α) (e : Int) : Prop := (A ∧ V k e) ∨ (¬ A ∧ k = z ∧ e = 1)
theorem Ans.same {α : Type} {A : Prop} {V : α → Int → Prop} {z k k' : α} {e e' : Int} (h : Ans A V z k e) (h' : Ans A V z k' e') (hu : A → ∀ a b c d, V a c → V b d → a = b ∧ c = d) : k = k' ∧ e = e' := by
  rcases h with ⟨h1, h2⟩ | ⟨h1, h2, h3⟩ <;> rcases h' with ⟨k1, k2⟩ | ⟨k1, k2, k3⟩
  · exact hu h1 _ _ _ _ h2 k2
  · exact absurd h1 k1
  · exact absurd k1 h1
  · exact ⟨by rw [h2, k2], by rw [h3, k3]⟩
theorem bool_eq {b c : Bool} {P : Prop} (h : b = true ↔ P) (k : c = true ↔ P) : b = c := by
  have e : b = true ↔ c = true := h.trans k.symm
  cases b <;> cases c <;> simp_all
theorem el_one_iff {p : Pr} [hc : ConAll p] (r : El p) : r = 1 ↔ ∀ i, i < r.v.length → r.v.getD i 0 = 0 := by
  have hl := r.inr.len
  constructor
  · rintro rfl i _; exact co_one i
  · intro h; exact el_ext fun d hd => by rw [co_one]; exact h d (by omega)
/-- The list is an element of the subgroup that the sequence tells. -/
def MemP (p : Pr) (xss : List (List Int)) (xs : List Int) : Prop := ∃ (_ : ConAll p) (ys : List (El p)) (x : El p), xss = vecs ys ∧ xs = x.v ∧ Gen (fun a : El p => a ∈ ys) x
theorem memP_iff {p : Pr} [hc : ConAll p] {ys : List (El p)} {x : El p} : MemP p (vecs ys) x.v ↔ Gen (fun a : El p => a ∈ ys) x := by
  constructor
  · rintro ⟨hc', ys', x', h1, h2, h3⟩
    obtain rfl := vecs_inj h1
    obtain rfl : x = x' := T.ext h2
    exact h3
  · exact fun h => ⟨hc, ys, x, rfl, rfl, h⟩
def MemV (p : Pr) (xss : List (List Int)) (xs : List Int) (b : Bool) (e : Int) : Prop := (b = true ↔ MemP p xss xs) ∧ e = 0
theorem MemV.uniq {p : Pr} {xss : List (List Int)} {xs : List Int} (a b : Bool) (c d : Int) (h : MemV p xss xs a c) (k : MemV p xss xs b d) : a = b ∧ c = d := ⟨bool_eq h.1 k.1, by rw [h.2, k.2]⟩
def SubV (p : Pr) (xss yss : List (List Int)) (b : Bool) (e : Int) : Prop := (b = true ↔ ∀ x, x ∈ xss → MemP p yss x) ∧ e = 0
theorem SubV.uniq {p : Pr} {xss yss : List (List Int)} (a b : Bool) (c d : Int) (h : SubV p xss yss a c) (k : SubV p xss yss b d) : a = b ∧ c = d := ⟨bool_eq h.1 k.1, by rw [h.2, k.2]⟩
theorem subV_iff {p : Pr} [hc : ConAll p] {ys zs : List (El p)} : (∀ x, x ∈ vecs ys → MemP p (vecs zs) x) ↔ ∀ y, y ∈ ys → Gen (fun a : El p => a ∈ zs) y := by
  constructor
  · exact fun h y hy => memP_iff.1 (h y.v (List.mem_map.2 ⟨y, hy, rfl⟩))
  · intro h x hx
    obtain ⟨y, hy, rfl⟩ := List.mem_map.1 hx
    exact memP_iff.2 (h y hy)
/-- Two lists are both sequences of subgroups. -/
def TwoP (p : Pr) (xss yss : List (List Int)) : Prop := IsSubP p xss ∧ IsSubP p yss
end Go.Proofs.Ytgomfjhhfmhlgaa

/-
  Answers that are lists: representatives, subgroups.
  Conditions: none.
-/
namespace Go.Proofs.Ytgomfjhhfmhlgaa
open Go Go.Pc
def RepV (p : Pr) (xss : List (List Int)) (xs r : List Int) (e : Int) : Prop := (∃ (_ : ConAll p) (ys : List (El p)) (x y : El p), xss = vecs ys ∧ xs = x.v ∧ r = y.v ∧ RepOf ys x y) ∧ e = 0
theorem RepV.uniq {p : Pr} {xss : List (List Int)} {xs : List Int} (hS : IsSubP p xss) (a b : List Int) (c d : Int) (h : RepV p xss xs a c) (k : RepV p xss xs b d) : a = b ∧ c = d := by
  obtain ⟨⟨hc, ys, x, y, h1, h2, h3, h4⟩, h5⟩ := h
  obtain ⟨⟨hc', ys', x', y', k1, k2, k3, k4⟩, k5⟩ := k
  obtain ⟨hG, hq⟩ := hS
  haveI : ConAll p := ⟨hG.con⟩
  obtain ⟨zs, hzs, hse⟩ := isSeq_iff.1 hq
  obtain rfl : ys = zs := vecs_inj (h1.symm.trans hzs)
  obtain rfl : ys' = ys := vecs_inj (k1.symm.trans hzs)
  obtain rfl : x = x' := T.ext (h2.symm.trans k2)
  exact ⟨by rw [h3, k3, RepOf.unique hse h4 k4], by rw [h5, k5]⟩
theorem el_len {p : Pr} (y : El p) : y.v.length = p.ord.length := y.inr.len
theorem CosetRepresentative_sz0 {p : Pr} {xss : List (List Int)} {xs r : List Int} {e : Int} (hl : p.ord.length ≤ 2000000) (h : Ans (IsSubP p xss ∧ InR p xs) (RepV p xss xs) [] r e) : r.length ≤ 2000000 := by
  rcases h with ⟨_, ⟨_, _, _, y, _, _, rfl, _⟩, _⟩ | ⟨_, rfl, _⟩
  · have := el_len y; omega
  · simp
end Go.Proofs.Ytgomfjhhfmhlgaa

/-
  Canonical sequences of subgroups: they generate the subgroup, their lengths tell the subgroups apart; closures under conjugation.
  Conditions: the tails at all levels are groups.
-/
namespace Go.Proofs.Ytgomfjhhfmhlgaa
open Go Go.Pc Grp
section
variable {p : Pr} [hc : ConAll p] {H K : El p → Prop} {d : Nat}
theorem sub_le_of_dep (hH : Pc.Sub H) (hK : Pc.Sub K) (hle : ∀ a, H a → K a) (hd : ∀ d, Dep K d → Dep H d) : ∀ a, K a → H a := by
  have key : ∀ m d, d ≤ p.n → p.n - d = m → ∀ x, K x → Tl d x → H x := by
    intro m
    induction m with
    | zero =>
      intro d h1 h2 x hx ht
      obtain rfl : d = p.n := by omega
      rw [ht.end_]; exact hH.one
    | succ m ih =>
      intro d h1 h2 x hx ht
      by_cases h0 : co x d = 0
      · exact ih (d + 1) (by omega) (by omega) x hx (ht.succ h0)
      · have hdn : d < p.n := by omega
        obtain ⟨z, hz, hzt, hz1⟩ := dep_one hH (hd d ⟨x, hx, ht, h0⟩)
        have h3 := ih (d + 1) (by omega) (by omega) (x * Grp.pwz z (-(co x d))) (hK.mul _ _ hx (hK.pwz (hle z hz) _)) (strip_step hdn ht hzt hz1)
        exact (hH.right (hH.pwz hz _)).1 h3
  exact fun a ha => key p.n 0 (Nat.zero_le _) (by omega) a ha (Tl.zero a)
theorem canEls_mem {x : El p} : x ∈ canEls H ↔ ∃ d, d < p.n ∧ canT H d = some x := by
  rw [← canElsF_zero, canElsF_mem]
  exact ⟨fun ⟨e, _, h2, h3⟩ => ⟨e, h2, h3⟩, fun ⟨e, h2, h3⟩ => ⟨e, Nat.zero_le _, h2, h3⟩⟩
theorem gen_can (hH : Pc.Sub H) (a : El p) : Gen (fun a : El p => a ∈ canEls H) a ↔ H a := by
  have h1 : ∀ a, Gen (fun a : El p => a ∈ canEls H) a → H a := Gen.le hH fun a ha => by
    obtain ⟨d, _, h⟩ := canEls_mem.1 ha
    exact (canT_some h).mem
  refine ⟨h1 a, sub_le_of_dep (Gen.sub _) hH h1 (fun d hd => ?_) a⟩
  obtain ⟨x, hx⟩ := canT_ex hH hd
  have hca := canT_some hx
  exact ⟨x, .of _ (canEls_mem.2 ⟨d, hd.lt, hx⟩), hca.tl, by rw [hca.lead]; omega⟩
theorem gen_can_eq (hH : Pc.Sub H) : Gen (fun a : El p => a ∈ canEls H) = H := by
  funext a; exact propext (gen_can hH a)
theorem seqEl_can (hH : Pc.Sub H) : SeqEl (canEls H) := ⟨by rw [gen_can_eq hH, canon_vecs]⟩
theorem SeqEl.els {ys : List (El p)} (h : SeqEl ys) : canEls (Gen (fun a : El p => a ∈ ys)) = ys := by
  have := h.eq
  rw [canElsF_zero] at this
  exact this.symm
theorem canT_isSome (hH : Pc.Sub H) : (canT H d).isSome = true ↔ Dep H d := by
  constructor
  · intro h
    cases e : canT H d with
    | none => rw [e] at h; cases h
    | some x => exact (canT_some e).dep
  · intro h
    obtain ⟨x, hx⟩ := canT_ex hH h
    rw [hx]; rfl
theorem canEls_len : (canEls H).length = (List.range p.n).countP fun d => (canT H d).isSome := by
  unfold canEls
  rw [List.length_filterMap_eq_countP]
theorem countP_le_of {α : Type} {f g : α → Bool} : ∀ l : List α, (∀ x, x ∈ l → f x = true → g x = true) → l.countP f ≤ l.countP g
  | [], _ => Nat.le_refl _
  | x :: l, h => by
    have ih := countP_le_of l fun y hy => h y (List.mem_cons_of_mem _ hy)
    have h0 := h x List.mem_cons_self
    simp only [List.countP_cons]
    by_cases hf : f x = true
    · rw [if_pos hf, if_pos (h0 hf)]; omega
    · rw [if_neg hf]; omega
theorem countP_lt_of {α : Type} {f g : α → Bool} : ∀ l : List α, (∀ x, x ∈ l → f x = true → g x = true) → (∃ x, x ∈ l ∧ g x = true ∧ f x = false) → l.countP f < l.countP g
  | [], _, ⟨x, hx, _⟩ => by cases hx
  | x :: l, h, ⟨y, hy, hg, hf⟩ => by
    have hr : ∀ y, y ∈ l → f y = true → g y = true := fun y hy => h y (List.mem_cons_of_mem _ hy)
    have h0 := h x List.mem_cons_self
    simp only [List.countP_cons]
    rcases List.mem_cons.1 hy with rfl | hy
    · have := countP_le_of l hr
      rw [hg, hf]; simp; omega
    · have ih := countP_lt_of l hr ⟨y, hy, hg, hf⟩
      by_cases hfx : f x = true
      · rw [if_pos hfx, if_pos (h0 hfx)]; omega
      · rw [if_neg hfx]; omega
theorem can_len_le (hH : Pc.Sub H) (hK : Pc.Sub K) (hle : ∀ a, H a → K a) : (canEls H).length ≤ (canEls K).length := by
  rw [canEls_len, canEls_len]
  refine countP_le_of _ fun d _ h => ?_
  obtain ⟨x, h1, h2, h3⟩ := (canT_isSome hH).1 h
  exact (canT_isSome hK).2 ⟨x, hle x h1, h2, h3⟩
theorem same_of_len (hH : Pc.Sub H) (hK : Pc.Sub K) (hle : ∀ a, H a → K a) (hl : (canEls K).length ≤ (canEls H).length) : ∀ a, K a → H a := by
  refine sub_le_of_dep hH hK hle fun d hd => ?_
  by_cases hn : Dep H d
  · exact hn
  exfalso
  rw [canEls_len, canEls_len] at hl
  have := countP_lt_of (f := fun d => (canT H d).isSome) (g := fun d => (canT K d).isSome) (List.range p.n) (fun e _ h => by
    obtain ⟨x, h1, h2, h3⟩ := (canT_isSome hH).1 h
    exact (canT_isSome hK).2 ⟨x, hle x h1, h2, h3⟩) ⟨d, List.mem_range.2 hd.lt, (canT_isSome hK).2 hd, by
      cases e : (canT H d).isSome with
      | false => rfl
      | true => exact absurd ((canT_isSome hH).1 e) hn⟩
  omega
/-- The smallest subgroup that contains S and is closed under conjugation by the elements of B. -/
inductive Clo {G : Type} [Grp G] (S B : G → Prop) : G → Prop
  | of (a : G) : S a → Clo S B a
  | one : Clo S B 1
  | mul (a b : G) : Clo S B a → Clo S B b → Clo S B (a * b)
  | inv (a : G) : Clo S B a → Clo S B a⁻¹
  | cj (a b : G) : Clo S B a → B b → Clo S B (Grp.cj a b)
theorem Clo.sub {G : Type} [Grp G] (S B : G → Prop) : Pc.Sub (Clo S B) := ⟨.one, fun _ _ => .mul _ _, fun _ => .inv _⟩
theorem Clo.le {G : Type} [Grp G] {S B K : G → Prop} (hK : Pc.Sub K) (h : ∀ a, S a → K a) (hcj : ∀ a b, K a → B b → K (Grp.cj a b)) : ∀ a, Clo S B a → K a := by
  intro a ha
  induction ha with
  | of a ha => exact h a ha
  | one => exact hK.one
  | mul a b _ _ i1 i2 => exact hK.mul _ _ i1 i2
  | inv a _ i1 => exact hK.inv _ i1
  | cj a b _ hb i1 => exact hcj _ _ i1 hb
/-- What conjugation does to the elements of a set it does to the subgroup. -/
theorem Gen.cj_closed {G : Type} [Grp G] {S K : G → Prop} {b : G} (hK : Pc.Sub K) (h : ∀ a, S a → K (Grp.cj a b)) : ∀ a, Gen S a → K (Grp.cj a b) := by
  intro a ha
  induction ha with
  | of a ha => exact h a ha
  | one => rw [Grp.cj_one]; exact hK.one
  | mul a b _ _ i1 i2 => rw [Grp.cj_mul]; exact hK.mul _ _ i1 i2
  | inv a _ i1 => rw [Grp.cj_inv]; exact hK.inv _ i1
theorem gen_eq_clo {S B : El p → Prop} (h : ∀ a b, S a → B b → Gen S (Grp.cj a b)) : Clo S B = Gen S := by
  funext a
  refine propext ⟨Clo.le (Gen.sub S) (fun a ha => .of a ha) (fun a b ha hb => Gen.cj_closed (Gen.sub S) (fun a ha => h a b ha hb) a ha) a, Gen.le (Clo.sub S B) (fun a ha => .of a ha) a⟩
/-- The closure is the same for whatever generates the same subgroup. -/
theorem clo_congr {S S' B : El p → Prop} (h : ∀ a, S a → Gen S' a) (h' : ∀ a, S' a → Gen S a) : Clo S B = Clo S' B := by
  have key : ∀ {S S' : El p → Prop}, (∀ a, S a → Gen S' a) → ∀ a, Clo S B a → Clo S' B a := fun {S S'} h =>
    Clo.le (Clo.sub S' B) (fun a ha => Gen.le (Clo.sub S' B) (fun b hb => .of b hb) a (h a ha)) fun a b ha hb => .cj a b ha hb
  funext a
  exact propext ⟨key h a, key h' a⟩
theorem clo_can {S B : El p → Prop} : Clo (fun a : El p => a ∈ canEls (Gen S)) B = Clo S B := by
  refine clo_congr (fun a ha => ?_) (fun a ha => ?_)
  · obtain ⟨d, _, hd⟩ := canEls_mem.1 ha
    exact (canT_some hd).mem
  · rw [gen_can_eq (Gen.sub S)]; exact .of a ha
/-- The commutators of two lists. -/
noncomputable def commsL2 (ys zs : List (El p)) : List (El p) := ys.flatMap fun y => zs.map (Grp.cm y)
noncomputable def CommC (ys zs : List (El p)) : El p → Prop := Clo (fun a : El p => a ∈ commsL2 ys zs) (fun a : El p => a ∈ ys ++ zs)
theorem commsL2_succ {ys zs : List (El p)} {i : Nat} (hi : i < ys.length) : commsL2 (ys.take (i + 1)) zs = commsL2 (ys.take i) zs ++ zs.map (Grp.cm ys[i]) := by
  unfold commsL2
  rw [List.take_succ_eq_append_getElem hi, List.flatMap_append]
  simp
end
end Go.Proofs.Ytgomfjhhfmhlgaa

/-
  Walks: the reference's depth, order, table, reduction, representative and membership (l02Lead, l12Depth, l12Order).
  Conditions: stated at each theorem.
-/
namespace Go.Proofs.Ytgomfjhhfmhlgaa
open Go Go.Pc
set_option maxHeartbeats 400000 in
theorem l02Lead_ok {w : World} {v : Value} {xs : List Int} {lo hi : Nat} [hx : Ints lo hi w v xs] (hl : xs.length ≤ 2000000) :
    Calls Try.prog 163 #[v] w (Ret fun v w' => v = .int .i64 (lead xs) ∧ Ext w w') := by
  refine enter (args := [v]) (l := [.tmp 2]) Try.func163 rfl rfl Try.ntmps163 (by simp) ?_
  refine go ?_
  refine r_for xs.length (fun k ρ w' => Has ρ [(0, v), (3, .int .i64 k)] ∧ Ext w w' ∧ ∀ i, i < k → xs.getD i 0 = 0) ?_ ?_
  · refine ⟨?_, Ext.refl _, fun i hi => by omega⟩
    exact hasP
  rintro k ρ w2 hk ⟨hH, he2, hI⟩
  refine rwp_has hH fun ρ0 => ?_
  refine go ?_
  refine c_if (fun h4 => ?_) (fun h4 => ?_)
  · refine go ?_
    refine c_if (fun h5 => ?_) (fun h5 => ?_)
    · refine go ?_
      exact ret1 ⟨by rw [lead_eq hI h5], he2⟩
    · refine go ?_
      refine forQ_normal (by omega) ⟨?_, he2, fun i hi => ?_⟩
      · exact hasP
      · by_cases e : i = k
        · subst e; exact Decidable.not_not.1 h5
        · exact hI i (by omega)
  · refine go ?_
    exact ret1 ⟨by rw [lead_len fun i hi => hI i (by omega)], he2⟩
theorem l12Depth_ok {w : World} {v : Value} {xs : List Int} {lo hi : Nat} [hx : Ints lo hi w v xs] (hl : xs.length ≤ 2000000) :
    Calls Try.prog 120 #[v] w (Ret fun v w' => v = .int .i64 (lead xs) ∧ Ext w w') := by
  refine enter (args := [v]) (l := [.tmp 2]) Try.func120 rfl rfl Try.ntmps120 (by simp) ?_
  refine go ?_
  refine rc (l02Lead_ok (xs := xs) hl) (next := fun v1 w1 h1 => ?_)
  obtain ⟨rfl, he1⟩ := h1
  refine go ?_
  exact ret1 ⟨rfl, he1⟩
set_option maxHeartbeats 1000000 in
theorem l12Order_ok {p : Pr} [hc : ConAll p] {ys : List (El p)} (hs : SeqEl ys) {w : World} {vp vu : Value} {us : List Value} {xss : List (List Int)} {lo hi lo1 hi1 : Nat} [hp : Pres lo hi w vp p] [hu : Pc.Rows lo1 hi1 w vu us xss] (hus : xss = vecs ys) :
    Calls Try.prog 79 #[vp, vu] w (Ret fun v w' => v = .int .i64 (ordOf p ys) ∧ Ext w w') := by
  subst hus
  have hv := hc.valid
  have hn6 := hv.n6
  have hol : p.ord.length = p.n := rfl
  have hlen := hs.len
  have hvl : (vecs ys).length = ys.length := by simp
  obtain ⟨vo, vpw, vc, ps, cs, css, rfl, h1, h2, h3⟩ := hp.ex
  refine enter (args := [.agg #[vo, vpw, vc], vu]) (l := [.tmp 4]) Try.func79 rfl rfl Try.ntmps79 (by simp) ?_
  refine go ?_
  refine st_box3 (by ((try simp only [ev_tmp, ev_const, ev_func, get_put, get_args, get_putL, get_putL_nil, Nat.reduceEqDiff, reduceIte, List.getD_cons_zero, List.getD_cons_succ, List.getD_nil]); first | done | with_reducible rfl)) (by first | exact True.intro | exact ⟨_, rfl, by ((try simp only [ev_tmp, ev_const, ev_func, get_put, get_args, get_putL, get_putL_nil, Nat.reduceEqDiff, reduceIte, List.getD_cons_zero, List.getD_cons_succ, List.getD_nil, Bool.not_true, Bool.not_false]); first | done | with_reducible rfl)⟩) fun w1 b he1 hb1 hs1 hc0 hc1 hc2 => ?_
  refine go ?_
  refine r_for ys.length (fun k ρ w' => Has ρ [(1, vu), (2, .pointer (some ⟨b, 0, none⟩)), (5, .int .i64 (ordOf p (ys.take k))), (6, .int .i64 k)] ∧ Ext w1 w') ?_ ?_
  · refine ⟨?_, Ext.refl _⟩
    exact hasP
  rintro k ρ w2 hk ⟨hH, he2⟩
  refine rwp_has hH fun ρ0 => ?_
  refine go ?_
  refine c_if (fun h4 => ?_) (fun h4 => ?_)
  · have hkn : k < ys.length := by omega
    have hg := vecs_getD ys hkn
    have hgl : ((vecs ys).getD k []).length = p.n := by rw [hg]; exact (ys[k]).inr.len
    obtain ⟨hdn, hy1⟩ := hs.ok.lead1 _ (List.getElem_mem hkn)
    obtain ⟨d, hd⟩ : ∃ d, lead (ys[k]).v = d := ⟨_, rfl⟩
    rw [hd] at hdn
    have hod := hv.opos hdn
    have hr := ordOf_rng (k := k) (by omega) (by omega) fun y hy => (hs.ok.lead1 y hy).1
    have hm : 0 ≤ ordOf p (ys.take k) * p.o d ∧ ordOf p (ys.take k) * p.o d ≤ 117649 * 7 := ⟨Int.mul_nonneg (by omega) (by omega), Int.mul_le_mul hr.2 hod.2 (by omega) (by omega)⟩
    have hmb : -9223372036854775808 ≤ ordOf p (ys.take k) * p.o d ∧ ordOf p (ys.take k) * p.o d ≤ 9223372036854775807 := ⟨by omega, by omega⟩
    refine go ?_
    refine d_region fun w4 he4 _ => ?_
    refine dgo ?_
    refine dce (l12Depth_ok (xs := (vecs ys).getD k []) ?_) (next := fun v5 w5 h7 => ?_)
    · omega
    obtain ⟨rfl, he5⟩ := h7
    rw [hg, hd]
    refine dgo ?_
    rw [show p.ord.getD d 0 = p.o d from rfl]
    refine da (h := rs_mul (by ((try simp only [ev_tmp, ev_const, ev_func, get_put, get_args, get_putL, get_putL_nil, Nat.reduceEqDiff, reduceIte, List.getD_cons_zero, List.getD_cons_succ, List.getD_nil]); first | done | with_reducible rfl)) (by ((try simp only [ev_tmp, ev_const, ev_func, get_put, get_args, get_putL, get_putL_nil, Nat.reduceEqDiff, reduceIte, List.getD_cons_zero, List.getD_cons_succ, List.getD_nil]); first | done | with_reducible rfl)) hmb) (next := ?_)
    refine dgo ?_
    refine d_end (h := ?_)
    refine go ?_
    refine forQ_normal (by omega) ⟨?_, (he2.trans he4).trans he5⟩
    have ht := ordOf_take ys hkn
    rw [hd] at ht
    rw [ht]
    exact hasP
  · refine go ?_
    rw [show k = ys.length by omega, List.take_length]
    exact ret1 ⟨rfl, he1.trans he2⟩
/-- The order of a list that is a sequence. -/
def ordOfL (p : Pr) (xss : List (List Int)) : Int := xss.foldl (fun a x => a * p.o (lead x)) 1
theorem ordOfL_vecs {p : Pr} (ys : List (El p)) : ordOfL p (vecs ys) = ordOf p ys := by
  unfold ordOfL ordOf vecs
  rw [List.foldl_map]
/-- The answer of SubgroupOrder. -/
def OrdAns (p : Pr) (xss : List (List Int)) (k e : Int) : Prop := (IsSubP p xss ∧ k = ordOfL p xss ∧ e = 0) ∨ (¬ IsSubP p xss ∧ k = 0 ∧ e = 1)
theorem OrdAns.same {p : Pr} {xss : List (List Int)} {k e k' e' : Int} (h : OrdAns p xss k e) (h' : OrdAns p xss k' e') : k' = k ∧ e' = e := by
  rcases h with ⟨h1, h2, h3⟩ | ⟨h1, h2, h3⟩ <;> rcases h' with ⟨k1, k2, k3⟩ | ⟨k1, k2, k3⟩
  · exact ⟨by rw [h2, k2], by rw [h3, k3]⟩
  · exact absurd h1 k1
  · exact absurd k1 h1
  · exact ⟨by rw [h2, k2], by rw [h3, k3]⟩
end Go.Proofs.Ytgomfjhhfmhlgaa

/-
  Walk: the reference's copy of a list of lists, as the call's own (l01Own2).
  Conditions: stated at the theorem.
-/
namespace Go.Proofs.Ytgomfjhhfmhlgaa
open Go Go.Pc
set_option maxHeartbeats 1000000 in
theorem l01Own2G_ok {w : World} {va : Value} {us : List Value} {xss : List (List Int)} {lo hi : Nat} [hx : Pc.Rows lo hi w va us xss] (hm : ∀ i, (xss.getD i []).length ≤ 2000000) (hl : xss.length ≤ 1000000) :
    Calls Try.prog 137 #[va] w (Ret fun v w' => Ext w w' ∧ ∃ rs, GrowL 22 w.heap.size w' v rs ∧ rs.map (·.2) = xss) := by
  have hul := hx.vals.len
  refine enter (args := [va]) (l := [.tmp 2]) Try.func137 rfl rfl Try.ntmps137 (by simp) ?_
  refine go ?_
  refine st_slice0 (by first | exact True.intro | exact ⟨_, rfl, by ((try simp only [ev_tmp, ev_const, ev_func, get_put, get_args, get_putL, get_putL_nil, Nat.reduceEqDiff, reduceIte, List.getD_cons_zero, List.getD_cons_succ, List.getD_nil, Bool.not_true, Bool.not_false]); first | done | with_reducible rfl)⟩) fun w1 v1 he1 hs1 ho1 => ?_
  refine go ?_
  refine r_for xss.length (fun k ρ w' => ∃ v' rs, Has ρ [(0, va), (3, v'), (4, .int .i64 k)] ∧ Ext w w' ∧ GrowL 22 w.heap.size w' v' rs ∧ rs.map (·.2) = xss.take k) ?_ ?_
  · refine ⟨v1, [], ?_, he1, GrowL.start ho1 (Nat.le_refl _), by simp⟩
    exact hasP
  rintro k ρ w2 hk ⟨v2, rs, hH, he2, hG, hrs⟩
  refine rwp_has hH fun ρ0 => ?_
  have hrl : rs.length = k := by have := congrArg List.length hrs; simp at this; omega
  refine go ?_
  refine c_if (fun h4 => ?_) (fun h4 => ?_)
  · refine go ?_
    refine rc (l01Own_ok (xs := xss.getD k []) (hm k)) (next := fun v3 w3 h3 => ?_)
    obtain ⟨he3, hf3⟩ := h3
    refine go ?_
    refine st_grow hG he3 hf3 he2.size (by omega) (next := fun v4 v5 w5 hG5 hx5 hz5 hgs5 => ?_)
    refine go ?_
    refine forQ_normal (by omega) ⟨v5, _, ?_, hx5 w (he2.trans he3) (Nat.le_refl _), hG5, ?_⟩
    · exact hasP
    · rw [List.take_succ_eq_append_getElem (by omega), List.map_append, hrs]
      simp [show k < xss.length by omega]
  · refine go ?_
    rw [show k = xss.length by omega, List.take_length] at hrs
    exact ret1 ⟨he2, rs, hG, hrs⟩
end Go.Proofs.Ytgomfjhhfmhlgaa

/-
  Walks: the reference's table, reduction, representative and membership (l12Table, l12Reduce, l12Sift, l12Has).
  Conditions: the tails at all levels are groups; the list is a sequence.
-/
namespace Go.Proofs.Ytgomfjhhfmhlgaa
open Go Go.Pc
set_option maxHeartbeats 1000000 in
/-- A reduction keeps the coset, and clears the places of the table's entries. -/
theorem l12Reduce_ok {p : Pr} [hc : ConAll p] {t : Tab p} (hT : TabOk t) {w : World} {vp vt vx : Value} {us : List Value} {x : El p} {xs : List Int} {lo hi lo1 hi1 lo2 hi2 : Nat} [hp : Pres lo hi w vp p] [ht : Pc.Rows lo1 hi1 w vt us (tabL t)] [hx : Ints lo2 hi2 w vx xs] (hxe : xs = x.v) :
    Calls Try.prog 185 #[vp, vt, vx] w (Ret fun v w' => Ext w w' ∧ ∃ r : El p, Fr w.heap.size w' v r.v ∧ (∀ H : El p → Prop, Pc.Sub H → (∀ d y, t d = some y → H y) → H (x⁻¹ * r)) ∧ (∀ d, t d ≠ none → co r d = 0) ∧ ∀ e, (∀ d, t d ≠ none → e < d) → co r e = co x e) := by
  subst hxe
  have hv := hc.valid
  have hn6 := hv.n6
  have htl := tabL_len t
  have hxl := x.inr.len
  obtain ⟨vo, vpw, vc, ps, cs, css, rfl, h1, h2, h3⟩ := hp.ex
  refine enter (args := [.agg #[vo, vpw, vc], vt, vx]) (l := [.tmp 6]) Try.func185 rfl rfl Try.ntmps185 (by simp) ?_
  refine go ?_
  refine st_box3 (by ((try simp only [ev_tmp, ev_const, ev_func, get_put, get_args, get_putL, get_putL_nil, Nat.reduceEqDiff, reduceIte, List.getD_cons_zero, List.getD_cons_succ, List.getD_nil]); first | done | with_reducible rfl)) (by first | exact True.intro | exact ⟨_, rfl, by ((try simp only [ev_tmp, ev_const, ev_func, get_put, get_args, get_putL, get_putL_nil, Nat.reduceEqDiff, reduceIte, List.getD_cons_zero, List.getD_cons_succ, List.getD_nil, Bool.not_true, Bool.not_false]); first | done | with_reducible rfl)⟩) fun w1 b he1 hb1 hs1 hc0 hc1 hc2 => ?_
  refine go ?_
  refine rc (l01Own_ok (xs := x.v) ?_) (next := fun v2 w2 h2 => ?_)
  · omega
  obtain ⟨he2, hf2⟩ := h2
  refine go ?_
  refine r_for p.n (fun k ρ w' => ∃ vr r, Has ρ [(1, vt), (3, .pointer (some ⟨b, 0, none⟩)), (7, vr), (8, .int .i64 k)] ∧ Ext w1 w' ∧ Fr w.heap.size w' vr (T.v (p := p) (i := 0) r) ∧
    (∀ H : El p → Prop, Pc.Sub H → (∀ d y, t d = some y → H y) → H (x⁻¹ * r)) ∧ (∀ d, d < k → t d ≠ none → co r d = 0) ∧ ∀ e, (∀ d, t d ≠ none → e < d) → co r e = co x e) ?_ ?_
  · refine ⟨v2, x, ?_, he2, hf2.mono he1.size, fun H hH _ => by rw [Grp.inv_mul]; exact hH.one, fun d hd => by omega, fun e _ => rfl⟩
    exact hasP
  rintro k ρ w3 hk ⟨vr, r, hH, he3, hf3, hm, hz, hlow⟩
  refine rwp_has hH fun ρ0 => ?_
  have hrl := r.inr.len
  refine go ?_
  refine c_if (fun h4 => ?_) (fun h4 => ?_)
  · have hkn : k < p.n := by omega
    have hrk := r.inr.rng k hkn
    have hok := hv.opos hkn
    have hrow : ((tabL t).getD k []).length = 0 ↔ t k = none := by rw [tabL_at t hkn]; exact rowOf_len hkn
    refine go ?_
    refine spd (fun h5 => ?_) (fun h5 => ?_)
    · refine go ?_
      refine c_if (fun h6 => ?_) (fun h6 => ?_)
      · obtain ⟨y, hy⟩ : ∃ y, t k = some y := by
          cases e : t k with
          | none => exact absurd (hrow.2 e) (by omega)
          | some y => exact ⟨y, rfl⟩
        have hye : (tabL t).getD k [] = y.v := by rw [tabL_at t hkn, rowOf_some hy]
        refine go ?_
        refine d_region fun w4 he4 _ => ?_
        refine dgo ?_
        refine dc (l10Pow_ok (p := p) (x := y) hye ?_) (next := fun v5 w5 h7 => ?_)
        · omega
        obtain ⟨he5, hf5⟩ := h7
        refine ⟨fun h => h.trans he5, ?_⟩
        refine dc (l08Mul_ok (p := p) (x := r) (y := Grp.pwz y (-(r.v.getD k 0))) rfl rfl) (next := fun v6 w6 h8 => ?_)
        obtain ⟨he6, hf6⟩ := h8
        refine ⟨fun h => h.trans he6, ?_⟩
        refine dgo ?_
        refine d_end (h := ?_)
        refine go ?_
        have hyt := hT.tl k y hy
        have hyl := hT.lead k y hy
        have hzt := hyt.pwz (by omega) (-(co r k))
        have hE := (he3.trans he4).trans he5
        have hsz := he1.size
        have hsz2 := hE.size
        refine forQ_normal (by omega) ⟨v6, r * Grp.pwz y (-(co r k)), ?_, hE.trans he6, hf6.mono (by omega), fun H hH hy' => ?_, fun d hd hne => ?_, fun e he => ?_⟩
        · exact hasP
        · rw [← Grp.mul_assoc]
          exact hH.mul _ _ (hm H hH hy') (hH.pwz (hy' k y hy) _)
        · by_cases e : d = k
          · subst e
            rw [co_at _ hkn hzt, co_pwz hkn hyt, hyl, Int.mul_one, Int.add_emod_emod, Int.add_right_neg, Int.zero_emod]
          · rw [co_low _ hkn hzt (by omega)]; exact hz d (by omega) hne
        · rw [co_low _ hkn hzt (he k (by rw [hy]; simp))]; exact hlow e he
      · refine go ?_
        refine forQ_normal (by omega) ⟨vr, r, ?_, he3, hf3, hm, fun d hd hne => ?_, hlow⟩
        · exact hasP
        · by_cases e : d = k
          · subst e; exact Decidable.not_not.1 h6
          · exact hz d (by omega) hne
    · refine go ?_
      refine forQ_normal (by omega) ⟨vr, r, ?_, he3, hf3, hm, fun d hd hne => ?_, hlow⟩
      · exact hasP
      · by_cases e : d = k
        · subst e; exact absurd (hrow.1 (by omega)) hne
        · exact hz d (by omega) hne
  · refine go ?_
    refine ret1 ⟨he1.trans he3, r, hf3, hm, fun d hne => hz d ?_ hne, hlow⟩
    cases e : t d with
    | none => exact absurd e hne
    | some y => have := hT.lt d y e; omega
end Go.Proofs.Ytgomfjhhfmhlgaa

/-
  Walks: the reference's table, representative and membership (l12Table, l12Sift, l12Has, l12Within).
  Conditions: the tails at all levels are groups; the list is a sequence.
-/
namespace Go.Proofs.Ytgomfjhhfmhlgaa
open Go Go.Pc
set_option maxHeartbeats 400000 in
theorem l01Zero_ok {w : World} {v : Value} {xs : List Int} {lo hi : Nat} [hx : Ints lo hi w v xs] (hl : xs.length ≤ 2000000) :
    Calls Try.prog 156 #[v] w (Ret fun v w' => ∃ b, v = .bool b ∧ (b = true ↔ ∀ i, i < xs.length → xs.getD i 0 = 0) ∧ Ext w w') := by
  refine enter (args := [v]) (l := [.tmp 2]) Try.func156 rfl rfl Try.ntmps156 (by simp) ?_
  refine go ?_
  refine r_for xs.length (fun k ρ w' => Has ρ [(0, v), (3, .int .i64 k)] ∧ Ext w w' ∧ ∀ i, i < k → xs.getD i 0 = 0) ?_ ?_
  · refine ⟨?_, Ext.refl _, fun i hi => by omega⟩
    exact hasP
  rintro k ρ w2 hk ⟨hH, he2, hI⟩
  refine rwp_has hH fun ρ0 => ?_
  refine go ?_
  refine c_if (fun h4 => ?_) (fun h4 => ?_)
  · refine go ?_
    refine c_if (fun h5 => ?_) (fun h5 => ?_)
    · refine go ?_
      refine ret1 ⟨_, rfl, ?_, he2⟩
      simp only [Bool.false_eq_true, false_iff]
      exact fun h => h5 (h k (by omega))
    · refine go ?_
      refine forQ_normal (by omega) ⟨?_, he2, fun i hi => ?_⟩
      · exact hasP
      · by_cases e : i = k
        · subst e; exact Decidable.not_not.1 h5
        · exact hI i (by omega)
  · refine go ?_
    refine ret1 ⟨_, rfl, ?_, he2⟩
    simp only [true_iff]
    exact fun i hi => hI i (by omega)
set_option maxHeartbeats 1000000 in
/-- The table of a sequence. -/
theorem l12Table_ok {p : Pr} [hc : ConAll p] (hv : Valid p) {ys : List (El p)} (hs : SeqOk ys) {w : World} {vp vu : Value} {us : List Value} {xss : List (List Int)} {lo hi lo1 hi1 : Nat} [hp : Pres lo hi w vp p] [hu : Pc.Rows lo1 hi1 w vu us xss] (hus : xss = vecs ys) :
    Calls Try.prog 186 #[vp, vu] w (Ret fun v w' => Ext w w' ∧ ∃ us', Pc.Rows 0 w'.heap.size w' v us' (tabL (tabOf ys))) := by
  subst hus
  have hn6 := hv.n6
  have hol : p.ord.length = p.n := rfl
  have hvl : (vecs ys).length = ys.length := by simp
  have hul := hu.vals.len
  have hul2 := hu.sl.le_max
  replace hu := hu.wide
  obtain ⟨vo, vpw, vc, ps, cs, css, rfl, h1, h2, h3⟩ := hp.ex
  refine enter (args := [.agg #[vo, vpw, vc], vu]) (l := [.tmp 4]) Try.func186 rfl rfl Try.ntmps186 (by simp) ?_
  refine go ?_
  refine st_box3 (by ((try simp only [ev_tmp, ev_const, ev_func, get_put, get_args, get_putL, get_putL_nil, Nat.reduceEqDiff, reduceIte, List.getD_cons_zero, List.getD_cons_succ, List.getD_nil]); first | done | with_reducible rfl)) (by first | exact True.intro | exact ⟨_, rfl, by ((try simp only [ev_tmp, ev_const, ev_func, get_put, get_args, get_putL, get_putL_nil, Nat.reduceEqDiff, reduceIte, List.getD_cons_zero, List.getD_cons_succ, List.getD_nil, Bool.not_true, Bool.not_false]); first | done | with_reducible rfl)⟩) fun w1 b he1 hb1 hs1 hc0 hc1 hc2 => ?_
  refine go ?_
  refine st_make_nil (by ((try simp only [ev_tmp, ev_const, ev_func, get_put, get_args, get_putL, get_putL_nil, Nat.reduceEqDiff, reduceIte, List.getD_cons_zero, List.getD_cons_succ, List.getD_nil]); first | done | with_reducible rfl)) (by ((try simp only [ev_tmp, ev_const, ev_func, get_put, get_args, get_putL, get_putL_nil, Nat.reduceEqDiff, reduceIte, List.getD_cons_zero, List.getD_cons_succ, List.getD_nil]); first | done | with_reducible rfl)) (by omega) (by omega) (by first | exact True.intro | exact ⟨_, rfl, by ((try simp only [ev_tmp, ev_const, ev_func, get_put, get_args, get_putL, get_putL_nil, Nat.reduceEqDiff, reduceIte, List.getD_cons_zero, List.getD_cons_succ, List.getD_nil, Bool.not_true, Bool.not_false]); first | done | with_reducible rfl)⟩) fun w2 v2 he2 hs2 ho2 => ?_
  have hE2 := he1.trans he2
  have hz1 := he1.size
  have hvb := ho2.toN_block
  have hL2 : Lst 22 w.heap.size (fun _ => False) w2 v2 _ _ := Lst.ofNils ho2 hz1 (fun h => h) (fun g h => h.elim)
  rw [hol, ← tabL_none] at hL2
  clear ho2
  have ap1 : Apart 0 w.heap.size w1.heap.size := ⟨.inr hz1⟩
  have ap2 : Apart b (b + 1) w1.heap.size := ⟨.inr (by omega)⟩
  refine go ?_
  refine r_for ys.length (fun k ρ w' => ∃ us', Has ρ [(1, vu), (2, .pointer (some ⟨b, 0, none⟩)), (5, v2), (6, .int .i64 k)] ∧ Ext w w' ∧ Lst 22 w.heap.size (fun _ => False) w' v2 us' (tabL (tabOf (ys.take k)))) ?_ ?_
  · refine ⟨_, ?_, hE2, by simpa [tabOf] using hL2⟩
    exact hasP
  clear hL2
  rintro k ρ w3 hk ⟨us3, hH, he3, hL3⟩
  refine rwp_has hH fun ρ0 => ?_
  have hz3 := he3.size
  refine go ?_
  refine c_if (fun h4 => ?_) (fun h4 => ?_)
  · have hkn : k < ys.length := by omega
    have hg := vecs_getD ys hkn
    have hgl : ((vecs ys).getD k []).length = p.n := by rw [hg]; exact (ys[k]).inr.len
    obtain ⟨hdn, hy1⟩ := hs.lead1 _ (List.getElem_mem hkn)
    obtain ⟨d, hd⟩ : ∃ d, lead (ys[k]).v = d := ⟨_, rfl⟩
    rw [hd] at hdn
    have htl := tabL_len (tabOf (ys.take k))
    have hul3 := hL3.len
    refine go ?_
    refine z_order w1.heap.size [0, 1, 2, 3, 4, 6, 7, 8, 9, 5, 10, 11] (h := fun w4 he4 _ => ?_)
    have hSl4 := ((hL3.ext he4).toOwn hvb).toSl
    have hlen4 := hSl4.toLen
    clear hSl4
    refine zgo ?_
    refine zc (l12Depth_ok (xs := (vecs ys).getD k []) ?_) (next := fun v5 w5 h7 => ?_)
    · omega
    obtain ⟨rfl, he5⟩ := h7
    rw [hg, hd]
    have hL5 := hL3.ext (he4.trans he5)
    have hO5 := hL5.toOwn hvb
    refine zgo ?_
    refine z_store_val (h := hO5) (hx := (by ((try simp only [ev_tmp, ev_const, ev_func, get_put, get_args, get_putL, get_putL_nil, Nat.reduceEqDiff, reduceIte, List.getD_cons_zero, List.getD_cons_succ, List.getD_nil]); first | done | with_reducible rfl))) (hy := (by ((try simp only [ev_tmp, ev_const, ev_func, get_put, get_args, get_putL, get_putL_nil, Nat.reduceEqDiff, reduceIte, List.getD_cons_zero, List.getD_cons_succ, List.getD_nil]); first | done | with_reducible rfl))) (hu := ?_) (hm := ?_) (next := fun w6 hc6 hs6 ho6 => ?_)
    · exact (hu.vals.at_ k).sl.one
    · omega
    refine z_end ?_
    refine go ?_
    have hu5 : IntsAp (fun g => False ∨ v2.ownBlock = some g) w5 (Pc.rowAt vu us k) ((vecs ys).getD k []) :=
      ((hu.ap (av := fun g => False ∨ v2.ownBlock = some g) (Nat.le_refl _) (fun g hg => by
        rcases hg with hg | hg
        · exact hg.elim
        · rw [hvb] at hg; injection hg with hg; exact .inr (by omega))).at_ k).ext ((he3.trans he4).trans he5)
    have hL6 := hL5.set hvb hu5 hc6 ho6 (by omega)
    have ht := tabOf_take ys hkn
    rw [hd] at ht
    have e : tabL (tabOf (ys.take (k + 1))) = (tabL (tabOf (ys.take k))).set d ((vecs ys).getD k []) := by rw [ht, tabL_set, hg]
    refine forQ_normal (by omega) ⟨_, ?_, hc6.ext ((he3.trans he4).trans he5) hz1, by rw [e]; exact hL6⟩
    exact hasP
  · refine go ?_
    obtain rfl : k = ys.length := by omega
    rw [List.take_length] at hL3
    exact ret1 ⟨he3, us3, hL3.toRows⟩
theorem tabOf_none {p : Pr} [ConAll p] {ys : List (El p)} {d : Nat} : tabOf ys d ≠ none → ∃ y, y ∈ ys ∧ lead y.v = d := fun h => by
  cases e : tabOf ys d with
  | none => exact absurd e h
  | some y => exact ⟨y, tabOf_some e⟩
set_option maxHeartbeats 1000000 in
theorem l12Sift_ok {p : Pr} [hc : ConAll p] {ys : List (El p)} (hs : SeqOk ys) {w : World} {vp vu vx : Value} {us : List Value} {xss : List (List Int)} {x : El p} {xs : List Int} {lo hi lo1 hi1 lo2 hi2 : Nat} [hp : Pres lo hi w vp p] [hu : Pc.Rows lo1 hi1 w vu us xss] [hx : Ints lo2 hi2 w vx xs] (hus : xss = vecs ys) (hxe : xs = x.v) :
    Calls Try.prog 157 #[vp, vu, vx] w (Ret fun v w' => Ext w w' ∧ ∃ r : El p, Fr w.heap.size w' v r.v ∧ RepOf ys x r) := by
  have hv := hc.valid
  obtain ⟨vo, vpw, vc, ps, cs, css, rfl, h1, h2, h3⟩ := hp.ex
  refine enter (args := [.agg #[vo, vpw, vc], vu, vx]) (l := [.tmp 6]) Try.func157 rfl rfl Try.ntmps157 (by simp) ?_
  refine go ?_
  refine st_box3 (by ((try simp only [ev_tmp, ev_const, ev_func, get_put, get_args, get_putL, get_putL_nil, Nat.reduceEqDiff, reduceIte, List.getD_cons_zero, List.getD_cons_succ, List.getD_nil]); first | done | with_reducible rfl)) (by first | exact True.intro | exact ⟨_, rfl, by ((try simp only [ev_tmp, ev_const, ev_func, get_put, get_args, get_putL, get_putL_nil, Nat.reduceEqDiff, reduceIte, List.getD_cons_zero, List.getD_cons_succ, List.getD_nil, Bool.not_true, Bool.not_false]); first | done | with_reducible rfl)⟩) fun w1 b he1 hb1 hs1 hc0 hc1 hc2 => ?_
  refine go ?_
  refine d_order [0, 1, 2, 4, 3, 5, 6] (h := fun w2 he2 _ => ?_)
  refine dgo ?_
  refine dce (l12Table_ok (p := p) hv hs hus) (next := fun v3 w3 h4 => ?_)
  obtain ⟨he3, us3, hR3⟩ := h4
  refine dgo ?_
  refine dce (l12Reduce_ok (p := p) (x := x) (tabOf_ok hs) hxe) (next := fun v4 w4 h5 => ?_)
  obtain ⟨he4, r, hf4, hm, hz, hlow⟩ := h5
  refine dgo ?_
  refine d_end (h := ?_)
  refine go ?_
  have hE := (he1.trans he2).trans he3
  refine ret1 ⟨hE.trans he4, r, hf4.mono hE.size, fun H hH hy => hm H hH fun d y e => hy y (tabOf_some e).1, fun y hy => hz _ (tabOf_mem hs hy), fun t ht => hlow t fun d hd => ?_⟩
  obtain ⟨y, hy, rfl⟩ := tabOf_none hd
  exact ht y hy
set_option maxHeartbeats 1000000 in
theorem l12Has_ok {p : Pr} [hc : ConAll p] {ys : List (El p)} (hs : SeqEl ys) {w : World} {vp vu vx : Value} {us : List Value} {xss : List (List Int)} {x : El p} {xs : List Int} {lo hi lo1 hi1 lo2 hi2 : Nat} [hp : Pres lo hi w vp p] [hu : Pc.Rows lo1 hi1 w vu us xss] [hx : Ints lo2 hi2 w vx xs] (hus : xss = vecs ys) (hxe : xs = x.v) :
    Calls Try.prog 115 #[vp, vu, vx] w (Ret fun v w' => ∃ b, v = .bool b ∧ (b = true ↔ Gen (fun a : El p => a ∈ ys) x) ∧ Ext w w') := by
  have hn6 := hc.valid.n6
  obtain ⟨vo, vpw, vc, ps, cs, css, rfl, h1, h2, h3⟩ := hp.ex
  refine enter (args := [.agg #[vo, vpw, vc], vu, vx]) (l := [.tmp 6]) Try.func115 rfl rfl Try.ntmps115 (by simp) ?_
  refine go ?_
  refine st_box3 (by ((try simp only [ev_tmp, ev_const, ev_func, get_put, get_args, get_putL, get_putL_nil, Nat.reduceEqDiff, reduceIte, List.getD_cons_zero, List.getD_cons_succ, List.getD_nil]); first | done | with_reducible rfl)) (by first | exact True.intro | exact ⟨_, rfl, by ((try simp only [ev_tmp, ev_const, ev_func, get_put, get_args, get_putL, get_putL_nil, Nat.reduceEqDiff, reduceIte, List.getD_cons_zero, List.getD_cons_succ, List.getD_nil, Bool.not_true, Bool.not_false]); first | done | with_reducible rfl)⟩) fun w1 b he1 hb1 hs1 hc0 hc1 hc2 => ?_
  refine go ?_
  refine rc (l12Sift_ok (p := p) (x := x) hs.ok hus hxe) (next := fun v2 w2 h4 => ?_)
  obtain ⟨he2, r, hf2, hr⟩ := h4
  have hrl := r.inr.len
  refine go ?_
  refine rc (l01Zero_ok (xs := r.v) (by omega)) (next := fun v3 w3 h5 => ?_)
  obtain ⟨b3, rfl, hb3, he3⟩ := h5
  refine go ?_
  exact ret1 ⟨b3, rfl, by rw [hb3, ← el_one_iff, hr.one_iff hs], (he1.trans he2).trans he3⟩
end Go.Proofs.Ytgomfjhhfmhlgaa

/-
  Walks: the reference's conjugates, conjugate subgroups, closures under conjugation, normality (l10Conj, l13Conj, l12Whole, l13Stable, l13Normal).
  Conditions: the tails at all levels are groups; the lists are those told.
-/
namespace Go.Proofs.Ytgomfjhhfmhlgaa
open Go Go.Pc
set_option maxHeartbeats 1000000 in
theorem l10Conj_ok {p : Pr} [hc : ConAll p] {w : World} {vp vx vy : Value} {x y : El p} {xs ys : List Int} {lo hi lo1 hi1 lo2 hi2 : Nat} [hp : Pres lo hi w vp p] [hx : Ints lo1 hi1 w vx xs] [hy : Ints lo2 hi2 w vy ys] (hxe : xs = x.v) (hye : ys = y.v) :
    Calls Try.prog 175 #[vp, vx, vy] w (Ret fun v w' => Ext w w' ∧ Fr w.heap.size w' v (Grp.cj x y).v) := by
  obtain ⟨vo, vpw, vc, ps, cs, css, rfl, h1, h2, h3⟩ := hp.ex
  refine enter (args := [.agg #[vo, vpw, vc], vx, vy]) (l := [.tmp 6]) Try.func175 rfl rfl Try.ntmps175 (by simp) ?_
  refine go ?_
  refine st_box3 (by ((try simp only [ev_tmp, ev_const, ev_func, get_put, get_args, get_putL, get_putL_nil, Nat.reduceEqDiff, reduceIte, List.getD_cons_zero, List.getD_cons_succ, List.getD_nil]); first | done | with_reducible rfl)) (by first | exact True.intro | exact ⟨_, rfl, by ((try simp only [ev_tmp, ev_const, ev_func, get_put, get_args, get_putL, get_putL_nil, Nat.reduceEqDiff, reduceIte, List.getD_cons_zero, List.getD_cons_succ, List.getD_nil, Bool.not_true, Bool.not_false]); first | done | with_reducible rfl)⟩) fun w1 b he1 hb1 hs1 hc0 hc1 hc2 => ?_
  refine go ?_
  refine d_order [0, 1, 2, 4, 5, 6, 3, 7, 8, 9] (h := fun w2 he2 _ => ?_)
  refine dgo ?_
  refine dce (l10Inv_ok (p := p) hye) (next := fun v4 w4 h4 => ?_)
  obtain ⟨he4, hf4⟩ := h4
  refine dce (l08Mul_ok (p := p) hxe hye) (next := fun v5 w5 h5 => ?_)
  obtain ⟨he5, hf5⟩ := h5
  refine dce (l08Mul_ok (p := p) (x := y⁻¹) (y := x * y) (xs := (y⁻¹).v) (ys := (x * y).v) rfl rfl) (next := fun v6 w6 h6 => ?_)
  obtain ⟨he6, hf6⟩ := h6
  refine dgo ?_
  refine d_end (h := ?_)
  refine go ?_
  have hE := ((he1.trans he2).trans he4).trans he5
  exact ret1 ⟨hE.trans he6, hf6.mono hE.size⟩
/-- The generators. -/
noncomputable def gensL (p : Pr) [ConAll p] : List (El p) := (List.range p.n).map (gOf p 0)
theorem gOf_val {p : Pr} [hc : ConAll p] {i : Nat} (hi : i < p.n) : (gOf p 0 i : El p).v = unitv p i 1 := by
  rw [gOf_eq (h := hc.con 0) ⟨Nat.zero_le _, hi⟩]; rfl
theorem gensL_len (p : Pr) [ConAll p] : (gensL p).length = p.n := by simp [gensL]
set_option maxHeartbeats 1000000 in
theorem l02Unit_ok {n : Nat} {w : World} {kn : Int} (hkn : kn = n) (hn : n ≤ 1000) :
    Calls Try.prog 135 #[.int .i64 kn] w (Ret fun v w' => Ext w w' ∧ ∃ us', Pc.Rows w.heap.size w'.heap.size w' v us' ((List.range n).map fun i => (zeros n).set i 1)) := by
  subst hkn
  refine enter (args := [.int .i64 n]) (l := [.tmp 2]) Try.func135 rfl rfl Try.ntmps135 (by simp) ?_
  refine go ?_
  refine st_slice0 (by first | exact True.intro | exact ⟨_, rfl, by ((try simp only [ev_tmp, ev_const, ev_func, get_put, get_args, get_putL, get_putL_nil, Nat.reduceEqDiff, reduceIte, List.getD_cons_zero, List.getD_cons_succ, List.getD_nil, Bool.not_true, Bool.not_false]); first | done | with_reducible rfl)⟩) fun w2 v2 he2 hs2 ho2 => ?_
  refine go ?_
  refine r_for n (fun k ρ w' => ∃ vl rs, Has ρ [(0, .int .i64 n), (3, vl), (4, .int .i64 k)] ∧ Ext w w' ∧ GrowL 22 w.heap.size w' vl rs ∧ rs.map (·.2) = (List.range k).map fun i => (zeros n).set i 1) ?_ ?_
  · refine ⟨v2, [], ?_, he2, GrowL.start ho2 (Nat.le_refl _), by simp⟩
    exact hasP
  clear ho2
  rintro k ρ w3 hk ⟨vl, rs, hH, he3, hG, hrs⟩
  refine rwp_has hH fun ρ0 => ?_
  have hz3 := he3.size
  have hrl : rs.length = k := by have := congrArg List.length hrs; simp at this; omega
  refine go ?_
  refine c_if (fun h4 => ?_) (fun h4 => ?_)
  · refine go ?_
    refine st_make_int (by ((try simp only [ev_tmp, ev_const, ev_func, get_put, get_args, get_putL, get_putL_nil, Nat.reduceEqDiff, reduceIte, List.getD_cons_zero, List.getD_cons_succ, List.getD_nil]); first | done | with_reducible rfl)) (by ((try simp only [ev_tmp, ev_const, ev_func, get_put, get_args, get_putL, get_putL_nil, Nat.reduceEqDiff, reduceIte, List.getD_cons_zero, List.getD_cons_succ, List.getD_nil]); first | done | with_reducible rfl)) (by omega) (by omega) (by first | exact True.intro | exact ⟨_, rfl, by ((try simp only [ev_tmp, ev_const, ev_func, get_put, get_args, get_putL, get_putL_nil, Nat.reduceEqDiff, reduceIte, List.getD_cons_zero, List.getD_cons_succ, List.getD_nil, Bool.not_true, Bool.not_false]); first | done | with_reducible rfl)⟩) fun w4 v4 he4 hs4 ho4 => ?_
    have hzl : (List.replicate n (0 : Int)).length = n := by simp
    refine go ?_
    refine st_store_int (h := ho4) (by ((try simp only [ev_tmp, ev_const, ev_func, get_put, get_args, get_putL, get_putL_nil, Nat.reduceEqDiff, reduceIte, List.getD_cons_zero, List.getD_cons_succ, List.getD_nil]); first | done | with_reducible rfl)) (by ((try simp only [ev_tmp, ev_const, ev_func, get_put, get_args, get_putL, get_putL_nil, Nat.reduceEqDiff, reduceIte, List.getD_cons_zero, List.getD_cons_succ, List.getD_nil]); first | done | with_reducible rfl)) ?_ (by first | exact True.intro | exact ⟨_, rfl, by ((try simp only [ev_tmp, ev_const, ev_func, get_put, get_args, get_putL, get_putL_nil, Nat.reduceEqDiff, reduceIte, List.getD_cons_zero, List.getD_cons_succ, List.getD_nil, Bool.not_true, Bool.not_false]); first | done | with_reducible rfl)⟩) fun w5 hc5 hs5 ho5 => ?_
    · omega
    have he35 : Ext w3 w5 := hc5.ext he4 (Nat.le_refl _)
    have hf5 : Fr w3.heap.size w5 v4 ((zeros n).set k 1) := ho5.toFr (Nat.le_refl _)
    clear ho4 ho5 hc5
    refine go ?_
    refine st_grow hG he35 hf5 hz3 (by omega) (next := fun v6 v7 w7 hG7 hx7 hz7 hgs7 => ?_)
    refine go ?_
    refine forQ_normal (by omega) ⟨v7, _, ?_, hx7 w (he3.trans he35) (Nat.le_refl _), hG7, ?_⟩
    · exact hasP
    · rw [List.range_succ, List.map_append, List.map_append, hrs]; simp
  · obtain rfl : k = n := by omega
    refine go ?_
    refine ret1 ⟨he3, rs.map (·.1), ?_⟩
    rw [← hrs]
    exact hG.rows
theorem l12Whole_ok {p : Pr} [hc : ConAll p] {w : World} {vp : Value} {lo hi : Nat} [hp : Pres lo hi w vp p] :
    Calls Try.prog 95 #[vp] w (Ret fun v w' => Ext w w' ∧ ∃ us', Pc.Rows w.heap.size w'.heap.size w' v us' (vecs (gensL p))) := by
  have hn6 := hc.valid.n6
  have hol : p.ord.length = p.n := rfl
  obtain ⟨vo, vpw, vc, ps, cs, css, rfl, h1, h2, h3⟩ := hp.ex
  refine enter (args := [.agg #[vo, vpw, vc]]) (l := [.tmp 2]) Try.func95 rfl rfl Try.ntmps95 (by simp) ?_
  refine go ?_
  refine st_box3 (by ((try simp only [ev_tmp, ev_const, ev_func, get_put, get_args, get_putL, get_putL_nil, Nat.reduceEqDiff, reduceIte, List.getD_cons_zero, List.getD_cons_succ, List.getD_nil]); first | done | with_reducible rfl)) (by first | exact True.intro | exact ⟨_, rfl, by ((try simp only [ev_tmp, ev_const, ev_func, get_put, get_args, get_putL, get_putL_nil, Nat.reduceEqDiff, reduceIte, List.getD_cons_zero, List.getD_cons_succ, List.getD_nil, Bool.not_true, Bool.not_false]); first | done | with_reducible rfl)⟩) fun w1 b he1 hb1 hs1 hc0 hc1 hc2 => ?_
  refine go ?_
  refine rc (l02Unit_ok (n := p.n) ?_ (by omega)) (next := fun v2 w2 h4 => ?_)
  · omega
  obtain ⟨he2, us2, hR2⟩ := h4
  refine go ?_
  refine ret1 ⟨he1.trans he2, us2, ?_⟩
  have e : vecs (gensL p) = (List.range p.n).map fun i => (zeros p.n).set i 1 := by
    unfold vecs gensL
    rw [List.map_map]
    exact List.map_congr_left fun i hi => gOf_val (List.mem_range.1 hi)
  rw [e]
  exact hR2.mono he1.size (Nat.le_refl _)
end Go.Proofs.Ytgomfjhhfmhlgaa

/-
  Answers: generated subgroups, conjugate subgroups, normality, indices, depths.
  Conditions: none.
-/
namespace Go.Proofs.Ytgomfjhhfmhlgaa
open Go Go.Pc
/-- The list is the canonical sequence of a subgroup told by elements. -/
theorem canon_sz {p : Pr} [ConAll p] (H : El p → Prop) (h6 : p.n ≤ 6) : (canon H).length ≤ 2000000 ∧ ∀ i, ((canon H).getD i []).length ≤ 2000000 := by
  have hcl := canTo_len H p.n
  rw [canTo_end] at hcl
  exact ⟨by omega, fun i => by have := canon_row H i; omega⟩
def GrpL (p : Pr) (xss : List (List Int)) : Prop := IsGrp p ∧ ∀ i, i < xss.length → InR p (xss.getD i [])
def GenV (p : Pr) (xss r : List (List Int)) (e : Int) : Prop := (24 < xss.length ∧ r = [] ∧ e = 3) ∨ (xss.length ≤ 24 ∧ (∃ (_ : ConAll p) (ys : List (El p)), xss = vecs ys ∧ r = canon (Gen (fun a : El p => a ∈ ys))) ∧ e = 0)
theorem GenV.uniq {p : Pr} {xss : List (List Int)} (a b : List (List Int)) (c d : Int) (h : GenV p xss a c) (k : GenV p xss b d) : a = b ∧ c = d := by
  rcases h with ⟨h1, h2, h3⟩ | ⟨h1, ⟨hc, ys, h2, h3⟩, h4⟩ <;> rcases k with ⟨k1, k2, k3⟩ | ⟨k1, ⟨hc', ys', k2, k3⟩, k4⟩
  · exact ⟨by rw [h2, k2], by rw [h3, k3]⟩
  · omega
  · omega
  · obtain rfl := vecs_inj (h2.symm.trans k2)
    exact ⟨by rw [h3, k3], by rw [h4, k4]⟩
theorem GeneratedSubgroup_sz0 {p : Pr} {xss r : List (List Int)} {e : Int} (_ : p.ord.length ≤ 2000000) (_ : xss.length ≤ 2000000) (h : Ans (GrpL p xss) (GenV p xss) [] r e) : r.length ≤ 2000000 ∧ ∀ i, (r.getD i []).length ≤ 2000000 := by
  rcases h with ⟨⟨hG, _⟩, h⟩ | ⟨_, rfl, _⟩
  · rcases h with ⟨_, rfl, _⟩ | ⟨_, ⟨hc, ys, _, rfl⟩, _⟩
    · simp
    · exact canon_sz _ hG.valid.n6
  · simp
def ConjV (p : Pr) (xss : List (List Int)) (xs : List Int) (r : List (List Int)) (e : Int) : Prop := (∃ (_ : ConAll p) (ys : List (El p)) (x : El p), xss = vecs ys ∧ xs = x.v ∧ r = canon (Gen (fun a : El p => a ∈ ys.map (Grp.cj · x)))) ∧ e = 0
theorem ConjV.uniq {p : Pr} {xss : List (List Int)} {xs : List Int} (a b : List (List Int)) (c d : Int) (h : ConjV p xss xs a c) (k : ConjV p xss xs b d) : a = b ∧ c = d := by
  obtain ⟨⟨hc, ys, x, h2, h3, h4⟩, h5⟩ := h
  obtain ⟨⟨hc', ys', x', k2, k3, k4⟩, k5⟩ := k
  obtain rfl := vecs_inj (h2.symm.trans k2)
  obtain rfl : x = x' := T.ext (h3.symm.trans k3)
  exact ⟨by rw [h4, k4], by rw [h5, k5]⟩
theorem ConjugateSubgroup_sz0 {p : Pr} {xss : List (List Int)} {xs : List Int} {r : List (List Int)} {e : Int} (_ : p.ord.length ≤ 2000000) (h : Ans (IsSubP p xss ∧ InR p xs) (ConjV p xss xs) [] r e) : r.length ≤ 2000000 ∧ ∀ i, (r.getD i []).length ≤ 2000000 := by
  rcases h with ⟨⟨⟨hG, _⟩, _⟩, ⟨hc, ys, x, _, _, rfl⟩, _⟩ | ⟨_, rfl, _⟩
  · exact canon_sz _ hG.valid.n6
  · simp
/-- The subgroup is normal. -/
def NormP (p : Pr) (xss : List (List Int)) : Prop := ∃ (_ : ConAll p) (ys : List (El p)), xss = vecs ys ∧ ∀ y, y ∈ ys → ∀ g, g ∈ gensL p → Gen (fun a : El p => a ∈ ys) (Grp.cj y g)
theorem normP_iff {p : Pr} [hc : ConAll p] {ys : List (El p)} : NormP p (vecs ys) ↔ ∀ y, y ∈ ys → ∀ g, g ∈ gensL p → Gen (fun a : El p => a ∈ ys) (Grp.cj y g) := by
  constructor
  · rintro ⟨_, ys', h1, h2⟩
    obtain rfl := vecs_inj h1
    exact h2
  · exact fun h => ⟨hc, ys, rfl, h⟩
def NormV (p : Pr) (xss : List (List Int)) (b : Bool) (e : Int) : Prop := (b = true ↔ NormP p xss) ∧ e = 0
theorem NormV.uniq {p : Pr} {xss : List (List Int)} (a b : Bool) (c d : Int) (h : NormV p xss a c) (k : NormV p xss b d) : a = b ∧ c = d := ⟨bool_eq h.1 k.1, by rw [h.2, k.2]⟩
theorem normal_len {p : Pr} [hc : ConAll p] {ys : List (El p)} (hs : SeqEl ys) : (canon (Clo (fun a : El p => a ∈ ys) (fun a : El p => a ∈ gensL p))).length = ys.length ↔ ∀ y, y ∈ ys → ∀ g, g ∈ gensL p → Gen (fun a : El p => a ∈ ys) (Grp.cj y g) := by
  have hSY := Gen.sub (fun a : El p => a ∈ ys)
  have hSC := Clo.sub (fun a : El p => a ∈ ys) (fun a : El p => a ∈ gensL p)
  have e : (canon (Clo (fun a : El p => a ∈ ys) (fun a : El p => a ∈ gensL p))).length = (canEls (Clo (fun a : El p => a ∈ ys) (fun a : El p => a ∈ gensL p))).length := by rw [canon_vecs]; simp
  rw [e]
  constructor
  · intro h y hy g hg
    exact same_of_len hSY hSC (Gen.le hSC fun a ha => .of a ha) (by rw [hs.els]; omega) _ (.cj _ _ (.of _ hy) hg)
  · intro h
    rw [gen_eq_clo fun a b ha hb => h a ha b hb, hs.els]
/-- The index of a subgroup. -/
def IdxV (p : Pr) (xss yss : List (List Int)) (k e : Int) : Prop := ((∀ x, x ∈ yss → MemP p xss x) ∧ k = ordOfL p xss / ordOfL p yss ∧ e = 0) ∨ (¬ (∀ x, x ∈ yss → MemP p xss x) ∧ k = 0 ∧ e = 5)
theorem IdxV.uniq {p : Pr} {xss yss : List (List Int)} (a b c d : Int) (h : IdxV p xss yss a c) (k : IdxV p xss yss b d) : a = b ∧ c = d := by
  rcases h with ⟨h1, h2, h3⟩ | ⟨h1, h2, h3⟩ <;> rcases k with ⟨k1, k2, k3⟩ | ⟨k1, k2, k3⟩
  · exact ⟨by rw [h2, k2], by rw [h3, k3]⟩
  · exact absurd h1 k1
  · exact absurd k1 h1
  · exact ⟨by rw [h2, k2], by rw [h3, k3]⟩
def DepV (xss : List (List Int)) (r : List Int) (e : Int) : Prop := r = xss.map (fun x => (lead x : Int)) ∧ e = 0
theorem DepV.uniq {xss : List (List Int)} (a b : List Int) (c d : Int) (h : DepV xss a c) (k : DepV xss b d) : a = b ∧ c = d := ⟨by rw [h.1, k.1], by rw [h.2, k.2]⟩
theorem SubgroupDepths_sz0 {p : Pr} {xss : List (List Int)} {r : List Int} {e : Int} (hl : p.ord.length ≤ 2000000) (h : Ans (IsSubP p xss) (DepV xss) [] r e) : r.length ≤ 2000000 := by
  rcases h with ⟨⟨hG, hq⟩, rfl, _⟩ | ⟨_, rfl, _⟩
  · haveI : ConAll p := ⟨hG.con⟩
    have h1 := hq.len
    have h2 := hG.valid.n6
    simp; omega
  · simp
end Go.Proofs.Ytgomfjhhfmhlgaa

/-
  Answers: joins, normal closures, commutator subgroups.
  Conditions: none.
-/
namespace Go.Proofs.Ytgomfjhhfmhlgaa
open Go Go.Pc
def JoinV (p : Pr) (xss yss r : List (List Int)) (e : Int) : Prop := (∃ (_ : ConAll p) (ys zs : List (El p)), xss = vecs ys ∧ yss = vecs zs ∧ r = canon (Gen (fun a : El p => a ∈ ys ++ zs))) ∧ e = 0
theorem JoinV.uniq {p : Pr} {xss yss : List (List Int)} (a b : List (List Int)) (c d : Int) (h : JoinV p xss yss a c) (k : JoinV p xss yss b d) : a = b ∧ c = d := by
  obtain ⟨⟨hc, ys, zs, h2, h3, h4⟩, h5⟩ := h
  obtain ⟨⟨hc', ys', zs', k2, k3, k4⟩, k5⟩ := k
  obtain rfl := vecs_inj (h2.symm.trans k2)
  obtain rfl := vecs_inj (h3.symm.trans k3)
  exact ⟨by rw [h4, k4], by rw [h5, k5]⟩
def CommV (p : Pr) (xss yss r : List (List Int)) (e : Int) : Prop := (∃ (_ : ConAll p) (ys zs : List (El p)), xss = vecs ys ∧ yss = vecs zs ∧ r = canon (CommC ys zs)) ∧ e = 0
theorem CommV.uniq {p : Pr} {xss yss : List (List Int)} (a b : List (List Int)) (c d : Int) (h : CommV p xss yss a c) (k : CommV p xss yss b d) : a = b ∧ c = d := by
  obtain ⟨⟨hc, ys, zs, h2, h3, h4⟩, h5⟩ := h
  obtain ⟨⟨hc', ys', zs', k2, k3, k4⟩, k5⟩ := k
  obtain rfl := vecs_inj (h2.symm.trans k2)
  obtain rfl := vecs_inj (h3.symm.trans k3)
  exact ⟨by rw [h4, k4], by rw [h5, k5]⟩
def NclV (p : Pr) (xss r : List (List Int)) (e : Int) : Prop := (∃ (_ : ConAll p) (ys : List (El p)), xss = vecs ys ∧ r = canon (Clo (fun a : El p => a ∈ ys) (fun a : El p => a ∈ gensL p))) ∧ e = 0
theorem NclV.uniq {p : Pr} {xss : List (List Int)} (a b : List (List Int)) (c d : Int) (h : NclV p xss a c) (k : NclV p xss b d) : a = b ∧ c = d := by
  obtain ⟨⟨hc, ys, h2, h4⟩, h5⟩ := h
  obtain ⟨⟨hc', ys', k2, k4⟩, k5⟩ := k
  obtain rfl := vecs_inj (h2.symm.trans k2)
  exact ⟨by rw [h4, k4], by rw [h5, k5]⟩
theorem SubgroupJoin_sz0 {p : Pr} {xss yss r : List (List Int)} {e : Int} (_ : p.ord.length ≤ 2000000) (h : Ans (IsSubP p xss ∧ IsSubP p yss) (JoinV p xss yss) [] r e) : r.length ≤ 2000000 ∧ ∀ i, (r.getD i []).length ≤ 2000000 := by
  rcases h with ⟨⟨⟨hG, _⟩, _⟩, ⟨hc, ys, zs, _, _, rfl⟩, _⟩ | ⟨_, rfl, _⟩
  · exact canon_sz _ hG.valid.n6
  · simp
theorem CommutatorSubgroup_sz0 {p : Pr} {xss yss r : List (List Int)} {e : Int} (_ : p.ord.length ≤ 2000000) (h : Ans (IsSubP p xss ∧ IsSubP p yss) (CommV p xss yss) [] r e) : r.length ≤ 2000000 ∧ ∀ i, (r.getD i []).length ≤ 2000000 := by
  rcases h with ⟨⟨⟨hG, _⟩, _⟩, ⟨hc, ys, zs, _, _, rfl⟩, _⟩ | ⟨_, rfl, _⟩
  · exact canon_sz _ hG.valid.n6
  · simp
theorem NormalClosure_sz0 {p : Pr} {xss r : List (List Int)} {e : Int} (_ : p.ord.length ≤ 2000000) (h : Ans (IsSubP p xss) (NclV p xss) [] r e) : r.length ≤ 2000000 ∧ ∀ i, (r.getD i []).length ≤ 2000000 := by
  rcases h with ⟨⟨hG, _⟩, ⟨hc, ys, _, rfl⟩, _⟩ | ⟨_, rfl, _⟩
  · exact canon_sz _ hG.valid.n6
  · simp
end Go.Proofs.Ytgomfjhhfmhlgaa

/-
  Series of subgroups: steps until one stands still; the derived and the lower central series.
  Conditions: the tails at all levels are groups.
-/
namespace Go.Proofs.Ytgomfjhhfmhlgaa
open Go Go.Pc
def itL {α : Type} (f : α → α) (y : α) : Nat → α
  | 0 => y
  | k + 1 => f (itL f y k)
def SerR {α : Type} (f : α → α) (y : α) (K : Nat) : Prop := itL f y (K + 1) = itL f y K ∧ ∀ j, j < K → itL f y (j + 1) ≠ itL f y j
theorem SerR.uniq {α : Type} {f : α → α} {y : α} {K J : Nat} (h : SerR f y K) (k : SerR f y J) : K = J := by
  rcases Nat.lt_trichotomy K J with e | e | e
  · exact absurd h.1 (k.2 K e)
  · exact e
  · exact absurd k.1 (h.2 J e)
section
variable {p : Pr} [hc : ConAll p] {ys zs : List (El p)}
theorem co_gOf {d e : Nat} (hd : d < p.n) : co (gOf p 0 d : El p) e = if e = d then 1 else 0 := by
  show (gOf p 0 d : El p).v.getD e 0 = _
  rw [gOf_val hd]
  show ((zeros p.n).set d 1).getD e 0 = _
  split
  · rename_i h
    subst h
    rw [Pc.getD_set_eq _ _ _ (by rw [zeros_len]; exact hd)]
  · rename_i h
    rw [Pc.getD_set_ne _ _ _ _ (Ne.symm h), zeros_getD]
theorem filterMap_some {α β : Type} {f : α → Option β} {g : α → β} : ∀ l : List α, (∀ d, d ∈ l → f d = some (g d)) → l.filterMap f = l.map g
  | [], _ => rfl
  | d :: l, h => by
    rw [List.filterMap_cons, h d List.mem_cons_self, List.map_cons, filterMap_some l fun e he => h e (List.mem_cons_of_mem _ he)]
theorem sub_cj {H : El p → Prop} (hH : Pc.Sub H) {a b : El p} (ha : H a) (hb : H b) : H (Grp.cj a b) := hH.mul _ _ (hH.inv _ hb) (hH.mul _ _ ha hb)
theorem seqEl_gens : SeqEl (gensL p) := by
  have h : ∀ d, d < p.n → canT (Gen (fun a : El p => a ∈ gensL p)) d = some (gOf p 0 d) := fun d hd => by
    refine canT_eq (Gen.sub _) ⟨.of _ (List.mem_map.2 ⟨d, List.mem_range.2 hd, rfl⟩), fun k hk => ?_, ?_, fun e _ he => ?_⟩
    · have := co_gOf (p := p) (e := k) hd
      rw [if_neg (by omega)] at this
      exact this
    · rw [co_gOf hd, if_pos rfl]
    · rw [co_gOf hd, if_neg he]
  refine ⟨?_⟩
  rw [canon_vecs]
  congr 1
  exact filterMap_some _ fun d hd => h d (List.mem_range.1 hd)
theorem seq_len_le (hy : SeqEl ys) (hz : SeqEl zs) (hle : ∀ a, Gen (fun a : El p => a ∈ zs) a → Gen (fun a : El p => a ∈ ys) a) : zs.length ≤ ys.length := by
  have := can_len_le (Gen.sub _) (Gen.sub _) hle
  rwa [hy.els, hz.els] at this
theorem seq_len_iff (hy : SeqEl ys) (hz : SeqEl zs) (hle : ∀ a, Gen (fun a : El p => a ∈ zs) a → Gen (fun a : El p => a ∈ ys) a) : zs.length = ys.length ↔ zs = ys := by
  refine ⟨fun h => ?_, fun h => by rw [h]⟩
  have h2 := same_of_len (Gen.sub _) (Gen.sub _) hle (by rw [hy.els, hz.els]; omega)
  have e : Gen (fun a : El p => a ∈ zs) = Gen (fun a : El p => a ∈ ys) := by
    funext a; exact propext ⟨hle a, h2 a⟩
  rw [← hz.els, ← hy.els, e]
/-- What the walks need of a series. -/
structure SerOk (f : List (El p) → List (El p)) (y0 : List (El p)) : Prop where
  seq : ∀ k, SeqEl (itL f y0 k)
  eqv : ∀ k, (itL f y0 (k + 1)).length = (itL f y0 k).length ↔ itL f y0 (k + 1) = itL f y0 k
  bd : ∀ K, (∀ j, j < K → itL f y0 (j + 1) ≠ itL f y0 j) → K ≤ p.n
/-- A series that goes down. -/
theorem SerOk.down {f : List (El p) → List (El p)} {y0 : List (El p)} (Good : List (El p) → Prop) (h0 : Good y0) (hseq : ∀ ys, Good ys → SeqEl ys) (hf : ∀ ys, Good ys → Good (f ys))
    (hle : ∀ ys, Good ys → ∀ a, Gen (fun a : El p => a ∈ f ys) a → Gen (fun a : El p => a ∈ ys) a) : SerOk f y0 := by
  have hg : ∀ k, Good (itL f y0 k) := by
    intro k
    induction k with
    | zero => exact h0
    | succ k ih => exact hf _ ih
  have hs : ∀ k, SeqEl (itL f y0 k) := fun k => hseq _ (hg k)
  have he : ∀ k, (itL f y0 (k + 1)).length = (itL f y0 k).length ↔ itL f y0 (k + 1) = itL f y0 k := fun k => seq_len_iff (hs k) (hs (k + 1)) (hle _ (hg k))
  refine ⟨hs, he, fun K hK => ?_⟩
  have key : ∀ k, k ≤ K → (itL f y0 k).length + k ≤ p.n := by
    intro k
    induction k with
    | zero => exact fun _ => (hs 0).len
    | succ k ih =>
      intro hk
      have h1 := ih (by omega)
      have h2 := seq_len_le (hs k) (hs (k + 1)) (hle _ (hg k))
      have h3 := hK k (by omega)
      rw [Ne, ← he k] at h3
      omega
  have := key K (Nat.le_refl _)
  omega
/-- A series that goes up. -/
theorem SerOk.up {f : List (El p) → List (El p)} {y0 : List (El p)} (Good : List (El p) → Prop) (h0 : Good y0) (hseq : ∀ ys, Good ys → SeqEl ys) (hf : ∀ ys, Good ys → Good (f ys))
    (hle : ∀ ys, Good ys → ∀ a, Gen (fun a : El p => a ∈ ys) a → Gen (fun a : El p => a ∈ f ys) a) : SerOk f y0 := by
  have hg : ∀ k, Good (itL f y0 k) := by
    intro k
    induction k with
    | zero => exact h0
    | succ k ih => exact hf _ ih
  have hs : ∀ k, SeqEl (itL f y0 k) := fun k => hseq _ (hg k)
  have he : ∀ k, (itL f y0 (k + 1)).length = (itL f y0 k).length ↔ itL f y0 (k + 1) = itL f y0 k := fun k => by
    have := seq_len_iff (hs (k + 1)) (hs k) (hle _ (hg k))
    exact ⟨fun h => (this.1 h.symm).symm, fun h => by rw [h]⟩
  refine ⟨hs, he, fun K hK => ?_⟩
  have key : ∀ k, k ≤ K → k ≤ (itL f y0 k).length := by
    intro k
    induction k with
    | zero => exact fun _ => Nat.zero_le _
    | succ k ih =>
      intro hk
      have h1 := ih (by omega)
      have h2 := seq_len_le (hs (k + 1)) (hs k) (hle _ (hg k))
      have h3 := hK k (by omega)
      rw [Ne, ← he k] at h3
      omega
  have h1 := key K (Nat.le_refl _)
  have h2 := (hs K).len
  omega
noncomputable def derF (ys : List (El p)) : List (El p) := canEls (CommC ys ys)
noncomputable def lowF (ys : List (El p)) : List (El p) := canEls (CommC ys (gensL p))
theorem commC_sub (ys zs : List (El p)) : Pc.Sub (CommC ys zs) := Clo.sub _ _
theorem derF_vecs (ys : List (El p)) : canon (CommC ys ys) = vecs (derF ys) := canon_vecs _
theorem lowF_vecs (ys : List (El p)) : canon (CommC ys (gensL p)) = vecs (lowF ys) := canon_vecs _
theorem commsL2_mem {a : El p} (h : a ∈ commsL2 ys zs) : ∃ y z, y ∈ ys ∧ z ∈ zs ∧ a = Grp.cm y z := by
  unfold commsL2 at h
  obtain ⟨y, hy, h⟩ := List.mem_flatMap.1 h
  obtain ⟨z, hz, rfl⟩ := List.mem_map.1 h
  exact ⟨y, z, hy, hz, rfl⟩
theorem serOk_der : SerOk (derF (p := p)) (gensL p) := by
  refine SerOk.down (fun ys => SeqEl ys) seqEl_gens (fun _ h => h) (fun ys _ => seqEl_can (commC_sub ys ys)) fun ys _ a ha => ?_
  have hS := Gen.sub (fun a : El p => a ∈ ys)
  unfold derF at ha
  rw [gen_can_eq (commC_sub ys ys)] at ha
  refine Clo.le hS (fun a ha => ?_) (fun a b h1 h2 => ?_) a ha
  · obtain ⟨y, z, hy, hz, rfl⟩ := commsL2_mem ha
    exact hS.cm (.of y hy) (.of z hz)
  · refine sub_cj hS h1 (.of b ?_)
    rcases List.mem_append.1 h2 with h | h <;> exact h
theorem serOk_low : SerOk (lowF (p := p)) (gensL p) := by
  refine SerOk.down (fun ys => SeqEl ys ∧ ∀ a, Gen (fun a : El p => a ∈ ys) a → ∀ g, g ∈ gensL p → Gen (fun a : El p => a ∈ ys) (Grp.cj a g)) ⟨seqEl_gens, fun a ha g hg => sub_cj (Gen.sub _) ha (.of g hg)⟩ (fun _ h => h.1) (fun ys _ => ⟨seqEl_can (commC_sub ys (gensL p)), fun a ha g hg => ?_⟩) fun ys hys a ha => ?_
  · unfold lowF at ha ⊢
    rw [gen_can_eq (commC_sub ys (gensL p))] at ha ⊢
    exact .cj a g ha (List.mem_append_right _ hg)
  · have hS := Gen.sub (fun a : El p => a ∈ ys)
    unfold lowF at ha
    rw [gen_can_eq (commC_sub ys (gensL p))] at ha
    refine Clo.le hS (fun a ha => ?_) (fun a b h1 h2 => ?_) a ha
    · obtain ⟨y, z, hy, hz, rfl⟩ := commsL2_mem ha
      exact hS.mul _ _ (hS.inv _ (.of y hy)) (hys.2 y (.of y hy) z hz)
    · rcases List.mem_append.1 h2 with h | h
      · exact sub_cj hS h1 (.of b h)
      · exact hys.2 a h1 b h
end
/-- What a series is, with its code. -/
def SrV (p : Pr) (C : ConAll p → (List (El p) → List (El p)) × List (El p)) (r : List (List (List Int))) (e : Int) : Prop := ∃ (c : ConAll p) (K : Nat), SerR (C c).1 (C c).2 K ∧ r = (List.range (K + 1)).map (fun j => vecs (itL (C c).1 (C c).2 j)) ∧ e = 0
theorem SrV.uniq {p : Pr} {C : ConAll p → (List (El p) → List (El p)) × List (El p)} (a b : List (List (List Int))) (c d : Int) (h : SrV p C a c) (g : SrV p C b d) : a = b ∧ c = d := by
  obtain ⟨_, K, h1, rfl, rfl⟩ := h
  obtain ⟨_, J, g1, rfl, rfl⟩ := g
  obtain rfl := h1.uniq g1
  exact ⟨rfl, rfl⟩
noncomputable def DerC (p : Pr) (c : ConAll p) : (List (El p) → List (El p)) × List (El p) := (derF, gensL p)
noncomputable def LowC (p : Pr) (c : ConAll p) : (List (El p) → List (El p)) × List (El p) := (lowF, gensL p)
/-- The class of a nilpotent group, with its code. -/
def NcV (p : Pr) (r e : Int) : Prop := ∃ (c : ConAll p) (K : Nat), SerR (lowF (p := p)) (gensL p) K ∧ ((0 < (itL (lowF (p := p)) (gensL p) K).length ∧ r = 0 ∧ e = 4) ∨ ((itL (lowF (p := p)) (gensL p) K).length = 0 ∧ r = K ∧ e = 0))
theorem NcV.uniq {p : Pr} (a b c d : Int) (h : NcV p a c) (g : NcV p b d) : a = b ∧ c = d := by
  obtain ⟨_, K, h1, h2⟩ := h
  obtain ⟨_, J, g1, g2⟩ := g
  obtain rfl := h1.uniq g1
  rcases h2 with ⟨h3, rfl, rfl⟩ | ⟨h3, rfl, rfl⟩ <;> rcases g2 with ⟨g3, rfl, rfl⟩ | ⟨g3, rfl, rfl⟩
  · exact ⟨rfl, rfl⟩
  · omega
  · omega
  · exact ⟨rfl, rfl⟩
end Go.Proofs.Ytgomfjhhfmhlgaa

/-
  More rules: lists put together ('append(u, v...)', slices.Grow), in plain and in drawn regions.
  Conditions: none; nothing of the program stands here.
-/
namespace Go.Pc
open Go Go.RowKit
section
variable {av : Nat → Prop} {e base : Nat} {w w' : World} {v v' : Value} {us vs : List Value} {xss yss : List (List Int)}
theorem RowsAp.append (h : RowsAp av w us xss) (k : RowsAp av w vs yss) : RowsAp av w (us ++ vs) (xss ++ yss) := by
  refine ⟨by simp [h.len, k.len], fun i => ?_⟩
  by_cases hi : i < us.length
  · have e1 : (us ++ vs).getD i nilv = us.getD i nilv := by simp [List.getElem?_append_left hi]
    have e2 : (xss ++ yss).getD i [] = xss.getD i [] := by simp [List.getElem?_append_left (show i < xss.length by rw [← h.len]; exact hi)]
    rw [e1, e2]; exact h.at_ i
  · have e1 : (us ++ vs).getD i nilv = vs.getD (i - us.length) nilv := by simp [List.getElem?_append_right (Nat.le_of_not_lt hi)]
    have e2 : (xss ++ yss).getD i [] = yss.getD (i - us.length) [] := by rw [h.len]; simp [List.getElem?_append_right (show xss.length ≤ i by rw [← h.len]; omega)]
    rw [e1, e2]; exact k.at_ _
/-- After an append of a whole list. -/
theorem Lst.pushs (h : Lst e base av w v us xss) (hu : RowsAp (fun g => av g ∨ v.ownBlock = some g) w vs yss)
    (ho : OwnN e base w' v' (us ++ vs)) (hg : w.grownBy w' v.ownBlock) (hv : v'.ownBlock = v.ownBlock ∨ v'.ownBlock = some w.heap.size) : Lst e base av w' v' (us ++ vs) (xss ++ yss) := by
  refine ⟨ho, ?_, fun g hg' => ?_, fun g hg' => Nat.lt_of_lt_of_le (h.bd g hg') hg.size⟩
  · have h1 : RowsAp (fun g => (av g ∨ v.ownBlock = some g) ∨ v'.ownBlock = some g) w (us ++ vs) (xss ++ yss) := by
      refine (h.rows.append hu).weak fun g hg' => ?_
      rcases hg' with hg' | hg'
      · exact .inl hg'
      · rcases hv with e | e
        · exact .inl (.inr (by rw [← e]; exact hg'))
        · rw [e] at hg'; injection hg' with hg'; exact .inr (by omega)
    refine (h1.grown hg (fun g e => .inl (.inr e))).weak fun g hg' => .inl ?_
    exact hg'.imp .inl id
  · rcases hv with e | e
    · exact h.free g (by rw [← e]; exact hg')
    · rw [e] at hg'; injection hg' with hg'
      intro ha
      have := h.bd g ha
      omega
end
section
variable {P : Program} {N : Nat} {ops : Array Oper} {π : List Nat} {K : Env → World → Prop} {ρ : Env} {w w0 w1 : World} {l : List Oper}
variable {i : Nat} {ty : TypeId} {pos : String} {after : Array Edge} {g : Option (Nat × Bool)} {d : Nat}
theorem rd_cap_nil {x : Operand} {t e : Nat} (h : ev ρ x = nilv) [ht : SlT P t e] : Rd P (.call { callee := .builtin .cap, args := #[x], argTypes := #[t] }) ty ρ w (.int .i64 0) := by
  constructor; intro _ _ _ _
  simp [execOp, resolve, invoke, builtin, h, Builtin.cap_, run_underlying ht.eq, goInt, IntWalk.i64_in]
/-- append(nil, make(.., n)...): then cut to no element. -/
theorem st_appz {t tn e bytes n : Nat} {z : Value} {s x : Operand} [ht : SlT P t e] [he : ElT P e 1 bytes z] (htn : P.underlying tn = some (.int .i64)) (hs : ev ρ s = nilv) (hx : ev ρ x = .int .i64 n) (hn : 0 < n) (hn2 : n ≤ 1000000) (hby : bytes ≤ 100) (hz : z.cells = #[z]) (hg : Wants ops ρ g)
    (next : ∀ w' v, Ext w w' → Len w' v n → Own e w.heap.size w' (cutTo v 0) [] → rops P N ops K l (put ρ d v) w') : rops P N ops K (⟨some d, .call { callee := .builtin .append, args := #[s, x], argTypes := #[t, tn] }, ty, pos, after, g⟩ :: l) ρ w := by
  obtain ⟨i, hi, hsz, hbt, hz'⟩ := he.ex
  have hb : n * i.bytes ≤ 1000000 * 100 := Nat.mul_le_mul hn2 (by omega)
  have hr := Lib.run_append_nil_zeros (P := P) w t tn ty e i z .i64 .i64 ht.eq htn hi hz' n hn (by omega) (by omega) (by omega)
  have hcap := grownCap_ge w n 0 e
  have hcm : grownCap w n 0 e ≤ maxLen := grownCap_le_maxLen w _ 0 e (by simp [maxLen]; omega)
  refine st_ex (v := .slice (some ⟨w.heap.size, 0, none⟩) n (grownCap w n 0 e)) (w' := w.drew.alloc (.cells (Builtin.zeroCells z.cells n ++ Builtin.zeroCells z.cells (grownCap w n 0 e - n)) e)) hg ⟨fun _ _ _ _ => ?_⟩ (next _ _ ((Ext.drew w).trans (Ext.alloc _ _)) ⟨⟨_, _, rfl, hcap, by simp only [maxLen] at hcm; omega, fun _ => ⟨_, rfl⟩⟩⟩ ?_)
  · simp [execOp, resolve, invoke, builtin, hs, hx, hr]
  · refine ⟨_, _, rfl, heap_alloc_new w.drew _, Nat.zero_le _, hcm, ?_, rfl⟩
    simp [size_zeroCells, hz]; omega
/-- An append to a list that is new since the drawn region began. -/
theorem d_append {s x : Operand} {t e bytes lo hi' base : Nat} {z v y : Value} {us news : List Value} [ht : SlT P t e] [he : ElT P e 1 bytes z] [hv : OwnN e base w v us] [hy : Sl lo hi' w y news] (hi : opAt ops π i = some ⟨some d, .call { callee := .builtin .append, args := #[s, x], argTypes := #[t, t] }, ty, pos, after, g⟩ := by exact rfl)
    (hs : ev ρ s = v) (hx : ev ρ x = y) (hz : z.cells.size = 1) (h1 : ∀ u ∈ news, u.oneCell' = true) (hb : (us.length + news.length) * bytes ≤ 140737488355328) (hl : us.length + news.length ≤ maxLen) (hbase : base ≤ w.heap.size) (hvb : ∀ g, v.ownBlock = some g → w0.heap.size ≤ g)
    (next : ∀ v' w', OwnN e base w' v' (us ++ news) → w.grownBy w' v.ownBlock → (v'.ownBlock = v.ownBlock ∨ v'.ownBlock = some w.heap.size) → dops P N ops π (Ext w0) K (i + 1) (put ρ d v') w')
    (hn : nextOk ops π i = true := by decide +kernel) (hd : d < N := by decide) (hg : Wants ops ρ g := by first | exact True.intro | exact ⟨_, rfl, by ((try simp only [ev_tmp, ev_const, ev_func, get_put, get_args, get_putL, get_putL_nil, Nat.reduceEqDiff, reduceIte, List.getD_cons_zero, List.getD_cons_succ, List.getD_nil, Bool.not_true, Bool.not_false]); first | done | with_reducible rfl)⟩) :
    dops P N ops π (Ext w0) K i ρ w := by
  obtain ⟨v', w', hrun, h2, h3, h4⟩ := run_append (P := P) (ty := ty) ht.eq he hz hv hy h1 hb hl hbase
  have hex : Ex P (.call { callee := .builtin .append, args := #[s, x], argTypes := #[t, t] }) ty ρ w v' w' := by
    constructor; intro _ _ _ _
    simp [execOp, resolve, invoke, builtin, hs, hx, hrun]
  exact dt_ex hi hn hd hg hex (fun hS => hS.app h3 hvb) (next v' w' h2 h3 h4)
end
end Go.Pc

/-
  Walks: the reference's IsMember and IsSubset.
  Conditions: what the arguments read as.
-/
namespace Go.Proofs.Ytgomfjhhfmhlgaa
open Go Go.Pc
end Go.Proofs.Ytgomfjhhfmhlgaa

/-
  Walks: the reference's CosetRepresentative.
  Conditions: what the arguments read as.
-/
namespace Go.Proofs.Ytgomfjhhfmhlgaa
open Go Go.Pc
end Go.Proofs.Ytgomfjhhfmhlgaa

/-
  Walks: the reference's closure under conjugation, its test of normality (l13Stable, l13Normal).
  Conditions: the tails at all levels are groups; the lists are those told.
-/
namespace Go.Proofs.Ytgomfjhhfmhlgaa
open Go Go.Pc
/-- One round: the elements, and their conjugates. -/
structure Rnd {p : Pr} [ConAll p] (os bs ls : List (El p)) (i j : Nat) : Prop where
  mem : ∀ a, a ∈ ls → a ∈ os ∨ ∃ o, o ∈ os ∧ ∃ b, b ∈ bs ∧ a = Grp.cj o b
  old : ∀ o, o ∈ os → o ∈ ls
  rows : ∀ i' (h : i' < bs.length), i' < i → ∀ o, o ∈ os → Grp.cj o bs[i'] ∈ ls
  part : ∀ (h : i < bs.length) j' (h' : j' < os.length), j' < j → Grp.cj os[j'] bs[i] ∈ ls
  len : ls.length ≤ 6 + i * 6 + j
theorem Rnd.step {p : Pr} [ConAll p] {os bs ls : List (El p)} {i j : Nat} (h : Rnd os bs ls i j) (hi : i < bs.length) (hj : j < os.length) : Rnd os bs (ls ++ [Grp.cj os[j] bs[i]]) i (j + 1) where
  mem a ha := by
    rcases List.mem_append.1 ha with ha | ha
    · exact h.mem a ha
    · exact .inr ⟨_, List.getElem_mem hj, _, List.getElem_mem hi, List.mem_singleton.1 ha⟩
  old o ho := List.mem_append_left _ (h.old o ho)
  rows i' h1 h2 o ho := List.mem_append_left _ (h.rows i' h1 h2 o ho)
  part h1 j' h2 h3 := by
    by_cases e : j' = j
    · subst e; simp
    · exact List.mem_append_left _ (h.part h1 j' h2 (by omega))
  len := by have := h.len; simp only [List.length_append, List.length_singleton]; omega
theorem Rnd.next {p : Pr} [ConAll p] {os bs ls : List (El p)} {i : Nat} (h : Rnd os bs ls i os.length) (hi : i < bs.length) (h6 : os.length ≤ 6) : Rnd os bs ls (i + 1) 0 where
  mem := h.mem
  old := h.old
  rows i' h1 h2 o ho := by
    by_cases e : i' = i
    · subst e
      obtain ⟨j, hj, rfl⟩ := List.getElem_of_mem ho
      exact h.part h1 j hj hj
    · exact h.rows i' h1 (by omega) o ho
  part h1 j' h2 h3 := absurd h3 (Nat.not_lt_zero _)
  len := by have := h.len; omega
theorem vecs_append {p : Pr} (l m : List (El p)) : vecs (l ++ m) = vecs l ++ vecs m := by simp [vecs]
theorem gen_le_gen {p : Pr} [ConAll p] {l m : List (El p)} (h : ∀ a, a ∈ l → Gen (fun a : El p => a ∈ m) a) : ∀ a, Gen (fun a : El p => a ∈ l) a → Gen (fun a : El p => a ∈ m) a := Gen.le (Gen.sub _) h
set_option maxHeartbeats 2000000 in
theorem l13Stable_ok {p : Pr} [hc : ConAll p] {ys bs : List (El p)} (hs : SeqEl ys) (hbl : bs.length ≤ 1000) {w : World} {vp vu vb : Value} {us ub : List Value} {xss yss : List (List Int)} {lo hi lo1 hi1 lo2 hi2 : Nat} [hp : Pres lo hi w vp p] [hu : Pc.Rows lo1 hi1 w vu us xss] [hb : Pc.Rows lo2 hi2 w vb ub yss] (hus : xss = vecs ys) (hbs : yss = vecs bs) :
    Calls Try.prog 136 #[vp, vu, vb] w (Ret fun v w' => Ext w w' ∧ ∃ us', Pc.Rows w.heap.size w'.heap.size w' v us' (canon (Clo (fun a : El p => a ∈ ys) (fun a : El p => a ∈ bs)))) := by
  subst hus hbs
  have hv := hc.valid
  have hn6 := hv.n6
  have hbvl : (vecs bs).length = bs.length := by simp
  replace hp := hp.wide
  replace hu := hu.wide
  replace hb := hb.wide
  obtain ⟨vo, vpw, vc, ps, cs, css, rfl, h1, h2, h3⟩ := hp.ex
  refine enter (args := [.agg #[vo, vpw, vc], vu, vb]) (l := [.tmp 6]) Try.func136 rfl rfl Try.ntmps136 (by simp) ?_
  refine go ?_
  refine st_box3 (by ((try simp only [ev_tmp, ev_const, ev_func, get_put, get_args, get_putL, get_putL_nil, Nat.reduceEqDiff, reduceIte, List.getD_cons_zero, List.getD_cons_succ, List.getD_nil]); first | done | with_reducible rfl)) (by first | exact True.intro | exact ⟨_, rfl, by ((try simp only [ev_tmp, ev_const, ev_func, get_put, get_args, get_putL, get_putL_nil, Nat.reduceEqDiff, reduceIte, List.getD_cons_zero, List.getD_cons_succ, List.getD_nil, Bool.not_true, Bool.not_false]); first | done | with_reducible rfl)⟩) fun w1 b he1 hb1 hs1 hc0 hc1 hc2 => ?_
  have hz1 := he1.size
  have hu1 : Pc.Rows 0 w1.heap.size w1 vu us (vecs ys) := Pc.Rows.wide inferInstance
  refine go ?_
  refine r_loop (fun m ρ w' => ∃ vo' uo os, Has ρ [(2, vb), (3, .pointer (some ⟨b, 0, none⟩)), (7, vo')] ∧ Ext w1 w' ∧ Pc.Rows 0 w'.heap.size w' vo' uo (vecs os) ∧ SeqEl os ∧ (∀ y, y ∈ ys → Gen (fun a : El p => a ∈ os) y) ∧ (∀ o, o ∈ os → Clo (fun a : El p => a ∈ ys) (fun a : El p => a ∈ bs) o) ∧ m = p.n - os.length) (p.n - ys.length) ?_ ?_
  · refine ⟨vu, us, ys, ?_, Ext.refl _, hu1, hs, fun y hy => .of y hy, fun y hy => .of y hy, rfl⟩
    exact hasP
  clear hu1
  rintro m ρ w2 ⟨vo', uo, os, hH, he2, hR2, hso, hyo, hoc, hm⟩
  refine rwp_has hH fun ρ0 => ?_
  have hz2 := he2.size
  have hol := hso.len
  have hovl : (vecs os).length = os.length := by simp
  have hE2 := he1.trans he2
  refine go ?_
  refine rc (l01Own2G_ok (xss := vecs os) (fun i => ?_) ?_) (next := fun v3 w3 h4 => ?_)
  · have := vecs_len os i; omega
  · omega
  obtain ⟨he3, rs3, hG3, hrs3⟩ := h4
  refine go ?_
  refine r_for bs.length (fun i ρ w' => ∃ vl rs ls, Has ρ [(2, vb), (3, .pointer (some ⟨b, 0, none⟩)), (7, vo'), (8, vl), (9, .int .i64 i)] ∧ Ext w2 w' ∧ GrowL 22 w2.heap.size w' vl rs ∧ rs.map (·.2) = vecs ls ∧ Rnd os bs ls i 0) ?_ ?_
  · refine ⟨v3, rs3, os, ?_, he3, hG3, hrs3, ⟨fun a ha => .inl ha, fun o ho => ho, fun i' _ h => absurd h (Nat.not_lt_zero _), fun _ j' _ h => absurd h (Nat.not_lt_zero _), by omega⟩⟩
    exact hasP
  clear hG3 hrs3 he3
  rintro i ρ w4 hi ⟨vl, rs, ls, hH4, he4, hG4, hrs4, hK4⟩
  refine rwp_has hH4 fun ρ1 => ?_
  have hz4 := he4.size
  refine go ?_
  refine c_if (fun h4 => ?_) (fun h4 => ?_)
  · have hin : i < bs.length := by omega
    refine go ?_
    refine r_for os.length (fun j ρ w' => ∃ vl rs ls, Has ρ [(2, vb), (3, .pointer (some ⟨b, 0, none⟩)), (7, vo'), (8, vl), (9, .int .i64 i), (10, .int .i64 j)] ∧ Ext w2 w' ∧ GrowL 22 w2.heap.size w' vl rs ∧ rs.map (·.2) = vecs ls ∧ Rnd os bs ls i j) ?_ ?_
    · refine ⟨vl, rs, ls, ?_, he4, hG4, hrs4, hK4⟩
      exact hasP
    clear hG4 hrs4 he4 hK4
    rintro j ρ w5 hj ⟨vl, rs, ls, hH5, he5, hG5, hrs5, hK5⟩
    refine rwp_has hH5 fun ρ2 => ?_
    have hz5 := he5.size
    have hrl : rs.length = ls.length := by have := congrArg List.length hrs5; simpa using this
    have hll := hK5.len
    refine go ?_
    refine c_if (fun h5 => ?_) (fun h5 => ?_)
    · have hjn : j < os.length := by omega
      have hg1 := vecs_getD os hjn
      have hg2 := vecs_getD bs hin
      have hE5 := hE2.trans he5
      obtain ⟨b', hb', hvb'⟩ := own_some' vl w2.heap.size w5.heap.size (by omega) (fun g h => (hG5.lst.lt h).1)
      have ap1 : Apart 0 w.heap.size b' := ⟨.inr (by omega)⟩
      have ap2 : Apart b (b + 1) b' := ⟨.inr (by omega)⟩
      have ap3 : Apart 0 w2.heap.size b' := ⟨.inr (by omega)⟩
      refine go ?_
      refine z_order b' (List.range 14) (h := fun w6 he6 _ => ?_)
      refine zgo ?_
      refine zc (l10Conj_ok (p := p) (x := os[j]) (y := bs[i]) hg1 hg2) (next := fun v7 w7 h7 => ?_)
      obtain ⟨he7, hf7⟩ := h7
      refine z_grow (hG5.ext he6) he7 hf7 (by have := he6.size; omega) (by omega) hvb' (next := fun v8 v9 w9 hG9 hx9 hz9 hgs9 => ?_)
      refine zgo ?_
      refine z_end ?_
      refine go ?_
      refine forQ_normal (by omega) ⟨v9, _, ls ++ [Grp.cj os[j] bs[i]], ?_, hx9 w2 ((he5.trans he6).trans he7) (Nat.le_refl _), hG9, ?_, hK5.step hin hjn⟩
      · exact hasP
      · rw [vecs_append, List.map_append, hrs5]; rfl
    · obtain rfl : j = os.length := by omega
      refine go ?_
      refine forQ_normal (by omega) ⟨vl, rs, ls, ?_, he5, hG5, hrs5, hK5.next hin (by omega)⟩
      exact hasP
  · obtain rfl : i = bs.length := by omega
    have hR4 := hG4.rows
    have hll := hK4.len
    have hE4 := hE2.trans he4
    refine go ?_
    refine rc (l12Close_ok (p := p) (ys := ls) hrs4 ?_) (next := fun v5 w5 h5 => ?_)
    · omega
    obtain ⟨he5, us5, hL5⟩ := h5
    have hN5 := hL5.newRows
    have hE5 := hE4.trans he5
    have hz5 := he5.size
    have hSL := Gen.sub (fun a : El p => a ∈ ls)
    have hSO := Gen.sub (fun a : El p => a ∈ os)
    have hSC := Clo.sub (fun a : El p => a ∈ ys) (fun a : El p => a ∈ bs)
    have hOL : ∀ a, Gen (fun a : El p => a ∈ os) a → Gen (fun a : El p => a ∈ ls) a := gen_le_gen fun a ha => .of a (hK4.old a ha)
    have hLC : ∀ a, Gen (fun a : El p => a ∈ ls) a → Clo (fun a : El p => a ∈ ys) (fun a : El p => a ∈ bs) a := Gen.le hSC fun a ha => by
      rcases hK4.mem a ha with h | ⟨o, ho, b, hb, rfl⟩
      · exact hoc a h
      · exact .cj _ _ (hoc o ho) hb
    have hcl : (canon (Gen (fun a : El p => a ∈ ls))).length = (canEls (Gen (fun a : El p => a ∈ ls))).length := by rw [canon_vecs]; simp
    have hle := can_len_le hSO hSL hOL
    rw [hso.els] at hle
    have hln := (seqEl_can hSL).len
    refine go ?_
    refine c_if (fun h6 => ?_) (fun h6 => ?_)
    · have hlen : (canEls (Gen (fun a : El p => a ∈ ls))).length ≤ os.length := by omega
      have hsame := same_of_len hSO hSL hOL (by rw [hso.els]; exact hlen)
      have hCO : ∀ a, Clo (fun a : El p => a ∈ ys) (fun a : El p => a ∈ bs) a → Gen (fun a : El p => a ∈ os) a :=
        Clo.le hSO (fun y hy => hyo y hy) fun a b ha hb => Gen.cj_closed hSO (fun o ho => hsame _ (.of _ (by
          obtain ⟨i', hi', rfl⟩ := List.getElem_of_mem hb
          exact hK4.rows i' hi' hi' o ho))) a ha
      have hfun : Gen (fun a : El p => a ∈ ls) = Clo (fun a : El p => a ∈ ys) (fun a : El p => a ∈ bs) := by
        funext a; exact propext ⟨hLC a, fun h => hOL a (hCO a h)⟩
      refine go ?_
      refine ret1 ⟨hE5, us5, ?_⟩
      rw [← hfun]
      exact hN5.mono (by omega) (Nat.le_refl _)
    · refine go ?_
      have hR5 := hN5.mono (Nat.zero_le _) (Nat.le_refl _)
      refine loopQ_normal ?_ ⟨v5, us5, canEls (Gen (fun a : El p => a ∈ ls)), ?_, (he2.trans he4).trans he5, ?_, seqEl_can hSL, fun y hy => ?_, fun o ho => ?_, rfl⟩
      · omega
      · exact hasP
      · rw [← canon_vecs]; exact hR5
      · rw [gen_can_eq hSL]; exact hOL y (hyo y hy)
      · obtain ⟨d, _, h7⟩ := canEls_mem.1 ho
        exact hLC _ (canT_some h7).mem
end Go.Proofs.Ytgomfjhhfmhlgaa

/-
  Walks: the reference's GeneratedSubgroup, ConjugateSubgroup, IsNormalSubgroup, SubgroupIndex, SubgroupDepths.
  Conditions: what the arguments read as.
-/
namespace Go.Proofs.Ytgomfjhhfmhlgaa
open Go Go.Pc
theorem els_inR {p : Pr} {xss : List (List Int)} (h : ∀ i, i < xss.length → InR p (xss.getD i [])) : ∃ ys : List (El p), xss = vecs ys := els_of h
theorem ordOf_pos {p : Pr} [hc : ConAll p] {ys : List (El p)} (hs : SeqEl ys) : 1 ≤ ordOf p ys ∧ ordOf p ys ≤ 117649 := by
  have h := ordOf_rng (ys := ys) (k := ys.length) (by have := hs.len; have := hc.valid.n6; omega) (Nat.le_refl _) fun y hy => (hs.ok.lead1 y hy).1
  rwa [List.take_length] at h
end Go.Proofs.Ytgomfjhhfmhlgaa

/-
  Walks: the reference's commutator subgroup; SubgroupJoin, NormalClosure, CommutatorSubgroup.
  Conditions: stated at each theorem.
-/
namespace Go.Proofs.Ytgomfjhhfmhlgaa
open Go Go.Pc
theorem rows_oneW {lo hi : Nat} {w : World} {v : Value} {us : List Value} {xss : List (List Int)} (h : Pc.Rows lo hi w v us xss) : ∀ u ∈ us, u.oneCell' = true := by
  intro u hu
  obtain ⟨i, hi, rfl⟩ := List.getElem_of_mem hu
  have := (h.vals.at_ i).sl.one
  rwa [show us.getD i nilv = us[i] by simp [hi]] at this
set_option maxHeartbeats 2000000 in
theorem l13Comm_ok {p : Pr} [hc : ConAll p] {ys zs : List (El p)} (hyl : ys.length ≤ 100) (hzl : zs.length ≤ 100) {w : World} {vp vu vv : Value} {us vs : List Value} {xss yss : List (List Int)} {lo hi lo1 hi1 lo2 hi2 : Nat} [hp : Pres lo hi w vp p] [hu : Pc.Rows lo1 hi1 w vu us xss] [hv : Pc.Rows lo2 hi2 w vv vs yss] (hus : xss = vecs ys) (hvs : yss = vecs zs) :
    Calls Try.prog 96 #[vp, vu, vv] w (Ret fun v w' => Ext w w' ∧ ∃ us', Pc.Rows w.heap.size w'.heap.size w' v us' (canon (CommC ys zs))) := by
  subst hus hvs
  have hn6 := hc.valid.n6
  have hyv : (vecs ys).length = ys.length := by simp
  have hzv : (vecs zs).length = zs.length := by simp
  replace hp := hp.wide
  replace hu := hu.wide
  replace hv := hv.wide
  have hvl := hv.vals.len
  obtain ⟨vo, vpw, vc, ps, cs, css, rfl, h1, h2, h3⟩ := hp.ex
  refine enter (args := [.agg #[vo, vpw, vc], vu, vv]) (l := [.tmp 6]) Try.func96 rfl rfl Try.ntmps96 (by simp) ?_
  refine go ?_
  refine st_box3 (by ((try simp only [ev_tmp, ev_const, ev_func, get_put, get_args, get_putL, get_putL_nil, Nat.reduceEqDiff, reduceIte, List.getD_cons_zero, List.getD_cons_succ, List.getD_nil]); first | done | with_reducible rfl)) (by first | exact True.intro | exact ⟨_, rfl, by ((try simp only [ev_tmp, ev_const, ev_func, get_put, get_args, get_putL, get_putL_nil, Nat.reduceEqDiff, reduceIte, List.getD_cons_zero, List.getD_cons_succ, List.getD_nil, Bool.not_true, Bool.not_false]); first | done | with_reducible rfl)⟩) fun w1 b he1 hb1 hs1 hc0 hc1 hc2 => ?_
  refine go ?_
  refine st_slice0 (by first | exact True.intro | exact ⟨_, rfl, by ((try simp only [ev_tmp, ev_const, ev_func, get_put, get_args, get_putL, get_putL_nil, Nat.reduceEqDiff, reduceIte, List.getD_cons_zero, List.getD_cons_succ, List.getD_nil, Bool.not_true, Bool.not_false]); first | done | with_reducible rfl)⟩) fun w0 v0 he0 hs0 ho0 => ?_
  have hz1 := he1.size
  refine go ?_
  refine r_for ys.length (fun i ρ w' => ∃ vl rs, Has ρ [(1, vu), (2, vv), (3, .pointer (some ⟨b, 0, none⟩)), (7, vl), (8, .int .i64 i)] ∧ Ext w1 w' ∧ GrowL 22 w1.heap.size w' vl rs ∧ rs.map (·.2) = vecs (commsL2 (ys.take i) zs) ∧ rs.length ≤ 1000 * i) ?_ ?_
  · refine ⟨v0, [], ?_, he0, GrowL.start ho0 (Nat.le_refl _), by simp [commsL2], by simp⟩
    exact hasP
  clear ho0
  rintro i ρ w2 hi ⟨vl, rs, hH, he2, hG2, hrs2, hl2⟩
  refine rwp_has hH fun ρ0 => ?_
  refine go ?_
  refine c_if (fun h4 => ?_) (fun h4 => ?_)
  · have hin : i < ys.length := by omega
    have hg1 := vecs_getD ys hin
    refine go ?_
    refine r_for zs.length (fun j ρ w' => ∃ vl rs, Has ρ [(1, vu), (2, vv), (3, .pointer (some ⟨b, 0, none⟩)), (7, vl), (8, .int .i64 i), (9, .int .i64 j)] ∧ Ext w1 w' ∧ GrowL 22 w1.heap.size w' vl rs ∧ rs.map (·.2) = vecs (commsL2 (ys.take i) zs ++ (zs.take j).map (Grp.cm ys[i])) ∧ rs.length ≤ 1000 * i + j) ?_ ?_
    · refine ⟨vl, rs, ?_, he2, hG2, by simpa using hrs2, by omega⟩
      exact hasP
    clear he2 hG2 hrs2 hl2
    rintro j ρ w3 hj ⟨vl, rs, hH3, he3, hG3, hrs3, hl3⟩
    refine rwp_has hH3 fun ρ1 => ?_
    have hz3 := he3.size
    have hE3 := he1.trans he3
    refine go ?_
    refine c_if (fun h5 => ?_) (fun h5 => ?_)
    · have hjn : j < zs.length := by omega
      have hg2 := vecs_getD zs hjn
      obtain ⟨b', hb', hvb'⟩ := own_some' vl w1.heap.size w3.heap.size (by omega) (fun g h => (hG3.lst.lt h).1)
      have ap1 : Apart 0 w.heap.size b' := ⟨.inr (by omega)⟩
      have ap2 : Apart b (b + 1) b' := ⟨.inr (by omega)⟩
      refine go ?_
      refine z_order b' (List.range 14) (h := fun w4 he4 _ => ?_)
      refine zgo ?_
      refine zc (l10Comm_ok (p := p) (x := ys[i]) (y := zs[j]) hg1 hg2) (next := fun v5 w5 h6 => ?_)
      obtain ⟨he5, hf5⟩ := h6
      refine z_grow (hG3.ext he4) he5 hf5 (by have := he4.size; omega) (by omega) hvb' (next := fun v6 v7 w7 hG7 hx7 hz7 hgs7 => ?_)
      refine zgo ?_
      refine z_end ?_
      refine go ?_
      refine forQ_normal (by omega) ⟨v7, _, ?_, hx7 w1 ((he3.trans he4).trans he5) (Nat.le_refl _), hG7, ?_, ?_⟩
      · exact hasP
      · rw [List.take_succ_eq_append_getElem hjn]
        simp only [List.map_append, List.map_cons, List.map_nil, hrs3, vecs, List.append_assoc]
      · simp only [List.length_append, List.length_singleton]; omega
    · obtain rfl : j = zs.length := by omega
      rw [List.take_length, ← commsL2_succ hin] at hrs3
      refine go ?_
      refine forQ_normal (by omega) ⟨vl, rs, ?_, he3, hG3, hrs3, by omega⟩
      exact hasP
  · obtain rfl : i = ys.length := by omega
    rw [List.take_length] at hrs2
    have hz2 := he2.size
    have hE2 := he1.trans he2
    have hll : (commsL2 ys zs).length ≤ 100000 := by
      have := congrArg List.length hrs2
      simp at this
      omega
    have hRl := hG2.rows
    refine go ?_
    refine d_order [0, 1, 2, 4, 6, 3, 5, 7, 8, 9] (h := fun w3 he3 _ => ?_)
    refine dgo ?_
    refine dce (l12Close_ok (p := p) (ys := commsL2 ys zs) hrs2 (by omega)) (next := fun v4 w4 h5 => ?_)
    obtain ⟨he4, us4, hL4⟩ := h5
    have hE4 := (hE2.trans he3).trans he4
    refine dce (l01Own2G_ok (xss := vecs ys) (fun i => ?_) ?_) (next := fun v5 w5 h6 => ?_)
    · have := vecs_len ys i; omega
    · omega
    obtain ⟨he5, rs5, hG5, hrs5⟩ := h6
    have hz3 := he3.size
    have hz4 := he4.size
    have hz5 := he5.size
    have hO5 := hG5.lst.own
    have hv5 : Pc.Rows 0 w.heap.size w5 vv vs (vecs zs) := hv.same ((hE4.trans he5).same _ _)
    have hsl5 := hv5.sl
    have hr5l : rs5.length = ys.length := by have := congrArg List.length hrs5; simpa using this
    refine d_append (hv := hO5) (hy := hsl5) (hs := (by ((try simp only [ev_tmp, ev_const, ev_func, get_put, get_args, get_putL, get_putL_nil, Nat.reduceEqDiff, reduceIte, List.getD_cons_zero, List.getD_cons_succ, List.getD_nil]); first | done | with_reducible rfl))) (hx := (by ((try simp only [ev_tmp, ev_const, ev_func, get_put, get_args, get_putL, get_putL_nil, Nat.reduceEqDiff, reduceIte, List.getD_cons_zero, List.getD_cons_succ, List.getD_nil]); first | done | with_reducible rfl))) (hz := rfl) (h1 := rows_oneW hv5) (hb := ?_) (hl := ?_) (hbase := ?_) (hvb := fun g hg => ?_) (next := fun v6 w6 ho6 hg6 ha6 => ?_)
    · simp only [List.length_map]; omega
    · simp only [List.length_map, maxLen]; omega
    · omega
    · have := (hG5.lst.lt hg).1; omega
    have hL6 := (hG5.lst.weak (av' := fun _ => False) (fun _ h => h.elim) (fun _ _ h => h) (fun _ h => h.elim)).pushs (hv5.ap (av := fun g => False ∨ v5.ownBlock = some g) (by have := hE4.size; omega) (fun g hg => .inr (by
      rcases hg with hg | hg
      · exact hg.elim
      · have := (hG5.lst.lt hg).1; have := hE4.size; omega))) ho6 hg6 ha6
    have hx46 : Ext w4 w6 := he5.app hg6 (fun k hk => (hG5.lst.lt hk).1)
    have hE6 := hE4.trans hx46
    have hR6 := hL6.toRows
    have hN4 := hL4.newRows
    have hR46 : Pc.Rows w3.heap.size w4.heap.size w6 v4 us4 (vecs (canEls (Gen (fun a : El p => a ∈ commsL2 ys zs)))) := by
      rw [← canon_vecs]; exact hN4.same (hx46.same _ _)
    clear hO5 hv5 hsl5 hN4
    refine dce (l13Stable_ok (p := p) (ys := canEls (Gen (fun a : El p => a ∈ commsL2 ys zs))) (bs := ys ++ zs) (seqEl_can (Gen.sub _)) (by simp; omega) rfl ?_) (next := fun v7 w7 h8 => ?_)
    · rw [hrs5]; simp [vecs]
    obtain ⟨he7, us7, hR7⟩ := h8
    rw [clo_can] at hR7
    refine dgo ?_
    refine d_end (h := ?_)
    refine go ?_
    exact ret1 ⟨hE6.trans he7, us7, hR7.mono hE6.size (Nat.le_refl _)⟩
end Go.Proofs.Ytgomfjhhfmhlgaa

/-
  Walks: the reference's derived and lower central series; NilpotencyClass.
  Conditions: stated at each theorem.
-/
namespace Go.Proofs.Ytgomfjhhfmhlgaa
open Go Go.Pc
theorem _root_.Go.Pc.Rowss.lower {lo lo' hi : Nat} {w : World} {v : Value} {us : List Value} {uss : List (List Value)} {xsss : List (List (List Int))} (h : Rowss lo hi w v us uss xsss) (hs : lo' ≤ lo) : Rowss lo' hi w v us uss xsss :=
  ⟨h.sl.mono hs (Nat.le_refl _), h.vals.len, h.vals.len', fun i => (h.vals.at_ i).mono hs (Nat.le_refl _)⟩
set_option maxHeartbeats 4000000 in
theorem l17Lower_ok {p : Pr} [hc : ConAll p] {w : World} {vp : Value} {lo hi : Nat} [hp : Pres lo hi w vp p] :
    Calls Try.prog 62 #[vp] w (Ret fun v w' => Ext w w' ∧ ∃ K us uss, SerR (lowF (p := p)) (gensL p) K ∧ Rowss w.heap.size w'.heap.size w' v us uss ((List.range (K + 1)).map fun j => vecs (itL (lowF (p := p)) (gensL p) j))) := by
  have hn6 := hc.valid.n6
  have hgl := gensL_len p
  have hS := serOk_low (p := p)
  obtain ⟨vo, vpw, vc, ps, cs, css, rfl, h1, h2, h3⟩ := hp.ex
  refine enter (args := [.agg #[vo, vpw, vc]]) (l := [.tmp 2]) Try.func62 rfl rfl Try.ntmps62 (by simp) ?_
  refine go ?_
  refine st_box3 (by ((try simp only [ev_tmp, ev_const, ev_func, get_put, get_args, get_putL, get_putL_nil, Nat.reduceEqDiff, reduceIte, List.getD_cons_zero, List.getD_cons_succ, List.getD_nil]); first | done | with_reducible rfl)) (by first | exact True.intro | exact ⟨_, rfl, by ((try simp only [ev_tmp, ev_const, ev_func, get_put, get_args, get_putL, get_putL_nil, Nat.reduceEqDiff, reduceIte, List.getD_cons_zero, List.getD_cons_succ, List.getD_nil, Bool.not_true, Bool.not_false]); first | done | with_reducible rfl)⟩) fun w0 b he0 hb0 hs0 hc0 hc1 hc2 => ?_
  have hz0 := he0.size
  refine go ?_
  refine rc (l12Whole_ok (p := p)) (next := fun v2 w2 h2 => ?_)
  obtain ⟨he2, us2, hR2⟩ := h2
  have hz2 := he2.size
  refine go ?_
  refine st_slice1o (u := v2) (by ((try simp only [ev_tmp, ev_const, ev_func, get_put, get_args, get_putL, get_putL_nil, Nat.reduceEqDiff, reduceIte, List.getD_cons_zero, List.getD_cons_succ, List.getD_nil]); first | done | with_reducible rfl)) ?_ ?_ (by first | exact True.intro | exact ⟨_, rfl, by ((try simp only [ev_tmp, ev_const, ev_func, get_put, get_args, get_putL, get_putL_nil, Nat.reduceEqDiff, reduceIte, List.getD_cons_zero, List.getD_cons_succ, List.getD_nil, Bool.not_true, Bool.not_false]); first | done | with_reducible rfl)⟩) fun w3 v3 he3 hs3 ho3 => ?_
  · exact hR2.sl.cells
  · rfl
  have hE2 := he0.trans he2
  have hG3 := GrowV.one (sb := w2.heap.size) (s := w0.heap.size) ho3 rfl (Nat.le_refl _) hR2 hz2 he3
  refine go ?_
  refine r_for p.n (fun j ρ w' => ∃ vl us uss, Has ρ [(1, .pointer (some ⟨b, 0, none⟩)), (3, v2), (4, vl)] ∧ Ext w2 w' ∧ GrowV 23 w2.heap.size w0.heap.size w' vl us uss ((List.range (j + 1)).map fun i => vecs (itL (lowF (p := p)) (gensL p) i)) ∧ ∀ i, i < j → itL (lowF (p := p)) (gensL p) (i + 1) ≠ itL (lowF (p := p)) (gensL p) i) ?_ ?_
  · refine ⟨v3, _, _, ?_, he3, hG3, fun i hi => by omega⟩
    exact hasP
  clear hG3
  rintro j ρ w4 hj ⟨vl, us, uss, hH, he4, hG4, hne⟩
  refine rwp_has hH fun ρ0 => ?_
  have hz4 := he4.size
  have hul : us.length = j + 1 := by have := hG4.len; simpa using this
  have hRs := hG4.rowss hz2 (by omega)
  have hix : ((List.range (j + 1)).map (fun i => vecs (itL (lowF (p := p)) (gensL p) i))).length - 1 = j := by simp
  have hlen : ((List.range (j + 1)).map (fun i => vecs (itL (lowF (p := p)) (gensL p) i))).length = j + 1 := by simp
  have hgj : ((List.range (j + 1)).map (fun i => vecs (itL (lowF (p := p)) (gensL p) i))).getD j [] = vecs (itL (lowF (p := p)) (gensL p) j) := by simp [List.getD_eq_getElem?_getD]
  have hsl := (hS.seq j).len
  have hE4 := hE2.trans he4
  have hRj : Pc.Rows w0.heap.size w4.heap.size w4 (Pc.rowAt vl us j) (uss.getD j []) (((List.range (j + 1)).map (fun i => vecs (itL (lowF (p := p)) (gensL p) i))).getD j []) := hRs.vals.at_ j
  have hvl : (vecs (itL (lowF (p := p)) (gensL p) j)).length = (itL (lowF (p := p)) (gensL p) j).length := by simp
  refine go ?_
  rw [hix]
  refine go ?_
  refine rc (l13Comm_ok (p := p) (ys := itL (lowF (p := p)) (gensL p) j) (zs := gensL p) (by omega) (by omega) hgj rfl) (next := fun v5 w5 h5 => ?_)
  obtain ⟨he5, us5, hR5⟩ := h5
  rw [lowF_vecs] at hR5
  have hz5 := he5.size
  have hRj5 : Pc.Rows w0.heap.size w4.heap.size w5 (Pc.rowAt vl us j) (uss.getD j []) (((List.range (j + 1)).map (fun i => vecs (itL (lowF (p := p)) (gensL p) i))).getD j []) := hRj.same (he5.same _ _)
  have hlen5 : Len w5 v5 (itL (lowF (p := p)) (gensL p) (j + 1)).length := by
    have h5 : Len w5 v5 (vecs (lowF (itL (lowF (p := p)) (gensL p) j))).length := inferInstance
    simpa [itL] using h5
  have hlenj : Len w5 (Pc.rowAt vl us j) (itL (lowF (p := p)) (gensL p) j).length := by
    have h5 : Len w5 (Pc.rowAt vl us j) (((List.range (j + 1)).map (fun i => vecs (itL (lowF (p := p)) (gensL p) i))).getD j []).length := inferInstance
    rw [hgj] at h5
    simpa using h5
  have hsl1 := (hS.seq (j + 1)).len
  refine go ?_
  refine c_if (fun h6 => ?_) (fun h6 => ?_)
  · have heq := (hS.eqv j).1 (by omega)
    refine go ?_
    exact ret1 ⟨hE4.trans he5, j, us, uss, ⟨heq, hne⟩, ((hG4.ext he5).rowss hz2 (by omega)).lower hz0⟩
  · have hnej : itL (lowF (p := p)) (gensL p) (j + 1) ≠ itL (lowF (p := p)) (gensL p) j := fun h => h6 (by rw [h])
    have hne' : ∀ i, i < j + 1 → itL (lowF (p := p)) (gensL p) (i + 1) ≠ itL (lowF (p := p)) (gensL p) i := fun i hi => by
      by_cases e : i = j
      · subst e; exact hnej
      · exact hne i (by omega)
    have hjn := hS.bd (j + 1) hne'
    clear hRs hRj hRj5
    refine go ?_
    refine st_growv hG4 he5 hR5 (by omega) hz4 (by omega) (next := fun v6 v7 w7 wm hG7 hx7 hz7 hxm hgm hvm => ?_)
    refine go ?_
    refine forQ_normal (by omega) ⟨v7, us ++ [v5], uss ++ [us5], ?_, hx7 w2 (he4.trans he5) (Nat.le_refl _), ?_, hne'⟩
    · exact hasP
    · rw [List.range_succ, List.map_append]; exact hG7
set_option maxHeartbeats 4000000 in
theorem l17Derived_ok {p : Pr} [hc : ConAll p] {w : World} {vp : Value} {lo hi : Nat} [hp : Pres lo hi w vp p] :
    Calls Try.prog 57 #[vp] w (Ret fun v w' => Ext w w' ∧ ∃ K us uss, SerR (derF (p := p)) (gensL p) K ∧ Rowss w.heap.size w'.heap.size w' v us uss ((List.range (K + 1)).map fun j => vecs (itL (derF (p := p)) (gensL p) j))) := by
  have hn6 := hc.valid.n6
  have hgl := gensL_len p
  have hS := serOk_der (p := p)
  obtain ⟨vo, vpw, vc, ps, cs, css, rfl, h1, h2, h3⟩ := hp.ex
  refine enter (args := [.agg #[vo, vpw, vc]]) (l := [.tmp 2]) Try.func57 rfl rfl Try.ntmps57 (by simp) ?_
  refine go ?_
  refine st_box3 (by ((try simp only [ev_tmp, ev_const, ev_func, get_put, get_args, get_putL, get_putL_nil, Nat.reduceEqDiff, reduceIte, List.getD_cons_zero, List.getD_cons_succ, List.getD_nil]); first | done | with_reducible rfl)) (by first | exact True.intro | exact ⟨_, rfl, by ((try simp only [ev_tmp, ev_const, ev_func, get_put, get_args, get_putL, get_putL_nil, Nat.reduceEqDiff, reduceIte, List.getD_cons_zero, List.getD_cons_succ, List.getD_nil, Bool.not_true, Bool.not_false]); first | done | with_reducible rfl)⟩) fun w0 b he0 hb0 hs0 hc0 hc1 hc2 => ?_
  have hz0 := he0.size
  refine go ?_
  refine rc (l12Whole_ok (p := p)) (next := fun v2 w2 h2 => ?_)
  obtain ⟨he2, us2, hR2⟩ := h2
  have hz2 := he2.size
  refine go ?_
  refine st_slice1o (u := v2) (by ((try simp only [ev_tmp, ev_const, ev_func, get_put, get_args, get_putL, get_putL_nil, Nat.reduceEqDiff, reduceIte, List.getD_cons_zero, List.getD_cons_succ, List.getD_nil]); first | done | with_reducible rfl)) ?_ ?_ (by first | exact True.intro | exact ⟨_, rfl, by ((try simp only [ev_tmp, ev_const, ev_func, get_put, get_args, get_putL, get_putL_nil, Nat.reduceEqDiff, reduceIte, List.getD_cons_zero, List.getD_cons_succ, List.getD_nil, Bool.not_true, Bool.not_false]); first | done | with_reducible rfl)⟩) fun w3 v3 he3 hs3 ho3 => ?_
  · exact hR2.sl.cells
  · rfl
  have hE2 := he0.trans he2
  have hG3 := GrowV.one (sb := w2.heap.size) (s := w0.heap.size) ho3 rfl (Nat.le_refl _) hR2 hz2 he3
  refine go ?_
  refine r_for p.n (fun j ρ w' => ∃ vl us uss, Has ρ [(1, .pointer (some ⟨b, 0, none⟩)), (3, vl)] ∧ Ext w2 w' ∧ GrowV 23 w2.heap.size w0.heap.size w' vl us uss ((List.range (j + 1)).map fun i => vecs (itL (derF (p := p)) (gensL p) i)) ∧ ∀ i, i < j → itL (derF (p := p)) (gensL p) (i + 1) ≠ itL (derF (p := p)) (gensL p) i) ?_ ?_
  · refine ⟨v3, _, _, ?_, he3, hG3, fun i hi => by omega⟩
    exact hasP
  clear hG3
  rintro j ρ w4 hj ⟨vl, us, uss, hH, he4, hG4, hne⟩
  refine rwp_has hH fun ρ0 => ?_
  have hz4 := he4.size
  have hul : us.length = j + 1 := by have := hG4.len; simpa using this
  have hRs := hG4.rowss hz2 (by omega)
  have hix : ((List.range (j + 1)).map (fun i => vecs (itL (derF (p := p)) (gensL p) i))).length - 1 = j := by simp
  have hlen : ((List.range (j + 1)).map (fun i => vecs (itL (derF (p := p)) (gensL p) i))).length = j + 1 := by simp
  have hgj : ((List.range (j + 1)).map (fun i => vecs (itL (derF (p := p)) (gensL p) i))).getD j [] = vecs (itL (derF (p := p)) (gensL p) j) := by simp [List.getD_eq_getElem?_getD]
  have hsl := (hS.seq j).len
  have hE4 := hE2.trans he4
  have hRj : Pc.Rows w0.heap.size w4.heap.size w4 (Pc.rowAt vl us j) (uss.getD j []) (((List.range (j + 1)).map (fun i => vecs (itL (derF (p := p)) (gensL p) i))).getD j []) := hRs.vals.at_ j
  have hvl : (vecs (itL (derF (p := p)) (gensL p) j)).length = (itL (derF (p := p)) (gensL p) j).length := by simp
  refine go ?_
  rw [hix]
  refine go ?_
  refine rc (l13Comm_ok (p := p) (ys := itL (derF (p := p)) (gensL p) j) (zs := itL (derF (p := p)) (gensL p) j) (by omega) (by omega) hgj hgj) (next := fun v5 w5 h5 => ?_)
  obtain ⟨he5, us5, hR5⟩ := h5
  rw [derF_vecs] at hR5
  have hz5 := he5.size
  have hRj5 : Pc.Rows w0.heap.size w4.heap.size w5 (Pc.rowAt vl us j) (uss.getD j []) (((List.range (j + 1)).map (fun i => vecs (itL (derF (p := p)) (gensL p) i))).getD j []) := hRj.same (he5.same _ _)
  have hlen5 : Len w5 v5 (itL (derF (p := p)) (gensL p) (j + 1)).length := by
    have h5 : Len w5 v5 (vecs (derF (itL (derF (p := p)) (gensL p) j))).length := inferInstance
    simpa [itL] using h5
  have hlenj : Len w5 (Pc.rowAt vl us j) (itL (derF (p := p)) (gensL p) j).length := by
    have h5 : Len w5 (Pc.rowAt vl us j) (((List.range (j + 1)).map (fun i => vecs (itL (derF (p := p)) (gensL p) i))).getD j []).length := inferInstance
    rw [hgj] at h5
    simpa using h5
  have hsl1 := (hS.seq (j + 1)).len
  refine go ?_
  refine c_if (fun h6 => ?_) (fun h6 => ?_)
  · have heq := (hS.eqv j).1 (by omega)
    refine go ?_
    exact ret1 ⟨hE4.trans he5, j, us, uss, ⟨heq, hne⟩, ((hG4.ext he5).rowss hz2 (by omega)).lower hz0⟩
  · have hnej : itL (derF (p := p)) (gensL p) (j + 1) ≠ itL (derF (p := p)) (gensL p) j := fun h => h6 (by rw [h])
    have hne' : ∀ i, i < j + 1 → itL (derF (p := p)) (gensL p) (i + 1) ≠ itL (derF (p := p)) (gensL p) i := fun i hi => by
      by_cases e : i = j
      · subst e; exact hnej
      · exact hne i (by omega)
    have hjn := hS.bd (j + 1) hne'
    clear hRs hRj hRj5
    refine go ?_
    refine st_growv hG4 he5 hR5 (by omega) hz4 (by omega) (next := fun v6 v7 w7 wm hG7 hx7 hz7 hxm hgm hvm => ?_)
    refine go ?_
    refine forQ_normal (by omega) ⟨v7, us ++ [v5], uss ++ [us5], ?_, hx7 w2 (he4.trans he5) (Nat.le_refl _), ?_, hne'⟩
    · exact hasP
    · rw [List.range_succ, List.map_append]; exact hG7
set_option maxHeartbeats 1000000 in
theorem l17Class_ok {p : Pr} [hc : ConAll p] {w : World} {vp : Value} {lo hi : Nat} [hp : Pres lo hi w vp p] :
    Calls Try.prog 53 #[vp] w (Ret fun v w' => Ext w w' ∧ ∃ k : Int, v = .int .i64 k ∧ ∃ K, SerR (lowF (p := p)) (gensL p) K ∧ ((0 < (itL (lowF (p := p)) (gensL p) K).length ∧ k = -1) ∨ ((itL (lowF (p := p)) (gensL p) K).length = 0 ∧ k = K))) := by
  have hn6 := hc.valid.n6
  have hS := serOk_low (p := p)
  obtain ⟨vo, vpw, vc, ps, cs, css, rfl, h1, h2, h3⟩ := hp.ex
  refine enter (args := [.agg #[vo, vpw, vc]]) (l := [.tmp 2]) Try.func53 rfl rfl Try.ntmps53 (by simp) ?_
  refine go ?_
  refine st_box3 (by ((try simp only [ev_tmp, ev_const, ev_func, get_put, get_args, get_putL, get_putL_nil, Nat.reduceEqDiff, reduceIte, List.getD_cons_zero, List.getD_cons_succ, List.getD_nil]); first | done | with_reducible rfl)) (by first | exact True.intro | exact ⟨_, rfl, by ((try simp only [ev_tmp, ev_const, ev_func, get_put, get_args, get_putL, get_putL_nil, Nat.reduceEqDiff, reduceIte, List.getD_cons_zero, List.getD_cons_succ, List.getD_nil, Bool.not_true, Bool.not_false]); first | done | with_reducible rfl)⟩) fun w1 b he1 hb1 hs1 hc0 hc1 hc2 => ?_
  refine go ?_
  refine rc (l17Lower_ok (p := p)) (next := fun v2 w2 h4 => ?_)
  obtain ⟨he2, K, us, uss, hK, hR⟩ := h4
  have hKn := hS.bd K hK.2
  have hul := hR.vals.len
  have hlen : ((List.range (K + 1)).map (fun i => vecs (itL (lowF (p := p)) (gensL p) i))).length = K + 1 := by simp
  have hix : ((List.range (K + 1)).map (fun i => vecs (itL (lowF (p := p)) (gensL p) i))).length - 1 = K := by simp
  have hgj : ((List.range (K + 1)).map (fun i => vecs (itL (lowF (p := p)) (gensL p) i))).getD K [] = vecs (itL (lowF (p := p)) (gensL p) K) := by simp [List.getD_eq_getElem?_getD]
  have hRj : Pc.Rows w1.heap.size w2.heap.size w2 (Pc.rowAt v2 us K) (uss.getD K []) (((List.range (K + 1)).map (fun i => vecs (itL (lowF (p := p)) (gensL p) i))).getD K []) := hR.vals.at_ K
  have hlenK : Len w2 (Pc.rowAt v2 us K) (itL (lowF (p := p)) (gensL p) K).length := by
    have h5 : Len w2 (Pc.rowAt v2 us K) (((List.range (K + 1)).map (fun i => vecs (itL (lowF (p := p)) (gensL p) i))).getD K []).length := inferInstance
    rw [hgj] at h5
    simpa using h5
  have hsl := (hS.seq K).len
  have hgl : (((List.range (K + 1)).map (fun i => vecs (itL (lowF (p := p)) (gensL p) i))).getD K []).length = (itL (lowF (p := p)) (gensL p) K).length := by rw [hgj]; simp
  clear hRj
  refine go ?_
  rw [hix]
  refine go ?_
  refine c_if (fun h6 => ?_) (fun h6 => ?_)
  · refine go ?_
    exact ret1 ⟨he1.trans he2, -1, rfl, K, hK, .inl ⟨by omega, rfl⟩⟩
  · refine go ?_
    refine ret1 ⟨he1.trans he2, (((List.range (K + 1)).map (fun i => vecs (itL (lowF (p := p)) (gensL p) i))).length : Int) - 1, rfl, K, hK, .inr ⟨by omega, by rw [hlen]; omega⟩⟩
set_option maxHeartbeats 1000000 in
theorem spec_NilpotencyClass_ok {p : Pr} {w : World} {vp : Value} {lo hi : Nat} [hp : Pres lo hi w vp p] (hl : p.ord.length ≤ 2000000) :
    Calls Try.prog 13 #[vp] w (Ret fun v w' => ∃ (k e : Int), v = .tuple #[.int .i64 k, .int .i64 e] ∧ Ans (IsGrp p) (NcV p) 0 k e ∧ Ext w w') := by
  obtain ⟨vo, vpw, vc, ps, cs, css, rfl, h1, h2, h3⟩ := hp.ex
  refine enter (args := [.agg #[vo, vpw, vc]]) (l := [.tmp 2, .tmp 3]) Try.func13 rfl rfl Try.ntmps13 (by simp) ?_
  refine go ?_
  refine st_box3 (by ((try simp only [ev_tmp, ev_const, ev_func, get_put, get_args, get_putL, get_putL_nil, Nat.reduceEqDiff, reduceIte, List.getD_cons_zero, List.getD_cons_succ, List.getD_nil]); first | done | with_reducible rfl)) (by first | exact True.intro | exact ⟨_, rfl, by ((try simp only [ev_tmp, ev_const, ev_func, get_put, get_args, get_putL, get_putL_nil, Nat.reduceEqDiff, reduceIte, List.getD_cons_zero, List.getD_cons_succ, List.getD_nil, Bool.not_true, Bool.not_false]); first | done | with_reducible rfl)⟩) fun w1 b he1 hb1 hs1 hc0 hc1 hc2 => ?_
  refine go ?_
  refine rc (l08Group_ok (p := p) hl) (next := fun v5 w5 h5 => ?_)
  obtain ⟨b5, rfl, hb5, he5⟩ := h5
  have hE5 := he1.trans he5
  refine go ?_
  refine c_b (fun e5 => ?_) (fun e5 => ?_)
  · refine go ?_
    refine ret2 ⟨0, 1, rfl, .inr ⟨fun h => ?_, rfl, rfl⟩, hE5⟩
    rw [hb5.2 h] at e5; cases e5
  have hG := hb5.1 (by simpa using e5)
  haveI : ConAll p := ⟨hG.con⟩
  refine go ?_
  refine rc (l17Class_ok (p := p)) (next := fun v6 w6 h6 => ?_)
  obtain ⟨he6, k, rfl, K, hK, hk⟩ := h6
  have hE6 := hE5.trans he6
  refine go ?_
  refine c_if (fun h7 => ?_) (fun h7 => ?_)
  · refine go ?_
    rcases hk with ⟨h8, rfl⟩ | ⟨h8, rfl⟩
    · exact ret2 ⟨0, 4, rfl, .inl ⟨hG, inferInstance, K, hK, .inl ⟨h8, rfl, rfl⟩⟩, hE6⟩
    · omega
  · refine go ?_
    rcases hk with ⟨h8, rfl⟩ | ⟨h8, rfl⟩
    · omega
    · exact ret2 ⟨K, 0, rfl, .inl ⟨hG, inferInstance, K, hK, .inr ⟨h8, rfl, rfl⟩⟩, hE6⟩
end Go.Proofs.Ytgomfjhhfmhlgaa

/-
  More rules: function values that capture variables; variables of one cell.
  Conditions: none; nothing of the program stands here.
-/
namespace Go.Pc
open Go Go.RowKit
section
variable {P : Program} {N : Nat} {ops : Array Oper} {K : Env → World → Prop} {ρ : Env} {w : World} {l : List Oper}
variable {ty : TypeId} {pos : String} {after : Array Edge} {g : Option (Nat × Bool)} {d : Nat}
theorem cl_clo {f : FuncId} {x : Operand} {xs : Array Operand} {ats : Array TypeId} {args caps : Array Value} [hf : FnT P f] (hx : ev ρ x = .func (.func f) #[] caps) (ha : xs.map (ev ρ) ++ caps = args) :
    Cl P (.call { callee := .value x, args := xs, argTypes := ats }) ty ρ f args := by
  constructor; intro w _ _ _ _
  obtain ⟨fn, c, h1, h2, h3⟩ := hf.ex
  simp [execOp, resolve, hx, Deferred.ofValue, invoke, callFunc, h1, h2, h3, ha]
theorem rd_makeFunc {f : FuncId} {xs : Array Operand} {caps : Array Value} (h : xs.map (ev ρ) = caps) : Rd P (.makeFunc (.func f) #[] xs) ty ρ w (.func (.func f) #[] caps) := by
  constructor; intro _ _ _ _
  simp [execOp, Instr.makeFunc, h]
/-- A variable of one cell, of its zero value. -/
theorem st_alloc1 {t : TypeId} {bytes : Nat} {z : Value} [he : ElT P t 1 bytes z] (hz : z.cells = #[z]) (hg : Wants ops ρ g)
    (next : ∀ w' b, Ext w w' → b = w.heap.size → w'.heap.size = b + 1 → Blk w' b [z] → rops P N ops K l (put ρ d (.pointer (some ⟨b, 0, none⟩))) w') : rops P N ops K (⟨some d, .alloc t, ty, pos, after, g⟩ :: l) ρ w := by
  obtain ⟨i, hi, hs, hby, hz'⟩ := he.ex
  refine st_ex (v := .pointer (some ⟨w.heap.size, 0, none⟩)) (w' := w.alloc (.cells #[z] t)) hg ⟨fun _ _ _ _ => ?_⟩ (next _ _ (Ext.alloc _ _) rfl (by simp) (blk_alloc _ [z] _))
  simp [execOp, Instr.alloc, zeroValue, typeInfo, hi, hz', newVar, newRow, hz]
end
end Go.Pc

/-
  Walk: the program's check of a presentation (IsPresentation).
  Conditions: stated at each theorem.
-/
namespace Go.Proofs.Ytgomfjhhfmhlgaa
open Go Go.Pc
theorem foldl_mono : ∀ (l : List Int) (a : Int), (∀ o ∈ l, 1 ≤ o) → 1 ≤ a → a ≤ l.foldl (· * ·) a :=
  fun l a h ha => (capMul_foldl l a h ha).2.1
theorem prod_take {l : List Int} {k : Nat} (h : ∀ o ∈ l, 1 ≤ o) : 1 ≤ (l.take k).foldl (· * ·) 1 ∧ (l.take k).foldl (· * ·) 1 ≤ l.foldl (· * ·) 1 := by
  have h1 := foldl_mono (l.take k) 1 (fun o ho => h o (List.mem_of_mem_take ho)) (by omega)
  have h2 := foldl_mono (l.drop k) ((l.take k).foldl (· * ·) 1) (fun o ho => h o (List.mem_of_mem_drop ho)) h1
  rw [← List.foldl_append, List.take_append_drop] at h2
  exact ⟨h1, h2⟩
set_option maxHeartbeats 2000000 in
theorem impl_IsPresentation_ok {w : World} {v : Value} {p : Pr} {lo hi : Nat} [hp : Pres lo hi w v p] (hl : p.ord.length ≤ 2000000) :
    Calls Try.prog 92 #[v] w (Ret fun v' w' => ∃ b, v' = .bool b ∧ (b = true ↔ Valid p) ∧ Ext w w') := by
  have hol : p.ord.length = p.n := rfl
  obtain ⟨vo, vpw, vc, ps, cs, css, rfl, h1, h2, h3⟩ := hp.ex
  refine enter (args := [.agg #[vo, vpw, vc]]) (l := [.tmp 2]) Try.func92 rfl rfl Try.ntmps92 (by simp) ?_
  refine go ?_
  refine st_box3 (by ((try simp only [ev_tmp, ev_const, ev_func, get_put, get_args, get_putL, get_putL_nil, Nat.reduceEqDiff, reduceIte, List.getD_cons_zero, List.getD_cons_succ, List.getD_nil]); first | done | with_reducible rfl)) (by first | exact True.intro | exact ⟨_, rfl, by ((try simp only [ev_tmp, ev_const, ev_func, get_put, get_args, get_putL, get_putL_nil, Nat.reduceEqDiff, reduceIte, List.getD_cons_zero, List.getD_cons_succ, List.getD_nil, Bool.not_true, Bool.not_false]); first | done | with_reducible rfl)⟩) fun w1 b he1 hb1 hs1 hc0 hc1 hc2 => ?_
  have no : ∀ {w' : World}, ¬ Valid p → Ext w w' → ∃ b, Value.bool false = .bool b ∧ (b = true ↔ Valid p) ∧ Ext w w' := fun h he => ⟨_, rfl, by simp [h], he⟩
  have hpp := hp.boxed he1 hc0 hc1 hc2
  refine go ?_
  refine spd (fun hn => ?_) (fun hn => ?_)
  · refine go ?_
    exact ret1 (no (fun h => by have := h.n6; omega) he1)
  refine go ?_
  refine spd (fun hn2 => ?_) (fun hn2 => ?_)
  · refine go ?_
    exact ret1 (no (fun h => by have := h.lenw; omega) he1)
  refine go ?_
  refine c_if (fun hn3 => ?_) (fun hn3 => ?_)
  · refine go ?_
    exact ret1 (no (fun h => by have := h.lenc; omega) he1)
  refine go ?_
  refine r_for p.n (fun k ρ w' => Has ρ [(1, .pointer (some ⟨b, 0, none⟩)), (3, .int .i64 p.n), (4, .int .i64 ((p.ord.take k).foldl (· * ·) 1)), (30, vo), (31, .int .i64 p.n), (32, .int .i64 k)] ∧ Ext w1 w' ∧
    (p.ord.take k).foldl (· * ·) 1 ≤ 729 ∧ ∀ i, i < k → p.ord.getD i 0 = 2 ∨ p.ord.getD i 0 = 3 ∨ p.ord.getD i 0 = 5 ∨ p.ord.getD i 0 = 7) ?_ ?_
  · refine ⟨?_, Ext.refl _, by simp, fun i hi => by omega⟩
    exact hasP
  rintro k ρ w2 hk ⟨hH, he2, hpr, hpre⟩
  refine rwp_has hH fun ρ0 => ?_
  refine go ?_
  refine c_if (fun hk1 => ?_) (fun hk1 => ?_)
  · have hkn : k < p.n := by omega
    have hps : (p.ord.take (k + 1)).foldl (· * ·) 1 = (p.ord.take k).foldl (· * ·) 1 * p.ord.getD k 0 := foldl_take_succ _ _ _ _ _ hkn
    refine go ?_
    refine rc IsGroupPrime_ok (next := fun v3 w3 h3 => ?_)
    obtain ⟨b3, rfl, hb3, he3⟩ := h3
    refine go ?_
    refine sp (fun h4 => ?_) (fun h4 => ?_)
    · refine go ?_
      refine ret1 (no (fun h => ?_) ((he1.trans he2).trans he3))
      have := hb3.2 (h.prime k (by omega))
      rw [this] at h4; cases h4
    · have h5 := hb3.1 (by simpa using h4)
      have hone : 1 ≤ (p.ord.take k).foldl (· * ·) 1 := by
        refine foldl_mono _ 1 (fun o ho => ?_) (by omega)
        obtain ⟨i, hi, rfl⟩ := List.getElem_of_mem ho
        rw [List.length_take] at hi
        have := hpre i (by omega)
        simp only [List.getElem_take]
        have e : p.ord.getD i 0 = p.ord[i] := by simp [show i < p.ord.length by omega]
        rw [e] at this; omega
      have hm1 : 0 ≤ (p.ord.take k).foldl (· * ·) 1 * p.ord.getD k 0 := Int.mul_nonneg (by omega) (by omega)
      have hm2 : (p.ord.take k).foldl (· * ·) 1 * p.ord.getD k 0 ≤ 729 * 7 := Int.mul_le_mul hpr (by omega) (by omega) (by omega)
      have hmr : -9223372036854775808 ≤ (p.ord.take k).foldl (· * ·) 1 * p.ord.getD k 0 ∧ (p.ord.take k).foldl (· * ·) 1 * p.ord.getD k 0 ≤ 9223372036854775807 := by omega
      refine go ?_
      refine ra (h := rd_mul (by ((try simp only [ev_tmp, ev_const, ev_func, get_put, get_args, get_putL, get_putL_nil, Nat.reduceEqDiff, reduceIte, List.getD_cons_zero, List.getD_cons_succ, List.getD_nil]); first | done | with_reducible rfl)) (by ((try simp only [ev_tmp, ev_const, ev_func, get_put, get_args, get_putL, get_putL_nil, Nat.reduceEqDiff, reduceIte, List.getD_cons_zero, List.getD_cons_succ, List.getD_nil]); first | done | with_reducible rfl)) hmr) (next := ?_)
      refine go ?_
      refine c_if (fun h6 => ?_) (fun h6 => ?_)
      · refine go ?_
        refine ret1 (no (fun h => ?_) ((he1.trans he2).trans he3))
        have := (prod_take (k := k + 1) (fun o ho => (primes_bd h.prime o ho).1)).2
        have h8 := h.prod
        rw [hps] at this
        omega
      · refine go ?_
        refine ra (h := rd_mul (by ((try simp only [ev_tmp, ev_const, ev_func, get_put, get_args, get_putL, get_putL_nil, Nat.reduceEqDiff, reduceIte, List.getD_cons_zero, List.getD_cons_succ, List.getD_nil]); first | done | with_reducible rfl)) (by ((try simp only [ev_tmp, ev_const, ev_func, get_put, get_args, get_putL, get_putL_nil, Nat.reduceEqDiff, reduceIte, List.getD_cons_zero, List.getD_cons_succ, List.getD_nil]); first | done | with_reducible rfl)) hmr) (next := ?_)
        refine go ?_
        refine forQ_normal (by omega) ⟨?_, he2.trans he3, by rw [hps]; omega, fun i hi => ?_⟩
        · rw [hps]; exact hasP
        · by_cases e : i = k
          · subst e; exact h5
          · exact hpre i (by omega)
  · have hkn : k = p.n := by omega
    subst hkn
    have hprod : p.ord.foldl (· * ·) 1 ≤ 729 := by
      rw [← hol, List.take_length] at hpr; exact hpr
    have hbd : ∀ i, i < p.n → 2 ≤ p.o i ∧ p.o i ≤ 7 := fun i hi => by have := hpre i hi; unfold Pr.o; omega
    refine go ?_
    refine r_for p.n (fun k ρ w' => Has ρ [(1, .pointer (some ⟨b, 0, none⟩)), (3, .int .i64 p.n), (49, .int .i64 p.n), (50, .int .i64 k)] ∧ Ext w1 w' ∧ ∀ q, q < k → RowOk p q) ?_ ?_
    · refine ⟨?_, he2, fun i hi => by omega⟩
      exact hasP
    clear he2
    rintro k ρ w4 hk ⟨hH, he4, hrow⟩
    refine rwp_has hH fun ρ1 => ?_
    refine go ?_
    refine c_if (fun hk2 => ?_) (fun hk2 => ?_)
    · have hkn : k < p.n := by omega
      refine go ?_
      refine rc (tailVector_ok (p := p) (xs := p.pow.getD k []) rfl hkn hbd (by omega)) (next := fun v6 w6 h6 => ?_)
      obtain ⟨b6, rfl, hb6, he6⟩ := h6
      refine go ?_
      refine sp (fun h7 => ?_) (fun h7 => ?_)
      · refine go ?_
        refine ret1 (no (fun h => ?_) ((he1.trans he4).trans he6))
        have := hb6.2 ⟨h.w_in k hkn, h.w_zu k hkn⟩
        rw [this] at h7; cases h7
      · have h8 := exp_iff.2 (hb6.1 (by simpa using h7))
        refine go ?_
        refine c_if (fun h9 => ?_) (fun h9 => ?_)
        · refine go ?_
          refine ret1 (no (fun h => ?_) ((he1.trans he4).trans he6))
          have := ((valid_iff.1 h).2.2.2.2.2 k (by omega)).2.1
          omega
        · refine go ?_
          refine r_for (p.cnj.getD k []).length (fun m ρ w' => Has ρ [(1, .pointer (some ⟨b, 0, none⟩)), (3, .int .i64 p.n), (49, .int .i64 p.n), (50, .int .i64 k), (7, .int .i64 k), (78, Pc.rowAt vc cs k), (79, .int .i64 (p.cnj.getD k []).length), (80, .int .i64 m)] ∧ Ext w1 w' ∧ ∀ j, j < m → ExpP p.ord ((p.cnj.getD k []).getD j []) k) ?_ ?_
          · refine ⟨?_, he4.trans he6, fun i hi => by omega⟩
            exact hasP
          clear he4 he6
          rintro m ρ w7 hm ⟨hH, he7, hin⟩
          refine rwp_has hH fun ρ2 => ?_
          refine go ?_
          refine c_if (fun hm2 => ?_) (fun hm2 => ?_)
          · refine go ?_
            refine rc (tailVector_ok (p := p) (xs := (p.cnj.getD k []).getD m []) rfl hkn hbd (by omega)) (next := fun v9 w9 h9 => ?_)
            obtain ⟨b9, rfl, hb9, he9⟩ := h9
            refine go ?_
            refine c_b (fun h10 => ?_) (fun h10 => ?_)
            · refine go ?_
              refine ret1 (no (fun h => ?_) ((he1.trans he7).trans he9))
              have := hb9.2 (exp_iff.1 (((valid_iff.1 h).2.2.2.2.2 k (by omega)).2.2 m (by omega)))
              rw [this] at h10; cases h10
            · have h11 := exp_iff.2 (hb9.1 (by simpa using h10))
              refine go ?_
              refine forQ_normal (by omega) ⟨?_, he7.trans he9, fun j hj => ?_⟩
              · exact hasP
              · by_cases e : j = m
                · subst e; exact h11
                · exact hin j (by omega)
          · refine go ?_
            refine forQ_normal (by omega) ⟨?_, he7, fun q hq => ?_⟩
            · exact hasP
            · by_cases e : q = k
              · subst e
                exact ⟨h8, by omega, fun j hj => hin j (by omega)⟩
              · exact hrow q (by omega)
    · refine go ?_
      refine ret1 ⟨_, rfl, ?_, he1.trans he4⟩
      simp only [true_iff]
      exact valid_iff.2 ⟨by omega, by omega, by omega, hpre, hprod, fun q hq => hrow q (by omega)⟩
end Go.Proofs.Ytgomfjhhfmhlgaa

/-
  Walks: the program's consistency (levelFault, consistentFrom, IsConsistent).
  Conditions: stated at each theorem.
-/
namespace Go.Proofs.Ytgomfjhhfmhlgaa
open Go Go.Pc
def QC (p : Pr) (i : Nat) [h : Con p (i + 1)] (j k : Nat) : Prop := ∀ (hj : i < j ∧ j < p.n) (hk : i < k ∧ k < p.n), j < k → (Grp.cj (Tc h.valid hk) (Tc h.valid hj)).v = img p i (p.c j k)
def QI (p : Pr) (i : Nat) [h : Con p (i + 1)] (hi : i < p.n) (j : Nat) : Prop := ∀ (hj : i + 1 ≤ j ∧ j < p.n), rep (p.o i).toNat (img p i) (unitv p j 1) = (Grp.cj (gen h.valid (i + 1) j hj) (Tw h.valid hi)).v
theorem chk_iff2 {p : Pr} {i : Nat} [h : Con p (i + 1)] (hi : i < p.n) : Chk p i hi ↔ (∀ j, LP p i j) ∧ (∀ j k, QC p i j k) ∧ img p i (p.w i) = p.w i ∧ ∀ j, QI p i hi j := by
  constructor
  · intro hc
    refine ⟨fun j hj => congrArg T.v (hc.P j hj), fun j k hj hk hjk => congrArg T.v (hc.C j k hj hk hjk), congrArg T.v hc.F, fun j hj => ?_⟩
    have := congrArg T.v (hc.I j hj)
    rw [rep_Timg] at this
    exact this
  · rintro ⟨h1, h2, h3, h4⟩
    refine ⟨fun j hj => T.ext (h1 j hj), fun j k hj hk hjk => T.ext (h2 j k hj hk hjk), T.ext h3, fun j hj => T.ext ?_⟩
    rw [rep_Timg]
    exact h4 j hj
set_option maxHeartbeats 8000000 in
theorem levelFault_ok {p : Pr} {i : Nat} [hc : Con p (i + 1)] (hi : i < p.n) {w : World} {vp : Value} {ki : Int} {lo hi' : Nat} [hp : PresP lo hi' w vp p] (hki : ki = i) :
    Calls Try.prog 134 #[vp, .int .i64 ki] w (Ret fun v w' => ∃ k l f s : Int, v = faultV k l f s ∧ (k = 0 ↔ Chk p i hi) ∧ (k ≠ 0 → l = i) ∧ (k = 0 → l = 0 ∧ f = 0 ∧ s = 0) ∧ Ext w w') := by
  subst hki
  have hv := hc.valid
  have hn6 := hv.n6
  have hol : p.ord.length = p.n := rfl
  have hwl : p.pow.length = p.n := hv.lenw
  have hcl : p.cnj.length = p.n := hv.lenc
  have hci : (p.cnj.getD i []).length = p.n - 1 - i := hv.lenci i hi
  have hoi := hv.opos hi
  have hoe : p.o i = p.ord.getD i 0 := rfl
  obtain ⟨b, vo, vpw, vc, ps, cs, css, rfl, hb1, hb2, hc0, hc1, hc2, h1, h2, h3⟩ := hp.ex
  refine enter (args := [.pointer (some ⟨b, 0, none⟩), .int .i64 i]) (l := [.cell 4 121]) Try.func134 rfl rfl Try.ntmps134 (by simp) ?_
  refine go ?_
  refine st_alloc (by first | exact True.intro | exact ⟨_, rfl, by ((try simp only [ev_tmp, ev_const, ev_func, get_put, get_args, get_putL, get_putL_nil, Nat.reduceEqDiff, reduceIte, List.getD_cons_zero, List.getD_cons_succ, List.getD_nil, Bool.not_true, Bool.not_false]); first | done | with_reducible rfl)⟩) fun w2 bf he2 hbf hs2 hbk => ?_
  have bad : ∀ {w3 : World} {k f s : Int}, Ext w w3 → k ≠ 0 → ¬ Chk p i hi → ∃ k' l' f' s' : Int, faultV k i f s = faultV k' l' f' s' ∧ (k' = 0 ↔ Chk p i hi) ∧ (k' ≠ 0 → l' = i) ∧ (k' = 0 → l' = 0 ∧ f' = 0 ∧ s' = 0) ∧ Ext w w3 :=
    fun he hk hn => ⟨_, _, _, _, rfl, ⟨fun h => absurd h hk, fun h => absurd h hn⟩, fun _ => rfl, fun h => absurd h hk, he⟩
  have hTcv : ∀ j (hj : i < j ∧ j < p.n), (p.cnj.getD i []).getD (j - i - 1) [] = (Tc hv hj).v := fun j hj => rfl
  refine go ?_
  refine r_for (p.n - (i + 1)) (fun k ρ w' => Has ρ [(0, .pointer (some ⟨b, 0, none⟩)), (1, .int .i64 i), (4, .pointer (some ⟨bf, 0, none⟩)), (5, .int .i64 p.n), (6, .int .i64 i), (7, .int .i64 (i + 1 + k : Nat))] ∧ Ext w2 w' ∧ ∀ j, j < i + 1 + k → LP p i j) ?_ ?_
  · refine ⟨?_, Ext.refl _, fun j hj hj' => by omega⟩
    exact hasP
  rintro k ρ w3 hk ⟨hH, he3, hP⟩
  refine rwp_has hH fun ρ0 => ?_
  refine go ?_
  refine c_if (fun hj => ?_) (fun hj => ?_)
  · have hjn : i < i + 1 + k ∧ i + 1 + k < p.n := ⟨by omega, by omega⟩
    have hoj : 2 ≤ p.ord.getD (i + 1 + k) 0 ∧ p.ord.getD (i + 1 + k) 0 ≤ 7 := hv.opos hjn.2
    have hcv : (p.cnj.getD i []).getD (i + 1 + k - i - 1) [] = (Tc hv hjn).v := rfl
    refine go ?_
    refine d_order [0, 1, 2, 3, 4, 5, 6, 7, 8, 9, 10, 11, 12, 13, 14, 15, 16, 17, 18, 19, 20, 22, 23, 24, 25, 26, 27, 28, 29, 30, 21, 31, 32, 33] (h := fun w4 he4 _ => ?_)
    refine dgo ?_
    refine dce (power_ok (x := Tc hv hjn) (by omega) hcv ?_) (next := fun v5 w5 h5 => ?_)
    · omega
    obtain ⟨he5, hf5⟩ := h5
    refine dce (imageBy_ok hi (xs := p.w (i + 1 + k)) ?_ (hv.w_in _ hjn.2)) (next := fun v7 w7 h7 => ?_)
    · rfl
    obtain ⟨he7, hf7⟩ := h7
    have hlen := (Grp.pw (Tc hv hjn) (p.ord.getD (i + 1 + k) 0).toNat).inr.len
    refine dce (equalI_ok (xs := (Grp.pw (Tc hv hjn) (p.ord.getD (i + 1 + k) 0).toNat).v) (ys := img p i (p.w (i + 1 + k))) ?_) (next := fun v8 w8 h8 => ?_)
    · omega
    obtain ⟨b8, rfl, hb8, he8⟩ := h8
    have hE8 : Ext w2 w8 := (((he3.trans he4).trans he5).trans he7).trans he8
    refine dgo ?_
    refine d_end (h := ?_)
    refine go ?_
    refine c_b (fun h9 => ?_) (fun h9 => ?_)
    · refine go ?_
      refine ra (v := faultV 1 i (i + 1 + k : Nat) 0) (h := rd_build (by simp only [ev_tmp, ev_const, ev_func, get_put, get_args, get_putL, get_putL_nil, Nat.reduceEqDiff, reduceIte, List.getD_cons_zero, List.getD_cons_succ, List.getD_nil, List.map_toArray, List.map_cons, List.map_nil]; rfl) (fun _ => by kernel_rfl)) (next := ?_)
      refine st_store_agg (vs := [.int .i64 1, .int .i64 i, .int .i64 (i + 1 + k : Nat), .int .i64 0]) (cs := _) (by ((try simp only [ev_tmp, ev_const, ev_func, get_put, get_args, get_putL, get_putL_nil, Nat.reduceEqDiff, reduceIte, List.getD_cons_zero, List.getD_cons_succ, List.getD_nil]); first | done | with_reducible rfl)) (by ((try simp only [ev_tmp, ev_const, ev_func, get_put, get_args, get_putL, get_putL_nil, Nat.reduceEqDiff, reduceIte, List.getD_cons_zero, List.getD_cons_succ, List.getD_nil]); first | done | with_reducible rfl)) rfl ?_ rfl (by first | exact True.intro | exact ⟨_, rfl, by ((try simp only [ev_tmp, ev_const, ev_func, get_put, get_args, get_putL, get_putL_nil, Nat.reduceEqDiff, reduceIte, List.getD_cons_zero, List.getD_cons_succ, List.getD_nil, Bool.not_true, Bool.not_false]); first | done | with_reducible rfl)⟩) fun w9 hc9 hs9 hb9 => ?_
      · rfl
      refine go ?_
      refine retc (bad (k := 1) (f := (i + 1 + k : Nat)) (s := 0) (hc9.ext (he2.trans hE8) (by omega)) (by decide) fun h => ?_) rfl
      have := hb8.2 (((chk_iff2 hi).1 h).1 _ hjn)
      rw [this] at h9; cases h9
    · have h10 := hb8.1 (by simpa using h9)
      refine go ?_
      refine forQ_normal (by omega) ⟨?_, hE8, fun j hj => ?_⟩
      · exact hasP
      · by_cases e : j = i + 1 + k
        · subst e; exact fun _ => h10
        · exact hP j (by omega)
  refine go ?_
  have hP' : ∀ j, LP p i j := fun j => by
    by_cases e : j < i + 1 + k
    · exact hP j e
    · exact fun h => by omega
  clear hP hH hk hj
  refine r_for (p.n - (i + 1)) (fun k ρ w' => Has ρ [(0, .pointer (some ⟨b, 0, none⟩)), (1, .int .i64 i), (4, .pointer (some ⟨bf, 0, none⟩)), (5, .int .i64 p.n), (6, .int .i64 i), (8, .int .i64 (i + 1 + k : Nat))] ∧ Ext w2 w' ∧ ∀ j k', j < i + 1 + k → QC p i j k') ?_ ?_
  · refine ⟨?_, he3, fun j k' hj hj' => by omega⟩
    exact hasP
  clear he3 ρ0 k
  rintro k ρ w4 hk ⟨hH, he4, hC⟩
  refine rwp_has hH fun ρ1 => ?_
  refine go ?_
  refine c_if (fun hj => ?_) (fun hj => ?_)
  · have hjn : i < i + 1 + k ∧ i + 1 + k < p.n := ⟨by omega, by omega⟩
    refine go ?_
    refine r_for (p.n - (i + 1 + k + 1)) (fun l ρ w' => Has ρ [(0, .pointer (some ⟨b, 0, none⟩)), (1, .int .i64 i), (4, .pointer (some ⟨bf, 0, none⟩)), (5, .int .i64 p.n), (6, .int .i64 i), (8, .int .i64 (i + 1 + k : Nat)), (9, .int .i64 (i + 1 + k + 1 + l : Nat))] ∧ Ext w2 w' ∧ ∀ k', k' < i + 1 + k + 1 + l → QC p i (i + 1 + k) k') ?_ ?_
    · refine ⟨?_, he4, fun k' hk' h1 h2 h3 => by omega⟩
      exact hasP
    clear he4
    rintro l ρ w5 hl ⟨hH5, he5, hC5⟩
    refine rwp_has hH5 fun ρ2 => ?_
    refine go ?_
    refine c_if (fun hk2 => ?_) (fun hk2 => ?_)
    · have hkn : i < i + 1 + k + 1 + l ∧ i + 1 + k + 1 + l < p.n := ⟨by omega, by omega⟩
      have hjk : i + 1 + k < i + 1 + k + 1 + l := by omega
      have hcj := hv.lenci (i + 1 + k) hjn.2
      have hcv1 : (p.cnj.getD i []).getD (i + 1 + k - i - 1) [] = (Tc hv hjn).v := rfl
      have hcv2 : (p.cnj.getD i []).getD (i + 1 + k + 1 + l - i - 1) [] = (Tc hv hkn).v := rfl
      refine go ?_
      refine d_order [0, 1, 2, 3, 4, 5, 6, 7, 8, 9, 10, 11, 12, 13, 14, 15, 16, 17, 18, 19, 20, 21, 22, 23, 24, 25, 26, 28, 29, 30, 31, 32, 33, 34, 35, 36, 37, 38, 39, 40, 41, 42, 27, 43, 44, 45] (h := fun w6 he6 _ => ?_)
      refine dgo ?_
      refine dce (conjugate_ok (x := Tc hv hkn) (y := Tc hv hjn) (by omega) hcv2 hcv1) (next := fun v7 w7 h7 => ?_)
      obtain ⟨he7, hf7⟩ := h7
      refine dce (imageBy_ok hi (xs := p.c (i + 1 + k) (i + 1 + k + 1 + l)) ?_ (hv.c_in _ _ hjk hkn.2)) (next := fun v8 w8 h8 => ?_)
      · rfl
      obtain ⟨he8, hf8⟩ := h8
      have hlen := (Grp.cj (Tc hv hkn) (Tc hv hjn)).inr.len
      refine dce (equalI_ok (xs := (Grp.cj (Tc hv hkn) (Tc hv hjn)).v) (ys := img p i (p.c (i + 1 + k) (i + 1 + k + 1 + l))) ?_) (next := fun v9 w9 h9 => ?_)
      · omega
      obtain ⟨b9, rfl, hb9, he9⟩ := h9
      have hE9 : Ext w2 w9 := (((he5.trans he6).trans he7).trans he8).trans he9
      refine dgo ?_
      refine d_end (h := ?_)
      refine go ?_
      refine c_b (fun h10 => ?_) (fun h10 => ?_)
      · refine go ?_
        refine ra (v := faultV 2 i (i + 1 + k : Nat) (i + 1 + k + 1 + l : Nat)) (h := rd_build (by simp only [ev_tmp, ev_const, ev_func, get_put, get_args, get_putL, get_putL_nil, Nat.reduceEqDiff, reduceIte, List.getD_cons_zero, List.getD_cons_succ, List.getD_nil, List.map_toArray, List.map_cons, List.map_nil]; rfl) (fun _ => by kernel_rfl)) (next := ?_)
        refine st_store_agg (vs := [.int .i64 2, .int .i64 i, .int .i64 (i + 1 + k : Nat), .int .i64 (i + 1 + k + 1 + l : Nat)]) (cs := _) (by ((try simp only [ev_tmp, ev_const, ev_func, get_put, get_args, get_putL, get_putL_nil, Nat.reduceEqDiff, reduceIte, List.getD_cons_zero, List.getD_cons_succ, List.getD_nil]); first | done | with_reducible rfl)) (by ((try simp only [ev_tmp, ev_const, ev_func, get_put, get_args, get_putL, get_putL_nil, Nat.reduceEqDiff, reduceIte, List.getD_cons_zero, List.getD_cons_succ, List.getD_nil]); first | done | with_reducible rfl)) rfl ?_ rfl (by first | exact True.intro | exact ⟨_, rfl, by ((try simp only [ev_tmp, ev_const, ev_func, get_put, get_args, get_putL, get_putL_nil, Nat.reduceEqDiff, reduceIte, List.getD_cons_zero, List.getD_cons_succ, List.getD_nil, Bool.not_true, Bool.not_false]); first | done | with_reducible rfl)⟩) fun w10 hc10 hs10 hb10 => ?_
        · rfl
        refine go ?_
        refine retc (bad (k := 2) (f := (i + 1 + k : Nat)) (s := (i + 1 + k + 1 + l : Nat)) (hc10.ext (he2.trans hE9) (by omega)) (by decide) fun h => ?_) rfl
        have := hb9.2 (((chk_iff2 hi).1 h).2.1 _ _ hjn hkn hjk)
        rw [this] at h10; cases h10
      · have h11 := hb9.1 (by simpa using h10)
        refine go ?_
        refine forQ_normal (by omega) ⟨?_, hE9, fun k' hk' => ?_⟩
        · exact hasP
        · by_cases e : k' = i + 1 + k + 1 + l
          · subst e; exact fun _ _ _ => h11
          · exact hC5 k' (by omega)
    · refine go ?_
      refine forQ_normal (by omega) ⟨?_, he5, fun j k' hj2 => ?_⟩
      · exact hasP
      · by_cases e : j = i + 1 + k
        · subst e
          by_cases e2 : k' < i + 1 + k + 1 + l
          · exact hC5 k' e2
          · exact fun _ _ _ => by omega
        · exact hC j k' (by omega)
  refine go ?_
  have hC' : ∀ j k', QC p i j k' := fun j k' => by
    by_cases e : j < i + 1 + k
    · exact hC j k' e
    · exact fun h _ _ => by omega
  clear hC hH hk hj
  refine rc (imageBy_ok hi (xs := p.w i) ?_ (hv.w_in _ hi)) (next := fun v5 w5 h5 => ?_)
  · rfl
  obtain ⟨he5, hf5⟩ := h5
  have hlen := (img_in hv i (p.w i)).1.len
  refine go ?_
  refine rc (equalI_ok (xs := img p i (p.w i)) (ys := p.w i) ?_) (next := fun v6 w6 h6 => ?_)
  · omega
  obtain ⟨b6, rfl, hb6, he6⟩ := h6
  have hE6 : Ext w2 w6 := (he4.trans he5).trans he6
  clear he4 he5 he6 hf5
  refine go ?_
  refine c_b (fun h7 => ?_) (fun h7 => ?_)
  · refine go ?_
    refine ra (v := faultV 3 i 0 0) (h := rd_build (by simp only [ev_tmp, ev_const, ev_func, get_put, get_args, get_putL, get_putL_nil, Nat.reduceEqDiff, reduceIte, List.getD_cons_zero, List.getD_cons_succ, List.getD_nil, List.map_toArray, List.map_cons, List.map_nil]; rfl) (fun _ => by kernel_rfl)) (next := ?_)
    refine st_store_agg (vs := [.int .i64 3, .int .i64 i, .int .i64 0, .int .i64 0]) (cs := _) (by ((try simp only [ev_tmp, ev_const, ev_func, get_put, get_args, get_putL, get_putL_nil, Nat.reduceEqDiff, reduceIte, List.getD_cons_zero, List.getD_cons_succ, List.getD_nil]); first | done | with_reducible rfl)) (by ((try simp only [ev_tmp, ev_const, ev_func, get_put, get_args, get_putL, get_putL_nil, Nat.reduceEqDiff, reduceIte, List.getD_cons_zero, List.getD_cons_succ, List.getD_nil]); first | done | with_reducible rfl)) rfl ?_ rfl (by first | exact True.intro | exact ⟨_, rfl, by ((try simp only [ev_tmp, ev_const, ev_func, get_put, get_args, get_putL, get_putL_nil, Nat.reduceEqDiff, reduceIte, List.getD_cons_zero, List.getD_cons_succ, List.getD_nil, Bool.not_true, Bool.not_false]); first | done | with_reducible rfl)⟩) fun w9 hc9 hs9 hb9 => ?_
    · rfl
    refine go ?_
    refine retc (bad (k := 3) (f := 0) (s := 0) (hc9.ext (he2.trans hE6) (by omega)) (by decide) fun h => ?_) rfl
    have := hb6.2 ((chk_iff2 hi).1 h).2.2.1
    rw [this] at h7; cases h7
  have hF := hb6.1 (by simpa using h7)
  clear h7
  refine go ?_
  refine r_for (p.n - (i + 1)) (fun k ρ w' => Has ρ [(0, .pointer (some ⟨b, 0, none⟩)), (1, .int .i64 i), (4, .pointer (some ⟨bf, 0, none⟩)), (5, .int .i64 p.n), (6, .int .i64 i), (10, Pc.rowAt vpw ps i), (11, .int .i64 (i + 1 + k : Nat))] ∧ Ext w2 w' ∧ ∀ j, j < i + 1 + k → QI p i hi j) ?_ ?_
  · refine ⟨?_, hE6, fun j hj h1 => by omega⟩
    exact hasP
  clear hE6
  rintro l ρ w8 hk ⟨hH, he8, hI⟩
  refine rwp_has hH fun ρ2 => ?_
  refine go ?_
  refine c_if (fun hj => ?_) (fun hj => ?_)
  · have hjn : i + 1 ≤ i + 1 + l ∧ i + 1 + l < p.n := ⟨by omega, by omega⟩
    refine go ?_
    refine rc (unitVector_ok (n := p.n) (i := i + 1 + l) rfl rfl ?_ hjn.2) (next := fun v9 w9 h9 => ?_)
    · omega
    obtain ⟨he9, hf9⟩ := h9
    have hg0 : (zeros p.n).set (i + 1 + l) 1 = unitv p (i + 1 + l) 1 := rfl
    rw [hg0] at hf9
    have hz8 := he8.size
    refine go ?_
    refine r_for (p.o i).toNat (fun q ρ w' => ∃ vx, Has ρ [(0, .pointer (some ⟨b, 0, none⟩)), (1, .int .i64 i), (4, .pointer (some ⟨bf, 0, none⟩)), (5, .int .i64 p.n), (6, .int .i64 i), (10, Pc.rowAt vpw ps i), (11, .int .i64 (i + 1 + l : Nat)), (12, vx), (159, .int .i64 (p.ord.getD i 0)), (160, .int .i64 q)] ∧ Ext w8 w' ∧ Fr w8.heap.size w' vx (rep q (img p i) (unitv p (i + 1 + l) 1))) ?_ ?_
    · refine ⟨v9, ?_, he9, hf9⟩
      exact hasP
    clear he9 hf9
    rintro q ρ w10 hq ⟨vx, hH, he10, hf10⟩
    refine rwp_has hH fun ρ3 => ?_
    have hin : InR p (rep q (img p i) (unitv p (i + 1 + l) 1)) ∧ ZU (i + 1) (rep q (img p i) (unitv p (i + 1 + l) 1)) := by
      refine rep_inv (fun v => InR p v ∧ ZU (i + 1) v) (fun x _ => img_in hv i x) ⟨?_, unitv_zu p hjn.1 1⟩ q
      exact unitv_in hv (by omega) (fun h => by have := hv.opos h; omega)
    have hxi := hf10.ints
    refine go ?_
    refine c_if (fun hq2 => ?_) (fun hq2 => ?_)
    · refine go ?_
      refine rc (imageBy_ok hi (xs := rep q (img p i) (unitv p (i + 1 + l) 1)) ?_ hin.1) (next := fun v11 w11 h11 => ?_)
      · rfl
      obtain ⟨he11, hf11⟩ := h11
      refine go ?_
      refine forQ_normal (by omega) ⟨v11, ?_, he10.trans he11, hf11.mono he10.size⟩
      exact hasP
    · have hqe : q = (p.o i).toNat := by omega
      subst hqe
      refine go ?_
      refine rc (unitVector_ok (n := p.n) (i := i + 1 + l) rfl rfl ?_ hjn.2) (next := fun v11 w11 h11 => ?_)
      · omega
      obtain ⟨he11, hf11⟩ := h11
      refine go ?_
      refine rc (conjugate_ok (x := gen hv (i + 1) (i + 1 + l) hjn) (y := Tw hv hi) (xs := (zeros p.n).set (i + 1 + l) 1) (ys := p.w i) (by omega) rfl rfl) (next := fun v12 w12 h12 => ?_)
      obtain ⟨he12, hf12⟩ := h12
      have hlen2 := hin.1.len
      refine go ?_
      refine rc (equalI_ok (xs := rep (p.o i).toNat (img p i) (unitv p (i + 1 + l) 1)) (ys := (Grp.cj (gen hv (i + 1) (i + 1 + l) hjn) (Tw hv hi)).v) ?_) (next := fun v13 w13 h13 => ?_)
      · omega
      obtain ⟨b13, rfl, hb13, he13⟩ := h13
      have hE13 : Ext w2 w13 := (((he8.trans he10).trans he11).trans he12).trans he13
      refine go ?_
      refine c_b (fun h14 => ?_) (fun h14 => ?_)
      · refine go ?_
        refine ra (v := faultV 4 i (i + 1 + l : Nat) 0) (h := rd_build (by simp only [ev_tmp, ev_const, ev_func, get_put, get_args, get_putL, get_putL_nil, Nat.reduceEqDiff, reduceIte, List.getD_cons_zero, List.getD_cons_succ, List.getD_nil, List.map_toArray, List.map_cons, List.map_nil]; rfl) (fun _ => by kernel_rfl)) (next := ?_)
        refine st_store_agg (vs := [.int .i64 4, .int .i64 i, .int .i64 (i + 1 + l : Nat), .int .i64 0]) (cs := _) (by ((try simp only [ev_tmp, ev_const, ev_func, get_put, get_args, get_putL, get_putL_nil, Nat.reduceEqDiff, reduceIte, List.getD_cons_zero, List.getD_cons_succ, List.getD_nil]); first | done | with_reducible rfl)) (by ((try simp only [ev_tmp, ev_const, ev_func, get_put, get_args, get_putL, get_putL_nil, Nat.reduceEqDiff, reduceIte, List.getD_cons_zero, List.getD_cons_succ, List.getD_nil]); first | done | with_reducible rfl)) rfl ?_ rfl (by first | exact True.intro | exact ⟨_, rfl, by ((try simp only [ev_tmp, ev_const, ev_func, get_put, get_args, get_putL, get_putL_nil, Nat.reduceEqDiff, reduceIte, List.getD_cons_zero, List.getD_cons_succ, List.getD_nil, Bool.not_true, Bool.not_false]); first | done | with_reducible rfl)⟩) fun w15 hc15 hs15 hb15 => ?_
        · rfl
        refine go ?_
        refine retc (bad (k := 4) (f := (i + 1 + l : Nat)) (s := 0) (hc15.ext (he2.trans hE13) (by omega)) (by decide) fun h => ?_) rfl
        have := hb13.2 (((chk_iff2 hi).1 h).2.2.2 (i + 1 + l) hjn)
        rw [this] at h14; cases h14
      · have h15 := hb13.1 (by simpa using h14)
        refine go ?_
        refine forQ_normal (by omega) ⟨?_, hE13, fun j hj2 => ?_⟩
        · exact hasP
        · by_cases e : j = i + 1 + l
          · subst e; exact fun _ => h15
          · exact hI j (by omega)
  · refine go ?_
    refine ra (v := faultV 0 0 0 0) (h := rd_build (by rfl) (fun _ => by kernel_rfl)) (next := ?_)
    refine st_store_agg (vs := [.int .i64 0, .int .i64 0, .int .i64 0, .int .i64 0]) (cs := _) (by ((try simp only [ev_tmp, ev_const, ev_func, get_put, get_args, get_putL, get_putL_nil, Nat.reduceEqDiff, reduceIte, List.getD_cons_zero, List.getD_cons_succ, List.getD_nil]); first | done | with_reducible rfl)) (by ((try simp only [ev_tmp, ev_const, ev_func, get_put, get_args, get_putL, get_putL_nil, Nat.reduceEqDiff, reduceIte, List.getD_cons_zero, List.getD_cons_succ, List.getD_nil]); first | done | with_reducible rfl)) rfl ?_ rfl (by first | exact True.intro | exact ⟨_, rfl, by ((try simp only [ev_tmp, ev_const, ev_func, get_put, get_args, get_putL, get_putL_nil, Nat.reduceEqDiff, reduceIte, List.getD_cons_zero, List.getD_cons_succ, List.getD_nil, Bool.not_true, Bool.not_false]); first | done | with_reducible rfl)⟩) fun w15 hc15 hs15 hb15 => ?_
    · rfl
    refine go ?_
    exact retc ⟨0, 0, 0, 0, rfl, ⟨fun _ => (chk_iff2 hi).2 ⟨hP', hC', hF, fun j h1 => hI j (by omega) h1⟩, fun _ => rfl⟩, fun h => absurd rfl h, fun _ => ⟨rfl, rfl, rfl⟩, hc15.ext (he2.trans he8) (by omega)⟩ rfl
end Go.Proofs.Ytgomfjhhfmhlgaa

/-
  Walks: the program's consistency of a presentation (consistentFrom, IsConsistent).
  Conditions: stated at each theorem.
-/
namespace Go.Proofs.Ytgomfjhhfmhlgaa
open Go Go.Pc
theorem fault_guard : (Try.prog.eqGuardType Try.prog.depth 121) = false := by kernel_rfl
theorem fault_held : (Try.prog.stoodInHeld 121) = false := by kernel_rfl
theorem fault_fields : Try.prog.underlying 121 = some (.struct (Try.prog.fieldsOf 121)) := by simp [Program.fieldsOf, Try.underlying121]
theorem rd_eqFault {ρ : Env} {w : World} {ty : TypeId} {x y : Operand} {k l f s : Int} (h : ev ρ x = faultV k l f s) (h' : ev ρ y = faultV 0 0 0 0) :
    Rd Try.prog (.binOp .eql 121 x y 121) ty ρ w (.bool (decide (k = 0 ∧ l = 0 ∧ f = 0 ∧ s = 0))) := by
  constructor; intro _ _ _ _
  have h2 := fun d a b w => run_equalIn_int (P := Try.prog) w d 2 .i64 .i64 a b Try.underlying2
  simp [execOp, h, h', run_eqGuard_agg _ _ _ _ _ _ _ fault_guard, run_eql_struct, run_equalIn_agg _ _ _ _ _ fault_fields fault_held, Program.fieldsOf, Try.underlying121, Op.eqFields, h2, go_sem]
  by_cases hk : k = 0 <;> by_cases hl : l = 0 <;> by_cases hf : f = 0 <;> by_cases hs : s = 0 <;> simp [hk, hl, hf, hs]
set_option maxHeartbeats 1000000 in
theorem consistentFrom_ok {p : Pr} (hv : Valid p) {w : World} {vp : Value} {lo hi' : Nat} [hp : PresP lo hi' w vp p] :
    Calls Try.prog 93 #[vp] w (Ret fun v w' => ∃ i : Nat, v = .int .i64 i ∧ i ≤ p.n ∧ Levs p i ∧ (i ≠ 0 → ¬ Lev p (i - 1)) ∧ Ext w w') := by
  have hn6 := hv.n6
  have hol : p.ord.length = p.n := rfl
  obtain ⟨b, vo, vpw, vc, ps, cs, css, rfl, hb1, hb2, hc0, hc1, hc2, h1, h2, h3⟩ := hp.ex
  refine enter (args := [.pointer (some ⟨b, 0, none⟩)]) (l := [.tmp 2]) Try.func93 rfl rfl Try.ntmps93 (by simp) ?_
  refine go ?_
  refine r_for p.n (fun k ρ w' => Has ρ [(0, .pointer (some ⟨b, 0, none⟩)), (3, .int .i64 (p.n - k : Nat))] ∧ Ext w w' ∧ Levs p (p.n - k)) ?_ ?_
  · refine ⟨?_, Ext.refl _, fun j h h' => by omega⟩
    exact hasP
  rintro k ρ w3 hk ⟨hH, he3, hL⟩
  refine rwp_has hH fun ρ0 => ?_
  refine go ?_
  refine spd (fun h4 => ?_) (fun h4 => ?_)
  · obtain ⟨i, hie⟩ : ∃ i : Nat, p.n - k = i + 1 := ⟨p.n - k - 1, by omega⟩
    have hi : i < p.n := by omega
    rw [hie] at hL h4 ⊢
    have hc : Con p (i + 1) := Levs.con hv hL
    refine go ?_
    refine rc (levelFault_ok (p := p) (i := i) hi ?_) (next := fun v5 w5 h5 => ?_)
    · omega
    obtain ⟨k5, l5, f5, s5, rfl, hz, hl5, h05, he5⟩ := h5
    refine go ?_
    refine ra (v := faultV 0 0 0 0) (h := rd_build (by rfl) (fun _ => by kernel_rfl)) (next := ?_)
    refine go ?_
    refine ra (h := rd_eqFault (k := k5) (l := l5) (f := f5) (s := s5) (by ((try simp only [ev_tmp, ev_const, ev_func, get_put, get_args, get_putL, get_putL_nil, Nat.reduceEqDiff, reduceIte, List.getD_cons_zero, List.getD_cons_succ, List.getD_nil]); first | done | with_reducible rfl)) (by ((try simp only [ev_tmp, ev_const, ev_func, get_put, get_args, get_putL, get_putL_nil, Nat.reduceEqDiff, reduceIte, List.getD_cons_zero, List.getD_cons_succ, List.getD_nil]); first | done | with_reducible rfl))) (next := ?_)
    refine go ?_
    refine c_if (fun h8 => ?_) (fun h8 => ?_)
    · refine go ?_
      refine forQ_normal (by omega) ⟨?_, he3.trans he5, fun j hj hjn => ?_⟩
      · exact hasP
      · by_cases e : j = i
        · subst e; exact ⟨hc, hi, hz.1 h8.1⟩
        · exact hL j (by omega) hjn
    · refine go ?_
      refine ret1 ⟨i + 1, rfl, by omega, hL, fun _ => ?_, he3.trans he5⟩
      rintro ⟨_, _, h9⟩
      have h0 := hz.2 h9
      exact h8 ⟨h0, h05 h0⟩
  · refine go ?_
    have hkn : p.n - k = 0 := by omega
    rw [hkn] at hL ⊢
    exact ret1 ⟨0, rfl, by omega, hL, fun h => absurd rfl h, he3⟩
set_option maxHeartbeats 1000000 in
theorem impl_IsConsistent_ok {w : World} {vp : Value} {p : Pr} {lo hi' : Nat} [hp : Pres lo hi' w vp p] (hl : p.ord.length ≤ 2000000) :
    Calls Try.prog 55 #[vp] w (Ret fun v w' => ∃ b, v = .bool b ∧ (b = true ↔ IsGrp p) ∧ Ext w w') := by
  obtain ⟨vo, vpw, vc, ps, cs, css, rfl, h1, h2, h3⟩ := hp.ex
  refine enter (args := [.agg #[vo, vpw, vc]]) (l := [.tmp 2]) Try.func55 rfl rfl Try.ntmps55 (by simp) ?_
  refine go ?_
  refine st_box3 (by ((try simp only [ev_tmp, ev_const, ev_func, get_put, get_args, get_putL, get_putL_nil, Nat.reduceEqDiff, reduceIte, List.getD_cons_zero, List.getD_cons_succ, List.getD_nil]); first | done | with_reducible rfl)) (by first | exact True.intro | exact ⟨_, rfl, by ((try simp only [ev_tmp, ev_const, ev_func, get_put, get_args, get_putL, get_putL_nil, Nat.reduceEqDiff, reduceIte, List.getD_cons_zero, List.getD_cons_succ, List.getD_nil, Bool.not_true, Bool.not_false]); first | done | with_reducible rfl)⟩) fun w1 b he1 hb1 hs1 hc0 hc1 hc2 => ?_
  have hpp := hp.boxed he1 hc0 hc1 hc2
  refine go ?_
  refine rc (impl_IsPresentation_ok hl) (next := fun v5 w5 h5 => ?_)
  obtain ⟨b5, rfl, hb5, he5⟩ := h5
  refine go ?_
  refine sp (fun e5 => ?_) (fun e5 => ?_)
  · have hv := hb5.1 e5
    refine go ?_
    refine rc (consistentFrom_ok hv) (next := fun v6 w6 h6 => ?_)
    obtain ⟨i, rfl, hi, hL, hno, he6⟩ := h6
    refine go ?_
    refine ret1 ⟨_, rfl, ?_, (he1.trans he5).trans he6⟩
    rw [decide_eq_true_eq]
    constructor
    · intro h
      have : i = 0 := by omega
      subst this
      exact ⟨hv, hL⟩
    · intro h
      by_cases e : i = 0
      · omega
      · exact absurd (h.levs (i - 1) (by omega) (by omega)) (hno e)
  · refine go ?_
    refine ret1 ⟨_, rfl, ?_, he1.trans he5⟩
    simp only [Bool.false_eq_true, false_iff]
    intro h
    have := hb5.2 h.valid
    rw [e5] at this; cases this
end Go.Proofs.Ytgomfjhhfmhlgaa

/-
  Walks: the program's test of subgroups (areSubgroups, IsSubgroup).
  Conditions: stated at each theorem.
-/
namespace Go.Proofs.Ytgomfjhhfmhlgaa
open Go Go.Pc
theorem PresP.val {lo hi b : Nat} {w : World} {p : Pr} {vo vp vc : Value} {ps cs : List Value} {css : List (List Value)} (h1 : Ints lo hi w vo p.ord) (h2 : Pc.Rows lo hi w vp ps p.pow) (h3 : Rowss lo hi w vc cs css p.cnj) : Pres lo hi w (.agg #[vo, vp, vc]) p := ⟨⟨vo, vp, vc, ps, cs, css, rfl, h1, h2, h3⟩⟩
set_option maxHeartbeats 2000000 in
theorem areSubgroups_ok {p : Pr} {w : World} {vp vl : Value} {us : List Value} {uss : List (List Value)} {xsss : List (List (List Int))} {lo hi lo1 hi1 : Nat} [hp : PresP lo hi w vp p] [hl : Rowss lo1 hi1 w vl us uss xsss] (hol : p.ord.length ≤ 2000000) (hxl : xsss.length ≤ 2000000) :
    Calls Try.prog 72 #[vp, vl] w (Ret fun v w' => ∃ b, v = .bool b ∧ (b = true ↔ ∃ h : IsGrp p, ∀ i, i < xsss.length → @IsSeq p ⟨h.con⟩ (xsss.getD i [])) ∧ Ext w w') := by
  have hoe : p.ord.length = p.n := rfl
  obtain ⟨g, vo, vpw, vc, ps, cs, css, rfl, hg1, hg2, hc0, hc1, hc2, h1, h2, h3⟩ := hp.ex
  have hpv := PresP.val (b := g) h1 h2 h3
  refine enter (args := [.pointer (some ⟨g, 0, none⟩), vl]) (l := [.tmp 4]) Try.func72 rfl rfl Try.ntmps72 (by simp) ?_
  refine go ?_
  refine rc (impl_IsConsistent_ok (p := p) hol) (next := fun v1 w1 h4 => ?_)
  obtain ⟨b1, rfl, hb1, he1⟩ := h4
  refine go ?_
  refine c_b (fun e1 => ?_) (fun e1 => ?_)
  · refine go ?_
    refine ret1 ⟨_, rfl, ?_, he1⟩
    simp only [Bool.false_eq_true, false_iff]
    rintro ⟨h, _⟩
    have := hb1.2 h
    rw [this] at e1; cases e1
  have hG := hb1.1 (by simpa using e1)
  haveI hcon : ConAll p := ⟨hG.con⟩
  have hv := hG.valid
  have hn6 := hv.n6
  have hno : ∀ {b : Bool} {w' : World} (i : Nat), i < xsss.length → ¬ IsSeq p (xsss.getD i []) → Ext w w' → ∃ b, Value.bool false = .bool b ∧ (b = true ↔ ∃ h : IsGrp p, ∀ i, i < xsss.length → @IsSeq p ⟨h.con⟩ (xsss.getD i [])) ∧ Ext w w' := by
    intro b w' i hi hn he
    refine ⟨_, rfl, ?_, he⟩
    simp only [Bool.false_eq_true, false_iff]
    rintro ⟨h, h5⟩
    exact hn (h5 i hi)
  refine go ?_
  refine r_for xsss.length (fun k ρ w' => Has ρ [(0, .pointer (some ⟨g, 0, none⟩)), (14, vl), (15, .int .i64 xsss.length), (16, .int .i64 k)] ∧ Ext w w' ∧ ∀ i, i < k → IsSeq p (xsss.getD i [])) ?_ ?_
  · refine ⟨?_, he1, fun i hi => by omega⟩
    exact hasP
  clear he1
  rintro k ρ w2 hk ⟨hH, he2, hI⟩
  refine rwp_has hH fun ρ0 => ?_
  refine go ?_
  refine c_if (fun h4 => ?_) (fun h4 => ?_)
  · have hkn : k < xsss.length := by omega
    refine go ?_
    refine c_if (fun h5 => ?_) (fun h5 => ?_)
    · refine go ?_
      refine ret1 (hno (b := false) k hkn (fun h => ?_) he2)
      have := h.len; omega
    refine go ?_
    refine r_for (xsss.getD k []).length (fun q ρ w' => Has ρ [(0, .pointer (some ⟨g, 0, none⟩)), (6, Pc.rowAt vl us k), (14, vl), (15, .int .i64 xsss.length), (16, .int .i64 k), (28, Pc.rowAt vl us k), (29, .int .i64 (xsss.getD k []).length), (30, .int .i64 q)] ∧ Ext w w' ∧ ∀ i, i < q → InR p ((xsss.getD k []).getD i [])) ?_ ?_
    · refine ⟨?_, he2, fun i hi => by omega⟩
      exact hasP
    clear he2
    rintro q ρ w3 hq ⟨hH3, he3, hQ⟩
    refine rwp_has hH3 fun ρ1 => ?_
    refine go ?_
    refine c_if (fun h6 => ?_) (fun h6 => ?_)
    · refine go ?_
      refine rc (isExponents_ok (p := p) (xs := (xsss.getD k []).getD q []) (fun i hi => hv.opos hi) (by omega)) (next := fun v4 w4 h7 => ?_)
      obtain ⟨b4, rfl, hb4, he4⟩ := h7
      refine go ?_
      refine c_b (fun h8 => ?_) (fun h8 => ?_)
      · refine go ?_
        refine ret1 (hno (b := false) k hkn (fun h => ?_) (he3.trans he4))
        obtain ⟨ys, hys, _⟩ := h
        have : InR p ((xsss.getD k []).getD q []) := by rw [hys]; exact vecs_in (by rw [← hys]; omega)
        rw [hb4.2 this] at h8; cases h8
      · have h9 := hb4.1 (by simpa using h8)
        refine go ?_
        refine forQ_normal (by omega) ⟨?_, he3.trans he4, fun i hi => ?_⟩
        · exact hasP
        · by_cases e : i = q
          · subst e; exact h9
          · exact hQ i (by omega)
    · obtain ⟨ys, hys⟩ := els_of (xss := xsss.getD k []) (fun i hi => hQ i (by omega))
      have hyl : (xsss.getD k []).length = ys.length := by rw [hys]; simp
      refine go ?_
      refine rc (generated_ok (p := p) (ys := ys) hys ?_) (next := fun v4 w4 h7 => ?_)
      · omega
      obtain ⟨he4, us4, hL4⟩ := h7
      have hr4 := hL4.toRows
      have hcl := canTo_len (Gen (fun a : El p => a ∈ ys)) p.n
      rw [canTo_end] at hcl
      refine go ?_
      refine rc (sameRows_ok (xss := canon (Gen (fun a : El p => a ∈ ys))) (yss := xsss.getD k []) ?_ ?_) (next := fun v5 w5 h8 => ?_)
      · intro i
        have := canon_row (Gen (fun a : El p => a ∈ ys)) i
        omega
      · omega
      obtain ⟨b5, rfl, hb5, he5⟩ := h8
      refine go ?_
      refine c_b (fun h9 => ?_) (fun h9 => ?_)
      · refine go ?_
        refine ret1 (hno (b := false) k hkn (fun h => ?_) ((he3.trans he4).trans he5))
        obtain ⟨zs, hzs, h10⟩ := h
        obtain rfl : ys = zs := vecs_inj (hys.symm.trans hzs)
        rw [hb5.2 h10] at h9; cases h9
      · have h10 := hb5.1 (by simpa using h9)
        refine go ?_
        refine forQ_normal (by omega) ⟨?_, (he3.trans he4).trans he5, fun i hi => ?_⟩
        · exact hasP
        · by_cases e : i = k
          · subst e; exact ⟨ys, hys, h10⟩
          · exact hI i (by omega)
  · refine go ?_
    refine ret1 ⟨_, rfl, ?_, he2⟩
    simp only [true_iff]
    exact ⟨hG, fun i hi => hI i (by omega)⟩
end Go.Proofs.Ytgomfjhhfmhlgaa

/-
  Walks: the program's IsMember and IsSubset.
  Conditions: what the arguments read as.
-/
namespace Go.Proofs.Ytgomfjhhfmhlgaa
open Go Go.Pc
theorem rows_none (w : World) (hi : Nat) : Pc.Rows 0 hi w nilv [] [] :=
  ⟨⟨⟨none, 0, rfl, Nat.le_refl _, by omega, fun k u hu => by simp at hu⟩⟩, rfl, fun j => by simpa using (Ints.nil_ w).mono (Nat.le_refl 0) (Nat.zero_le _)⟩
theorem rowss_one {w : World} {v u : Value} {us : List Value} {xss : List (List Int)} {lo hi lo1 hi1 : Nat} (hs : Sl lo hi w v [u]) (hu : Pc.Rows lo1 hi1 w u us xss) : Rowss 0 w.heap.size w v [u] [us] [xss] := by
  refine ⟨hs.wide, rfl, rfl, fun i => ?_⟩
  cases i with
  | zero => exact hu.wide
  | succ i => exact rows_none w _
theorem rowss_two {w : World} {v u t : Value} {us ts : List Value} {xss yss : List (List Int)} {lo hi lo1 hi1 lo2 hi2 : Nat} (hs : Sl lo hi w v [u, t]) (hu : Pc.Rows lo1 hi1 w u us xss) (ht : Pc.Rows lo2 hi2 w t ts yss) : Rowss 0 w.heap.size w v [u, t] [us, ts] [xss, yss] := by
  refine ⟨hs.wide, rfl, rfl, fun i => ?_⟩
  match i with
  | 0 => exact hu.wide
  | 1 => exact ht.wide
  | i + 2 => exact rows_none w _
theorem areSub1 {p : Pr} {xss : List (List Int)} : (∃ h : IsGrp p, ∀ i, i < [xss].length → @IsSeq p ⟨h.con⟩ ([xss].getD i [])) ↔ IsSubP p xss :=
  ⟨fun ⟨h, h5⟩ => ⟨h, h5 0 (by simp)⟩, fun ⟨h, h5⟩ => ⟨h, fun i hi => by
    have : i = 0 := by simpa using hi
    subst this
    exact h5⟩⟩
theorem areSub2 {p : Pr} {xss yss : List (List Int)} : (∃ h : IsGrp p, ∀ i, i < [xss, yss].length → @IsSeq p ⟨h.con⟩ ([xss, yss].getD i [])) ↔ IsSubP p xss ∧ IsSubP p yss :=
  ⟨fun ⟨h, h5⟩ => ⟨⟨h, h5 0 (by simp)⟩, ⟨h, h5 1 (by simp)⟩⟩, fun ⟨⟨h, h5⟩, ⟨_, h6⟩⟩ => ⟨h, fun i hi => by
    match i, hi with
    | 0, _ => exact h5
    | 1, _ => exact h6⟩⟩
theorem isMember_ok {p : Pr} [hc : ConAll p] {ys : List (El p)} (hs : SeqEl ys) {w : World} {vp vu vx : Value} {us : List Value} {xss : List (List Int)} {x : El p} {xs : List Int} {lo hi lo1 hi1 lo2 hi2 : Nat} [hp : PresP lo hi w vp p] [hu : Pc.Rows lo1 hi1 w vu us xss] [hx : Ints lo2 hi2 w vx xs] (hus : xss = vecs ys) (hxe : xs = x.v) :
    Calls Try.prog 119 #[vp, vu, vx] w (Ret fun v w' => ∃ b, v = .bool b ∧ (b = true ↔ Gen (fun a : El p => a ∈ ys) x) ∧ Ext w w') := by
  have hn6 := hc.valid.n6
  have hyl := hs.len
  refine enter (args := [vp, vu, vx]) (l := [.tmp 6]) Try.func119 rfl rfl Try.ntmps119 (by simp) ?_
  refine go ?_
  refine rc (representative_ok (p := p) (x := x) hs.ok hus hxe (by omega)) (next := fun v2 w2 h4 => ?_)
  obtain ⟨he2, r, hf2, hr⟩ := h4
  have hrl := r.inr.len
  refine go ?_
  refine rc (isZero_ok (xs := r.v) ?_) (next := fun v3 w3 h5 => ?_)
  · omega
  obtain ⟨b3, rfl, hb3, he3⟩ := h5
  refine go ?_
  refine ret1 ⟨b3, rfl, ?_, he2.trans he3⟩
  rw [hb3, ← el_one_iff, hr.one_iff hs]
end Go.Proofs.Ytgomfjhhfmhlgaa

/-
  Walks: the program's generators, conjugates, conjugate subgroup, test of normality, test of elements.
  Conditions: stated at each theorem.
-/
namespace Go.Proofs.Ytgomfjhhfmhlgaa
open Go Go.Pc
set_option maxHeartbeats 1000000 in
theorem generators_ok {p : Pr} [hc : ConAll p] {w : World} {vp : Value} {lo hi : Nat} [hp : PresP lo hi w vp p] :
    Calls Try.prog 98 #[vp] w (Ret fun v w' => Ext w w' ∧ ∃ rs, vecs (gensL p) = rs.map (·.2) ∧ MatO w.heap.size w'.heap.size w' v rs) := by
  have hn6 := hc.valid.n6
  have hol : p.ord.length = p.n := rfl
  obtain ⟨g, vo, vpw, vc, ps, cs, css, rfl, hg1, hg2, hc0, hc1, hc2, h1, h2, h3⟩ := hp.ex
  refine enter (args := [.pointer (some ⟨g, 0, none⟩)]) (l := [.tmp 2]) Try.func98 rfl rfl Try.ntmps98 (by simp) ?_
  refine go ?_
  refine r_for p.n (fun k ρ w' => ∃ vl rs, Has ρ [(0, .pointer (some ⟨g, 0, none⟩)), (3, vl), (9, .int .i64 p.n), (10, .int .i64 k)] ∧ Ext w w' ∧ GrowL 22 w.heap.size w' vl rs ∧ rs.map (·.2) = (List.range k).map fun i => (zeros p.n).set i 1) ?_ ?_
  · refine ⟨nilv, [], ?_, Ext.refl _, GrowL.nil _ _ _ (Nat.le_refl _), by simp⟩
    exact hasP
  rintro k ρ w3 hk ⟨vl, rs, hH, he3, hG, hrs⟩
  refine rwp_has hH fun ρ0 => ?_
  have hz3 := he3.size
  have hrl : rs.length = k := by have := congrArg List.length hrs; simp at this; omega
  refine go ?_
  refine c_if (fun h4 => ?_) (fun h4 => ?_)
  · refine go ?_
    refine rc (unitVector_ok (n := p.n) (i := k) ?_ ?_ (by omega) (by omega)) (next := fun v4 w4 h5 => ?_)
    · omega
    · rfl
    obtain ⟨he4, hf4⟩ := h5
    refine go ?_
    refine st_grow hG he4 hf4 hz3 (by omega) (next := fun v6 v7 w7 hG7 hx7 hz7 hgs7 => ?_)
    refine go ?_
    refine forQ_normal (by omega) ⟨v7, _, ?_, hx7 w (he3.trans he4) (Nat.le_refl _), hG7, ?_⟩
    · exact hasP
    · rw [List.range_succ, List.map_append, List.map_append, hrs]; simp
  · obtain rfl : k = p.n := by omega
    refine go ?_
    refine ret1 ⟨he3, rs, ?_, hG.mat⟩
    rw [hrs]
    unfold vecs gensL
    rw [List.map_map]
    exact List.map_congr_left fun i hi => gOf_val (List.mem_range.1 hi)
set_option maxHeartbeats 1000000 in
theorem conjugates_ok {p : Pr} [hc : ConAll p] {ys : List (El p)} (hyl : ys.length ≤ 10000) {w : World} {vp vu vx : Value} {us : List Value} {xss : List (List Int)} {x : El p} {xs : List Int} {lo hi lo1 hi1 lo2 hi2 : Nat} [hp : PresP lo hi w vp p] [hu : Pc.Rows lo1 hi1 w vu us xss] [hx : Ints lo2 hi2 w vx xs] (hus : xss = vecs ys) (hxe : xs = x.v) :
    Calls Try.prog 145 #[vp, vu, vx] w (Ret fun v w' => Ext w w' ∧ ∃ rs, vecs (ys.map (Grp.cj · x)) = rs.map (·.2) ∧ MatO w.heap.size w'.heap.size w' v rs) := by
  subst hus
  have hvl : (vecs ys).length = ys.length := by simp
  refine enter (args := [vp, vu, vx]) (l := [.tmp 6]) Try.func145 rfl rfl Try.ntmps145 (by simp) ?_
  refine go ?_
  refine r_for ys.length (fun k ρ w' => ∃ vl rs, Has ρ [(0, vp), (2, vx), (7, vl), (10, vu), (11, .int .i64 (vecs ys).length), (12, .int .i64 k)] ∧ Ext w w' ∧ GrowL 22 w.heap.size w' vl rs ∧ rs.map (·.2) = vecs ((ys.take k).map (Grp.cj · x))) ?_ ?_
  · refine ⟨nilv, [], ?_, Ext.refl _, GrowL.nil _ _ _ (Nat.le_refl _), by simp⟩
    exact hasP
  rintro k ρ w3 hk ⟨vl, rs, hH, he3, hG, hrs⟩
  refine rwp_has hH fun ρ0 => ?_
  have hz3 := he3.size
  have hrl : rs.length = k := by have := congrArg List.length hrs; simp at this; omega
  refine go ?_
  refine c_if (fun h4 => ?_) (fun h4 => ?_)
  · have hkn : k < ys.length := by omega
    have hg := vecs_getD ys hkn
    refine go ?_
    refine rc (conjugate_ok (p := p) (x := ys[k]) (y := x) (Nat.zero_le _) hg hxe) (next := fun v5 w5 h5 => ?_)
    obtain ⟨he5, hf5⟩ := h5
    refine go ?_
    refine st_grow hG he5 hf5 hz3 (by omega) (next := fun v6 v7 w7 hG7 hx7 hz7 hgs7 => ?_)
    refine go ?_
    refine forQ_normal (by omega) ⟨v7, _, ?_, hx7 w (he3.trans he5) (Nat.le_refl _), hG7, ?_⟩
    · exact hasP
    · rw [List.take_succ_eq_append_getElem hkn]
      simp only [List.map_append, List.map_cons, List.map_nil, hrs, vecs]
  · obtain rfl : k = ys.length := by omega
    rw [List.take_length] at hrs
    refine go ?_
    exact ret1 ⟨he3, rs, hrs.symm, hG.mat⟩
set_option maxHeartbeats 1000000 in
theorem areElements_ok {p : Pr} {w : World} {vp vl : Value} {us : List Value} {xss : List (List Int)} {lo hi lo1 hi1 : Nat} [hp : PresP lo hi w vp p] [hl : Pc.Rows lo1 hi1 w vl us xss] (hol : p.ord.length ≤ 2000000) (hxl : xss.length ≤ 2000000) :
    Calls Try.prog 69 #[vp, vl] w (Ret fun v w' => ∃ b, v = .bool b ∧ (b = true ↔ GrpL p xss) ∧ Ext w w') := by
  obtain ⟨g, vo, vpw, vc, ps, cs, css, rfl, hg1, hg2, hc0, hc1, hc2, h1, h2, h3⟩ := hp.ex
  have hpv := PresP.val (b := g) h1 h2 h3
  refine enter (args := [.pointer (some ⟨g, 0, none⟩), vl]) (l := [.tmp 4]) Try.func69 rfl rfl Try.ntmps69 (by simp) ?_
  refine go ?_
  refine rc (impl_IsConsistent_ok (p := p) hol) (next := fun v1 w1 h4 => ?_)
  obtain ⟨b1, rfl, hb1, he1⟩ := h4
  refine go ?_
  refine c_b (fun e1 => ?_) (fun e1 => ?_)
  · refine go ?_
    refine ret1 ⟨_, rfl, ?_, he1⟩
    simp only [Bool.false_eq_true, false_iff]
    rintro ⟨h, _⟩
    rw [hb1.2 h] at e1; cases e1
  have hG := hb1.1 (by simpa using e1)
  have hv := hG.valid
  refine go ?_
  refine r_for xss.length (fun q ρ w' => Has ρ [(0, .pointer (some ⟨g, 0, none⟩)), (12, vl), (13, .int .i64 xss.length), (14, .int .i64 q)] ∧ Ext w w' ∧ ∀ i, i < q → InR p (xss.getD i [])) ?_ ?_
  · refine ⟨?_, he1, fun i hi => by omega⟩
    exact hasP
  clear he1
  rintro q ρ w3 hq ⟨hH3, he3, hQ⟩
  refine rwp_has hH3 fun ρ1 => ?_
  refine go ?_
  refine c_if (fun h6 => ?_) (fun h6 => ?_)
  · refine go ?_
    refine rc (isExponents_ok (p := p) (xs := xss.getD q []) (fun i hi => hv.opos hi) hol) (next := fun v4 w4 h7 => ?_)
    obtain ⟨b4, rfl, hb4, he4⟩ := h7
    refine go ?_
    refine c_b (fun h8 => ?_) (fun h8 => ?_)
    · refine go ?_
      refine ret1 ⟨_, rfl, ?_, he3.trans he4⟩
      simp only [Bool.false_eq_true, false_iff]
      rintro ⟨_, h⟩
      rw [hb4.2 (h q (by omega))] at h8; cases h8
    · have h9 := hb4.1 (by simpa using h8)
      refine go ?_
      refine forQ_normal (by omega) ⟨?_, he3.trans he4, fun i hi => ?_⟩
      · exact hasP
      · by_cases e : i = q
        · subst e; exact h9
        · exact hQ i (by omega)
  · refine go ?_
    refine ret1 ⟨_, rfl, ?_, he3⟩
    simp only [true_iff]
    exact ⟨hG, fun i hi => hQ i (by omega)⟩
end Go.Proofs.Ytgomfjhhfmhlgaa
