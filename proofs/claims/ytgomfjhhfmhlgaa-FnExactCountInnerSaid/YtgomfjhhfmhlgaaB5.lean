/-
  Texts of one proof, put together by program: I19, I25, L01, L02, L03, L04, L05, Open, Ans4, Dig, Enum, Ser2, W18, W20, W23, W26, I15, I13, I17, I18, I20, I23, I26, L06.
  Conditions: those told at each part.
-/
import Derived.Test.YtgomfjhhfmhlgaaB4
import Derived.Deep.Slices
set_option linter.unusedVariables false
set_option linter.unusedSimpArgs false
set_option linter.unusedSectionVars false
set_option linter.constructorNameAsVariable false
set_option linter.unnecessarySimpa false
set_option linter.deprecated false
/-
  Walks: the program's slices.Concat, closure under conjugation, commutator subgroup; SubgroupJoin, NormalClosure, CommutatorSubgroup.
  Conditions: stated at each theorem.
-/
namespace Go.Proofs.Ytgomfjhhfmhlgaa
open Go Go.Pc
set_option maxHeartbeats 400000 in
theorem growRows_ok {w : World} {n : Nat} {k : Int} (hk : k = n) (hn : n ≤ 1000000) :
    Calls Try.prog 146 #[nilv, .int .i64 k] w (Ret fun v w' => Ext w w' ∧ OwnN 22 w.heap.size w' v []) := by
  subst hk
  have hl0 : Len w nilv 0 := ⟨⟨none, 0, rfl, Nat.le_refl _, by omega, fun h => by omega⟩⟩
  refine enter (args := [nilv, .int .i64 n]) (l := [.tmp 4]) Try.func146 rfl rfl Try.ntmps146 (by simp) ?_
  refine go ?_
  refine c_if (fun h4 => ?_) (fun h4 => ?_)
  · omega
  refine go ?_
  refine ra (h := rd_cap_nil (by ((try simp only [ev_tmp, ev_const, ev_func, get_put, get_args, get_putL, get_putL_nil, Nat.reduceEqDiff, reduceIte, List.getD_cons_zero, List.getD_cons_succ, List.getD_nil]); first | done | with_reducible rfl))) (next := ?_)
  refine go ?_
  refine c_if (fun h5 => ?_) (fun h5 => ?_)
  · refine go ?_
    refine ra (h := rd_cap_nil (by ((try simp only [ev_tmp, ev_const, ev_func, get_put, get_args, get_putL, get_putL_nil, Nat.reduceEqDiff, reduceIte, List.getD_cons_zero, List.getD_cons_succ, List.getD_nil]); first | done | with_reducible rfl))) (next := ?_)
    refine go ?_
    have hkk : (n : Int) - (0 - ((0 : Nat) : Int)) = (n : Int) := by omega
    rw [hkk, show cutTo nilv 0 = nilv from rfl]
    refine st_appz (n := n) Try.underlying3 (by ((try simp only [ev_tmp, ev_const, ev_func, get_put, get_args, get_putL, get_putL_nil, Nat.reduceEqDiff, reduceIte, List.getD_cons_zero, List.getD_cons_succ, List.getD_nil]); first | done | with_reducible rfl)) (by ((try simp only [ev_tmp, ev_const, ev_func, get_put, get_args, get_putL, get_putL_nil, Nat.reduceEqDiff, reduceIte, List.getD_cons_zero, List.getD_cons_succ, List.getD_nil]); first | done | with_reducible rfl)) (by omega) hn (by decide) rfl (by first | exact True.intro | exact ⟨_, rfl, by ((try simp only [ev_tmp, ev_const, ev_func, get_put, get_args, get_putL, get_putL_nil, Nat.reduceEqDiff, reduceIte, List.getD_cons_zero, List.getD_cons_succ, List.getD_nil, Bool.not_true, Bool.not_false]); first | done | with_reducible rfl)⟩) fun w1 v1 he1 hl1 ho1 => ?_
    refine go ?_
    exact ret1 ⟨he1, ho1.toN⟩
  · refine go ?_
    exact ret1 ⟨Ext.refl _, OwnN.nil _ _ _⟩
theorem SeqAt.ext {p : Pr} {bs b0 base : Nat} {av : Nat → Prop} {w w' : World} {vp vb : Value} {t : Tab p} (h : SeqAt bs b0 base av w vp vb t) (x : Ext w w') : SeqAt bs b0 base av w' vp vb t := by
  obtain ⟨c0, c1, hn, ho, us, hL, hnil⟩ := h
  exact ⟨c0.same (x.same _ _) x.size, c1.same (x.same _ _) x.size, hn, ho, us, hL.ext x, hnil⟩
theorem canonicalM_ok {p : Pr} [hcon : ConAll p] {t : Tab p} (hf : Full t) {av : Nat → Prop} {base bs b0 : Nat} {w : World} {vp vb : Value} {lo hi : Nat} [hp : PresP lo hi w vp p] (hq : SeqAt bs b0 base av w vp vb t) :
    Calls Try.prog 144 #[.pointer (some ⟨bs, 0, none⟩)] w (Ret fun v w' => Ext w w' ∧ ∃ rs, canon (Gen (Ents t)) = rs.map (·.2) ∧ MatO w.heap.size w'.heap.size w' v rs) :=
  Pc.Calls.ret_mono (canonicalO_ok hf hq) fun _ _ ⟨h1, rs, h2, h3, h4⟩ => ⟨h1, rs, h3, MatO.ofLst h2 h4 h2.newRows⟩
set_option maxHeartbeats 4000000 in
theorem closure_ok {p : Pr} [hcon : ConAll p] {ls bs : List (El p)} (hll : ls.length ≤ 100000) (hbl : bs.length ≤ 1000) {w : World} {vp vl vb : Value} {us ub : List Value} {xss yss : List (List Int)} {lo hi lo1 hi1 lo2 hi2 : Nat} [hp : PresP lo hi w vp p] [hl : Pc.Rows lo1 hi1 w vl us xss] [hb : Pc.Rows lo2 hi2 w vb ub yss] (hls : xss = vecs ls) (hbs : yss = vecs bs) :
    Calls Try.prog 100 #[vp, vl, vb] w (Ret fun v w' => Ext w w' ∧ ∃ rs, canon (Clo (fun a : El p => a ∈ ls) (fun a : El p => a ∈ bs)) = rs.map (·.2) ∧ MatO w.heap.size w'.heap.size w' v rs) := by
  subst hls hbs
  have hn6 := hcon.valid.n6
  have hbvl : (vecs bs).length = bs.length := by simp
  replace hp := hp.wide
  replace hl := hl.wide
  replace hb := hb.wide
  have hSC := Clo.sub (fun a : El p => a ∈ ls) (fun a : El p => a ∈ bs)
  refine enter (args := [vp, vl, vb]) (l := [.tmp 6]) Try.func100 rfl rfl Try.ntmps100 (by simp) ?_
  refine go ?_
  refine rc (newSequence_ok (p := p) hn6) (next := fun v1 w1 h1 => ?_)
  obtain ⟨st, vt, rfl, he1, hc0, hc1, hst, hvt, ho⟩ := h1
  have hz1 := he1.size
  have hq : SeqAt st w.heap.size w.heap.size (fun _ => False) w1 vp vt (fun _ => none : Tab p) := by
    refine ⟨hc0, hc1, by omega, hvt, List.replicate p.n nilv, ?_, fun d hd _ => ?_⟩
    · rw [tabL_none]
      exact Lst.ofNils ho (Nat.le_refl _) (fun h => h) (fun g h => h.elim)
    · rw [List.getD_eq_getElem?_getD, List.getElem?_replicate]; split <;> rfl
  have hap : Apart 0 w.heap.size w.heap.size := ⟨.inr (Nat.le_refl _)⟩
  have hr : RowsAp (fun g => g = w.heap.size) w1 us (vecs ls) := (hl.ap (Nat.le_refl _) (fun g hg => .inr (by omega))).ext he1
  have hsl : Sl 0 w.heap.size w1 vl us := inferInstance
  refine go ?_
  refine rc (add_ok (p := p) (S := fun _ => False) hz1 hq Wk.none hr hll) (next := fun v2 w2 h2 => ?_)
  obtain ⟨bg2, t2, rfl, hch2, hq2, hW2, _⟩ := h2
  have he2 : Ext w w2 := hch2.ext he1 (Nat.le_refl _)
  have hz12 := hch2.size
  have hz11 : w.heap.size + 1 ≤ w1.heap.size := by have := ho.lt; omega
  clear hch2 hsl hc0 hc1 hr hq ho
  refine go ?_
  refine r_loop (fun m ρ w' => ∃ (gb : Bool) (t : Tab p) (S : El p → Prop), Has ρ [(0, vp), (2, vb), (7, .pointer (some ⟨st, 0, none⟩)), (8, .bool gb)] ∧ Ext w w' ∧ w.heap.size + 1 ≤ w'.heap.size ∧ SeqAt st w.heap.size w.heap.size (fun _ => False) w' vp vt t ∧ Wk S t (fun _ => False) ∧
    (∀ a, S a → Clo (fun a : El p => a ∈ ls) (fun a : El p => a ∈ bs) a) ∧ (∀ y, y ∈ ls → S y) ∧ (gb = false → ∀ a, Clo (fun a : El p => a ∈ ls) (fun a : El p => a ∈ bs) a → Gen S a) ∧ m = (if gb then 1 else 0) + 2 * (p.n - (canEls (Gen S)).length)) (1 + 2 * (p.n - (canEls (Gen (fun a : El p => False ∨ a ∈ ls))).length)) ?_ ?_
  · refine ⟨true, t2, _, ?_, he2, by omega, hq2, hW2, fun a ha => .of a (ha.resolve_left id), fun y hy => .inr hy, fun h => (by cases h), rfl⟩
    exact hasP
  clear hq2 hW2 he2 t2
  rintro m ρ w2' ⟨gb, t, S, hH, he2, hz2, hq2, hW2, hSc, hlS, hcl, hm⟩
  refine rwp_has hH fun ρ0 => ?_
  have hgen := hW2.gen (fun _ h => h)
  have hfull := hW2.full (fun _ h => h)
  have hSS := Gen.sub S
  have hos := seqEl_can hSS
  have hol := hos.len
  refine go ?_
  refine c_b (fun eg => ?_) (fun eg => ?_)
  · subst eg
    rw [if_pos rfl] at hm
    refine go ?_
    refine rc (canonicalM_ok (p := p) hfull hq2) (next := fun v3 w3 h3 => ?_)
    obtain ⟨he3, rs3, hrs3, hM3⟩ := h3
    rw [hgen, canon_vecs] at hrs3
    have hR3 := hM3.rows
    rw [← hrs3] at hR3
    have hz3 := he3.size
    have ap3 : Apart w2'.heap.size w3.heap.size w.heap.size := ⟨.inl (by omega)⟩
    have hE3 := he2.trans he3
    refine go ?_
    refine r_for bs.length (fun i ρ w' => ∃ (gb : Bool) (t' : Tab p) (S' : El p → Prop), Has ρ [(0, vp), (2, vb), (7, .pointer (some ⟨st, 0, none⟩)), (8, .bool gb), (9, v3), (20, vb), (21, .int .i64 (vecs bs).length), (22, .int .i64 i)] ∧ Chg w.heap.size w3 w' ∧ SeqAt st w.heap.size w.heap.size (fun _ => False) w' vp vt t' ∧ Wk S' t' (fun _ => False) ∧
      (∀ a, S a → S' a) ∧ (∀ a, S' a → Clo (fun a : El p => a ∈ ls) (fun a : El p => a ∈ bs) a) ∧ (∀ i' (h : i' < bs.length), i' < i → ∀ o, o ∈ canEls (Gen S) → S' (Grp.cj o bs[i'])) ∧ (gb = true ↔ ∃ a, S' a ∧ ¬ Gen S a)) ?_ ?_
    · refine ⟨false, t, S, ?_, Chg.refl _ _, hq2.ext he3, hW2, fun a ha => ha, hSc, fun i' _ h => absurd h (Nat.not_lt_zero _), ?_⟩
      · exact hasP
      · simp only [Bool.false_eq_true, false_iff]
        rintro ⟨a, h1, h2⟩
        exact h2 (.of a h1)
    clear hq2 hW2 he2 he3
    rintro i ρ w4 hi ⟨gb, t', S', hH4, hch4, hq4, hW4, hS4, hC4, hK4, hf4⟩
    refine rwp_has hH4 fun ρ1 => ?_
    have hE4 : Ext w w4 := hch4.ext hE3 (Nat.le_refl _)
    have hz4 := hch4.size
    have hR4 : Pc.Rows w2'.heap.size w3.heap.size w4 v3 _ _ := hR3.same (hch4.same (.inl (by omega)))
    refine go ?_
    refine c_if (fun h4 => ?_) (fun h4 => ?_)
    · have hin : i < bs.length := by omega
      have hg := vecs_getD bs hin
      have hbi : Ints 0 w.heap.size w4 (Pc.rowAt vb ub i) ((vecs bs).getD i []) := (hb.vals.at_ i).same (hE4.same _ _)
      have hch4' := hch4
      clear hch4
      refine go ?_
      refine rc (conjugates_ok (p := p) (ys := canEls (Gen S)) (x := bs[i]) (by omega) rfl hg) (next := fun v5 w5 h5 => ?_)
      obtain ⟨he5, rs5, hrs5, hM5⟩ := h5
      have hR5 := hM5.rows
      rw [← hrs5] at hR5
      have hz5 := he5.size
      have hr5 : RowsAp (fun g => g = w.heap.size) w5 _ (vecs ((canEls (Gen S)).map (Grp.cj · bs[i]))) := hR5.ap (Nat.le_refl _) (fun g hg => .inl (by omega))
      have hsl5 := hR5.sl
      have hE5 := hE4.trans he5
      refine go ?_
      refine rc (add_ok (p := p) (S := S') (by omega) (hq4.ext he5) hW4 hr5 (by simp; omega)) (next := fun v6 w6 h6 => ?_)
      obtain ⟨bg6, t6, rfl, hch6, hq6, hW6, hbg6⟩ := h6
      have hch36 : Chg w.heap.size w3 w6 := (hch4'.grow he5).trans hch6
      have hS6 : ∀ a, S a → S' a ∨ a ∈ (canEls (Gen S)).map (Grp.cj · bs[i]) := fun a ha => .inl (hS4 a ha)
      have hC6 : ∀ a, (S' a ∨ a ∈ (canEls (Gen S)).map (Grp.cj · bs[i])) → Clo (fun a : El p => a ∈ ls) (fun a : El p => a ∈ bs) a := fun a ha => by
        rcases ha with ha | ha
        · exact hC4 a ha
        · obtain ⟨o, ho, rfl⟩ := List.mem_map.1 ha
          obtain ⟨d, _, hd⟩ := canEls_mem.1 ho
          exact .cj _ _ (Gen.le hSC hSc _ (canT_some hd).mem) (List.getElem_mem hin)
      have hK6 : ∀ i' (h : i' < bs.length), i' < i + 1 → ∀ o, o ∈ canEls (Gen S) → S' (Grp.cj o bs[i']) ∨ Grp.cj o bs[i'] ∈ (canEls (Gen S)).map (Grp.cj · bs[i]) := fun i' h h7 o ho => by
        by_cases e : i' = i
        · subst e; exact .inr (List.mem_map.2 ⟨o, ho, rfl⟩)
        · exact .inl (hK4 i' h (by omega) o ho)
      have hSG : ∀ a, Gen S a → Gen S' a := Gen.le (Gen.sub S') fun a ha => .of a (hS4 a ha)
      refine go ?_
      refine c_b (fun eb => ?_) (fun eb => ?_)
      · subst eb
        refine go ?_
        refine forQ_normal (by omega) ⟨true, t6, _, ?_, hch36, hq6, hW6, hS6, hC6, hK6, ?_⟩
        · exact hasP
        · obtain ⟨a, h7, h8⟩ := hbg6.1 rfl
          exact ⟨fun _ => ⟨a, .inr h7, fun h => h8 (hSG a h)⟩, fun _ => rfl⟩
      · subst eb
        refine go ?_
        refine forQ_normal (by omega) ⟨gb, t6, _, ?_, hch36, hq6, hW6, hS6, hC6, hK6, ?_⟩
        · exact hasP
        · constructor
          · intro h
            obtain ⟨a, h7, h8⟩ := hf4.1 h
            exact ⟨a, .inl h7, h8⟩
          · rintro ⟨a, h7 | h7, h8⟩
            · exact hf4.2 ⟨a, h7, h8⟩
            · cases hgb : gb with
              | true => rfl
              | false =>
                exfalso
                have h9 : ∀ a, S' a → Gen S a := fun b hb' => Classical.byContradiction fun hn => by
                  have := hf4.2 ⟨b, hb', hn⟩
                  rw [hgb] at this; cases this
                have h10 : Gen S' a := Classical.byContradiction fun hn => by
                  have := hbg6.2 ⟨a, h7, hn⟩
                  cases this
                exact h8 (Gen.le hSS h9 a h10)
    · obtain rfl : i = bs.length := by omega
      have hS4S := Gen.sub S'
      have hSG : ∀ a, Gen S a → Gen S' a := Gen.le hS4S fun a ha => .of a (hS4 a ha)
      have hle := can_len_le hSS hS4S hSG
      have hl4 := (seqEl_can hS4S).len
      refine go ?_
      refine loopQ_normal ?_ ⟨gb, t', S', ?_, hE4, by omega, hq4, hW4, hC4, fun y hy => hS4 y (hlS y hy), fun hgb a ha => ?_, rfl⟩
      · cases hgb : gb with
        | false => simp only [Bool.false_eq_true, if_false]; omega
        | true =>
          simp only [if_true]
          obtain ⟨a, h7, h8⟩ := hf4.1 hgb
          have hne : (canEls (Gen S)).length ≠ (canEls (Gen S')).length := fun e => h8 (same_of_len hSS hS4S hSG (by omega) a (.of a h7))
          omega
      · exact hasP
      · have h9 : ∀ a, S' a → Gen S a := fun b hb' => Classical.byContradiction fun hn => by
          have := hf4.2 ⟨b, hb', hn⟩
          rw [hgb] at this; cases this
        refine Clo.le hS4S (fun y hy => .of y (hS4 y (hlS y hy))) (fun a b ha hb' => ?_) a ha
        have h10 : Gen S a := Gen.le hSS h9 a ha
        rw [← gen_can_eq hSS] at h10
        refine Gen.cj_closed hS4S (fun o ho => ?_) a h10
        obtain ⟨i', hi', rfl⟩ := List.getElem_of_mem hb'
        exact .of _ (hK4 i' hi' hi' o ho)
  · subst eg
    have hfun : Gen S = Clo (fun a : El p => a ∈ ls) (fun a : El p => a ∈ bs) := by
      funext a; exact propext ⟨Gen.le hSC hSc a, hcl rfl a⟩
    refine go ?_
    refine rc (canonicalM_ok (p := p) hfull hq2) (next := fun v3 w3 h3 => ?_)
    obtain ⟨he3, rs3, hrs3, hM3⟩ := h3
    rw [hgen, hfun] at hrs3
    refine go ?_
    exact ret1 ⟨he2.trans he3, rs3, hrs3, hM3.lower he2.size⟩
theorem flat_take {α : Type} (L : List (List α)) {k : Nat} (hk : k < L.length) : (L.take (k + 1)).flatten = (L.take k).flatten ++ L.getD k [] := by
  rw [List.take_succ_eq_append_getElem hk, List.flatten_append]; simp [hk]
theorem rows_one {lo hi : Nat} {w : World} {v : Value} {us : List Value} {xss : List (List Int)} (h : Pc.Rows lo hi w v us xss) : ∀ u ∈ us, u.oneCell' = true := by
  intro u hu
  obtain ⟨i, hi, rfl⟩ := List.getElem_of_mem hu
  have := (h.vals.at_ i).sl.one
  rwa [show us.getD i nilv = us[i] by simp [hi]] at this
set_option maxHeartbeats 1000000 in
theorem concat_ok {w : World} {v v1 v2 : Value} {us vs : List Value} {xss yss : List (List Int)} {lo hi : Nat} [hl : Rowss lo hi w v [v1, v2] [us, vs] [xss, yss]] (hx : xss.length ≤ 100000) (hy : yss.length ≤ 100000) :
    Calls Try.prog 101 #[v] w (Ret fun v' w' => Ext w w' ∧ ∃ us', Pc.Rows 0 w'.heap.size w' v' us' (xss ++ yss)) := by
  replace hl := hl.wide
  have hlen : ∀ k, ([xss, yss].getD k []).length ≤ 100000 := fun k => by
    match k with
    | 0 => exact hx
    | 1 => exact hy
    | k + 2 => simp
  have h2 : [xss, yss].length = 2 := rfl
  refine enter (args := [v]) (l := [.tmp 2]) Try.func101 rfl rfl Try.ntmps101 (by simp) ?_
  refine go ?_
  refine r_for 2 (fun k ρ w' => ∃ s : Nat, Has ρ [(0, v), (3, .int .i64 s), (9, v), (10, .int .i64 [xss, yss].length), (11, .int .i64 k)] ∧ Ext w w' ∧ s ≤ 100000 * k) ?_ ?_
  · refine ⟨0, ?_, Ext.refl _, Nat.zero_le _⟩
    exact hasP
  rintro k ρ w2 hk ⟨s, hH, he2, hs⟩
  refine rwp_has hH fun ρ0 => ?_
  refine go ?_
  refine c_if (fun h4 => ?_) (fun h4 => ?_)
  · have hlk := hlen k
    refine go ?_
    refine c_if (fun h5 => ?_) (fun h5 => ?_)
    · omega
    refine go ?_
    refine forQ_normal (by omega) ⟨s + ([xss, yss].getD k []).length, ?_, he2, by omega⟩
    exact hasP
  refine go ?_
  refine rc (growRows_ok (n := s) rfl (by omega)) (next := fun v3 w3 h5 => ?_)
  obtain ⟨he3, ho3⟩ := h5
  have hE3 := he2.trans he3
  have hz2 := he2.size
  have hL3 : Lst 22 w.heap.size (fun _ => False) w3 v3 [] [] := ⟨ho3.mono hz2, RowsAp.nil _ _, fun _ _ h => h, fun _ h => h.elim⟩
  refine go ?_
  refine r_for 2 (fun k ρ w' => ∃ vl, Has ρ [(6, vl), (25, v), (26, .int .i64 [xss, yss].length), (27, .int .i64 k)] ∧ Ext w w' ∧ Lst 22 w.heap.size (fun _ => False) w' vl (([us, vs].take k).flatten) (([xss, yss].take k).flatten)) ?_ ?_
  · refine ⟨v3, ?_, hE3, by simpa using hL3⟩
    exact hasP
  rintro k ρ w4 hk ⟨vl, hH4, he4, hL4⟩
  refine rwp_has hH4 fun ρ1 => ?_
  have hz4 := he4.size
  refine go ?_
  refine c_if (fun h4 => ?_) (fun h4 => ?_)
  · have hlk := hlen k
    have hrow : Pc.Rows 0 w.heap.size w4 (Pc.rowAt v [v1, v2] k) ([us, vs].getD k []) ([xss, yss].getD k []) := (hl.vals.at_ k).same (he4.same _ _)
    have hrl := hrow.vals.len
    have hO4 := hL4.own
    have hsl4 := hrow.sl
    have hul4 := hL4.len
    have hfl : (([xss, yss].take k).flatten).length ≤ 200000 := by
      match k with
      | 0 => simp
      | 1 => simp; omega
      | k + 2 => simp; omega
    refine go ?_
    refine st_append (hv := hO4) (hy := hsl4) (by ((try simp only [ev_tmp, ev_const, ev_func, get_put, get_args, get_putL, get_putL_nil, Nat.reduceEqDiff, reduceIte, List.getD_cons_zero, List.getD_cons_succ, List.getD_nil]); first | done | with_reducible rfl)) (by ((try simp only [ev_tmp, ev_const, ev_func, get_put, get_args, get_putL, get_putL_nil, Nat.reduceEqDiff, reduceIte, List.getD_cons_zero, List.getD_cons_succ, List.getD_nil]); first | done | with_reducible rfl)) rfl (rows_one hrow) ?_ ?_ ?_ (by first | exact True.intro | exact ⟨_, rfl, by ((try simp only [ev_tmp, ev_const, ev_func, get_put, get_args, get_putL, get_putL_nil, Nat.reduceEqDiff, reduceIte, List.getD_cons_zero, List.getD_cons_succ, List.getD_nil, Bool.not_true, Bool.not_false]); first | done | with_reducible rfl)⟩) fun v5 w5 ho5 hg5 ha5 => ?_
    · omega
    · simp only [maxLen]; omega
    · omega
    have hL5 := hL4.pushs (hrow.ap (av := fun g => False ∨ vl.ownBlock = some g) (by omega) (fun g hg => .inr (by
      rcases hg with hg | hg
      · exact hg.elim
      · exact (hL4.lt hg).1))) ho5 hg5 ha5
    refine go ?_
    refine forQ_normal (by omega) ⟨v5, ?_, he4.app hg5 (fun g hg => (hL4.lt hg).1), ?_⟩
    · exact hasP
    · rw [flat_take _ (show k < [us, vs].length by simp; omega), flat_take _ (show k < [xss, yss].length by simp; omega)]
      exact hL5
  · obtain rfl : k = 2 := by omega
    refine go ?_
    have e : ([xss, yss].take 2).flatten = xss ++ yss := by simp
    rw [e] at hL4
    exact ret1 ⟨he4, _, hL4.toRows⟩
set_option maxHeartbeats 1000000 in
theorem commutatorSubgroup_ok {p : Pr} [hc : ConAll p] {ys zs : List (El p)} (hyl : ys.length ≤ 100) (hzl : zs.length ≤ 100) {w : World} {vp vu vv : Value} {us vs : List Value} {xss yss : List (List Int)} {lo hi lo1 hi1 lo2 hi2 : Nat} [hp : PresP lo hi w vp p] [hu : Pc.Rows lo1 hi1 w vu us xss] [hv : Pc.Rows lo2 hi2 w vv vs yss] (hus : xss = vecs ys) (hvs : yss = vecs zs) :
    Calls Try.prog 61 #[vp, vu, vv] w (Ret fun v w' => Ext w w' ∧ ∃ rs, canon (CommC ys zs) = rs.map (·.2) ∧ MatO w.heap.size w'.heap.size w' v rs) := by
  subst hus hvs
  have hyv : (vecs ys).length = ys.length := by simp
  have hzv : (vecs zs).length = zs.length := by simp
  refine enter (args := [vp, vu, vv]) (l := [.tmp 6]) Try.func61 rfl rfl Try.ntmps61 (by simp) ?_
  refine go ?_
  refine r_for ys.length (fun i ρ w' => ∃ vl rs, Has ρ [(0, vp), (1, vu), (2, vv), (7, vl), (12, vu), (13, .int .i64 (vecs ys).length), (14, .int .i64 i)] ∧ Ext w w' ∧ GrowL 22 w.heap.size w' vl rs ∧ rs.map (·.2) = vecs (commsL2 (ys.take i) zs) ∧ rs.length ≤ 1000 * i) ?_ ?_
  · refine ⟨nilv, [], ?_, Ext.refl _, GrowL.nil _ _ _ (Nat.le_refl _), by simp [commsL2], by simp⟩
    exact hasP
  rintro i ρ w2 hi ⟨vl, rs, hH, he2, hG2, hrs2, hl2⟩
  refine rwp_has hH fun ρ0 => ?_
  refine go ?_
  refine c_if (fun h4 => ?_) (fun h4 => ?_)
  · have hin : i < ys.length := by omega
    have hg1 := vecs_getD ys hin
    refine go ?_
    refine r_for zs.length (fun j ρ w' => ∃ vl rs, Has ρ [(0, vp), (1, vu), (2, vv), (7, vl), (9, Pc.rowAt vu us i), (12, vu), (13, .int .i64 (vecs ys).length), (14, .int .i64 i), (18, vv), (19, .int .i64 (vecs zs).length), (20, .int .i64 j)] ∧ Ext w w' ∧ GrowL 22 w.heap.size w' vl rs ∧ rs.map (·.2) = vecs (commsL2 (ys.take i) zs ++ (zs.take j).map (Grp.cm ys[i])) ∧ rs.length ≤ 1000 * i + j) ?_ ?_
    · refine ⟨vl, rs, ?_, he2, hG2, by simpa using hrs2, by omega⟩
      exact hasP
    clear he2 hG2 hrs2 hl2
    rintro j ρ w3 hj ⟨vl, rs, hH3, he3, hG3, hrs3, hl3⟩
    refine rwp_has hH3 fun ρ1 => ?_
    have hz3 := he3.size
    refine go ?_
    refine c_if (fun h5 => ?_) (fun h5 => ?_)
    · have hjn : j < zs.length := by omega
      have hg2 := vecs_getD zs hjn
      refine go ?_
      refine rc (commutator_ok (p := p) (x := ys[i]) (y := zs[j]) (Nat.zero_le _) hg1 hg2) (next := fun v5 w5 h6 => ?_)
      obtain ⟨he5, hf5⟩ := h6
      refine go ?_
      refine st_grow hG3 he5 hf5 hz3 (by omega) (next := fun v6 v7 w7 hG7 hx7 hz7 hgs7 => ?_)
      refine go ?_
      refine forQ_normal (by omega) ⟨v7, _, ?_, hx7 w (he3.trans he5) (Nat.le_refl _), hG7, ?_, ?_⟩
      · exact hasP
      · rw [List.take_succ_eq_append_getElem hjn]
        simp only [List.map_append, List.map_cons, List.map_nil, hrs3, vecs, List.append_assoc]
      · simp only [List.length_append, List.length_singleton]; omega
    · obtain rfl : j = zs.length := by omega
      rw [List.take_length, ← commsL2_succ hin] at hrs3
      refine go ?_
      refine forQ_normal (by omega) ⟨vl, rs, ?_, he3, hG3, hrs3, by omega⟩
      exact hasP
  · obtain rfl : i = ys.length := by omega
    rw [List.take_length] at hrs2
    have hz2 := he2.size
    have hll : (commsL2 ys zs).length ≤ 100000 := by
      have := congrArg List.length hrs2
      simp at this
      omega
    refine go ?_
    refine st_slice2 (u := vu) (v := vv) (by ((try simp only [ev_tmp, ev_const, ev_func, get_put, get_args, get_putL, get_putL_nil, Nat.reduceEqDiff, reduceIte, List.getD_cons_zero, List.getD_cons_succ, List.getD_nil]); first | done | with_reducible rfl)) (by ((try simp only [ev_tmp, ev_const, ev_func, get_put, get_args, get_putL, get_putL_nil, Nat.reduceEqDiff, reduceIte, List.getD_cons_zero, List.getD_cons_succ, List.getD_nil]); first | done | with_reducible rfl)) ?_ ?_ ?_ (by first | exact True.intro | exact ⟨_, rfl, by ((try simp only [ev_tmp, ev_const, ev_func, get_put, get_args, get_putL, get_putL_nil, Nat.reduceEqDiff, reduceIte, List.getD_cons_zero, List.getD_cons_succ, List.getD_nil, Bool.not_true, Bool.not_false]); first | done | with_reducible rfl)⟩) fun w4 v4 he4 hs4 ho4 => ?_
    · exact hu.sl.cells
    · exact hv.sl.cells
    · rfl
    have hu4 : Pc.Rows lo1 hi1 w4 vu us (vecs ys) := hu.same ((he2.trans he4).same _ _)
    have hv4 : Pc.Rows lo2 hi2 w4 vv vs (vecs zs) := hv.same ((he2.trans he4).same _ _)
    have hR4 := rowss_two ho4 hu4 hv4
    refine go ?_
    refine rc (concat_ok (xss := vecs ys) (yss := vecs zs) (by omega) (by omega)) (next := fun v5 w5 h6 => ?_)
    obtain ⟨he5, us5, hR5⟩ := h6
    have hG5 := (hG2.ext he4).ext he5
    have hRl := hG5.rows
    have hE5 := (he2.trans he4).trans he5
    refine go ?_
    refine rc (closure_ok (p := p) (ls := commsL2 ys zs) (bs := ys ++ zs) hll (by simp; omega) hrs2 ?_) (next := fun v6 w6 h7 => ?_)
    · simp [vecs]
    obtain ⟨he6, rs6, hrs6, hM6⟩ := h7
    refine go ?_
    exact ret1 ⟨hE5.trans he6, rs6, hrs6, hM6.lower hE5.size⟩
end Go.Proofs.Ytgomfjhhfmhlgaa

/-
  Walks: the program's series of subgroups; DerivedSeries, LowerCentralSeries, NilpotencyClass.
  Conditions: stated at each theorem.
-/
namespace Go.Proofs.Ytgomfjhhfmhlgaa
open Go Go.Pc
theorem whole_ok {p : Pr} [hc : ConAll p] {w : World} {vp : Value} {lo hi : Nat} [hp : PresP lo hi w vp p] :
    Calls Try.prog 59 #[vp] w (Ret fun v w' => Ext w w' ∧ ∃ rs, vecs (gensL p) = rs.map (·.2) ∧ MatO w.heap.size w'.heap.size w' v rs) := by
  refine enter (args := [vp]) (l := [.tmp 2]) Try.func59 rfl rfl Try.ntmps59 (by simp) ?_
  refine go ?_
  refine rc (generators_ok (p := p)) (next := fun v1 w1 h1 => ?_)
  obtain ⟨he1, rs1, hrs1, hM1⟩ := h1
  refine go ?_
  exact ret1 ⟨he1, rs1, hrs1, hM1⟩
set_option maxHeartbeats 4000000 in
theorem series_ok {f : FuncId} {caps : Array Value} [hf : FnT Try.prog f] {p : Pr} [hcon : ConAll p] {F : List (El p) → List (El p)} {y0 : List (El p)} (hS : SerOk F y0) {s : Nat} {w : World} {v0 : Value} {rs0 : List (Value × List Int)} (hs : s ≤ w.heap.size) (hM0 : MatO s w.heap.size w v0 rs0) (he0 : vecs y0 = rs0.map (·.2))
    (hcall : ∀ {w' : World} {vx : Value} {lo' hi' : Nat} {us : List Value} {xss : List (List Int)}, Ext w w' → ∀ ys : List (El p), SeqEl ys → Pc.Rows lo' hi' w' vx us xss → xss = vecs ys → Calls Try.prog f (#[vx] ++ caps) w' (Ret fun r w'' => Ext w' w'' ∧ ∃ rs, vecs (F ys) = rs.map (·.2) ∧ MatO w'.heap.size w''.heap.size w'' r rs)) :
    Calls Try.prog 58 #[v0, .func (.func f) #[] caps] w (Ret fun v w' => Ext w w' ∧ ∃ K gs, SerR F y0 K ∧ (gs.map fun q : Value × List (Value × List Int) => q.2.map (·.2)) = (List.range (K + 1)).map (fun j => vecs (itL F y0 j)) ∧ MatC s w'.heap.size w' v gs) := by
  have hn6 := hcon.valid.n6
  have hR0 := hM0.rows
  refine enter (args := [v0, .func (.func f) #[] caps]) (l := [.tmp 4]) Try.func58 rfl rfl Try.ntmps58 (by simp) ?_
  refine go ?_
  refine st_slice1o (u := v0) (by ((try simp only [ev_tmp, ev_const, ev_func, get_put, get_args, get_putL, get_putL_nil, Nat.reduceEqDiff, reduceIte, List.getD_cons_zero, List.getD_cons_succ, List.getD_nil]); first | done | with_reducible rfl)) ?_ ?_ (by first | exact True.intro | exact ⟨_, rfl, by ((try simp only [ev_tmp, ev_const, ev_func, get_put, get_args, get_putL, get_putL_nil, Nat.reduceEqDiff, reduceIte, List.getD_cons_zero, List.getD_cons_succ, List.getD_nil, Bool.not_true, Bool.not_false]); first | done | with_reducible rfl)⟩) fun w1 v1 he1 hs1 ho1 => ?_
  · exact hR0.sl.cells
  · rfl
  have hG1 := GrowV.one ho1 rfl (Nat.le_refl _) hR0 hs he1
  have hO1 := OwnC.one ho1 rfl hM0 hs he1
  have hz1 := he1.size
  refine go ?_
  refine r_for p.n (fun j ρ w' => ∃ vl gs, Has ρ [(1, .func (.func f) #[] caps), (5, vl)] ∧ Ext w w' ∧ GrowV 23 w.heap.size s w' vl (gs.map (·.1)) (gs.map fun q : Value × List (Value × List Int) => q.2.map (·.1)) (gs.map fun q : Value × List (Value × List Int) => q.2.map (·.2)) ∧ OwnC s w' vl gs ∧ (gs.map fun q : Value × List (Value × List Int) => q.2.map (·.2)) = (List.range (j + 1)).map (fun i => vecs (itL F y0 i)) ∧ ∀ i, i < j → itL F y0 (i + 1) ≠ itL F y0 i) ?_ ?_
  · refine ⟨v1, [(v0, rs0)], ?_, he1, ?_, hO1, ?_, fun i hi => by omega⟩
    · exact hasP
    · simpa using hG1
    · simp [← he0, itL]
  clear hG1 hO1
  rintro j ρ w2 hj ⟨vl, gs, hH, he2, hG2, hO2, hgs, hne⟩
  refine rwp_has hH fun ρ0 => ?_
  have hz2 := he2.size
  have hgl : gs.length = j + 1 := by have := congrArg List.length hgs; simpa using this
  have hRs := hG2.rowss hs (by omega)
  rw [hgs] at hRs
  have hlen : ((List.range (j + 1)).map (fun i => vecs (itL F y0 i))).length = j + 1 := by simp
  have hgj : ((List.range (j + 1)).map (fun i => vecs (itL F y0 i))).getD j [] = vecs (itL F y0 j) := by simp [List.getD_eq_getElem?_getD]
  have hidx : (((j + 1 : Nat) : Int) - 1) = (j : Int) := by omega
  have hsq := hS.seq j
  have hsl := hsq.len
  refine go ?_
  have hix : ((List.range (j + 1)).map (fun i => vecs (itL F y0 i))).length - 1 = j := by simp
  rw [hix]
  have hRj : Pc.Rows s w2.heap.size w2 (Pc.rowAt vl (gs.map fun q : Value × List (Value × List Int) => q.1) j) ((gs.map fun q : Value × List (Value × List Int) => q.2.map (·.1)).getD j []) (((List.range (j + 1)).map (fun i => vecs (itL F y0 i))).getD j []) := hRs.vals.at_ j
  refine rc (hcall he2 (itL F y0 j) hsq hRj hgj) (ho := cl_clo (by ((try simp only [ev_tmp, ev_const, ev_func, get_put, get_args, get_putL, get_putL_nil, Nat.reduceEqDiff, reduceIte, List.getD_cons_zero, List.getD_cons_succ, List.getD_nil]); first | done | with_reducible rfl)) (by simp only [List.map_toArray, List.map_cons, List.map_nil, ev_tmp, ev_const, ev_func, get_put, get_args, get_putL, get_putL_nil, Nat.reduceEqDiff, reduceIte, List.getD_cons_zero, List.getD_cons_succ, List.getD_nil])) (next := fun v3 w3 h3 => ?_)
  obtain ⟨he3, rs3, hrs3, hM3⟩ := h3
  have hR3 := hM3.rows
  rw [← hrs3] at hR3
  have hz3 := he3.size
  have hRs3 : Rowss s w2.heap.size w3 vl _ _ _ := hRs.same (he3.same _ _)
  have hsl1 := (hS.seq (j + 1)).len
  have hsl2 : (F (itL F y0 j)).length ≤ p.n := hsl1
  clear hRs
  refine go ?_
  rw [hix]
  refine rc (sameRows_ok (xss := vecs (F (itL F y0 j))) (yss := ((List.range (j + 1)).map (fun i => vecs (itL F y0 i))).getD j []) (fun i => ?_) (by simp; omega)) (next := fun v4 w4 h4 => ?_)
  · by_cases hi : i < (F (itL F y0 j)).length
    · rw [vecs_getD _ hi, ((F (itL F y0 j))[i]).inr.len]; omega
    · rw [List.getD_eq_getElem?_getD, List.getElem?_eq_none (by simp; omega)]; simp
  obtain ⟨b4, rfl, hb4, he4⟩ := h4
  rw [hgj] at hb4
  have hb5 : b4 = true ↔ itL F y0 (j + 1) = itL F y0 j := hb4.trans ⟨fun h => vecs_inj h, fun h => congrArg vecs h⟩
  have he34 := he3.trans he4
  have hz4 := he4.size
  clear hRs3
  refine go ?_
  refine c_b (fun e5 => ?_) (fun e5 => ?_)
  · refine go ?_
    refine ret1 ⟨he2.trans he34, j, gs, ⟨hb5.1 e5, hne⟩, hgs, MatC.of (hO2.ext he34 fun b hb => (hG2.own.lt b hb).2) (hG2.ext he34) hs (by omega)⟩
  · have hnej : itL F y0 (j + 1) ≠ itL F y0 j := fun h => by rw [hb5.2 h] at e5; cases e5
    have hne' : ∀ i, i < j + 1 → itL F y0 (i + 1) ≠ itL F y0 i := fun i hi => by
      by_cases e : i = j
      · subst e; exact hnej
      · exact hne i (by omega)
    have hjn := hS.bd (j + 1) hne'
    have hM4 : MatO w2.heap.size w4.heap.size w4 v3 rs3 := (hM3.wr (.ofExt (B := fun _ => False) he4) (fun b hb => hb.elim)).sub (Nat.le_refl _) hz4
    refine go ?_
    refine st_growv hG2 he34 (hM4.rows) (by omega) hz2 (by simp; omega) (next := fun v5 v6 w6 wm hG6 hx6 hz6 hxm hgm hvm => ?_)
    have hO6 := hO2.push (fun b hb => (hG2.own.lt b hb).2) he34 hM4 (by omega) hxm hgm hvm
    refine go ?_
    refine forQ_normal (by omega) ⟨v6, gs ++ [(v3, rs3)], ?_, hx6 w (he2.trans he34) (Nat.le_refl _), ?_, hO6, ?_, hne'⟩
    · exact hasP
    · simpa using hG6
    · rw [List.range_succ, List.map_append, List.map_append, hgs]
      simp only [List.map_cons, List.map_nil, ← hrs3]
      rfl
set_option maxHeartbeats 1000000 in
theorem lowerFn_ok {p : Pr} [hc : ConAll p] {ys : List (El p)} (hs : SeqEl ys) {w : World} {vp vx : Value} {us : List Value} {xss : List (List Int)} {bp lo hi lo1 hi1 : Nat} [hp : PresP lo hi w vp p] [hx : Pc.Rows lo1 hi1 w vx us xss] [hcp : Cell w bp 0 vp] (hxe : xss = vecs ys) :
    Calls Try.prog 94 #[vx, .pointer (some ⟨bp, 0, none⟩)] w (Ret fun r w' => Ext w w' ∧ ∃ rs, vecs (lowF ys) = rs.map (·.2) ∧ MatO w.heap.size w'.heap.size w' r rs) := by
  have hn6 := hc.valid.n6
  have hsl := hs.len
  have hgl := gensL_len p
  refine enter (args := [vx, .pointer (some ⟨bp, 0, none⟩)]) (l := [.tmp 3]) Try.func94 rfl rfl Try.ntmps94 (by simp) ?_
  refine go ?_
  refine d_order [0, 1, 2, 3, 4, 5] (h := fun w1 he1 _ => ?_)
  refine dgo ?_
  refine dce (whole_ok (p := p)) (next := fun v2 w2 h2 => ?_)
  obtain ⟨he2, rs2, hrs2, hM2⟩ := h2
  have hR2 := hM2.rows
  rw [← hrs2] at hR2
  refine dce (commutatorSubgroup_ok (p := p) (ys := ys) (zs := gensL p) (by omega) (by omega) hxe rfl) (next := fun v3 w3 h3 => ?_)
  obtain ⟨he3, rs3, hrs3, hM3⟩ := h3
  rw [lowF_vecs] at hrs3
  refine dgo ?_
  refine d_end (h := ?_)
  refine go ?_
  exact ret1 ⟨(he1.trans he2).trans he3, rs3, hrs3, hM3.lower (he1.trans he2).size⟩
set_option maxHeartbeats 1000000 in
theorem lowerCentral_ok {p : Pr} [hc : ConAll p] {w : World} {vp : Value} {lo hi : Nat} [hp : PresP lo hi w vp p] :
    Calls Try.prog 56 #[vp] w (Ret fun v w' => Ext w w' ∧ ∃ K gs, SerR (lowF (p := p)) (gensL p) K ∧ (gs.map fun q : Value × List (Value × List Int) => q.2.map (·.2)) = (List.range (K + 1)).map (fun j => vecs (itL (lowF (p := p)) (gensL p) j)) ∧ MatC w.heap.size w'.heap.size w' v gs) := by
  have hpc : vp.cells = #[vp] := by obtain ⟨g, _, _, _, _, _, _, rfl, _⟩ := hp.ex; rfl
  refine enter (args := [vp]) (l := [.tmp 2]) Try.func56 rfl rfl Try.ntmps56 (by simp) ?_
  refine go ?_
  refine st_box1 (v := vp) (by ((try simp only [ev_tmp, ev_const, ev_func, get_put, get_args, get_putL, get_putL_nil, Nat.reduceEqDiff, reduceIte, List.getD_cons_zero, List.getD_cons_succ, List.getD_nil]); first | done | with_reducible rfl)) hpc (by first | exact True.intro | exact ⟨_, rfl, by ((try simp only [ev_tmp, ev_const, ev_func, get_put, get_args, get_putL, get_putL_nil, Nat.reduceEqDiff, reduceIte, List.getD_cons_zero, List.getD_cons_succ, List.getD_nil, Bool.not_true, Bool.not_false]); first | done | with_reducible rfl)⟩) fun w1 bp he1 hb1 hs1 hbk1 => ?_
  have hcp := hbk1.cell (k := 0) rfl
  refine go ?_
  refine rc (whole_ok (p := p)) (next := fun v2 w2 h2 => ?_)
  obtain ⟨he2, rs2, hrs2, hM2⟩ := h2
  have hE2 := he1.trans he2
  have hz2 := he2.size
  have hcp2 : Cell w2 bp 0 vp := hcp.same (he2.same _ _) he2.size
  have hp2 : PresP lo hi w2 vp p := hp.same (hE2.same _ _) hE2.size
  refine go ?_
  refine ra (h := rd_makeFunc (caps := #[.pointer (some ⟨bp, 0, none⟩)]) (by simp only [List.map_toArray, List.map_cons, List.map_nil, ev_tmp, ev_const, ev_func, get_put, get_args, get_putL, get_putL_nil, Nat.reduceEqDiff, reduceIte, List.getD_cons_zero, List.getD_cons_succ, List.getD_nil])) (next := ?_)
  refine go ?_
  refine rc (series_ok (p := p) serOk_low hz2 hM2 hrs2 (fun {w'} {vx} {lo'} {hi'} {us} {xss} x0 ys hsy hx hxe => ?_)) (next := fun v3 w3 h3 => ?_)
  · haveI : Pc.Rows lo' hi' w' vx us xss := hx
    haveI : Cell w' bp 0 vp := hcp2.same (x0.same _ _) x0.size
    haveI : PresP lo hi w' vp p := hp2.same (x0.same _ _) x0.size
    exact lowerFn_ok (p := p) hsy hxe
  obtain ⟨he3, K, gs, hK, hgs, hM3⟩ := h3
  refine go ?_
  exact ret1 ⟨hE2.trans he3, K, gs, hK, hgs, hM3.lower he1.size⟩
set_option maxHeartbeats 1000000 in
theorem impl_NilpotencyClass_ok {p : Pr} {w : World} {vp : Value} {lo hi : Nat} [hp : Pres lo hi w vp p] (hl : p.ord.length ≤ 2000000) :
    Calls Try.prog 15 #[vp] w (Ret fun v w' => ∃ (k e : Int), v = .tuple #[.int .i64 k, .int .i64 e] ∧ Ans (IsGrp p) (NcV p) 0 k e ∧ Ext w w') := by
  obtain ⟨vo, vpw, vc, ps, cs, css, rfl, h1, h2, h3⟩ := hp.ex
  refine enter (args := [.agg #[vo, vpw, vc]]) (l := [.tmp 2, .tmp 3]) Try.func15 rfl rfl Try.ntmps15 (by simp) ?_
  refine go ?_
  refine st_box3 (by ((try simp only [ev_tmp, ev_const, ev_func, get_put, get_args, get_putL, get_putL_nil, Nat.reduceEqDiff, reduceIte, List.getD_cons_zero, List.getD_cons_succ, List.getD_nil]); first | done | with_reducible rfl)) (by first | exact True.intro | exact ⟨_, rfl, by ((try simp only [ev_tmp, ev_const, ev_func, get_put, get_args, get_putL, get_putL_nil, Nat.reduceEqDiff, reduceIte, List.getD_cons_zero, List.getD_cons_succ, List.getD_nil, Bool.not_true, Bool.not_false]); first | done | with_reducible rfl)⟩) fun w1 b he1 hb1 hs1 hc0 hc1 hc2 => ?_
  have hpp := hp.boxed he1 hc0 hc1 hc2
  refine go ?_
  refine rc (impl_IsConsistent_ok (p := p) hl) (next := fun v5 w5 h5 => ?_)
  obtain ⟨b5, rfl, hb5, he5⟩ := h5
  have hE5 := he1.trans he5
  refine go ?_
  refine c_b (fun e5 => ?_) (fun e5 => ?_)
  · refine go ?_
    refine ret2 ⟨0, 1, rfl, .inr ⟨fun h => ?_, rfl, rfl⟩, hE5⟩
    rw [hb5.2 h] at e5; cases e5
  have hG := hb5.1 (by simpa using e5)
  haveI : ConAll p := ⟨hG.con⟩
  have hn6 := hG.valid.n6
  have hS := serOk_low (p := p)
  refine go ?_
  refine rc (lowerCentral_ok (p := p)) (next := fun v2 w2 h4 => ?_)
  obtain ⟨he2, K, gs, hK, hgs, hM⟩ := h4
  have hR := hM.rows
  rw [hgs] at hR
  have hKn := hS.bd K hK.2
  have hul := hR.vals.len
  have hlen : ((List.range (K + 1)).map (fun i => vecs (itL (lowF (p := p)) (gensL p) i))).length = K + 1 := by simp
  have hix : ((List.range (K + 1)).map (fun i => vecs (itL (lowF (p := p)) (gensL p) i))).length - 1 = K := by simp
  have hgj : ((List.range (K + 1)).map (fun i => vecs (itL (lowF (p := p)) (gensL p) i))).getD K [] = vecs (itL (lowF (p := p)) (gensL p) K) := by simp [List.getD_eq_getElem?_getD]
  have hgl : (((List.range (K + 1)).map (fun i => vecs (itL (lowF (p := p)) (gensL p) i))).getD K []).length = (itL (lowF (p := p)) (gensL p) K).length := by rw [hgj]; simp
  have hsl := (hS.seq K).len
  have hE2 := hE5.trans he2
  refine go ?_
  rw [hix]
  refine go ?_
  refine c_if (fun h6 => ?_) (fun h6 => ?_)
  · refine go ?_
    exact ret2 ⟨0, 4, rfl, .inl ⟨hG, inferInstance, K, hK, .inl ⟨by omega, rfl, rfl⟩⟩, hE2⟩
  · refine go ?_
    exact ret2 ⟨(((List.range (K + 1)).map (fun i => vecs (itL (lowF (p := p)) (gensL p) i))).length : Int) - 1, 0, rfl, .inl ⟨hG, inferInstance, K, hK, .inr ⟨by omega, by rw [hlen]; omega, rfl⟩⟩, hE2⟩
end Go.Proofs.Ytgomfjhhfmhlgaa

/-
  Walks: the statement's own helpers on lists: sizes, copies, comparisons (szInt64S, .., toInt64S, .., eqInt64SSS).
  Conditions: stated at each theorem.
-/
namespace Go.Proofs.Ytgomfjhhfmhlgaa
open Go Go.Pc
theorem szInt64S_ok {w : World} {v : Value} {xs : List Int} {k : Int} {lo hi : Nat} [hx : Ints lo hi w v xs] (hk : 0 ≤ k ∧ k ≤ 2000000) :
    Calls Try.prog 50 #[v, .int .i64 k] w (Ret fun v w' => ∃ j : Int, v = .int .i64 j ∧ (j < 0 ∨ 0 ≤ j ∧ j ≤ k ∧ (xs.length : Int) ≤ k) ∧ Ext w w') := by
  have hl : xs.length ≤ 9223372036854775807 := by
    obtain ⟨A, c, _, hc, hm, _⟩ := hx.sl.ex
    simp at hc; omega
  refine enter (args := [v, .int .i64 k]) (l := [.tmp 4]) Try.func50 rfl rfl Try.ntmps50 (by simp) ?_
  refine go ?_
  refine c_if (fun h4 => ?_) (fun h4 => ?_)
  · refine go ?_
    exact ret1 ⟨-1, rfl, .inl (by omega), Ext.refl _⟩
  · refine go ?_
    exact ret1 ⟨k - xs.length, rfl, .inr ⟨by omega, by omega, by omega⟩, Ext.refl _⟩
theorem sl_len {lo hi : Nat} {w : World} {v : Value} {us : List Value} (h : Sl lo hi w v us) : us.length ≤ 9223372036854775807 := by
  obtain ⟨A, c, _, hc, hm, _⟩ := h.ex
  omega
set_option maxHeartbeats 1000000 in
theorem szInt64SS_ok {w : World} {v : Value} {us : List Value} {xss : List (List Int)} {k : Int} {lo hi : Nat} [hx : Pc.Rows lo hi w v us xss] (hk : 0 ≤ k ∧ k ≤ 2000000) :
    Calls Try.prog 35 #[v, .int .i64 k] w (Ret fun v w' => ∃ j : Int, v = .int .i64 j ∧ (j < 0 ∨ 0 ≤ j ∧ j ≤ k ∧ (xss.length : Int) ≤ k ∧ ∀ i, ((xss.getD i []).length : Int) ≤ k) ∧ Ext w w') := by
  have hl := sl_len hx.sl
  have hul := hx.vals.len
  refine enter (args := [v, .int .i64 k]) (l := [.tmp 4]) Try.func35 rfl rfl Try.ntmps35 (by simp) ?_
  refine go ?_
  refine c_if (fun h4 => ?_) (fun h4 => ?_)
  · refine go ?_
    exact ret1 ⟨-1, rfl, .inl (by omega), Ext.refl _⟩
  refine go ?_
  refine r_for xss.length (fun q ρ w' => ∃ j : Int, Has ρ [(0, v), (1, .int .i64 j), (5, .int .i64 q)] ∧ Ext w w' ∧ 0 ≤ j ∧ j ≤ k ∧ ∀ i, i < q → ((xss.getD i []).length : Int) ≤ k) ?_ ?_
  · refine ⟨k - xss.length, ?_, Ext.refl _, by omega, by omega, fun i hi => by omega⟩
    exact hasP
  rintro q ρ w2 hq ⟨j, hH, he2, hj0, hjk, hI⟩
  refine rwp_has hH fun ρ0 => ?_
  refine go ?_
  refine c_if (fun h5 => ?_) (fun h5 => ?_)
  · refine go ?_
    refine rc (szInt64S_ok (xs := xss.getD q []) (k := j) ?_) (next := fun v3 w3 h3 => ?_)
    · omega
    obtain ⟨j3, rfl, hj3, he3⟩ := h3
    refine go ?_
    refine c_if (fun h6 => ?_) (fun h6 => ?_)
    · refine go ?_
      exact ret1 ⟨-1, rfl, .inl (by omega), he2.trans he3⟩
    · have h7 : 0 ≤ j3 ∧ j3 ≤ j ∧ ((xss.getD q []).length : Int) ≤ j := by
        rcases hj3 with h | h
        · omega
        · exact h
      refine go ?_
      refine forQ_normal (by omega) ⟨j3, ?_, he2.trans he3, by omega, by omega, fun i hi => ?_⟩
      · exact hasP
      · by_cases e : i = q
        · subst e; omega
        · exact hI i (by omega)
  · refine go ?_
    refine ret1 ⟨j, rfl, .inr ⟨hj0, hjk, by omega, fun i => ?_⟩, he2⟩
    by_cases hi : i < xss.length
    · exact hI i (by omega)
    · rw [List.getD_eq_getElem?_getD, List.getElem?_eq_none (by omega)]; simp; omega
set_option maxHeartbeats 1000000 in
theorem szInt64SSS_ok {w : World} {v : Value} {us : List Value} {uss : List (List Value)} {xsss : List (List (List Int))} {k : Int} {lo hi : Nat} [hx : Rowss lo hi w v us uss xsss] (hk : 0 ≤ k ∧ k ≤ 2000000) :
    Calls Try.prog 51 #[v, .int .i64 k] w (Ret fun v w' => ∃ j : Int, v = .int .i64 j ∧ (j < 0 ∨ 0 ≤ j ∧ j ≤ k ∧ (xsss.length : Int) ≤ k ∧ ∀ i, ((xsss.getD i []).length : Int) ≤ k ∧ ∀ h, (((xsss.getD i []).getD h []).length : Int) ≤ k) ∧ Ext w w') := by
  have hl := sl_len hx.sl
  have hul := hx.vals.len
  refine enter (args := [v, .int .i64 k]) (l := [.tmp 4]) Try.func51 rfl rfl Try.ntmps51 (by simp) ?_
  refine go ?_
  refine c_if (fun h4 => ?_) (fun h4 => ?_)
  · refine go ?_
    exact ret1 ⟨-1, rfl, .inl (by omega), Ext.refl _⟩
  refine go ?_
  refine r_for xsss.length (fun q ρ w' => ∃ j : Int, Has ρ [(0, v), (1, .int .i64 j), (5, .int .i64 q)] ∧ Ext w w' ∧ 0 ≤ j ∧ j ≤ k ∧ ∀ i, i < q → ((xsss.getD i []).length : Int) ≤ k ∧ ∀ h, (((xsss.getD i []).getD h []).length : Int) ≤ k) ?_ ?_
  · refine ⟨k - xsss.length, ?_, Ext.refl _, by omega, by omega, fun i hi => by omega⟩
    exact hasP
  rintro q ρ w2 hq ⟨j, hH, he2, hj0, hjk, hI⟩
  refine rwp_has hH fun ρ0 => ?_
  refine go ?_
  refine c_if (fun h5 => ?_) (fun h5 => ?_)
  · refine go ?_
    refine rc (szInt64SS_ok (xss := xsss.getD q []) (k := j) ?_) (next := fun v3 w3 h3 => ?_)
    · omega
    obtain ⟨j3, rfl, hj3, he3⟩ := h3
    refine go ?_
    refine c_if (fun h6 => ?_) (fun h6 => ?_)
    · refine go ?_
      exact ret1 ⟨-1, rfl, .inl (by omega), he2.trans he3⟩
    · have h7 : 0 ≤ j3 ∧ j3 ≤ j ∧ ((xsss.getD q []).length : Int) ≤ j ∧ ∀ i, (((xsss.getD q []).getD i []).length : Int) ≤ j := by
        rcases hj3 with h | h
        · omega
        · exact h
      refine go ?_
      refine forQ_normal (by omega) ⟨j3, ?_, he2.trans he3, by omega, by omega, fun i hi => ?_⟩
      · exact hasP
      · by_cases e : i = q
        · subst e; exact ⟨by omega, fun h => by have := h7.2.2.2 h; omega⟩
        · exact hI i (by omega)
  · refine go ?_
    refine ret1 ⟨j, rfl, .inr ⟨hj0, hjk, by omega, fun i => ?_⟩, he2⟩
    by_cases hi : i < xsss.length
    · exact hI i (by omega)
    · rw [List.getD_eq_getElem?_getD, List.getElem?_eq_none (by omega)]; simp; omega
set_option maxHeartbeats 1000000 in
theorem toInt64S_ok {w : World} {v : Value} {xs : List Int} {lo hi : Nat} [hx : Ints lo hi w v xs] (hl : xs.length ≤ 2000000) :
    Calls Try.prog 28 #[v] w (Ret fun v' w' => Ext w w' ∧ Fr w.heap.size w' v' xs) := by
  refine enter (args := [v]) (l := [.tmp 2]) Try.func28 rfl rfl Try.ntmps28 (by simp) ?_
  refine go ?_
  refine st_make_int (by ((try simp only [ev_tmp, ev_const, ev_func, get_put, get_args, get_putL, get_putL_nil, Nat.reduceEqDiff, reduceIte, List.getD_cons_zero, List.getD_cons_succ, List.getD_nil]); first | done | with_reducible rfl)) (by ((try simp only [ev_tmp, ev_const, ev_func, get_put, get_args, get_putL, get_putL_nil, Nat.reduceEqDiff, reduceIte, List.getD_cons_zero, List.getD_cons_succ, List.getD_nil]); first | done | with_reducible rfl)) (by omega) (by omega) (by first | exact True.intro | exact ⟨_, rfl, by ((try simp only [ev_tmp, ev_const, ev_func, get_put, get_args, get_putL, get_putL_nil, Nat.reduceEqDiff, reduceIte, List.getD_cons_zero, List.getD_cons_succ, List.getD_nil, Bool.not_true, Bool.not_false]); first | done | with_reducible rfl)⟩) fun w1 v1 he1 hs1 ho1 => ?_
  replace hx := hx.wide
  have ap : Apart 0 w.heap.size w.heap.size := ⟨.inr (Nat.le_refl _)⟩
  refine go ?_
  refine r_for xs.length (fun k ρ w' => ∃ ys, Has ρ [(0, v), (3, v1), (4, .int .i64 k)] ∧ Chg w.heap.size w1 w' ∧ OwnI 2 w.heap.size w' v1 ys ∧ ys.length = xs.length ∧ ∀ i, i < k → ys.getD i 0 = xs.getD i 0) ?_ ?_
  · refine ⟨_, ?_, Chg.refl _ _, ho1, by simp, fun i hi => by omega⟩
    exact hasP
  clear ho1
  rintro k ρ w2 hk ⟨ys, hH, hc2, ho2, hl2, hI⟩
  refine rwp_has hH fun ρ0 => ?_
  refine go ?_
  refine c_if (fun h4 => ?_) (fun h4 => ?_)
  · refine go ?_
    refine st_store_int (by ((try simp only [ev_tmp, ev_const, ev_func, get_put, get_args, get_putL, get_putL_nil, Nat.reduceEqDiff, reduceIte, List.getD_cons_zero, List.getD_cons_succ, List.getD_nil]); first | done | with_reducible rfl)) (by ((try simp only [ev_tmp, ev_const, ev_func, get_put, get_args, get_putL, get_putL_nil, Nat.reduceEqDiff, reduceIte, List.getD_cons_zero, List.getD_cons_succ, List.getD_nil]); first | done | with_reducible rfl)) ?_ (by first | exact True.intro | exact ⟨_, rfl, by ((try simp only [ev_tmp, ev_const, ev_func, get_put, get_args, get_putL, get_putL_nil, Nat.reduceEqDiff, reduceIte, List.getD_cons_zero, List.getD_cons_succ, List.getD_nil, Bool.not_true, Bool.not_false]); first | done | with_reducible rfl)⟩) fun w3 hc3 hs3 ho3 => ?_
    · omega
    refine go ?_
    refine forQ_normal (by omega) ⟨_, ?_, hc2.trans hc3, ho3, by simp [hl2], fun i hi => ?_⟩
    · exact hasP
    · by_cases e : k = i
      · subst e; rw [Pc.getD_set_eq _ _ _ (by omega)]
      · rw [Pc.getD_set_ne _ _ _ _ e]; exact hI i (by omega)
  · refine go ?_
    have hy : ys = xs := list_ext0 hl2 fun i hi => hI i (by omega)
    subst hy
    exact ret1 ⟨hc2.ext he1 (Nat.le_refl _), ho2.toFr (Nat.le_refl _)⟩
theorem rows_ext {xss yss : List (List Int)} (hl : xss.length = yss.length) (h : ∀ i, i < xss.length → xss.getD i [] = yss.getD i []) : xss = yss := by
  apply List.ext_getElem hl
  intro i h1 h2
  have := h i h1
  simpa [h1, h2] using this
theorem set_nils {α : Type} (l : List α) (z u : α) (m : Nat) : (l ++ List.replicate (m + 1) z).set l.length u = (l ++ [u]) ++ List.replicate m z := by
  simp [List.replicate_succ]
set_option maxHeartbeats 1000000 in
theorem toInt64SSO_ok {w : World} {v : Value} {us : List Value} {xss : List (List Int)} {lo hi : Nat} [hx : Pc.Rows lo hi w v us xss] (hl : xss.length ≤ 2000000) (hr : ∀ i, (xss.getD i []).length ≤ 2000000) :
    Calls Try.prog 37 #[v] w (Ret fun v' w' => Ext w w' ∧ ∃ rs, Lst 22 w.heap.size (· < w.heap.size) w' v' (rs.map (·.1)) xss ∧ xss = rs.map (·.2) ∧ RowsO w.heap.size w' rs) := by
  refine enter (args := [v]) (l := [.tmp 2]) Try.func37 rfl rfl Try.ntmps37 (by simp) ?_
  refine go ?_
  refine st_make_nil (by ((try simp only [ev_tmp, ev_const, ev_func, get_put, get_args, get_putL, get_putL_nil, Nat.reduceEqDiff, reduceIte, List.getD_cons_zero, List.getD_cons_succ, List.getD_nil]); first | done | with_reducible rfl)) (by ((try simp only [ev_tmp, ev_const, ev_func, get_put, get_args, get_putL, get_putL_nil, Nat.reduceEqDiff, reduceIte, List.getD_cons_zero, List.getD_cons_succ, List.getD_nil]); first | done | with_reducible rfl)) (by omega) (by omega) (by first | exact True.intro | exact ⟨_, rfl, by ((try simp only [ev_tmp, ev_const, ev_func, get_put, get_args, get_putL, get_putL_nil, Nat.reduceEqDiff, reduceIte, List.getD_cons_zero, List.getD_cons_succ, List.getD_nil, Bool.not_true, Bool.not_false]); first | done | with_reducible rfl)⟩) fun w1 v1 he1 hs1 ho1 => ?_
  have hvb := ho1.toN_block
  have hL1 : Lst 22 w.heap.size (· < w.heap.size) w1 v1 _ _ := Lst.ofNils ho1 (Nat.le_refl _) (by omega) (fun g hg => by omega)
  refine go ?_
  refine r_for xss.length (fun k ρ w' => ∃ rs : List (Value × List Int), Has ρ [(0, v), (3, v1), (4, .int .i64 k)] ∧ Ext w w' ∧ Lst 22 w.heap.size (· < w.heap.size) w' v1 (rs.map (·.1) ++ List.replicate (xss.length - k) nilv) (rs.map (·.2) ++ List.replicate (xss.length - k) []) ∧ rs.length = k ∧ rs.map (·.2) = xss.take k ∧ RowsO (w.heap.size + 1) w' rs ∧ w.heap.size + 1 ≤ w'.heap.size) ?_ ?_
  · refine ⟨[], ?_, he1, by simpa using hL1, rfl, by simp, RowsO.nil _ _, by omega⟩
    exact hasP
  clear hL1 ho1
  rintro k ρ w2 hk ⟨rs, hH, he2, hL2, hl2, hI, hO2, hsz2⟩
  refine rwp_has hH fun ρ0 => ?_
  have hLr := hL2.toRows
  refine go ?_
  refine c_if (fun h4 => ?_) (fun h4 => ?_)
  · refine go ?_
    refine rc (toInt64S_ok (xs := xss.getD k []) (hr k)) (next := fun v3 w3 h3 => ?_)
    obtain ⟨he3, hf3⟩ := h3
    have hL3 := hL2.ext he3
    have hO3 := hL3.toOwn hvb
    have hz2 := he2.size
    have hul : (rs.map (·.1) ++ List.replicate (xss.length - k) nilv).length = xss.length := by simp; omega
    have hul2 : (rs.map (·.2) ++ List.replicate (xss.length - k) ([] : List Int)).length = xss.length := by simp; omega
    refine go ?_
    refine st_store_val (h := hO3) (by ((try simp only [ev_tmp, ev_const, ev_func, get_put, get_args, get_putL, get_putL_nil, Nat.reduceEqDiff, reduceIte, List.getD_cons_zero, List.getD_cons_succ, List.getD_nil]); first | done | with_reducible rfl)) (by ((try simp only [ev_tmp, ev_const, ev_func, get_put, get_args, get_putL, get_putL_nil, Nat.reduceEqDiff, reduceIte, List.getD_cons_zero, List.getD_cons_succ, List.getD_nil]); first | done | with_reducible rfl)) ?_ ?_ (by first | exact True.intro | exact ⟨_, rfl, by ((try simp only [ev_tmp, ev_const, ev_func, get_put, get_args, get_putL, get_putL_nil, Nat.reduceEqDiff, reduceIte, List.getD_cons_zero, List.getD_cons_succ, List.getD_nil, Bool.not_true, Bool.not_false]); first | done | with_reducible rfl)⟩) fun w4 hc4 hs4 ho4 => ?_
    · exact hf3.ints.sl.one
    · omega
    have hL4 := hL3.set hvb (IntsAp.ofFr hf3 (fun g hg => by
      rcases hg with hg | hg
      · omega
      · exact (hL2.lt hg).2)) hc4 ho4 (by omega)
    have hkn : k < xss.length := by omega
    have e0 : xss.length - k = (xss.length - (k + 1)) + 1 := by omega
    have e1 := set_nils (rs.map (·.1)) nilv v3 (xss.length - (k + 1))
    have e2 := set_nils (rs.map (·.2)) [] (xss.getD k []) (xss.length - (k + 1))
    rw [List.length_map, hl2, ← e0] at e1 e2
    rw [e1, e2] at hL4
    have hO4 := hO2.push he3 hsz2 hf3
    have hO5 := hO4.wr (.one (B := fun b => b = w.heap.size) rfl hc4) fun b hb e => by have := (hO4.blk hb).1; omega
    have hz3 := he3.size
    refine go ?_
    refine forQ_normal (by omega) ⟨rs ++ [(v3, xss.getD k [])], ?_, hc4.ext (he2.trans he3) (Nat.le_refl _), by simpa using hL4, by simp [hl2], ?_, hO5, by omega⟩
    · exact hasP
    · rw [List.take_succ_eq_append_getElem hkn, List.map_append, hI]; simp [hkn]
  · refine go ?_
    obtain rfl : k = xss.length := by omega
    rw [List.take_length] at hI
    refine ret1 ⟨he2, rs, ?_, hI.symm, hO2.mono (by omega)⟩
    simpa [hI] using hL2
theorem toInt64SS_ok {w : World} {v : Value} {us : List Value} {xss : List (List Int)} {lo hi : Nat} [hx : Pc.Rows lo hi w v us xss] (hl : xss.length ≤ 2000000) (hr : ∀ i, (xss.getD i []).length ≤ 2000000) :
    Calls Try.prog 37 #[v] w (Ret fun v' w' => Ext w w' ∧ ∃ us', Lst 22 w.heap.size (· < w.heap.size) w' v' us' xss) :=
  Pc.Calls.ret_mono (toInt64SSO_ok hl hr) fun _ _ ⟨h1, _, h2, _⟩ => ⟨h1, _, h2⟩
end Go.Proofs.Ytgomfjhhfmhlgaa

/-
  Walks: the statement's own helpers on presentations: sizes, copies, comparisons (toInt64SSS, szPresentation, toPresentation, eqInt64SSS, eqPresentation).
  Conditions: stated at each theorem.
-/
namespace Go.Proofs.Ytgomfjhhfmhlgaa
open Go Go.Pc
set_option maxHeartbeats 1000000 in
theorem toInt64SSS_ok {w : World} {v : Value} {us : List Value} {uss : List (List Value)} {xsss : List (List (List Int))} {lo hi : Nat} [hx : Rowss lo hi w v us uss xsss] (hl : xsss.length ≤ 2000000) (hr : ∀ i, (xsss.getD i []).length ≤ 2000000 ∧ ∀ j, ((xsss.getD i []).getD j []).length ≤ 2000000) :
    Calls Try.prog 54 #[v] w (Ret fun v' w' => Ext w w' ∧ ∃ us' uss', Rowss w.heap.size w'.heap.size w' v' us' uss' xsss) := by
  refine enter (args := [v]) (l := [.tmp 2]) Try.func54 rfl rfl Try.ntmps54 (by simp) ?_
  refine go ?_
  refine st_make_nil (by ((try simp only [ev_tmp, ev_const, ev_func, get_put, get_args, get_putL, get_putL_nil, Nat.reduceEqDiff, reduceIte, List.getD_cons_zero, List.getD_cons_succ, List.getD_nil]); first | done | with_reducible rfl)) (by ((try simp only [ev_tmp, ev_const, ev_func, get_put, get_args, get_putL, get_putL_nil, Nat.reduceEqDiff, reduceIte, List.getD_cons_zero, List.getD_cons_succ, List.getD_nil]); first | done | with_reducible rfl)) (by omega) (by omega) (by first | exact True.intro | exact ⟨_, rfl, by ((try simp only [ev_tmp, ev_const, ev_func, get_put, get_args, get_putL, get_putL_nil, Nat.reduceEqDiff, reduceIte, List.getD_cons_zero, List.getD_cons_succ, List.getD_nil, Bool.not_true, Bool.not_false]); first | done | with_reducible rfl)⟩) fun w1 v1 he1 hs1 ho1 => ?_
  refine go ?_
  refine r_for xsss.length (fun k ρ w' => ∃ (us' : List Value) (uss' : List (List Value)) (ysss : List (List (List Int))), Has ρ [(0, v), (3, v1), (4, .int .i64 k)] ∧ Ext w w' ∧ Own 23 w.heap.size w' v1 us' ∧ us'.length = xsss.length ∧ uss'.length = xsss.length ∧ ysss.length = xsss.length ∧
    (∀ i, Pc.Rows (w.heap.size + 1) w'.heap.size w' (us'.getD i nilv) (uss'.getD i []) (ysss.getD i [])) ∧ ∀ i, i < k → ysss.getD i [] = xsss.getD i []) ?_ ?_
  · refine ⟨_, List.replicate xsss.length [], List.replicate xsss.length [], ?_, he1, ho1, by simp, by simp, by simp, fun i => ?_, fun i hi => by omega⟩
    · exact hasP
    · have e1 : (List.replicate xsss.length nilv).getD i nilv = nilv := by
        rw [List.getD_eq_getElem?_getD, List.getElem?_replicate]; split <;> rfl
      have e2 : (List.replicate xsss.length ([] : List Value)).getD i [] = [] := by
        rw [List.getD_eq_getElem?_getD, List.getElem?_replicate]; split <;> rfl
      have e3 : (List.replicate xsss.length ([] : List (List Int))).getD i [] = [] := by
        rw [List.getD_eq_getElem?_getD, List.getElem?_replicate]; split <;> rfl
      rw [e1, e2, e3]
      refine ⟨⟨⟨none, 0, rfl, Nat.le_refl _, by omega, fun k u hu => by simp at hu⟩⟩, rfl, fun i => ?_⟩
      exact ⟨⟨none, 0, by simp, by simp, by omega, fun k u hu => by simp at hu⟩⟩
  clear ho1
  rintro k ρ w2 hk ⟨us', uss', ysss, hH, he2, ho2, hl1, hl2, hl3, hR, hI⟩
  refine rwp_has hH fun ρ0 => ?_
  have hsl := ho2.toSl
  refine go ?_
  refine c_if (fun h4 => ?_) (fun h4 => ?_)
  · refine go ?_
    refine rc (toInt64SS_ok (xss := xsss.getD k []) (hr k).1 (hr k).2) (next := fun v3 w3 h3 => ?_)
    obtain ⟨he3, us3, hL3⟩ := h3
    have hN3 := hL3.newRows
    have ho3 : Own 23 w.heap.size w3 v1 us' := Own.ext (h := ho2)
    have hsl3 := ho3.toSl
    have hlen3 := hsl3.toLen
    have hz2 := he2.size
    have hz3 := he3.size
    have hol := ho2.lt
    refine go ?_
    refine st_store_val (h := ho3) (by ((try simp only [ev_tmp, ev_const, ev_func, get_put, get_args, get_putL, get_putL_nil, Nat.reduceEqDiff, reduceIte, List.getD_cons_zero, List.getD_cons_succ, List.getD_nil]); first | done | with_reducible rfl)) (by ((try simp only [ev_tmp, ev_const, ev_func, get_put, get_args, get_putL, get_putL_nil, Nat.reduceEqDiff, reduceIte, List.getD_cons_zero, List.getD_cons_succ, List.getD_nil]); first | done | with_reducible rfl)) ?_ ?_ (by first | exact True.intro | exact ⟨_, rfl, by ((try simp only [ev_tmp, ev_const, ev_func, get_put, get_args, get_putL, get_putL_nil, Nat.reduceEqDiff, reduceIte, List.getD_cons_zero, List.getD_cons_succ, List.getD_nil, Bool.not_true, Bool.not_false]); first | done | with_reducible rfl)⟩) fun w4 hc4 hs4 ho4 => ?_
    · exact hN3.sl.one
    · omega
    refine go ?_
    refine forQ_normal (by omega) ⟨us'.set k v3, uss'.set k us3, ysss.set k (xsss.getD k []), ?_, hc4.ext (he2.trans he3) (Nat.le_refl _), ho4, by simp [hl1], by simp [hl2], by simp [hl3], fun i => ?_, fun i hi => ?_⟩
    · exact hasP
    · by_cases e : k = i
      · subst e
        have e1 : (us'.set k v3).getD k nilv = v3 := by simp [show k < us'.length by omega]
        have e2 : (uss'.set k us3).getD k [] = us3 := by simp [show k < uss'.length by omega]
        have e3 : (ysss.set k (xsss.getD k [])).getD k [] = xsss.getD k [] := by simp [show k < ysss.length by omega]
        rw [e1, e2, e3]
        exact (hN3.same (hc4.same (.inl (by omega)))).mono (by omega) (by omega)
      · have e1 : (us'.set k v3).getD i nilv = us'.getD i nilv := by simp [List.getElem?_set_ne e]
        have e2 : (uss'.set k us3).getD i [] = uss'.getD i [] := by simp [List.getElem?_set_ne e]
        have e3 : (ysss.set k (xsss.getD k [])).getD i [] = ysss.getD i [] := by simp [List.getElem?_set_ne e]
        rw [e1, e2, e3]
        exact (((hR i).same (he3.same _ _)).same (hc4.same (.inl (by omega)))).mono (Nat.le_refl _) (by omega)
    · by_cases e : k = i
      · subst e; simp [show k < ysss.length by omega]
      · have : (ysss.set k (xsss.getD k [])).getD i [] = ysss.getD i [] := by simp [List.getElem?_set_ne e]
        rw [this]; exact hI i (by omega)
  · refine go ?_
    refine ret1 ⟨he2, us', uss', ?_⟩
    have hy : ysss = xsss := by
      apply List.ext_getElem hl3
      intro i h1 h2
      have := hI i (by omega)
      simpa [h1, h2] using this
    subst hy
    exact ⟨hsl.mono (Nat.le_refl _) (by have := ho2.lt; omega), hl1, hl2, fun i => (hR i).mono (by omega) (Nat.le_refl _)⟩
theorem rowss_mono {lo hi lo' hi' : Nat} {w : World} {v : Value} {us : List Value} {uss : List (List Value)} {xsss : List (List (List Int))} (h : Rowss lo hi w v us uss xsss) (h1 : lo' ≤ lo) (h2 : hi ≤ hi') : Rowss lo' hi' w v us uss xsss :=
  ⟨h.sl.mono h1 h2, h.vals.len, h.vals.len', fun i => (h.vals.at_ i).mono h1 h2⟩
/-- The sizes of a presentation, none above k. -/
structure SizeP (p : Pr) (k : Int) : Prop where
  ord : (p.ord.length : Int) ≤ k
  pow : (p.pow.length : Int) ≤ k
  powi : ∀ i, ((p.pow.getD i []).length : Int) ≤ k
  cnj : (p.cnj.length : Int) ≤ k
  cnji : ∀ i, ((p.cnj.getD i []).length : Int) ≤ k
  cnjij : ∀ i j, (((p.cnj.getD i []).getD j []).length : Int) ≤ k
set_option maxHeartbeats 1000000 in
theorem szPresentation_ok {w : World} {v : Value} {p : Pr} {k : Int} {lo hi : Nat} [hp : Pres lo hi w v p] (hk : 0 ≤ k ∧ k ≤ 2000000) :
    Calls Try.prog 12 #[v, .int .i64 k] w (Ret fun v w' => ∃ j : Int, v = .int .i64 j ∧ (j < 0 ∨ 0 ≤ j ∧ j ≤ k ∧ SizeP p k) ∧ Ext w w') := by
  obtain ⟨vo, vpw, vc, ps, cs, css, rfl, h1, h2, h3⟩ := hp.ex
  refine enter (args := [.agg #[vo, vpw, vc], .int .i64 k]) (l := [.tmp 4]) Try.func12 rfl rfl Try.ntmps12 (by simp) ?_
  refine go ?_
  refine st_box3 (by ((try simp only [ev_tmp, ev_const, ev_func, get_put, get_args, get_putL, get_putL_nil, Nat.reduceEqDiff, reduceIte, List.getD_cons_zero, List.getD_cons_succ, List.getD_nil]); first | done | with_reducible rfl)) (by first | exact True.intro | exact ⟨_, rfl, by ((try simp only [ev_tmp, ev_const, ev_func, get_put, get_args, get_putL, get_putL_nil, Nat.reduceEqDiff, reduceIte, List.getD_cons_zero, List.getD_cons_succ, List.getD_nil, Bool.not_true, Bool.not_false]); first | done | with_reducible rfl)⟩) fun w1 b he1 hb1 hs1 hc0 hc1 hc2 => ?_
  refine go ?_
  refine rc (szInt64S_ok (xs := p.ord) hk) (next := fun v2 w2 h4 => ?_)
  obtain ⟨j2, rfl, hj2, he2⟩ := h4
  refine go ?_
  refine c_if (fun h5 => ?_) (fun h5 => ?_)
  · refine go ?_
    exact ret1 ⟨-1, rfl, .inl (by omega), he1.trans he2⟩
  have h6 : 0 ≤ j2 ∧ j2 ≤ k ∧ (p.ord.length : Int) ≤ k := by
    rcases hj2 with h | h
    · omega
    · exact h
  refine go ?_
  refine rc (szInt64SS_ok (xss := p.pow) (k := j2) ?_) (next := fun v3 w3 h7 => ?_)
  · omega
  obtain ⟨j3, rfl, hj3, he3⟩ := h7
  refine go ?_
  refine c_if (fun h8 => ?_) (fun h8 => ?_)
  · refine go ?_
    exact ret1 ⟨-1, rfl, .inl (by omega), (he1.trans he2).trans he3⟩
  have h9 : 0 ≤ j3 ∧ j3 ≤ j2 ∧ (p.pow.length : Int) ≤ j2 ∧ ∀ i, ((p.pow.getD i []).length : Int) ≤ j2 := by
    rcases hj3 with h | h
    · omega
    · exact h
  refine go ?_
  refine rc (szInt64SSS_ok (xsss := p.cnj) (k := j3) ?_) (next := fun v4 w4 h10 => ?_)
  · omega
  obtain ⟨j4, rfl, hj4, he4⟩ := h10
  refine go ?_
  refine c_if (fun h11 => ?_) (fun h11 => ?_)
  · refine go ?_
    exact ret1 ⟨-1, rfl, .inl (by omega), ((he1.trans he2).trans he3).trans he4⟩
  have h12 : 0 ≤ j4 ∧ j4 ≤ j3 ∧ (p.cnj.length : Int) ≤ j3 ∧ ∀ i, ((p.cnj.getD i []).length : Int) ≤ j3 ∧ ∀ h, (((p.cnj.getD i []).getD h []).length : Int) ≤ j3 := by
    rcases hj4 with h | h
    · omega
    · exact h
  refine go ?_
  refine ret1 ⟨j4, rfl, .inr ⟨h12.1, by omega, ⟨h6.2.2, by omega, fun i => by have := h9.2.2.2 i; omega, by omega, fun i => by have := (h12.2.2.2 i).1; omega, fun i j => by have := (h12.2.2.2 i).2 j; omega⟩⟩, ((he1.trans he2).trans he3).trans he4⟩
set_option maxHeartbeats 1000000 in
theorem toPresentation_ok {w : World} {v : Value} {p : Pr} {lo hi : Nat} [hp : Pres lo hi w v p] (hs : SizeP p 2000000) :
    Calls Try.prog 14 #[v] w (Ret fun v w' => Ext w w' ∧ Pres w.heap.size w'.heap.size w' v p) := by
  have hs1 := hs.ord
  have hs2 := hs.pow
  have hs3 := hs.cnj
  obtain ⟨vo, vpw, vc, ps, cs, css, rfl, h1, h2, h3⟩ := hp.ex
  refine enter (args := [.agg #[vo, vpw, vc]]) (l := [.cell 2 30]) Try.func14 rfl rfl Try.ntmps14 (by simp) ?_
  refine go ?_
  refine st_box3 (by ((try simp only [ev_tmp, ev_const, ev_func, get_put, get_args, get_putL, get_putL_nil, Nat.reduceEqDiff, reduceIte, List.getD_cons_zero, List.getD_cons_succ, List.getD_nil]); first | done | with_reducible rfl)) (by first | exact True.intro | exact ⟨_, rfl, by ((try simp only [ev_tmp, ev_const, ev_func, get_put, get_args, get_putL, get_putL_nil, Nat.reduceEqDiff, reduceIte, List.getD_cons_zero, List.getD_cons_succ, List.getD_nil, Bool.not_true, Bool.not_false]); first | done | with_reducible rfl)⟩) fun w1 b he1 hb1 hsz1 hc0 hc1 hc2 => ?_
  refine go ?_
  refine st_alloc (by first | exact True.intro | exact ⟨_, rfl, by ((try simp only [ev_tmp, ev_const, ev_func, get_put, get_args, get_putL, get_putL_nil, Nat.reduceEqDiff, reduceIte, List.getD_cons_zero, List.getD_cons_succ, List.getD_nil, Bool.not_true, Bool.not_false]); first | done | with_reducible rfl)⟩) fun w2 br he2 hbr hsz2 hbk2 => ?_
  refine go ?_
  refine st_alloc (by first | exact True.intro | exact ⟨_, rfl, by ((try simp only [ev_tmp, ev_const, ev_func, get_put, get_args, get_putL, get_putL_nil, Nat.reduceEqDiff, reduceIte, List.getD_cons_zero, List.getD_cons_succ, List.getD_nil, Bool.not_true, Bool.not_false]); first | done | with_reducible rfl)⟩) fun w3 bo he3 hbo hsz3 hbk3 => ?_
  have hE3 := (he1.trans he2).trans he3
  refine go ?_
  refine rc (toInt64S_ok (xs := p.ord) (by omega)) (next := fun v4 w4 h4 => ?_)
  obtain ⟨he4, hf4⟩ := h4
  have hb4 : Blk w4 bo _ := Blk.ext (h := hbk3)
  have hz4 := he4.size
  refine go ?_
  refine st_store_fld (h := hb4) (by ((try simp only [ev_tmp, ev_const, ev_func, get_put, get_args, get_putL, get_putL_nil, Nat.reduceEqDiff, reduceIte, List.getD_cons_zero, List.getD_cons_succ, List.getD_nil]); first | done | with_reducible rfl)) (by ((try simp only [ev_tmp, ev_const, ev_func, get_put, get_args, get_putL, get_putL_nil, Nat.reduceEqDiff, reduceIte, List.getD_cons_zero, List.getD_cons_succ, List.getD_nil]); first | done | with_reducible rfl)) ?_ ?_ (by first | exact True.intro | exact ⟨_, rfl, by ((try simp only [ev_tmp, ev_const, ev_func, get_put, get_args, get_putL, get_putL_nil, Nat.reduceEqDiff, reduceIte, List.getD_cons_zero, List.getD_cons_succ, List.getD_nil, Bool.not_true, Bool.not_false]); first | done | with_reducible rfl)⟩) fun w5 hc5 hs5 hb5 => ?_
  · exact hf4.ints.sl.one
  · simp
  have hE15 : Ext w1 w5 := hc5.ext ((he2.trans he3).trans he4) (by have := he2.size; omega)
  have hz15 := hE15.size
  have hz2 := he2.size
  have hi5 : Ints w3.heap.size w4.heap.size w5 v4 p.ord := hf4.ints.same (hc5.same (.inl (by omega)))
  have hr5 : Blk w5 br _ := (Blk.ext (x := he3.trans he4) (h := hbk2)).chg' hc5 (by omega)
  refine go ?_
  refine rc (toInt64SS_ok (xss := p.pow) (by omega) (fun i => by have := hs.powi i; omega)) (next := fun v6 w6 h6 => ?_)
  obtain ⟨he6, us6, hL6⟩ := h6
  have hN6 := hL6.newRows
  have hb6 : Blk w6 bo _ := Blk.ext (h := hb5)
  have hz6 := he6.size
  refine go ?_
  refine st_store_fld (h := hb6) (by ((try simp only [ev_tmp, ev_const, ev_func, get_put, get_args, get_putL, get_putL_nil, Nat.reduceEqDiff, reduceIte, List.getD_cons_zero, List.getD_cons_succ, List.getD_nil]); first | done | with_reducible rfl)) (by ((try simp only [ev_tmp, ev_const, ev_func, get_put, get_args, get_putL, get_putL_nil, Nat.reduceEqDiff, reduceIte, List.getD_cons_zero, List.getD_cons_succ, List.getD_nil]); first | done | with_reducible rfl)) ?_ ?_ (by first | exact True.intro | exact ⟨_, rfl, by ((try simp only [ev_tmp, ev_const, ev_func, get_put, get_args, get_putL, get_putL_nil, Nat.reduceEqDiff, reduceIte, List.getD_cons_zero, List.getD_cons_succ, List.getD_nil, Bool.not_true, Bool.not_false]); first | done | with_reducible rfl)⟩) fun w7 hc7 hs7 hb7 => ?_
  · exact hN6.sl.one
  · simp
  have hE17 : Ext w1 w7 := hc7.ext (hE15.trans he6) (by omega)
  have hi7 : Ints w3.heap.size w4.heap.size w7 v4 p.ord := (hi5.same (he6.same _ _)).same (hc7.same (.inl (by omega)))
  have hp7 : Pc.Rows w5.heap.size w6.heap.size w7 v6 us6 p.pow := hN6.same (hc7.same (.inl (by omega)))
  have hr7 : Blk w7 br _ := (Blk.ext (x := he6) (h := hr5)).chg' hc7 (by omega)
  refine go ?_
  refine rc (toInt64SSS_ok (xsss := p.cnj) (by omega) (fun i => ⟨by have := hs.cnji i; omega, fun j => by have := hs.cnjij i j; omega⟩)) (next := fun v8 w8 h8 => ?_)
  obtain ⟨he8, us8, uss8, hR8⟩ := h8
  have hb8 : Blk w8 bo _ := Blk.ext (h := hb7)
  have hz8 := he8.size
  refine go ?_
  refine st_store_fld (h := hb8) (by ((try simp only [ev_tmp, ev_const, ev_func, get_put, get_args, get_putL, get_putL_nil, Nat.reduceEqDiff, reduceIte, List.getD_cons_zero, List.getD_cons_succ, List.getD_nil]); first | done | with_reducible rfl)) (by ((try simp only [ev_tmp, ev_const, ev_func, get_put, get_args, get_putL, get_putL_nil, Nat.reduceEqDiff, reduceIte, List.getD_cons_zero, List.getD_cons_succ, List.getD_nil]); first | done | with_reducible rfl)) ?_ ?_ (by first | exact True.intro | exact ⟨_, rfl, by ((try simp only [ev_tmp, ev_const, ev_func, get_put, get_args, get_putL, get_putL_nil, Nat.reduceEqDiff, reduceIte, List.getD_cons_zero, List.getD_cons_succ, List.getD_nil, Bool.not_true, Bool.not_false]); first | done | with_reducible rfl)⟩) fun w9 hc9 hs9 hb9 => ?_
  · exact hR8.sl.one
  · simp
  have hE19 : Ext w1 w9 := hc9.ext (hE17.trans he8) (by omega)
  have hi9 : Ints w3.heap.size w4.heap.size w9 v4 p.ord := (hi7.same (he8.same _ _)).same (hc9.same (.inl (by omega)))
  have hp9 : Pc.Rows w5.heap.size w6.heap.size w9 v6 us6 p.pow := (hp7.same (he8.same _ _)).same (hc9.same (.inl (by omega)))
  have hq9 : Rowss w7.heap.size w8.heap.size w9 v8 us8 uss8 p.cnj := hR8.same (hc9.same (.inl (by omega)))
  have hr9 : Blk w9 br _ := (Blk.ext (x := he8) (h := hr7)).chg' hc9 (by omega)
  refine go ?_
  have hb9' : Blk w9 bo [v4, v6, v8] := hb9
  refine ra (v := .agg #[v4, v6, v8]) (h := rd_load_blk (hb := hb9') (by ((try simp only [ev_tmp, ev_const, ev_func, get_put, get_args, get_putL, get_putL_nil, Nat.reduceEqDiff, reduceIte, List.getD_cons_zero, List.getD_cons_succ, List.getD_nil]); first | done | with_reducible rfl)) rfl) (next := ?_)
  refine st_store_agg (vs := [v4, v6, v8]) (cs := _) (hb := hr9) (by ((try simp only [ev_tmp, ev_const, ev_func, get_put, get_args, get_putL, get_putL_nil, Nat.reduceEqDiff, reduceIte, List.getD_cons_zero, List.getD_cons_succ, List.getD_nil]); first | done | with_reducible rfl)) (by ((try simp only [ev_tmp, ev_const, ev_func, get_put, get_args, get_putL, get_putL_nil, Nat.reduceEqDiff, reduceIte, List.getD_cons_zero, List.getD_cons_succ, List.getD_nil]); first | done | with_reducible rfl)) rfl ?_ ?_ (by first | exact True.intro | exact ⟨_, rfl, by ((try simp only [ev_tmp, ev_const, ev_func, get_put, get_args, get_putL, get_putL_nil, Nat.reduceEqDiff, reduceIte, List.getD_cons_zero, List.getD_cons_succ, List.getD_nil, Bool.not_true, Bool.not_false]); first | done | with_reducible rfl)⟩) fun w10 hc10 hs10 hb10 => ?_
  · rfl
  · have e1 := hi9.sl.one
    have e2 := hp9.sl.one
    have e3 := hq9.sl.one
    simp [e1, e2, e3]
  refine go ?_
  refine retc (b := br) (hb := hb10) ⟨hc10.ext (he1.trans hE19) (by omega), ?_⟩ rfl
  have hi10 := (hi9.same (hc10.same (.inl (by omega)))).mono (lo' := w.heap.size) (hi' := w10.heap.size) (by omega) (by omega)
  have hp10 := (hp9.same (hc10.same (.inl (by omega)))).mono (lo' := w.heap.size) (hi' := w10.heap.size) (by omega) (by omega)
  have hq10 := rowss_mono (lo' := w.heap.size) (hi' := w10.heap.size) (hq9.same (hc10.same (.inl (by omega)))) (by omega) (by omega)
  exact ⟨⟨v4, v6, v8, us6, us8, uss8, rfl, hi10, hp10, hq10⟩⟩
set_option maxHeartbeats 1000000 in
theorem eqInt64SSS_ok {w : World} {va vb : Value} {us vs : List Value} {uss vss : List (List Value)} {xsss ysss : List (List (List Int))} {lo hi lo1 hi1 : Nat} [hx : Rowss lo hi w va us uss xsss] [hy : Rowss lo1 hi1 w vb vs vss ysss] (hm : ∀ i, (xsss.getD i []).length ≤ 2000000 ∧ ∀ j, ((xsss.getD i []).getD j []).length ≤ 2000000) (hl : xsss.length ≤ 10000000) :
    Calls Try.prog 19 #[va, vb] w (Ret fun v w' => ∃ b, v = .bool b ∧ (b = true ↔ xsss = ysss) ∧ Ext w w') := by
  have hul := hx.vals.len
  have hvl := hy.vals.len
  refine enter (args := [va, vb]) (l := [.tmp 4]) Try.func19 rfl rfl Try.ntmps19 (by simp) ?_
  refine go ?_
  refine c_if (fun h1 => ?_) (fun h1 => ?_)
  · refine go ?_
    refine ret1 ⟨_, rfl, ?_, Ext.refl _⟩
    simp only [Bool.false_eq_true, false_iff]
    rintro rfl
    omega
  · have hxy : xsss.length = ysss.length := by omega
    refine go ?_
    refine r_for xsss.length (fun k ρ w' => Has ρ [(0, va), (1, vb), (5, .int .i64 k)] ∧ Ext w w' ∧ ∀ i, i < k → xsss.getD i [] = ysss.getD i []) ?_ ?_
    · refine ⟨?_, Ext.refl _, fun i hi => by omega⟩
      exact hasP
    rintro k ρ w1 hk ⟨hH, he1, hI⟩
    refine rwp_has hH fun ρ0 => ?_
    refine go ?_
    refine c_if (fun h4 => ?_) (fun h4 => ?_)
    · refine go ?_
      refine d_region fun w2 he2 _ => ?_
      refine dgo ?_
      refine dce (eqInt64SS_ok (xss := xsss.getD k []) (yss := ysss.getD k []) (hm k).2 (by have := (hm k).1; omega)) (next := fun v3 w3 h3 => ?_)
      obtain ⟨b3, rfl, hb3, he3⟩ := h3
      refine dgo ?_
      refine d_end (h := ?_)
      refine go ?_
      refine c_b (fun h5 => ?_) (fun h5 => ?_)
      · refine go ?_
        refine ret1 ⟨_, rfl, ?_, (he1.trans he2).trans he3⟩
        simp only [Bool.false_eq_true, false_iff]
        rintro rfl
        have := hb3.2 rfl
        rw [this] at h5; cases h5
      · have h6 := hb3.1 (by simpa using h5)
        refine go ?_
        refine forQ_normal (by omega) ⟨?_, (he1.trans he2).trans he3, fun i hi => ?_⟩
        · exact hasP
        · by_cases e : i = k
          · subst e; exact h6
          · exact hI i (by omega)
    · refine go ?_
      refine ret1 ⟨_, rfl, ?_, he1⟩
      simp only [true_iff]
      apply List.ext_getElem hxy
      intro i h1 h2
      have := hI i (by omega)
      simpa [h1, h2] using this
theorem pr_ext {p q : Pr} (h1 : p.ord = q.ord) (h2 : p.pow = q.pow) (h3 : p.cnj = q.cnj) : p = q := by cases p; cases q; simp_all
set_option maxHeartbeats 1000000 in
theorem eqPresentation_ok {w : World} {va vb : Value} {p q : Pr} {lo hi lo1 hi1 : Nat} [hp : Pres lo hi w va p] [hq : Pres lo1 hi1 w vb q] (hs : SizeP p 2000000) :
    Calls Try.prog 16 #[va, vb] w (Ret fun v w' => ∃ b, v = .bool b ∧ (b = true ↔ p = q) ∧ Ext w w') := by
  have hs1 := hs.ord
  have hs2 := hs.pow
  have hs3 := hs.cnj
  obtain ⟨vo, vpw, vc, ps, cs, css, rfl, h1, h2, h3⟩ := hp.ex
  obtain ⟨vo', vpw', vc', ps', cs', css', rfl, h1', h2', h3'⟩ := hq.ex
  refine enter (args := [.agg #[vo, vpw, vc], .agg #[vo', vpw', vc']]) (l := [.tmp 4]) Try.func16 rfl rfl Try.ntmps16 (by simp) ?_
  refine go ?_
  refine st_box3 (by ((try simp only [ev_tmp, ev_const, ev_func, get_put, get_args, get_putL, get_putL_nil, Nat.reduceEqDiff, reduceIte, List.getD_cons_zero, List.getD_cons_succ, List.getD_nil]); first | done | with_reducible rfl)) (by first | exact True.intro | exact ⟨_, rfl, by ((try simp only [ev_tmp, ev_const, ev_func, get_put, get_args, get_putL, get_putL_nil, Nat.reduceEqDiff, reduceIte, List.getD_cons_zero, List.getD_cons_succ, List.getD_nil, Bool.not_true, Bool.not_false]); first | done | with_reducible rfl)⟩) fun w1 b he1 hb1 hsz1 hc0 hc1 hc2 => ?_
  refine go ?_
  refine st_box3 (by ((try simp only [ev_tmp, ev_const, ev_func, get_put, get_args, get_putL, get_putL_nil, Nat.reduceEqDiff, reduceIte, List.getD_cons_zero, List.getD_cons_succ, List.getD_nil]); first | done | with_reducible rfl)) (by first | exact True.intro | exact ⟨_, rfl, by ((try simp only [ev_tmp, ev_const, ev_func, get_put, get_args, get_putL, get_putL_nil, Nat.reduceEqDiff, reduceIte, List.getD_cons_zero, List.getD_cons_succ, List.getD_nil, Bool.not_true, Bool.not_false]); first | done | with_reducible rfl)⟩) fun w2 b' he2 hb2 hsz2 hc0' hc1' hc2' => ?_
  have hE2 := he1.trans he2
  have no : ∀ {w' : World}, p ≠ q → Ext w w' → ∃ b, Value.bool false = .bool b ∧ (b = true ↔ p = q) ∧ Ext w w' := fun h he => ⟨_, rfl, by simp [h], he⟩
  refine go ?_
  refine rc (eqInt64S_ok (xs := p.ord) (ys := q.ord) (by omega)) (next := fun v3 w3 h4 => ?_)
  obtain ⟨b3, rfl, hb3, he3⟩ := h4
  refine go ?_
  refine c_b (fun h5 => ?_) (fun h5 => ?_)
  · refine go ?_
    refine ret1 (no (fun e => ?_) (hE2.trans he3))
    rw [hb3.2 (by rw [e])] at h5; cases h5
  have e1 := hb3.1 (by simpa using h5)
  refine go ?_
  refine rc (eqInt64SS_ok (xss := p.pow) (yss := q.pow) (fun i => by have := hs.powi i; omega) (by omega)) (next := fun v4 w4 h6 => ?_)
  obtain ⟨b4, rfl, hb4, he4⟩ := h6
  refine go ?_
  refine c_b (fun h7 => ?_) (fun h7 => ?_)
  · refine go ?_
    refine ret1 (no (fun e => ?_) ((hE2.trans he3).trans he4))
    rw [hb4.2 (by rw [e])] at h7; cases h7
  have e2 := hb4.1 (by simpa using h7)
  refine go ?_
  refine rc (eqInt64SSS_ok (xsss := p.cnj) (ysss := q.cnj) (fun i => ⟨by have := hs.cnji i; omega, fun j => by have := hs.cnjij i j; omega⟩) (by omega)) (next := fun v5 w5 h8 => ?_)
  obtain ⟨b5, rfl, hb5, he5⟩ := h8
  refine go ?_
  refine c_b (fun h9 => ?_) (fun h9 => ?_)
  · refine go ?_
    refine ret1 (no (fun e => ?_) (((hE2.trans he3).trans he4).trans he5))
    rw [hb5.2 (by rw [e])] at h9; cases h9
  have e3 := hb5.1 (by simpa using h9)
  refine go ?_
  exact ret1 ⟨_, rfl, ⟨fun _ => pr_ext e1 e2 e3, fun _ => rfl⟩, ((hE2.trans he3).trans he4).trans he5⟩
end Go.Proofs.Ytgomfjhhfmhlgaa

/-
  Walks: the statement's own helpers that mark memory and read the marks (markInt64S, markInt64SS, heldInt64S, heldInt64SS).
  Conditions: stated at each theorem.
-/
namespace Go.Proofs.Ytgomfjhhfmhlgaa
open Go Go.Pc
set_option maxHeartbeats 1000000 in
theorem markInt64S_ok {s : Nat} {w : World} {v : Value} {xs : List Int} {k : Int} (hf : Fr s w v xs) (hk : 0 ≤ k) (hb : k + xs.length ≤ 9000000000000000000) :
    Calls Try.prog 32 #[v, .int .i64 k] w (Ret fun v' w' => v' = .int .i64 (k + xs.length) ∧ Fr s w' v (marks k xs.length) ∧ Wrt (fun b => xs ≠ [] ∧ v.ownBlock = some b) w w') := by
  by_cases hn : xs = []
  · subst hn
    have hx := hf.ints
    refine enter (args := [v, .int .i64 k]) (l := [.tmp 4]) Try.func32 rfl rfl Try.ntmps32 (by simp) ?_
    refine go ?_
    refine r_for 0 (fun i ρ w' => Has ρ [(0, v), (1, .int .i64 k), (5, .int .i64 i)] ∧ w' = w) ?_ ?_
    · refine ⟨?_, rfl⟩
      exact hasP
    rintro i ρ w2 hi ⟨hH, rfl⟩
    refine rwp_has hH fun ρ0 => ?_
    refine go ?_
    refine c_if (fun h4 => ?_) (fun h4 => ?_)
    · simp at h4; omega
    · refine go ?_
      exact ret1 (v := .int .i64 k) ⟨by simp, hf, .refl _⟩
  obtain ⟨e, b, hsb, ho⟩ := hf.own hn
  have hl := sl_len ho.own.toSl
  simp only [List.length_map] at hl
  refine enter (args := [v, .int .i64 k]) (l := [.tmp 4]) Try.func32 rfl rfl Try.ntmps32 (by simp) ?_
  refine go ?_
  refine r_for xs.length (fun i ρ w' => ∃ ys, Has ρ [(0, v), (1, .int .i64 (k + i)), (5, .int .i64 i)] ∧ Chg b w w' ∧ OwnI e b w' v ys ∧ ys.length = xs.length ∧ ∀ j : Nat, j < i → ys.getD j 0 = k + j) ?_ ?_
  · refine ⟨xs, ?_, Chg.refl _ _, ho, rfl, fun j hj => by omega⟩
    exact hasP
  have hblk := ho.block
  clear ho hf
  rintro i ρ w2 hi ⟨ys, hH, hc2, ho2, hl2, hI⟩
  refine rwp_has hH fun ρ0 => ?_
  refine go ?_
  refine c_if (fun h4 => ?_) (fun h4 => ?_)
  · refine go ?_
    refine st_store_int (by ((try simp only [ev_tmp, ev_const, ev_func, get_put, get_args, get_putL, get_putL_nil, Nat.reduceEqDiff, reduceIte, List.getD_cons_zero, List.getD_cons_succ, List.getD_nil]); first | done | with_reducible rfl)) (by ((try simp only [ev_tmp, ev_const, ev_func, get_put, get_args, get_putL, get_putL_nil, Nat.reduceEqDiff, reduceIte, List.getD_cons_zero, List.getD_cons_succ, List.getD_nil]); first | done | with_reducible rfl)) ?_ (by first | exact True.intro | exact ⟨_, rfl, by ((try simp only [ev_tmp, ev_const, ev_func, get_put, get_args, get_putL, get_putL_nil, Nat.reduceEqDiff, reduceIte, List.getD_cons_zero, List.getD_cons_succ, List.getD_nil, Bool.not_true, Bool.not_false]); first | done | with_reducible rfl)⟩) fun w3 hc3 hs3 ho3 => ?_
    · omega
    refine go ?_
    refine forQ_normal (by omega) ⟨_, ?_, hc2.trans hc3, ho3, by simp [hl2], fun j hj => ?_⟩
    · exact hasP
    · by_cases ee : i = j
      · subst ee; rw [Pc.getD_set_eq _ _ _ (by omega)]
      · rw [Pc.getD_set_ne _ _ _ _ ee]; exact hI j (by omega)
  · refine go ?_
    obtain rfl : i = xs.length := by omega
    have hy : ys = marks k xs.length := list_ext0 (by rw [marks_len]; exact hl2) fun j hj => by rw [hI j (by omega), marks_getD _ (by omega)]
    refine ret1 ⟨rfl, ?_, .one ⟨hn, hblk⟩ hc2⟩
    rw [← hy]
    exact ho2.toFr hsb
set_option maxHeartbeats 1000000 in
theorem heldInt64S_ok {w : World} {v : Value} {k : Int} {n lo hi : Nat} {xs : List Int} [hx : Ints lo hi w v xs] (hxs : xs = marks k n) (hk : 0 ≤ k) (hb : k + n ≤ 9000000000000000000) :
    Calls Try.prog 49 #[v, .int .i64 k] w (Ret fun v' w' => v' = .int .i64 (k + n) ∧ Ext w w') := by
  have hl : xs.length = n := by rw [hxs, marks_len]
  have hg : ∀ i, i < n → xs.getD i 0 = k + i := fun i hi => by rw [hxs, marks_getD _ hi]
  have hm : n ≤ 9223372036854775807 := by have := sl_len hx.sl; simp at this; omega
  refine enter (args := [v, .int .i64 k]) (l := [.tmp 4]) Try.func49 rfl rfl Try.ntmps49 (by simp) ?_
  refine go ?_
  refine r_for n (fun i ρ w' => Has ρ [(0, v), (1, .int .i64 (k + i)), (5, .int .i64 i)] ∧ Ext w w') ?_ ?_
  · refine ⟨?_, Ext.refl _⟩
    exact hasP
  rintro i ρ w2 hi ⟨hH, he2⟩
  refine rwp_has hH fun ρ0 => ?_
  refine go ?_
  refine c_if (fun h4 => ?_) (fun h4 => ?_)
  · have hgi := hg i (by omega)
    refine go ?_
    refine c_if (fun h5 => ?_) (fun h5 => ?_)
    · exact absurd hgi h5
    · refine go ?_
      refine forQ_normal (by omega) ⟨?_, he2⟩
      exact hasP
  · refine go ?_
    obtain rfl : i = n := by omega
    exact ret1 ⟨rfl, he2⟩
set_option maxHeartbeats 1000000 in
theorem heldInt64SS_ok {w : World} {v : Value} {k : Int} {lo hi : Nat} {us : List Value} {xss yss : List (List Int)} [hx : Pc.Rows lo hi w v us xss] (hxs : xss = markL k yss) (hk : 0 ≤ k) (hb : k + tot yss ≤ 9000000000000000000) :
    Calls Try.prog 34 #[v, .int .i64 k] w (Ret fun v' w' => v' = .int .i64 (k + tot yss) ∧ Ext w w') := by
  have hl : xss.length = yss.length := by rw [hxs, markL_len]
  have hul := hx.vals.len
  have hm := sl_len hx.sl
  have hg : ∀ i, i < yss.length → xss.getD i [] = marks (k + tot (yss.take i)) (yss.getD i []).length := fun i hi => by rw [hxs, markL_getD _ _ _ hi]
  refine enter (args := [v, .int .i64 k]) (l := [.tmp 4]) Try.func34 rfl rfl Try.ntmps34 (by simp) ?_
  refine go ?_
  refine r_for yss.length (fun i ρ w' => Has ρ [(0, v), (1, .int .i64 (k + tot (yss.take i))), (5, .int .i64 i)] ∧ Ext w w') ?_ ?_
  · refine ⟨?_, Ext.refl _⟩
    simp only [List.take_zero, tot]
    exact hasP
  rintro i ρ w2 hi ⟨hH, he2⟩
  refine rwp_has hH fun ρ0 => ?_
  have ht := tot_take_le yss i
  refine go ?_
  refine c_if (fun h4 => ?_) (fun h4 => ?_)
  · have hin : i < yss.length := by omega
    have hts := tot_take_succ yss hin
    have ht2 := tot_take_le yss (i + 1)
    refine go ?_
    refine rc (heldInt64S_ok (xs := xss.getD i []) (hg i hin) ?_ ?_) (next := fun v3 w3 h3 => ?_)
    · omega
    · omega
    obtain ⟨rfl, he3⟩ := h3
    refine go ?_
    refine c_if (fun h5 => ?_) (fun h5 => ?_)
    · omega
    · refine go ?_
      refine forQ_normal (by omega) ⟨?_, he2.trans he3⟩
      exact hasP
  · refine go ?_
    obtain rfl : i = yss.length := by omega
    refine ret1 ⟨?_, he2⟩
    rw [List.take_length]
theorem split_at {α : Type} (l : List α) {i : Nat} (h : i < l.length) : l = l.take i ++ l[i] :: l.drop (i + 1) := by
  rw [List.getElem_cons_drop]; exact (List.take_append_drop i l).symm
set_option maxHeartbeats 2000000 in
theorem markInt64SS_ok {A : Nat → Prop} {s : Nat} {w : World} {v : Value} {k : Int} {pre rs post : List (Value × List Int)} (hO : RowsO s w (pre ++ rs ++ post)) (hS : SpA A w v (rs.map (·.1))) (hA : ∀ b, BlkOf rs b → A b) (hk : 0 ≤ k) (hb : k + tot (rs.map (·.2)) ≤ 9000000000000000000) :
    Calls Try.prog 33 #[v, .int .i64 k] w (Ret fun v' w' => v' = .int .i64 (k + tot (rs.map (·.2))) ∧ RowsO s w' (pre ++ mkR k rs ++ post) ∧ Wrt (BlkOf rs) w w') := by
  have hm := sl_len hS.sl
  simp only [List.length_map] at hm
  have hsl := hS.sl
  have hlen := hsl.toLen
  refine enter (args := [v, .int .i64 k]) (l := [.tmp 4]) Try.func33 rfl rfl Try.ntmps33 (by simp) ?_
  refine go ?_
  refine r_for rs.length (fun i ρ w' => Has ρ [(0, v), (1, .int .i64 (k + tot ((rs.take i).map (·.2)))), (5, .int .i64 i)] ∧ RowsO s w' (pre ++ (mkR k (rs.take i) ++ rs.drop i) ++ post) ∧ Wrt (BlkOf rs) w w') ?_ ?_
  · refine ⟨?_, by simpa [mkR] using hO, .refl _⟩
    simp only [List.take_zero, List.map_nil, tot]
    exact hasP
  clear hO hsl hlen
  rintro i ρ w2 hi ⟨hH, hO2, hW2⟩
  refine rwp_has hH fun ρ0 => ?_
  have hS2 := hS.wr hW2 hA
  have hsl2 := hS2.sl
  have hlen2 := hsl2.toLen
  have hll : (rs.map (·.1)).length = rs.length := by simp
  have ht : tot ((rs.take i).map (·.2)) ≤ tot (rs.map (·.2)) := by rw [List.map_take]; exact tot_take_le _ _
  refine go ?_
  refine c_if (fun h4 => ?_) (fun h4 => ?_)
  · have hin : i < rs.length := by simp at h4; omega
    have e1 : Pc.rowAt v (rs.map (·.1)) i = rs[i].1 := by simp [Pc.rowAt, hin]
    have e2 : rs.drop i = rs[i] :: rs.drop (i + 1) := (List.getElem_cons_drop (h := hin)).symm
    have e3 : rs.take (i + 1) = rs.take i ++ [rs[i]] := List.take_succ_eq_append_getElem hin
    have hts : tot ((rs.take (i + 1)).map (·.2)) = tot ((rs.take i).map (·.2)) + (rs[i]).2.length := by rw [e3, List.map_append, tot_append]; simp [tot]
    have ht2 : tot ((rs.take (i + 1)).map (·.2)) ≤ tot (rs.map (·.2)) := by rw [List.map_take]; exact tot_take_le _ _
    have hO3 : RowsO s w2 ((pre ++ mkR k (rs.take i)) ++ rs[i] :: (rs.drop (i + 1) ++ post)) := by
      rw [e2] at hO2
      simpa only [List.append_assoc, List.cons_append] using hO2
    have hfr := hO3.fr rs[i] (by simp)
    refine go ?_
    refine ra (v := Pc.rowAt v (rs.map fun x : Value × List Int => x.1) i) (h := rd_load_sl (us := rs.map fun x : Value × List Int => x.1) (by ((try simp only [ev_tmp, ev_const, ev_func, get_put, get_args, get_putL, get_putL_nil, Nat.reduceEqDiff, reduceIte, List.getD_cons_zero, List.getD_cons_succ, List.getD_nil]); first | done | with_reducible rfl)) (by omega)) (next := ?_)
    rw [e1]
    refine go ?_
    refine rc (markInt64S_ok hfr ?_ ?_) (next := fun v3 w3 h3 => ?_)
    · omega
    · omega
    obtain ⟨rfl, hf3, hW3⟩ := h3
    have hO4 := hO3.upd hW3 hf3 marks_ne.1
    refine go ?_
    refine forQ_normal (by omega) ⟨?_, ?_, hW2.trans (hW3.mono fun b ⟨hn, e⟩ => ⟨_, List.getElem_mem hin, hn, e⟩)⟩
    · exact hasP
    · rw [e3, mkR_append]
      simpa only [mkR, List.append_assoc, List.cons_append, List.nil_append] using hO4
  · refine go ?_
    obtain rfl : i = rs.length := by simp at h4; omega
    rw [List.take_length] at hO2 ⊢
    exact ret1 ⟨rfl, by simpa using hO2, hW2⟩
end Go.Proofs.Ytgomfjhhfmhlgaa

/-
  Walks: copies that are the call's own (toInt64SSS, toPresentation), marks of presentations (markInt64SSS, markPresentation).
  Conditions: stated at each theorem.
-/
namespace Go.Proofs.Ytgomfjhhfmhlgaa
open Go Go.Pc
theorem toInt64SSM_ok {w : World} {v : Value} {us : List Value} {xss : List (List Int)} {lo hi : Nat} [hx : Pc.Rows lo hi w v us xss] (hl : xss.length ≤ 2000000) (hr : ∀ i, (xss.getD i []).length ≤ 2000000) :
    Calls Try.prog 37 #[v] w (Ret fun v' w' => Ext w w' ∧ ∃ rs, xss = rs.map (·.2) ∧ MatO w.heap.size w'.heap.size w' v' rs) :=
  Pc.Calls.ret_mono (toInt64SSO_ok hl hr) fun _ _ ⟨h1, rs, h2, h3, h4⟩ => by subst h3; exact ⟨h1, rs, rfl, MatO.ofLst h2 h4 h2.newRows⟩
theorem getD_nils {α : Type} (l : List α) (z : α) (m i : Nat) : (l ++ List.replicate m z).getD i z = l.getD i z := by
  by_cases h : i < l.length
  · simp [List.getElem?_append_left h, h]
  · rw [List.getD_eq_getElem?_getD, List.getElem?_append_right (by omega), List.getElem?_replicate]
    rw [List.getD_eq_getElem?_getD, List.getElem?_eq_none (by omega)]
    split <;> rfl
theorem rowss_of_cub {A : Nat → Prop} {s : Nat} {w : World} {v : Value} {gs : List (Value × List (Value × List Int))} {lo hi : Nat} (hs : Sl lo hi w v (gs.map (·.1))) (hlo : lo ≤ hi) (h : ∀ q, q ∈ gs → Pc.Rows lo hi w q.1 (q.2.map (·.1)) (q.2.map (·.2))) :
    Rowss lo hi w v (gs.map (·.1)) (gs.map fun q => q.2.map (·.1)) (gs.map fun q => q.2.map (·.2)) := by
  refine ⟨hs, by simp, by simp, fun i => ?_⟩
  by_cases hi' : i < gs.length
  · have := h gs[i] (List.getElem_mem hi')
    simpa [hi'] using this
  · have e1 : (gs.map (·.1)).getD i nilv = nilv := by rw [List.getD_eq_getElem?_getD, List.getElem?_eq_none (by simp; omega)]; rfl
    have e2 : (gs.map fun q => q.2.map (·.1)).getD i [] = [] := by rw [List.getD_eq_getElem?_getD, List.getElem?_eq_none (by simp; omega)]; rfl
    have e3 : (gs.map fun q => q.2.map (·.2)).getD i [] = [] := by rw [List.getD_eq_getElem?_getD, List.getElem?_eq_none (by simp; omega)]; rfl
    rw [e1, e2, e3]
    exact ⟨⟨⟨none, 0, rfl, Nat.le_refl _, by omega, fun k u hu => by simp at hu⟩⟩, rfl, fun i => ⟨⟨none, 0, by simp, by simp, by omega, fun k u hu => by simp at hu⟩⟩⟩
set_option maxHeartbeats 2000000 in
theorem toInt64SSSO_ok {w : World} {v : Value} {us : List Value} {uss : List (List Value)} {xsss : List (List (List Int))} {lo hi : Nat} [hx : Rowss lo hi w v us uss xsss] (hl : xsss.length ≤ 2000000) (hr : ∀ i, (xsss.getD i []).length ≤ 2000000 ∧ ∀ j, ((xsss.getD i []).getD j []).length ≤ 2000000) :
    Calls Try.prog 54 #[v] w (Ret fun v' w' => Ext w w' ∧ ∃ gs, xsss = gs.map (fun q => q.2.map (·.2)) ∧ RowsO w.heap.size w' (flat gs) ∧ CubO (fun b => BlkOf (flat gs) b ∨ b < w.heap.size) w' v' gs ∧ Rowss w.heap.size w'.heap.size w' v' (gs.map (·.1)) (gs.map fun q => q.2.map (·.1)) xsss) := by
  refine enter (args := [v]) (l := [.tmp 2]) Try.func54 rfl rfl Try.ntmps54 (by simp) ?_
  refine go ?_
  refine st_make_nil (by ((try simp only [ev_tmp, ev_const, ev_func, get_put, get_args, get_putL, get_putL_nil, Nat.reduceEqDiff, reduceIte, List.getD_cons_zero, List.getD_cons_succ, List.getD_nil]); first | done | with_reducible rfl)) (by ((try simp only [ev_tmp, ev_const, ev_func, get_put, get_args, get_putL, get_putL_nil, Nat.reduceEqDiff, reduceIte, List.getD_cons_zero, List.getD_cons_succ, List.getD_nil]); first | done | with_reducible rfl)) (by omega) (by omega) (by first | exact True.intro | exact ⟨_, rfl, by ((try simp only [ev_tmp, ev_const, ev_func, get_put, get_args, get_putL, get_putL_nil, Nat.reduceEqDiff, reduceIte, List.getD_cons_zero, List.getD_cons_succ, List.getD_nil, Bool.not_true, Bool.not_false]); first | done | with_reducible rfl)⟩) fun w1 v1 he1 hs1 ho1 => ?_
  refine go ?_
  refine r_for xsss.length (fun k ρ w' => ∃ gs : List (Value × List (Value × List Int)), Has ρ [(0, v), (3, v1), (4, .int .i64 k)] ∧ Ext w w' ∧ w.heap.size + 1 ≤ w'.heap.size ∧ Own 23 w.heap.size w' v1 (gs.map (·.1) ++ List.replicate (xsss.length - k) nilv) ∧ gs.length = k ∧ gs.map (fun q => q.2.map (·.2)) = xsss.take k ∧
    RowsO (w.heap.size + 1) w' (flat gs) ∧ (∀ q, q ∈ gs → SpA (fun b => BlkOf (flat gs) b ∨ b < w.heap.size + 1) w' q.1 (q.2.map (·.1))) ∧ ∀ q, q ∈ gs → Pc.Rows (w.heap.size + 1) w'.heap.size w' q.1 (q.2.map (·.1)) (q.2.map (·.2))) ?_ ?_
  · refine ⟨[], ?_, he1, by omega, by simpa using ho1, rfl, by simp, RowsO.nil _ _, fun q hq => (by cases hq), fun q hq => (by cases hq)⟩
    exact hasP
  clear ho1
  rintro k ρ w2 hk ⟨gs, hH, he2, hz2, ho2, hgl, hI, hO2, hS2, hR2⟩
  refine rwp_has hH fun ρ0 => ?_
  have hsl := ho2.toSl
  have hul : (gs.map (·.1) ++ List.replicate (xsss.length - k) nilv).length = xsss.length := by simp; omega
  refine go ?_
  refine c_if (fun h4 => ?_) (fun h4 => ?_)
  · have hkn : k < xsss.length := by omega
    refine go ?_
    refine rc (toInt64SSM_ok (xss := xsss.getD k []) (hr k).1 (hr k).2) (next := fun v3 w3 h3 => ?_)
    obtain ⟨he3, rs, hrs, hM3⟩ := h3
    have ho3 : Own 23 w.heap.size w3 v1 _ := Own.ext (h := ho2)
    have hsl3 := ho3.toSl
    have hlen3 := hsl3.toLen
    have hz3 := he3.size
    have hol := ho2.lt
    refine go ?_
    refine st_store_val (h := ho3) (by ((try simp only [ev_tmp, ev_const, ev_func, get_put, get_args, get_putL, get_putL_nil, Nat.reduceEqDiff, reduceIte, List.getD_cons_zero, List.getD_cons_succ, List.getD_nil]); first | done | with_reducible rfl)) (by ((try simp only [ev_tmp, ev_const, ev_func, get_put, get_args, get_putL, get_putL_nil, Nat.reduceEqDiff, reduceIte, List.getD_cons_zero, List.getD_cons_succ, List.getD_nil]); first | done | with_reducible rfl)) ?_ ?_ (by first | exact True.intro | exact ⟨_, rfl, by ((try simp only [ev_tmp, ev_const, ev_func, get_put, get_args, get_putL, get_putL_nil, Nat.reduceEqDiff, reduceIte, List.getD_cons_zero, List.getD_cons_succ, List.getD_nil, Bool.not_true, Bool.not_false]); first | done | with_reducible rfl)⟩) fun w4 hc4 hs4 ho4 => ?_
    · exact hM3.rows.sl.one
    · omega
    refine go ?_
    have e0 : xsss.length - k = (xsss.length - (k + 1)) + 1 := by omega
    have e1 := set_nils (gs.map (·.1)) nilv v3 (xsss.length - (k + 1))
    rw [List.length_map, hgl, ← e0] at e1
    rw [e1] at ho4
    have hW4 : Wrt (fun b => b = w.heap.size) w3 w4 := .one rfl hc4
    have hM4 := hM3.wr hW4 (fun b hb => .inl (by omega))
    have hf : flat (gs ++ [(v3, rs)]) = flat gs ++ rs := by rw [flat_append, flat_one]
    have hO3 := hO2.append he3 (by omega) hM3.own
    have hO4 := hO3.wr hW4 (fun b hb e => by have := (hO3.blk hb).1; omega)
    refine forQ_normal (by omega) ⟨gs ++ [(v3, rs)], ?_, hc4.ext (he2.trans he3) (Nat.le_refl _), by omega, by simpa using ho4, by simp [hgl], ?_, ?_, fun q hq => ?_, fun q hq => ?_⟩
    · exact hasP
    · rw [List.take_succ_eq_append_getElem hkn, List.map_append, hI]
      simp only [List.map_cons, List.map_nil, ← hrs]
      simp [hkn]
    · rw [hf]; exact hO4
    · rw [hf]
      rcases List.mem_append.1 hq with hq | hq
      · have h5 := (hS2 q hq).grow he3 (A' := fun b => BlkOf (flat gs ++ rs) b ∨ b < w.heap.size + 1) (fun b hb => by
          rcases hb with hb | hb
          · rcases blkOf_append'.1 hb with hb | hb
            · exact .inl (.inl hb)
            · exact .inr (hM3.own.blk hb).1
          · exact .inl (.inr hb))
        exact h5.wr hW4 (fun b hb => .inr (by omega))
      · obtain rfl := List.mem_singleton.1 hq
        refine SpA.weak hM4.sp fun b hb => ?_
        rcases hb with hb | hb
        · rcases blkOf_append'.1 hb with hb | hb
          · exact .inr (hO2.blk hb).2
          · exact .inl hb
        · exact .inr (by omega)
    · rcases List.mem_append.1 hq with hq | hq
      · exact (((hR2 q hq).same (he3.same _ _)).same (hc4.same (.inl (by omega)))).mono (Nat.le_refl _) (by omega)
      · obtain rfl := List.mem_singleton.1 hq
        exact hM4.rows.mono (by omega) (by omega)
  · refine go ?_
    obtain rfl : k = xsss.length := by omega
    rw [List.take_length] at hI
    rw [Nat.sub_self, List.replicate_zero, List.append_nil] at ho2
    have hol := ho2.lt
    refine ret1 ⟨he2, gs, hI.symm, hO2.mono (by omega), ⟨⟨_, _, ho2.toSl, fun b hb => ?_⟩, fun q hq => (hS2 q hq).weak fun b hb => hb.imp id (by omega)⟩, ?_⟩
    · rcases hb with hb | hb
      · have := (hO2.blk hb).1; omega
      · omega
    · rw [← hI]
      exact rowss_of_cub (A := fun _ => True) (s := 0) (ho2.toSl.mono (Nat.le_refl _) (by omega)) (by omega) fun q hq => (hR2 q hq).mono (by omega) (Nat.le_refl _)
theorem flat_blk {gs : List (Value × List (Value × List Int))} {q : Value × List (Value × List Int)} (hq : q ∈ gs) {b : Nat} (h : BlkOf q.2 b) : BlkOf (flat gs) b := by
  obtain ⟨r, hr, h1, h2⟩ := h
  refine ⟨r, ?_, h1, h2⟩
  unfold flat
  rw [List.mem_flatten]
  exact ⟨q.2, List.mem_map.2 ⟨q, hq, rfl⟩, hr⟩
theorem flat_tot (gs : List (Value × List (Value × List Int))) : (flat gs).map (·.2) = (gs.map fun q => q.2.map (·.2)).flatten := by
  unfold flat
  rw [List.map_flatten, List.map_map]; rfl
set_option maxHeartbeats 2000000 in
theorem markInt64SSS_ok {A : Nat → Prop} {s : Nat} {w : World} {v : Value} {k : Int} {gs : List (Value × List (Value × List Int))} {pre post : List (Value × List Int)} (hO : RowsO s w (pre ++ flat gs ++ post)) (hS : CubO A w v gs) (hA : ∀ b, BlkOf (flat gs) b → A b) (hk : 0 ≤ k) (hb : k + tot ((flat gs).map (·.2)) ≤ 9000000000000000000) :
    Calls Try.prog 21 #[v, .int .i64 k] w (Ret fun v' w' => v' = .int .i64 (k + tot ((flat gs).map (·.2))) ∧ RowsO s w' (pre ++ mkR k (flat gs) ++ post) ∧ Wrt (BlkOf (flat gs)) w w') := by
  have hm := sl_len hS.sp0.sl
  simp only [List.length_map] at hm
  have hsl := hS.sp0.sl
  have hlen := hsl.toLen
  refine enter (args := [v, .int .i64 k]) (l := [.tmp 4]) Try.func21 rfl rfl Try.ntmps21 (by simp) ?_
  refine go ?_
  refine r_for gs.length (fun i ρ w' => Has ρ [(0, v), (1, .int .i64 (k + tot ((flat (gs.take i)).map (·.2)))), (5, .int .i64 i)] ∧ RowsO s w' (pre ++ (mkR k (flat (gs.take i)) ++ flat (gs.drop i)) ++ post) ∧ Wrt (BlkOf (flat gs)) w w') ?_ ?_
  · refine ⟨?_, by simpa [mkR, flat] using hO, .refl _⟩
    have e : ((flat (gs.take 0)).map (·.2)) = [] := rfl
    rw [e]
    simp only [tot]
    exact hasP
  clear hO hsl hlen
  rintro i ρ w2 hi ⟨hH, hO2, hW2⟩
  refine rwp_has hH fun ρ0 => ?_
  have hS2 := hS.wr hW2 hA
  have hsl2 := hS2.sp0.sl
  have hlen2 := hsl2.toLen
  have hll : (gs.map (·.1)).length = gs.length := by simp
  have ht0 : ∀ j, tot ((flat (gs.take j)).map (·.2)) ≤ tot ((flat gs).map (·.2)) := fun j => by
    have e : flat gs = flat (gs.take j) ++ flat (gs.drop j) := by rw [← flat_append, List.take_append_drop]
    rw [e, List.map_append, tot_append]; omega
  have ht := ht0 i
  refine go ?_
  refine c_if (fun h4 => ?_) (fun h4 => ?_)
  · have hin : i < gs.length := by simp at h4; omega
    have e1 : Pc.rowAt v (gs.map (·.1)) i = gs[i].1 := by simp [Pc.rowAt, hin]
    have e2 : flat (gs.drop i) = gs[i].2 ++ flat (gs.drop (i + 1)) := by
      have e : gs.drop i = [gs[i]] ++ gs.drop (i + 1) := (List.getElem_cons_drop (h := hin)).symm
      rw [e, flat_append, flat_one]
    have e3 : flat (gs.take (i + 1)) = flat (gs.take i) ++ gs[i].2 := by rw [List.take_succ_eq_append_getElem hin, flat_append, flat_one]
    have hts : tot ((flat (gs.take (i + 1))).map (·.2)) = tot ((flat (gs.take i)).map (·.2)) + tot ((gs[i]).2.map (·.2)) := by rw [e3, List.map_append, tot_append]
    have ht2 := ht0 (i + 1)
    have hmem := List.getElem_mem hin
    have hO3 : RowsO s w2 ((pre ++ mkR k (flat (gs.take i))) ++ gs[i].2 ++ (flat (gs.drop (i + 1)) ++ post)) := by
      rw [e2] at hO2
      simpa only [List.append_assoc] using hO2
    refine go ?_
    refine ra (v := Pc.rowAt v (gs.map fun x : Value × List (Value × List Int) => x.1) i) (h := rd_load_sl (us := gs.map fun x : Value × List (Value × List Int) => x.1) (by ((try simp only [ev_tmp, ev_const, ev_func, get_put, get_args, get_putL, get_putL_nil, Nat.reduceEqDiff, reduceIte, List.getD_cons_zero, List.getD_cons_succ, List.getD_nil]); first | done | with_reducible rfl)) (by omega)) (next := ?_)
    rw [e1]
    refine go ?_
    refine rc (markInt64SS_ok hO3 (hS2.sp _ hmem) (fun b hb => hA b (flat_blk hmem hb)) ?_ ?_) (next := fun v3 w3 h3 => ?_)
    · omega
    · omega
    obtain ⟨rfl, hO4, hW3⟩ := h3
    refine go ?_
    refine forQ_normal (by omega) ⟨?_, ?_, hW2.trans (hW3.mono fun b hb => flat_blk hmem hb)⟩
    · exact hasP
    · rw [e3, mkR_append]
      simpa only [List.append_assoc] using hO4
  · refine go ?_
    obtain rfl : i = gs.length := by simp at h4; omega
    rw [List.take_length] at hO2 ⊢
    exact ret1 ⟨rfl, by simpa [flat] using hO2, hW2⟩
set_option maxHeartbeats 1000000 in
/-- Marks on a presentation that is the call's own. -/
theorem markPresentation_ok {s t : Nat} {w : World} {v : Value} {p : Pr} {k : Int} (hP : PresO s t w v p) (hk : 0 ≤ k) (hb : k + totP p ≤ 9000000000000000000) :
    Calls Try.prog 20 #[v, .int .i64 k] w (Ret fun v' w' => v' = .int .i64 (k + totP p) ∧ Wrt (fun b => s ≤ b ∧ b < t) w w') := by
  obtain ⟨vo, vp, vc, rp, gs, rfl, hO, hlt, hsp, hcub, hpow, hcnj, _, _, _⟩ := hP.ex
  have hA : ∀ b, BlkOf ((vo, p.ord) :: (rp ++ flat gs)) b → s ≤ b ∧ b < t := fun b hb => ⟨(hO.blk hb).1, hlt b hb⟩
  have e1 : totP p = p.ord.length + (tot (rp.map (·.2)) + tot ((flat gs).map (·.2))) := by rw [flat_tot, ← hpow, ← hcnj]; rfl
  refine enter (args := [.agg #[vo, vp, vc], .int .i64 k]) (l := [.tmp 4]) Try.func20 rfl rfl Try.ntmps20 (by simp) ?_
  refine go ?_
  refine st_box3 (by ((try simp only [ev_tmp, ev_const, ev_func, get_put, get_args, get_putL, get_putL_nil, Nat.reduceEqDiff, reduceIte, List.getD_cons_zero, List.getD_cons_succ, List.getD_nil]); first | done | with_reducible rfl)) (by first | exact True.intro | exact ⟨_, rfl, by ((try simp only [ev_tmp, ev_const, ev_func, get_put, get_args, get_putL, get_putL_nil, Nat.reduceEqDiff, reduceIte, List.getD_cons_zero, List.getD_cons_succ, List.getD_nil, Bool.not_true, Bool.not_false]); first | done | with_reducible rfl)⟩) fun w1 b he1 hb1 hs1 hc0 hc1 hc2 => ?_
  have hO1 := hO.ext he1
  have hB1 : ∀ g, BlkOf ((vo, p.ord) :: (rp ++ flat gs)) g → g ≠ b := fun g hg e => by have := (hO.blk hg).2; omega
  have hcell : ∀ {w2 : World} {j : Nat} {u : Value}, Cell w1 b j u → Wrt (BlkOf ((vo, p.ord) :: (rp ++ flat gs))) w1 w2 → Cell w2 b j u := fun h k => h.same (k.same fun g hg => by have := hB1 g hg; omega) k.size
  have hfr : Fr s w1 vo p.ord := hO1.fr _ List.mem_cons_self
  refine go ?_
  refine rc (markInt64S_ok hfr hk ?_) (next := fun v2 w2 h2 => ?_)
  · omega
  obtain ⟨rfl, hf2, hW2⟩ := h2
  have hW2' : Wrt (BlkOf ((vo, p.ord) :: (rp ++ flat gs))) w1 w2 := hW2.mono fun g ⟨hn, e⟩ => ⟨_, List.mem_cons_self, hn, e⟩
  have hO2 : RowsO s w2 ([] ++ (vo, marks k p.ord.length) :: (rp ++ flat gs)) := RowsO.upd (pre := []) (by simpa using hO1) hW2 hf2 marks_ne.1
  have hc0' := hcell hc0 hW2'
  have hc1' := hcell hc1 hW2'
  have hc2' := hcell hc2 hW2'
  have hO2' : RowsO s w2 (([(vo, marks k p.ord.length)]) ++ rp ++ flat gs) := by simpa using hO2
  have hsp2 := (SpA.grow hsp he1 (fun g hg => .inl hg)).wr hW2' (fun g hg => hg)
  refine go ?_
  refine rc (markInt64SS_ok hO2' hsp2 (fun g hg => ?_) ?_ ?_) (next := fun v3 w3 h3 => ?_)
  · obtain ⟨r, h1, h2⟩ := hg
    exact ⟨r, List.mem_cons_of_mem _ (List.mem_append_left _ h1), h2⟩
  · omega
  · omega
  obtain ⟨rfl, hO3, hW3⟩ := h3
  have hW3' : Wrt (BlkOf ((vo, p.ord) :: (rp ++ flat gs))) w2 w3 := hW3.mono fun g ⟨r, h1, h2⟩ => ⟨r, List.mem_cons_of_mem _ (List.mem_append_left _ h1), h2⟩
  have hc2'' := hcell hc2 (hW2'.trans hW3')
  have hO3' : RowsO s w3 (([(vo, marks k p.ord.length)] ++ mkR (k + p.ord.length) rp) ++ flat gs ++ []) := by simpa using hO3
  have hcub3 : CubO (BlkOf ((vo, p.ord) :: (rp ++ flat gs))) w3 vc gs := CubO.wr ⟨(SpA.grow hcub.sp0 he1 (fun g hg => .inl hg)).wr hW2' (fun g hg => hg), fun q hq => (SpA.grow (hcub.sp q hq) he1 (fun g hg => .inl hg)).wr hW2' (fun g hg => hg)⟩ hW3' (fun g hg => hg)
  clear hc0' hc1' hc2'
  refine go ?_
  refine rc (markInt64SSS_ok hO3' hcub3 (fun g hg => ?_) ?_ ?_) (next := fun v4 w4 h4 => ?_)
  · obtain ⟨r, h1, h2⟩ := hg
    exact ⟨r, List.mem_cons_of_mem _ (List.mem_append_right _ h1), h2⟩
  · omega
  · omega
  obtain ⟨rfl, hO4, hW4⟩ := h4
  refine go ?_
  refine ret1 ⟨?_, ?_⟩
  · rw [e1]
    exact int_congr (by omega)
  · refine (Wrt.ofExt he1).trans ((hW2'.mono hA).trans ((hW3'.mono hA).trans (hW4.mono fun g hg => hA g ?_)))
    obtain ⟨r, h1, h2⟩ := hg
    exact ⟨r, List.mem_cons_of_mem _ (List.mem_append_right _ h1), h2⟩
end Go.Proofs.Ytgomfjhhfmhlgaa

/-
  Walk: a copy of a presentation that is the call's own (toPresentation).
  Conditions: stated at the theorem.
-/
namespace Go.Proofs.Ytgomfjhhfmhlgaa
open Go Go.Pc
theorem rd_neqb {ρ : Env} {w : World} {ty tt : TypeId} {x y : Operand} {a b : Bool} (h : ev ρ x = .bool a) (k : ev ρ y = .bool b) : Rd Try.prog (.binOp .neq 4 x y tt) ty ρ w (.bool (!(a == b))) := by
  constructor; intro _ _ _ _
  simp [execOp, h, k, eqGuard, binOp, run_equal_bool w 4 a b Try.underlying4]
theorem rd_neqb_same {ρ : Env} {w : World} {ty tt : TypeId} {x y : Operand} {a : Bool} (h : ev ρ x = .bool a) (k : ev ρ y = .bool a) : Rd Try.prog (.binOp .neq 4 x y tt) ty ρ w (.bool false) := by
  have := rd_neqb (w := w) (ty := ty) (tt := tt) h k
  simpa using this
set_option maxHeartbeats 2000000 in
theorem toPresentationO_ok {w : World} {v : Value} {p : Pr} {lo hi : Nat} [hp : Pres lo hi w v p] (hs : SizeP p 2000000) :
    Calls Try.prog 14 #[v] w (Ret fun v w' => Ext w w' ∧ PresO w.heap.size w'.heap.size w' v p) := by
  have hs1 := hs.ord
  have hs2 := hs.pow
  have hs3 := hs.cnj
  obtain ⟨vo, vpw, vc, ps, cs, css, rfl, h1, h2, h3⟩ := hp.ex
  refine enter (args := [.agg #[vo, vpw, vc]]) (l := [.cell 2 30]) Try.func14 rfl rfl Try.ntmps14 (by simp) ?_
  refine go ?_
  refine st_box3 (by ((try simp only [ev_tmp, ev_const, ev_func, get_put, get_args, get_putL, get_putL_nil, Nat.reduceEqDiff, reduceIte, List.getD_cons_zero, List.getD_cons_succ, List.getD_nil]); first | done | with_reducible rfl)) (by first | exact True.intro | exact ⟨_, rfl, by ((try simp only [ev_tmp, ev_const, ev_func, get_put, get_args, get_putL, get_putL_nil, Nat.reduceEqDiff, reduceIte, List.getD_cons_zero, List.getD_cons_succ, List.getD_nil, Bool.not_true, Bool.not_false]); first | done | with_reducible rfl)⟩) fun w1 b he1 hb1 hsz1 hc0 hc1 hc2 => ?_
  refine go ?_
  refine st_alloc (by first | exact True.intro | exact ⟨_, rfl, by ((try simp only [ev_tmp, ev_const, ev_func, get_put, get_args, get_putL, get_putL_nil, Nat.reduceEqDiff, reduceIte, List.getD_cons_zero, List.getD_cons_succ, List.getD_nil, Bool.not_true, Bool.not_false]); first | done | with_reducible rfl)⟩) fun w2 br he2 hbr hsz2 hbk2 => ?_
  refine go ?_
  refine st_alloc (by first | exact True.intro | exact ⟨_, rfl, by ((try simp only [ev_tmp, ev_const, ev_func, get_put, get_args, get_putL, get_putL_nil, Nat.reduceEqDiff, reduceIte, List.getD_cons_zero, List.getD_cons_succ, List.getD_nil, Bool.not_true, Bool.not_false]); first | done | with_reducible rfl)⟩) fun w3 bo he3 hbo hsz3 hbk3 => ?_
  have hE3 := (he1.trans he2).trans he3
  refine go ?_
  refine rc (toInt64S_ok (xs := p.ord) (by omega)) (next := fun v4 w4 h4 => ?_)
  obtain ⟨he4, hf4⟩ := h4
  have hb4 : Blk w4 bo _ := Blk.ext (h := hbk3)
  have hz4 := he4.size
  refine go ?_
  refine st_store_fld (h := hb4) (by ((try simp only [ev_tmp, ev_const, ev_func, get_put, get_args, get_putL, get_putL_nil, Nat.reduceEqDiff, reduceIte, List.getD_cons_zero, List.getD_cons_succ, List.getD_nil]); first | done | with_reducible rfl)) (by ((try simp only [ev_tmp, ev_const, ev_func, get_put, get_args, get_putL, get_putL_nil, Nat.reduceEqDiff, reduceIte, List.getD_cons_zero, List.getD_cons_succ, List.getD_nil]); first | done | with_reducible rfl)) ?_ ?_ (by first | exact True.intro | exact ⟨_, rfl, by ((try simp only [ev_tmp, ev_const, ev_func, get_put, get_args, get_putL, get_putL_nil, Nat.reduceEqDiff, reduceIte, List.getD_cons_zero, List.getD_cons_succ, List.getD_nil, Bool.not_true, Bool.not_false]); first | done | with_reducible rfl)⟩) fun w5 hc5 hs5 hb5 => ?_
  · exact hf4.ints.sl.one
  · simp
  have hE15 : Ext w1 w5 := hc5.ext ((he2.trans he3).trans he4) (by have := he2.size; omega)
  have hz15 := hE15.size
  have hz2 := he2.size
  have hi5 : Ints w3.heap.size w4.heap.size w5 v4 p.ord := hf4.ints.same (hc5.same (.inl (by omega)))
  have hr5 : Blk w5 br _ := (Blk.ext (x := he3.trans he4) (h := hbk2)).chg' hc5 (by omega)
  have hO4 : RowsO w3.heap.size w4 [(v4, p.ord)] := (RowsO.nil w3.heap.size w3).push he4 (Nat.le_refl _) hf4
  have hO5 : RowsO w3.heap.size w5 [(v4, p.ord)] := hO4.wr (.one (B := fun g => g = bo) rfl hc5) (fun g hg e => by have := (hO4.blk hg).1; omega)
  refine go ?_
  refine rc (toInt64SSM_ok (xss := p.pow) (by omega) (fun i => by have := hs.powi i; omega)) (next := fun v6 w6 h6 => ?_)
  obtain ⟨he6, rp, hrp, hM6⟩ := h6
  have hN6 := hM6.rows
  have hb6 : Blk w6 bo _ := Blk.ext (h := hb5)
  have hz6 := he6.size
  refine go ?_
  refine st_store_fld (h := hb6) (by ((try simp only [ev_tmp, ev_const, ev_func, get_put, get_args, get_putL, get_putL_nil, Nat.reduceEqDiff, reduceIte, List.getD_cons_zero, List.getD_cons_succ, List.getD_nil]); first | done | with_reducible rfl)) (by ((try simp only [ev_tmp, ev_const, ev_func, get_put, get_args, get_putL, get_putL_nil, Nat.reduceEqDiff, reduceIte, List.getD_cons_zero, List.getD_cons_succ, List.getD_nil]); first | done | with_reducible rfl)) ?_ ?_ (by first | exact True.intro | exact ⟨_, rfl, by ((try simp only [ev_tmp, ev_const, ev_func, get_put, get_args, get_putL, get_putL_nil, Nat.reduceEqDiff, reduceIte, List.getD_cons_zero, List.getD_cons_succ, List.getD_nil, Bool.not_true, Bool.not_false]); first | done | with_reducible rfl)⟩) fun w7 hc7 hs7 hb7 => ?_
  · exact hN6.sl.one
  · simp
  have hE17 : Ext w1 w7 := hc7.ext (hE15.trans he6) (by omega)
  have hi7 : Ints w3.heap.size w4.heap.size w7 v4 p.ord := (hi5.same (he6.same _ _)).same (hc7.same (.inl (by omega)))
  have hM7 := hM6.wr (.one (B := fun g => g = bo) rfl hc7) (fun g hg => .inl (by omega))
  have hp7 := hM7.rows
  have hr7 : Blk w7 br _ := (Blk.ext (x := he6) (h := hr5)).chg' hc7 (by omega)
  have hO6 := hO5.append he6 (by omega) hM6.own
  have hO7 := hO6.wr (.one (B := fun g => g = bo) rfl hc7) (fun g hg e => by have := (hO6.blk hg).1; omega)
  refine go ?_
  refine rc (toInt64SSSO_ok (xsss := p.cnj) (by omega) (fun i => ⟨by have := hs.cnji i; omega, fun j => by have := hs.cnjij i j; omega⟩)) (next := fun v8 w8 h8 => ?_)
  obtain ⟨he8, gs, hgs, hOg, hCu, hR8⟩ := h8
  have hb8 : Blk w8 bo _ := Blk.ext (h := hb7)
  have hz8 := he8.size
  have hO8 := hO7.append he8 (by omega) hOg
  have hAll : ∀ g, BlkOf ([(v4, p.ord)] ++ rp ++ flat gs) g → (w3.heap.size ≤ g ∧ g < w5.heap.size) ∨ BlkOf rp g ∨ w7.heap.size ≤ g := fun g hg => by
    rcases blkOf_append'.1 hg with hg | hg
    · rcases blkOf_append'.1 hg with hg | hg
      · exact .inl (hO5.blk hg)
      · exact .inr (.inl hg)
    · exact .inr (.inr (hOg.blk hg).1)
  have hsp8 : SpA (fun g => BlkOf ([(v4, p.ord)] ++ rp ++ flat gs) g ∨ g < w3.heap.size) w8 v6 (rp.map (·.1)) := hM7.sp.grow he8 fun g hg => by
    rcases hg with hg | hg
    · rcases hAll g hg with h | h | h
      · exact .inl (.inr h.2)
      · exact .inl (.inl h)
      · exact .inr h
    · exact .inl (.inr (by omega))
  have hcu8 : CubO (fun g => BlkOf ([(v4, p.ord)] ++ rp ++ flat gs) g ∨ g < w3.heap.size) w8 v8 gs := by
    have hA : ∀ g, (BlkOf ([(v4, p.ord)] ++ rp ++ flat gs) g ∨ g < w3.heap.size) → BlkOf (flat gs) g ∨ g < w7.heap.size := fun g hg => by
      rcases hg with hg | hg
      · rcases blkOf_append'.1 hg with hg | hg
        · have := (hO7.blk hg).2; exact .inr this
        · exact .inl hg
      · exact .inr (by omega)
    exact ⟨hCu.sp0.weak hA, fun q hq => (hCu.sp q hq).weak hA⟩
  refine go ?_
  refine st_store_fld (h := hb8) (by ((try simp only [ev_tmp, ev_const, ev_func, get_put, get_args, get_putL, get_putL_nil, Nat.reduceEqDiff, reduceIte, List.getD_cons_zero, List.getD_cons_succ, List.getD_nil]); first | done | with_reducible rfl)) (by ((try simp only [ev_tmp, ev_const, ev_func, get_put, get_args, get_putL, get_putL_nil, Nat.reduceEqDiff, reduceIte, List.getD_cons_zero, List.getD_cons_succ, List.getD_nil]); first | done | with_reducible rfl)) ?_ ?_ (by first | exact True.intro | exact ⟨_, rfl, by ((try simp only [ev_tmp, ev_const, ev_func, get_put, get_args, get_putL, get_putL_nil, Nat.reduceEqDiff, reduceIte, List.getD_cons_zero, List.getD_cons_succ, List.getD_nil, Bool.not_true, Bool.not_false]); first | done | with_reducible rfl)⟩) fun w9 hc9 hs9 hb9 => ?_
  · exact hR8.sl.one
  · simp
  have hE19 : Ext w1 w9 := hc9.ext (hE17.trans he8) (by omega)
  have hi9 : Ints w3.heap.size w4.heap.size w9 v4 p.ord := (hi7.same (he8.same _ _)).same (hc9.same (.inl (by omega)))
  have hp9 := (hp7.same (he8.same _ _)).same (hc9.same (.inl (by omega)))
  have hq9 := hR8.same (hc9.same (.inl (by omega)))
  have hr9 : Blk w9 br _ := (Blk.ext (x := he8) (h := hr7)).chg' hc9 (by omega)
  refine go ?_
  have hb9' : Blk w9 bo [v4, v6, v8] := hb9
  refine ra (v := .agg #[v4, v6, v8]) (h := rd_load_blk (hb := hb9') (by ((try simp only [ev_tmp, ev_const, ev_func, get_put, get_args, get_putL, get_putL_nil, Nat.reduceEqDiff, reduceIte, List.getD_cons_zero, List.getD_cons_succ, List.getD_nil]); first | done | with_reducible rfl)) rfl) (next := ?_)
  refine st_store_agg (vs := [v4, v6, v8]) (cs := _) (hb := hr9) (by ((try simp only [ev_tmp, ev_const, ev_func, get_put, get_args, get_putL, get_putL_nil, Nat.reduceEqDiff, reduceIte, List.getD_cons_zero, List.getD_cons_succ, List.getD_nil]); first | done | with_reducible rfl)) (by ((try simp only [ev_tmp, ev_const, ev_func, get_put, get_args, get_putL, get_putL_nil, Nat.reduceEqDiff, reduceIte, List.getD_cons_zero, List.getD_cons_succ, List.getD_nil]); first | done | with_reducible rfl)) rfl ?_ ?_ (by first | exact True.intro | exact ⟨_, rfl, by ((try simp only [ev_tmp, ev_const, ev_func, get_put, get_args, get_putL, get_putL_nil, Nat.reduceEqDiff, reduceIte, List.getD_cons_zero, List.getD_cons_succ, List.getD_nil, Bool.not_true, Bool.not_false]); first | done | with_reducible rfl)⟩) fun w10 hc10 hs10 hb10 => ?_
  · rfl
  · have e1 := hi9.sl.one
    have e2 := hp9.sl.one
    have e3 := hq9.sl.one
    simp [e1, e2, e3]
  have hW10 : Wrt (fun g => g = bo ∨ g = br) w8 w10 := (Wrt.one (.inl rfl) hc9).trans (.one (.inr rfl) hc10)
  have hO10 := hO8.wr hW10 (fun g hg e => by have := (hO8.blk hg).1; omega)
  have hlow : ∀ g, (g = bo ∨ g = br) → BlkOf ([(v4, p.ord)] ++ rp ++ flat gs) g ∨ g < w3.heap.size := fun g hg => .inr (by omega)
  refine go ?_
  refine retc (b := br) (hb := hb10) ⟨hc10.ext (he1.trans hE19) (by omega), ?_⟩ rfl
  have hi10 := (hi9.same (hc10.same (.inl (by omega)))).mono (lo' := w.heap.size) (hi' := w10.heap.size) (by omega) (by omega)
  have hp10 := (hp9.same (hc10.same (.inl (by omega)))).mono (lo' := w.heap.size) (hi' := w10.heap.size) (by omega) (by omega)
  have hq10 := rowss_mono (lo' := w.heap.size) (hi' := w10.heap.size) (hq9.same (hc10.same (.inl (by omega)))) (by omega) (by omega)
  have e : (v4, p.ord) :: (rp ++ flat gs) = [(v4, p.ord)] ++ rp ++ flat gs := by simp
  rw [hgs] at hq10
  refine ⟨v4, v6, v8, rp, gs, rfl, ?_, ?_, ?_, ?_, hrp, hgs, hi10, hp10, hq10⟩ <;> rw [e]
  · exact hO10.mono (by omega)
  · exact fun g hg => (hO10.blk hg).2
  · exact (hsp8.wr hW10 hlow).weak fun g hg => .inl hg
  · exact ⟨(hcu8.sp0.wr hW10 hlow).weak fun g hg => .inl hg, fun q hq => ((hcu8.sp q hq).wr hW10 hlow).weak fun g hg => .inl hg⟩
/-- The number of integers of a presentation of bounded sizes. -/
theorem totP_le {p : Pr} (hs : SizeP p 1048576) : totP p ≤ 1048576 + (1048576 * 1048576 + 1048576 * (1048576 * 1048576)) := by
  have h1 := hs.ord
  have h2 := hs.pow
  have h3 := hs.cnj
  have e2 : tot p.pow ≤ p.pow.length * 1048576 := tot_le _ fun x hx => by
    obtain ⟨i, hi, rfl⟩ := List.getElem_of_mem hx
    have := hs.powi i
    simp only [List.getD_eq_getElem?_getD, List.getElem?_eq_getElem hi, Option.getD_some] at this
    omega
  have e3 : tot p.cnj.flatten ≤ p.cnj.length * (1048576 * 1048576) := tot_flatten _ fun x hx => by
    obtain ⟨i, hi, rfl⟩ := List.getElem_of_mem hx
    have h4 := hs.cnji i
    simp only [List.getD_eq_getElem?_getD, List.getElem?_eq_getElem hi, Option.getD_some] at h4
    refine ⟨by omega, fun y hy => ?_⟩
    obtain ⟨j, hj, rfl⟩ := List.getElem_of_mem hy
    have h5 := hs.cnjij i j
    simp only [List.getD_eq_getElem?_getD, List.getElem?_eq_getElem hi, Option.getD_some, List.getElem?_eq_getElem hj] at h5
    omega
  unfold totP
  omega
theorem SizeP.mono {p : Pr} {k j : Int} (h : SizeP p k) (hkj : k ≤ j) : SizeP p j :=
  ⟨by have := h.ord; omega, by have := h.pow; omega, fun i => by have := h.powi i; omega, by have := h.cnj; omega, fun i => by have := h.cnji i; omega, fun i j => by have := h.cnjij i j; omega⟩
theorem tot_rows_le {xss : List (List Int)} {n : Nat} (hl : xss.length ≤ n) (hr : ∀ i, (xss.getD i []).length ≤ n) : tot xss ≤ n * n :=
  Nat.le_trans (tot_le xss fun x hx => by
    obtain ⟨i, hi, rfl⟩ := List.getElem_of_mem hx
    have := hr i
    simpa [hi] using this) (Nat.mul_le_mul_right _ hl)
end Go.Proofs.Ytgomfjhhfmhlgaa

/-
  Arguments that read as slices of integers, slices of slices, slices of slices of slices: what the calculus knows of them.
  Conditions: none; nothing of the program stands here.
-/
namespace Go.Pc
open Go Go.RowKit Go.Deep Go.ChangeShapes Go.WideShapes
section
variable {H : Type} {enc : TypeId × Value → H} {P : Program} {w : World} {base : Nat} {held : Bool} {fuel : Nat} {v : Value} {x : DataW H × List MemPlace}
theorem ints_of_trod {t e : TypeId} (ht : P.underlying t = some (.slice e)) (he : P.underlying e = some (.int .i64)) (hc : P.cellsOf e = 1) (h : DataW.trod enc P w base (fun _ => true) held fuel t [v] = some x) : ∃ xs, Ints 0 w.heap.size w v xs := by
  rcases open_ints ht he hc h with ⟨hcs, _⟩ | ⟨a, len, cap, zs, hcs, _, hl, hm, hz, _, hcell, _⟩
  · have : v = nilv := by simpa using hcs
    subst this
    exact ⟨[], (Ints.nil_ w).mono (Nat.le_refl 0) (Nat.zero_le _)⟩
  · have : v = .slice (some a) len cap := by simpa using hcs
    subst this
    simp only [if_true] at hz
    have hlen : (zs.take len).length = len := by rw [List.length_take]; omega
    refine ⟨zs.take len, ⟨⟨some a, cap, by rw [List.length_map, hlen], by rw [List.length_map, hlen]; omega, by simp only [maxLen] at hm; omega, fun k u hu => ?_⟩⟩⟩
    rw [List.getElem?_map, List.getElem?_take] at hu
    split at hu
    · have hk : k < zs.length := by omega
      have hck := hcell k hk
      rw [List.getElem?_eq_getElem hk] at hu
      simp only [Option.map_some, Option.some.injEq] at hu
      have e : zs.getD k 0 = zs[k] := by simp [hk]
      rw [e, hu] at hck
      exact ⟨a, rfl, Nat.zero_le _, by have := block_lt hck; rwa [add_block] at this, hck⟩
    · cases hu
theorem sl_of {a : Addr} {len cap m : Nat} {V : Nat → Value} (hl : len ≤ cap) (hm : cap ≤ maxLen) (hlm : len ≤ m) (hx : ∀ i, i < m → w.cell? (a.add i) = some (V i)) : Sl 0 w.heap.size w (.slice (some a) len cap) ((List.range len).map V) := by
  refine ⟨⟨some a, cap, by simp, by simpa using hl, by simp only [maxLen] at hm; omega, fun k u hu => ?_⟩⟩
  rw [List.getElem?_map] at hu
  by_cases hk : k < len
  · rw [List.getElem?_range hk] at hu
    simp only [Option.map_some, Option.some.injEq] at hu
    have hck := hx k (by omega)
    rw [hu] at hck
    exact ⟨a, rfl, Nat.zero_le _, by have := block_lt hck; rwa [add_block] at this, hck⟩
  · rw [List.getElem?_eq_none (by simp; omega)] at hu; cases hu
theorem getD_map_range {α : Type} {n i : Nat} {f : Nat → α} {d : α} (h : i < n) : ((List.range n).map f).getD i d = f i := by simp [h]
theorem getD_map_range' {α : Type} {n i : Nat} {f : Nat → α} {d : α} (h : ¬ i < n) : ((List.range n).map f).getD i d = d := by
  rw [List.getD_eq_getElem?_getD, List.getElem?_eq_none (by simp; omega)]; rfl
theorem Rows.nil_ (w : World) : Rows 0 w.heap.size w nilv [] [] :=
  ⟨⟨⟨none, 0, rfl, Nat.le_refl _, by omega, fun k u hu => by simp at hu⟩⟩, rfl, fun i => by simpa using (Ints.nil_ w).mono (Nat.le_refl 0) (Nat.zero_le _)⟩
theorem rows_of_trod {t e q : TypeId} (ht : P.underlying t = some (.slice e)) (he : P.underlying e = some (.slice q)) (hq : P.underlying q = some (.int .i64)) (ce : P.cellsOf e = 1) (cq : P.cellsOf q = 1)
    (h : DataW.trod enc P w base (fun _ => true) held fuel t [v] = some x) : ∃ us xss, Rows 0 w.heap.size w v us xss := by
  rcases open_slice1 ht ce h with ⟨hcs, _⟩ | ⟨a, len, cap, m, n, V, D, Pl, hcs, _, hl, hm, hmm, _, hx⟩
  · have : v = nilv := by simpa using hcs
    subst this
    exact ⟨[], [], Rows.nil_ w⟩
  · have : v = .slice (some a) len cap := by simpa using hcs
    subst this
    simp only [if_true] at hmm
    have hlm : len ≤ m := by omega
    obtain ⟨X, hX⟩ := choose_lt (α := List Int) (n := len) (p := fun i xs => Ints 0 w.heap.size w (V i) xs) fun i hi => ints_of_trod he hq cq (hx i (by omega)).2
    refine ⟨(List.range len).map V, (List.range len).map X, sl_of hl hm hlm fun i hi => (hx i hi).1, by simp, fun i => ?_⟩
    by_cases hi : i < len
    · rw [getD_map_range hi, getD_map_range hi]; exact hX i hi
    · rw [getD_map_range' hi, getD_map_range' hi]; exact (Ints.nil_ w).mono (Nat.le_refl 0) (Nat.zero_le _)
theorem rowss_of_trod {t e q r : TypeId} (ht : P.underlying t = some (.slice e)) (he : P.underlying e = some (.slice q)) (hq : P.underlying q = some (.slice r)) (hr : P.underlying r = some (.int .i64)) (ce : P.cellsOf e = 1) (cq : P.cellsOf q = 1) (cr : P.cellsOf r = 1)
    (h : DataW.trod enc P w base (fun _ => true) held fuel t [v] = some x) : ∃ us uss xsss, Rowss 0 w.heap.size w v us uss xsss := by
  rcases open_slice1 ht ce h with ⟨hcs, _⟩ | ⟨a, len, cap, m, n, V, D, Pl, hcs, _, hl, hm, hmm, _, hx⟩
  · have : v = nilv := by simpa using hcs
    subst this
    exact ⟨[], [], [], ⟨⟨none, 0, rfl, Nat.le_refl _, by omega, fun k u hu => by simp at hu⟩⟩, rfl, rfl, fun i => by simpa using Rows.nil_ w⟩
  · have : v = .slice (some a) len cap := by simpa using hcs
    subst this
    simp only [if_true] at hmm
    have hlm : len ≤ m := by omega
    obtain ⟨X, hX⟩ := choose_lt (α := List Value × List (List Int)) (n := len) (p := fun i y => Rows 0 w.heap.size w (V i) y.1 y.2) fun i hi => by
      obtain ⟨us, xss, hR⟩ := rows_of_trod he hq hr cq cr (hx i (by omega)).2
      exact ⟨(us, xss), hR⟩
    refine ⟨(List.range len).map V, (List.range len).map fun i => (X i).1, (List.range len).map fun i => (X i).2, sl_of hl hm hlm fun i hi => (hx i hi).1, by simp, by simp, fun i => ?_⟩
    by_cases hi : i < len
    · rw [getD_map_range hi, getD_map_range hi, getD_map_range hi]; exact hX i hi
    · rw [getD_map_range' hi, getD_map_range' hi, getD_map_range' hi]; exact Rows.nil_ w
end
end Go.Pc

/-
  Answers: coset numbers, elements and exponents of subgroups.
  Conditions: none.
-/
namespace Go.Proofs.Ytgomfjhhfmhlgaa
open Go Go.Pc
section
variable {p : Pr}
/-- The places that are no depths of the elements. -/
def freeL (p : Pr) (ys : List (El p)) (k : Nat) : List Nat := (List.range k).filter fun d => ys.all fun y => decide (lead y.v ≠ d)
abbrev ints (l : List Nat) : List Int := l.map fun d : Nat => (d : Int)
theorem freeL_len (p : Pr) (ys : List (El p)) (k : Nat) : (freeL p ys k).length ≤ k := by unfold freeL; exact Nat.le_trans (List.length_filter_le _ _) (by simp)
theorem freeL_lt {ys : List (El p)} {k d : Nat} (h : d ∈ freeL p ys k) : d < k := List.mem_range.1 (List.mem_filter.1 h).1
theorem freeL_yes {ys : List (El p)} {k : Nat} (h : ∀ y, y ∈ ys → lead y.v ≠ k) : freeL p ys (k + 1) = freeL p ys k ++ [k] := by
  unfold freeL
  rw [List.range_succ, List.filter_append]
  congr 1
  rw [List.filter_cons_of_pos, List.filter_nil]
  simpa using h
theorem freeL_no {ys : List (El p)} {k : Nat} {y : El p} (hy : y ∈ ys) (h : lead y.v = k) : freeL p ys (k + 1) = freeL p ys k := by
  unfold freeL
  rw [List.range_succ, List.filter_append, List.filter_cons_of_neg, List.filter_nil, List.append_nil]
  simp only [List.all_eq_true, decide_eq_true_eq]
  exact fun h' => h' y hy h
/-- The number that the free places of an element tell. -/
def numF (p : Pr) (l : List Nat) (r : El p) : Int := l.foldl (fun a d => a * p.o d + co r d) 0
theorem numF_take (l : List Nat) (r : El p) {k : Nat} (hk : k < l.length) : numF p (l.take (k + 1)) r = numF p (l.take k) r * p.o l[k] + co r l[k] := by
  unfold numF
  rw [List.take_succ_eq_append_getElem hk, List.foldl_append]; rfl
theorem numF_bd (hv : Valid p) (l : List Nat) (r : El p) (hl : ∀ d, d ∈ l → d < p.n) : ∀ k, k ≤ l.length → 0 ≤ numF p (l.take k) r ∧ numF p (l.take k) r + 1 ≤ (7 ^ k : Nat)
  | 0, _ => by simp [numF]
  | k + 1, h => by
    have ih := numF_bd hv l r hl k (by omega)
    rw [numF_take l r (by omega)]
    have hd := hl _ (List.getElem_mem (show k < l.length by omega))
    have ho := hv.opos hd
    have hc := r.inr.rng _ hd
    have hc' : 0 ≤ co r l[k] ∧ co r l[k] < p.o l[k] := hc
    generalize numF p (l.take k) r = a at ih ⊢
    generalize co r l[k] = c at hc' ⊢
    generalize p.o l[k] = o at ho hc' ⊢
    have e : ((7 ^ (k + 1) : Nat) : Int) = (7 ^ k : Nat) * 7 := by rw [Nat.pow_succ]; simp
    rw [e]
    have h1 : 0 ≤ a * o := Int.mul_nonneg ih.1 (by omega)
    have h2 : a * o ≤ a * 7 := Int.mul_le_mul_of_nonneg_left ho.2 ih.1
    omega
theorem numF_rng (hv : Valid p) (l : List Nat) (r : El p) (hl : ∀ d, d ∈ l → d < p.n) (h6 : l.length ≤ 6) {k : Nat} (hk : k ≤ l.length) : 0 ≤ numF p (l.take k) r ∧ numF p (l.take k) r ≤ 117648 := by
  have h := numF_bd hv l r hl k hk
  have h2 : (7 ^ k : Nat) ≤ 7 ^ 6 := Nat.pow_le_pow_right (by omega) (by omega)
  have h3 : (7 : Nat) ^ 6 = 117649 := by decide
  omega
def NumV (p : Pr) (xss : List (List Int)) (xs : List Int) (k e : Int) : Prop := (∃ (_ : ConAll p) (ys : List (El p)) (x r : El p), xss = vecs ys ∧ xs = x.v ∧ RepOf ys x r ∧ k = numF p (freeL p ys p.n) r) ∧ e = 0
theorem NumV.uniq {xss : List (List Int)} {xs : List Int} (hS : IsSubP p xss) (a b c d : Int) (h : NumV p xss xs a c) (k : NumV p xss xs b d) : a = b ∧ c = d := by
  obtain ⟨⟨hc, ys, x, y, h1, h2, h3, h4⟩, h5⟩ := h
  obtain ⟨⟨hc', ys', x', y', k1, k2, k3, k4⟩, k5⟩ := k
  obtain ⟨hG, hq⟩ := hS
  haveI : ConAll p := ⟨hG.con⟩
  obtain ⟨zs, hzs, hse⟩ := isSeq_iff.1 hq
  obtain rfl : ys = zs := vecs_inj (h1.symm.trans hzs)
  obtain rfl : ys' = ys := vecs_inj (k1.symm.trans hzs)
  obtain rfl : x = x' := T.ext (h2.symm.trans k2)
  exact ⟨by rw [h4, k4, RepOf.unique hse h3 k3], by rw [h5, k5]⟩
end
section
variable {p : Pr} [hc : ConAll p]
/-- The product of powers of elements. -/
noncomputable def prodTo (ys : List (El p)) (as_ : List Int) : Nat → El p
  | 0 => 1
  | k + 1 => prodTo ys as_ k * Grp.pwz (ys.getD k 1) (as_.getD k 0)
/-- What is left of an element behind its first exponents. -/
noncomputable def stE (ys : List (El p)) (x : El p) : Nat → El p
  | 0 => x
  | k + 1 => Grp.pwz (ys.getD k 1) (-(co (stE ys x k) (lead (ys.getD k 1).v))) * stE ys x k
noncomputable def expsL (ys : List (El p)) (x : El p) (k : Nat) : List Int := (List.range k).map fun i => co (stE ys x i) (lead (ys.getD i 1).v)
theorem expsL_succ (ys : List (El p)) (x : El p) (k : Nat) : expsL ys x (k + 1) = expsL ys x k ++ [co (stE ys x k) (lead (ys.getD k 1).v)] := by
  unfold expsL; rw [List.range_succ, List.map_append]; rfl
theorem expsL_len (ys : List (El p)) (x : El p) (k : Nat) : (expsL ys x k).length = k := by simp [expsL]
theorem getD_one {ys : List (El p)} {k : Nat} (hk : k < ys.length) : ys.getD k 1 = ys[k] := by simp [hk]
theorem stE_gen (ys : List (El p)) (x : El p) : ∀ k, k ≤ ys.length → (Gen (fun a : El p => a ∈ ys) (stE ys x k) ↔ Gen (fun a : El p => a ∈ ys) x)
  | 0, _ => Iff.rfl
  | k + 1, h => by
    have hk : k < ys.length := by omega
    rw [← stE_gen ys x k (by omega)]
    show Gen _ (Grp.pwz (ys.getD k 1) _ * stE ys x k) ↔ _
    rw [getD_one hk]
    exact (Gen.sub _).left ((Gen.sub _).pwz (.of _ (List.getElem_mem hk)) _)
theorem tl_up {ys : List (El p)} (hs : SeqEl ys) {h : El p} (hh : Gen (fun a : El p => a ∈ ys) h) : ∀ m d d', d' - d = m → d ≤ d' → d' ≤ p.n → (∀ y, y ∈ ys → lead y.v < d ∨ d' ≤ lead y.v) → Tl d h → Tl d' h := by
  intro m
  induction m with
  | zero => intro d d' h1 h2 _ _ h5; rwa [show d' = d by omega]
  | succ m ih =>
    intro d d' h1 h2 h3 h4 h5
    refine ih (d + 1) d' (by omega) (by omega) h3 (fun y hy => ?_) (h5.succ ?_)
    · rcases h4 y hy with h | h
      · exact .inl (by omega)
      · exact .inr h
    · by_cases h0 : co h d = 0
      · exact h0
      · obtain ⟨y, hy, e⟩ := hs.dep ⟨h, hh, h5, h0⟩
        rcases h4 y hy with h | h <;> omega
theorem stE_one {ys : List (El p)} (hs : SeqEl ys) (x : El p) : stE ys x ys.length = 1 ↔ Gen (fun a : El p => a ∈ ys) x := by
  constructor
  · intro h
    rw [← stE_gen ys x ys.length (Nat.le_refl _), h]; exact .one
  · intro hx
    have hok := hs.ok
    have hasc : ∀ i j (hi : i < ys.length) (hj : j < ys.length), i < j → lead (ys[i]).v < lead (ys[j]).v := fun i j hi hj hij => List.pairwise_iff_getElem.1 hok.asc i j hi hj hij
    have key : ∀ k, k ≤ ys.length → ∀ d', (∀ i (h : i < ys.length), k ≤ i → d' ≤ lead (ys[i]).v) → d' ≤ p.n → Tl d' (stE ys x k) := by
      intro k
      induction k with
      | zero =>
        intro _ d' h1 h2
        refine tl_up hs hx _ 0 d' rfl (Nat.zero_le _) h2 (fun y hy => ?_) (Tl.zero x)
        obtain ⟨i, hi, rfl⟩ := List.getElem_of_mem hy
        exact .inr (h1 i hi (Nat.zero_le _))
      | succ k ih =>
        intro hk d' h1 h2
        have hkn : k < ys.length := by omega
        obtain ⟨hdn, hy1⟩ := hok.lead1 _ (List.getElem_mem hkn)
        have ht := ih (by omega) (lead (ys[k]).v) (fun i hi hki => by
          by_cases e : i = k
          · subst e; exact Nat.le_refl _
          · exact Nat.le_of_lt (hasc k i hkn hi (by omega))) (by omega)
        have hyt : Tl (lead (ys[k]).v) (ys[k]) := lead_tl _
        have hmem := (stE_gen ys x (k + 1) hk).2 hx
        have hstep : Tl (lead (ys[k]).v + 1) (stE ys x (k + 1)) := by
          show Tl _ (Grp.pwz (ys.getD k 1) (-(co (stE ys x k) (lead (ys.getD k 1).v))) * stE ys x k)
          rw [getD_one hkn]
          refine (Tl.mul (by omega) (hyt.pwz (by omega) _) ht).succ ?_
          rw [co_at _ hdn ht, co_pwz hdn hyt, hy1, Int.mul_one, Int.emod_add_emod, Int.add_left_neg, Int.zero_emod]
        by_cases hd : lead (ys[k]).v + 1 ≤ d'
        · refine tl_up hs hmem _ _ d' rfl hd h2 (fun y hy => ?_) hstep
          obtain ⟨i, hi, rfl⟩ := List.getElem_of_mem hy
          by_cases hik : k + 1 ≤ i
          · exact .inr (h1 i hi hik)
          · left
            by_cases e : i = k
            · subst e; omega
            · have := hasc i k hi hkn (by omega); omega
        · exact hstep.mono (by omega)
    exact (key ys.length (Nat.le_refl _) p.n (fun i hi h => by omega) (Nat.le_refl _)).end_
end
/-- The exponents lie in their ranges. -/
def RangeP (p : Pr) (xss : List (List Int)) (as_ : List Int) : Prop := as_.length = xss.length ∧ ∀ i, i < xss.length → 0 ≤ as_.getD i 0 ∧ as_.getD i 0 ≤ p.o (lead (xss.getD i [])) - 1
def MeV (p : Pr) (xss : List (List Int)) (as_ r : List Int) (e : Int) : Prop := (RangeP p xss as_ ∧ (∃ (_ : ConAll p) (ys : List (El p)), xss = vecs ys ∧ r = (prodTo ys as_ ys.length).v) ∧ e = 0) ∨ (¬ RangeP p xss as_ ∧ r = [] ∧ e = 2)
theorem MeV.uniq {p : Pr} {xss : List (List Int)} {as_ : List Int} (a b : List Int) (c d : Int) (h : MeV p xss as_ a c) (k : MeV p xss as_ b d) : a = b ∧ c = d := by
  rcases h with ⟨h1, ⟨_, ys, h2, h3⟩, h4⟩ | ⟨h1, h2, h3⟩ <;> rcases k with ⟨k1, ⟨_, ys', k2, k3⟩, k4⟩ | ⟨k1, k2, k3⟩
  · obtain rfl := vecs_inj (h2.symm.trans k2)
    exact ⟨by rw [h3, k3], by rw [h4, k4]⟩
  · exact absurd h1 k1
  · exact absurd k1 h1
  · exact ⟨by rw [h2, k2], by rw [h3, k3]⟩
theorem MemberElement_sz0 {p : Pr} {xss : List (List Int)} {as_ r : List Int} {e : Int} (hl : p.ord.length ≤ 2000000) (_ : as_.length ≤ 2000000) (h : Ans (IsSubP p xss) (MeV p xss as_) [] r e) : r.length ≤ 2000000 := by
  rcases h with ⟨_, ⟨_, ⟨_, ys, _, rfl⟩, _⟩ | ⟨_, rfl, _⟩⟩ | ⟨_, rfl, _⟩
  · have := el_len (prodTo ys as_ ys.length); omega
  · simp
  · simp
def MxV (p : Pr) (xss : List (List Int)) (xs r : List Int) (e : Int) : Prop := (MemP p xss xs ∧ (∃ (_ : ConAll p) (ys : List (El p)) (x : El p), xss = vecs ys ∧ xs = x.v ∧ r = expsL ys x ys.length) ∧ e = 0) ∨ (¬ MemP p xss xs ∧ r = [] ∧ e = 4)
theorem MxV.uniq {p : Pr} {xss : List (List Int)} {xs : List Int} (a b : List Int) (c d : Int) (h : MxV p xss xs a c) (k : MxV p xss xs b d) : a = b ∧ c = d := by
  rcases h with ⟨h1, ⟨_, ys, x, h2, hx, h3⟩, h4⟩ | ⟨h1, h2, h3⟩ <;> rcases k with ⟨k1, ⟨_, ys', x', k2, kx, k3⟩, k4⟩ | ⟨k1, k2, k3⟩
  · obtain rfl := vecs_inj (h2.symm.trans k2)
    obtain rfl : x = x' := T.ext (hx.symm.trans kx)
    exact ⟨by rw [h3, k3], by rw [h4, k4]⟩
  · exact absurd h1 k1
  · exact absurd k1 h1
  · exact ⟨by rw [h2, k2], by rw [h3, k3]⟩
theorem MemberExponents_sz0 {p : Pr} {xss : List (List Int)} {xs r : List Int} {e : Int} (hl : p.ord.length ≤ 2000000) (h : Ans (IsSubP p xss ∧ InR p xs) (MxV p xss xs) [] r e) : r.length ≤ 2000000 := by
  rcases h with ⟨⟨⟨hG, hq⟩, _⟩, ⟨_, ⟨_, ys, x, hys, _, rfl⟩, _⟩ | ⟨_, rfl, _⟩⟩ | ⟨_, rfl, _⟩
  · haveI : ConAll p := ⟨hG.con⟩
    have h1 := hq.len
    have h2 := hG.valid.n6
    have h3 : xss.length = ys.length := by rw [hys]; simp
    rw [expsL_len]; omega
  · simp
  · simp
end Go.Proofs.Ytgomfjhhfmhlgaa

/-
  Digits: the element with a number along a list of places; the products of the orders; lists of all such elements.
  Conditions: none.
-/
namespace Go.Proofs.Ytgomfjhhfmhlgaa
open Go Go.Pc
section
variable {p : Pr} {l : List Nat}
def elTo (p : Pr) (l : List Nat) : Nat → Int → List Int
  | 0, _ => zeros p.n
  | k + 1, t => (elTo p l k (t / p.o (l.getD k 0))).set (l.getD k 0) (t % p.o (l.getD k 0))
theorem elTo_len : ∀ (k : Nat) (t : Int), (elTo p l k t).length = p.n
  | 0, _ => zeros_len _
  | k + 1, t => by simp [elTo, elTo_len k]
theorem getD_mem {k : Nat} (hk : k < l.length) : l.getD k 0 ∈ l := by simp [hk]
theorem elTo_in (hv : Valid p) (hl : ∀ d, d ∈ l → d < p.n) : ∀ k, k ≤ l.length → ∀ t : Int, 0 ≤ t → InR p (elTo p l k t)
  | 0, _, _, _ => hv.zeros_in
  | k + 1, h, t, ht => by
    have hd := hl _ (getD_mem (show k < l.length by omega))
    have ho := hv.opos hd
    exact (elTo_in hv hl k (by omega) _ (Int.ediv_nonneg ht (by omega))).set (Int.emod_nonneg _ (by omega)) (fun _ => Int.emod_lt_of_pos _ (by omega))
def elAtT (hv : Valid p) (l : List Nat) (hl : ∀ d, d ∈ l → d < p.n) (t : Int) (ht : 0 ≤ t) : El p := ⟨elTo p l l.length t, elTo_in hv hl _ (Nat.le_refl _) t ht, fun i hi => absurd hi (Nat.not_lt_zero i)⟩
/-- The same, filled from the last place on. -/
def fillTo (p : Pr) (l : List Nat) : Nat → Int → List Int → List Int
  | 0, _, v => v
  | k + 1, t, v => fillTo p l k (t / p.o (l.getD k 0)) (v.set (l.getD k 0) (t % p.o (l.getD k 0)))
theorem fillTo_len : ∀ (k : Nat) (t : Int) (v : List Int), (fillTo p l k t v).length = v.length
  | 0, _, _ => rfl
  | k + 1, t, v => by simp [fillTo, fillTo_len k]
theorem take_mem_succ {k : Nat} (hk : k < l.length) {d : Nat} : d ∈ l.take (k + 1) ↔ d ∈ l.take k ∨ d = l.getD k 0 := by
  rw [List.take_succ_eq_append_getElem hk, List.mem_append, List.mem_singleton]; simp [hk]
theorem not_take (hn : l.Nodup) {k : Nat} (hk : k < l.length) : l.getD k 0 ∉ l.take k := by
  intro h
  have h1 : l.Nodup := hn
  rw [← List.take_append_drop k l] at h1
  have e := List.getElem_cons_drop (h := hk)
  have e2 : l.getD k 0 = l[k] := by simp [hk]
  have h2 := (List.nodup_append.1 h1).2.2 _ h (l.getD k 0) (by rw [← e, e2]; exact List.mem_cons_self)
  exact h2 rfl
theorem fillTo_getD (hn : l.Nodup) (hl : ∀ d, d ∈ l → d < p.n) : ∀ k, k ≤ l.length → ∀ (t : Int) (v : List Int), v.length = p.n → ∀ d, (fillTo p l k t v).getD d 0 = if d ∈ l.take k then (elTo p l k t).getD d 0 else v.getD d 0
  | 0, _, _, _, _, _ => by simp [fillTo]
  | k + 1, h, t, v, hv, d => by
    have hk : k < l.length := by omega
    have hdn := hl _ (getD_mem hk)
    have ih := fillTo_getD hn hl k (by omega) (t / p.o (l.getD k 0)) (v.set (l.getD k 0) (t % p.o (l.getD k 0))) (by simpa using hv) d
    show (fillTo p l k _ _).getD d 0 = _
    rw [ih]
    by_cases h1 : d ∈ l.take k
    · have hne : l.getD k 0 ≠ d := fun e => not_take hn hk (by rw [e]; exact h1)
      rw [if_pos h1, if_pos ((take_mem_succ hk).2 (.inl h1))]
      show _ = ((elTo p l k _).set _ _).getD d 0
      rw [Pc.getD_set_ne _ _ _ _ hne]
    · rw [if_neg h1]
      by_cases h2 : d = l.getD k 0
      · rw [if_pos ((take_mem_succ hk).2 (.inr h2))]
        subst h2
        show _ = ((elTo p l k _).set _ _).getD _ 0
        rw [Pc.getD_set_eq _ _ _ (by rw [hv]; exact hdn), Pc.getD_set_eq _ _ _ (by rw [elTo_len]; exact hdn)]
      · rw [if_neg (fun h3 => ((take_mem_succ hk).1 h3).elim h1 h2), Pc.getD_set_ne _ _ _ _ (Ne.symm h2)]
theorem elTo_out : ∀ (k : Nat), k ≤ l.length → ∀ (t : Int) (d : Nat), d ∉ l.take k → (elTo p l k t).getD d 0 = 0
  | 0, _, _, d, _ => zeros_getD _ _
  | k + 1, h, t, d, hd => by
    have hk : k < l.length := by omega
    have h1 : d ∉ l.take k := fun h => hd ((take_mem_succ hk).2 (.inl h))
    have h2 : l.getD k 0 ≠ d := fun e => hd ((take_mem_succ hk).2 (.inr e.symm))
    show ((elTo p l k _).set _ _).getD d 0 = 0
    rw [Pc.getD_set_ne _ _ _ _ h2]
    exact elTo_out k (by omega) _ d h1
theorem fill_eq (hn : l.Nodup) (hl : ∀ d, d ∈ l → d < p.n) (t : Int) : fillTo p l l.length t (zeros p.n) = elTo p l l.length t := by
  refine list_ext0 (by rw [fillTo_len, elTo_len, zeros_len]) fun d _ => ?_
  rw [fillTo_getD hn hl _ (Nat.le_refl _) _ _ (zeros_len _)]
  split
  · rfl
  · rename_i h
    rw [zeros_getD, elTo_out _ (Nat.le_refl _) _ _ h]
/-- The product of the orders at places. -/
def ordL (p : Pr) (l : List Nat) : Int := l.foldl (fun a d => a * p.o d) 1
theorem ordL_app (l : List Nat) (d : Nat) : ordL p (l ++ [d]) = ordL p l * p.o d := by unfold ordL; rw [List.foldl_append]; rfl
theorem ordL_take (l : List Nat) {k : Nat} (hk : k < l.length) : ordL p (l.take (k + 1)) = ordL p (l.take k) * p.o (l.getD k 0) := by
  rw [List.take_succ_eq_append_getElem hk, ordL_app]; simp [hk]
theorem ordL_bd (hv : Valid p) (hl : ∀ d, d ∈ l → d < p.n) : ∀ k, k ≤ l.length → 1 ≤ ordL p (l.take k) ∧ ordL p (l.take k) ≤ (7 ^ k : Nat)
  | 0, _ => by simp [ordL]
  | k + 1, h => by
    have ih := ordL_bd hv hl k (by omega)
    have hk : k < l.length := by omega
    rw [ordL_take l hk]
    have ho := hv.opos (hl _ (getD_mem hk))
    generalize ordL p (l.take k) = a at ih ⊢
    generalize p.o (l.getD k 0) = o at ho ⊢
    have e : ((7 ^ (k + 1) : Nat) : Int) = (7 ^ k : Nat) * 7 := by rw [Nat.pow_succ]; simp
    rw [e]
    have h1 : a * 1 ≤ a * o := Int.mul_le_mul_of_nonneg_left (by omega) (by omega)
    have h2 : a * o ≤ a * 7 := Int.mul_le_mul_of_nonneg_left ho.2 (by omega)
    omega
theorem ordL_rng (hv : Valid p) (hl : ∀ d, d ∈ l → d < p.n) (h6 : l.length ≤ 6) {k : Nat} (hk : k ≤ l.length) : 1 ≤ ordL p (l.take k) ∧ ordL p (l.take k) ≤ 117649 := by
  have h := ordL_bd hv hl k hk
  have h2 : (7 ^ k : Nat) ≤ 7 ^ 6 := Nat.pow_le_pow_right (by omega) (by omega)
  have h3 : (7 : Nat) ^ 6 = 117649 := by decide
  omega
/-- All elements with digits at the first places. -/
def trTo (p : Pr) (l : List Nat) : Nat → List (List Int)
  | 0 => [zeros p.n]
  | k + 1 => (trTo p l k).flatMap fun x => (List.range (p.o (l.getD k 0)).toNat).map fun e : Nat => x.set (l.getD k 0) (e : Int)
theorem range_mul {α : Type} (g : Nat → α) (o : Nat) : ∀ a : Nat, (List.range a).flatMap (fun s => (List.range o).map fun e => g (s * o + e)) = (List.range (a * o)).map g
  | 0 => by simp
  | a + 1 => by
    rw [List.range_succ, List.flatMap_append, range_mul g o a, Nat.add_mul, Nat.one_mul, List.range_add, List.map_append]
    simp [List.map_map, Function.comp_def]
theorem trTo_eq (hv : Valid p) (hl : ∀ d, d ∈ l → d < p.n) : ∀ k, k ≤ l.length → trTo p l k = (List.range (ordL p (l.take k)).toNat).map fun s : Nat => elTo p l k (s : Int)
  | 0, _ => by simp [trTo, ordL, elTo, List.range_succ]
  | k + 1, h => by
    have hk : k < l.length := by omega
    have ih := trTo_eq hv hl k (by omega)
    have ho := hv.opos (hl _ (getD_mem hk))
    have hb := (ordL_bd hv hl k (by omega)).1
    show (trTo p l k).flatMap _ = _
    rw [ih, List.flatMap_map, ordL_take l hk]
    obtain ⟨a, ha⟩ : ∃ a : Nat, ordL p (l.take k) = a := ⟨(ordL p (l.take k)).toNat, by omega⟩
    obtain ⟨o, hoo⟩ : ∃ o : Nat, p.o (l.getD k 0) = o := ⟨(p.o (l.getD k 0)).toNat, by omega⟩
    have e1 : (ordL p (l.take k) * p.o (l.getD k 0)).toNat = a * o := by rw [ha, hoo, ← Int.natCast_mul]; rfl
    rw [e1, ← range_mul, ha, Int.toNat_natCast]
    congr 1
    funext s
    rw [hoo, Int.toNat_natCast]
    refine List.map_congr_left fun e he => ?_
    have he' := List.mem_range.1 he
    show _ = (elTo p l k (((s * o + e : Nat) : Int) / p.o (l.getD k 0))).set (l.getD k 0) (((s * o + e : Nat) : Int) % p.o (l.getD k 0))
    rw [hoo]
    have d1 : ((s * o + e : Nat) : Int) / (o : Int) = (s : Int) := by
      rw [← Int.natCast_ediv]
      congr 1
      rw [Nat.mul_comm, Nat.mul_add_div (by omega), Nat.div_eq_of_lt he', Nat.add_zero]
    have d2 : ((s * o + e : Nat) : Int) % (o : Int) = (e : Int) := by
      rw [← Int.natCast_emod]
      congr 1
      rw [Nat.mul_comm, Nat.mul_add_mod, Nat.mod_eq_of_lt he']
    rw [d1, d2]
end
section
variable {p : Pr}
theorem freeL_nodup (ys : List (El p)) (k : Nat) : (freeL p ys k).Nodup := List.Nodup.sublist List.filter_sublist List.nodup_range
/-- The order of the group is the index times the order of the subgroup. -/
theorem ord_split [hc : ConAll p] {ys : List (El p)} (hs : SeqOk ys) : ordL p (List.range p.n) = ordL p (freeL p ys p.n) * ordOf p ys := by
  have hasc : ∀ i j (hi : i < ys.length) (hj : j < ys.length), i < j → lead (ys[i]).v < lead (ys[j]).v := fun i j hi hj hij => List.pairwise_iff_getElem.1 hs.asc i j hi hj hij
  have key : ∀ k, k ≤ p.n → ∃ j, j ≤ ys.length ∧ (∀ i (h : i < ys.length), i < j → lead (ys[i]).v < k) ∧ (∀ i (h : i < ys.length), j ≤ i → k ≤ lead (ys[i]).v) ∧ ordL p (List.range k) = ordL p (freeL p ys k) * ordOf p (ys.take j) := by
    intro k
    induction k with
    | zero => exact fun _ => ⟨0, Nat.zero_le _, fun i h hi => absurd hi (Nat.not_lt_zero _), fun i h _ => Nat.zero_le _, by simp [ordL, freeL, ordOf]⟩
    | succ k ih =>
      intro hk
      obtain ⟨j, h1, h2, h3, h4⟩ := ih (by omega)
      have e0 : ordL p (List.range (k + 1)) = ordL p (List.range k) * p.o k := by rw [List.range_succ, ordL_app]
      by_cases hj : ∃ h : j < ys.length, lead (ys[j]).v = k
      · obtain ⟨hjl, hjk⟩ := hj
        refine ⟨j + 1, hjl, fun i h hi => ?_, fun i h hi => ?_, ?_⟩
        · by_cases e : i = j
          · subst e; omega
          · have := h2 i h (by omega); omega
        · have := hasc j i hjl h (by omega); omega
        · rw [e0, h4, freeL_no (List.getElem_mem hjl) hjk, ordOf_take ys hjl, hjk, Int.mul_assoc]
      · have hno : ∀ y, y ∈ ys → lead y.v ≠ k := fun y hy e => by
          obtain ⟨i, hi, rfl⟩ := List.getElem_of_mem hy
          by_cases h5 : i < j
          · have := h2 i hi h5; omega
          · by_cases h6 : i = j
            · subst h6; exact hj ⟨hi, e⟩
            · have h7 := h3 j (by omega) (Nat.le_refl _)
              have := hasc j i (by omega) hi (by omega)
              omega
        refine ⟨j, h1, fun i h hi => by have := h2 i h hi; omega, fun i h hi => ?_, ?_⟩
        · have h5 := h3 i h hi
          have h6 := hno _ (List.getElem_mem h)
          omega
        · rw [e0, h4, freeL_yes hno, ordL_app, Int.mul_assoc, Int.mul_assoc, Int.mul_comm (ordOf p (ys.take j))]
  obtain ⟨j, h1, h2, h3, h4⟩ := key p.n (Nat.le_refl _)
  have hj : j = ys.length := by
    by_cases h : j < ys.length
    · have h5 := h3 j h (Nat.le_refl _)
      have h6 := (hs.lead1 _ (List.getElem_mem h)).1
      omega
    · omega
  rw [h4, hj, List.take_length]
/-- The index of a subgroup in the group. -/
def idxOf (p : Pr) (ys : List (El p)) : Int := ordL p (freeL p ys p.n)
theorem idx_eq [hc : ConAll p] {ys : List (El p)} (hs : SeqOk ys) (h1 : 1 ≤ ordOf p ys) : ordL p (List.range p.n) / ordOf p ys = idxOf p ys := by
  rw [ord_split hs, Int.mul_ediv_cancel _ (by omega)]; rfl
/-- The representatives of the cosets, in ascending order. -/
def transL (p : Pr) (ys : List (El p)) : List (List Int) := trTo p (freeL p ys p.n) (freeL p ys p.n).length
theorem transL_eq (hv : Valid p) (ys : List (El p)) : transL p ys = (List.range (idxOf p ys).toNat).map fun s : Nat => elTo p (freeL p ys p.n) (freeL p ys p.n).length (s : Int) := by
  unfold transL idxOf
  rw [trTo_eq hv (fun d hd => freeL_lt hd) _ (Nat.le_refl _), List.take_length]
end
def TrV (p : Pr) (xss r : List (List Int)) (e : Int) : Prop := ∃ (_ : ConAll p) (ys : List (El p)), xss = vecs ys ∧ ((128 < idxOf p ys ∧ r = [] ∧ e = 3) ∨ (idxOf p ys ≤ 128 ∧ r = transL p ys ∧ e = 0))
theorem TrV.uniq {p : Pr} {xss : List (List Int)} (a b : List (List Int)) (c d : Int) (h : TrV p xss a c) (k : TrV p xss b d) : a = b ∧ c = d := by
  obtain ⟨_, ys, h1, h2⟩ := h
  obtain ⟨_, ys', k1, k2⟩ := k
  obtain rfl := vecs_inj (h1.symm.trans k1)
  rcases h2 with ⟨h3, h4, h5⟩ | ⟨h3, h4, h5⟩ <;> rcases k2 with ⟨k3, k4, k5⟩ | ⟨k3, k4, k5⟩
  · exact ⟨by rw [h4, k4], by rw [h5, k5]⟩
  · omega
  · omega
  · exact ⟨by rw [h4, k4], by rw [h5, k5]⟩
theorem Transversal_sz0 {p : Pr} {xss r : List (List Int)} {e : Int} (_ : p.ord.length ≤ 2000000) (h : Ans (IsSubP p xss) (TrV p xss) [] r e) : r.length ≤ 2000000 ∧ ∀ i, (r.getD i []).length ≤ 2000000 := by
  rcases h with ⟨⟨hG, _⟩, _, ys, _, ⟨_, rfl, _⟩ | ⟨h3, rfl, _⟩⟩ | ⟨_, rfl, _⟩
  · simp
  · have hv := hG.valid
    have hn6 := hv.n6
    rw [transL_eq hv]
    refine ⟨by simp; omega, fun i => ?_⟩
    by_cases hi : i < (idxOf p ys).toNat
    · simp [hi, elTo_len]; omega
    · simp [hi]
  · simp
end Go.Proofs.Ytgomfjhhfmhlgaa

/-
  All elements of a group, by their numbers; elements whose commutators with the generators lie in a subgroup.
  Conditions: the tails at all levels are groups.
-/
namespace Go.Proofs.Ytgomfjhhfmhlgaa
open Go Go.Pc
section
variable {p : Pr}
theorem numF_lt (hv : Valid p) (l : List Nat) (hl : ∀ d, d ∈ l → d < p.n) (x : El p) : ∀ k, k ≤ l.length → 0 ≤ numF p (l.take k) x ∧ numF p (l.take k) x + 1 ≤ ordL p (l.take k)
  | 0, _ => by simp [numF, ordL]
  | k + 1, h => by
    have ih := numF_lt hv l hl x k (by omega)
    have hk : k < l.length := by omega
    have hd := hl _ (List.getElem_mem hk)
    have ho := hv.opos hd
    have hc : 0 ≤ co x l[k] ∧ co x l[k] < p.o l[k] := x.inr.rng _ hd
    rw [numF_take l x hk, ordL_take l hk, show l.getD k 0 = l[k] by simp [hk]]
    generalize numF p (l.take k) x = a at ih ⊢
    generalize ordL p (l.take k) = b at ih ⊢
    generalize co x l[k] = c at hc ⊢
    generalize p.o l[k] = o at ho hc ⊢
    have h1 : 0 ≤ a * o := Int.mul_nonneg ih.1 (by omega)
    have h2 : (a + 1) * o ≤ b * o := Int.mul_le_mul_of_nonneg_right ih.2 (by omega)
    rw [Int.add_mul, Int.one_mul] at h2
    omega
theorem elTo_num (hv : Valid p) (l : List Nat) (hn : l.Nodup) (hl : ∀ d, d ∈ l → d < p.n) (x : El p) : ∀ k, k ≤ l.length → ∀ d, d ∈ l.take k → (elTo p l k (numF p (l.take k) x)).getD d 0 = co x d
  | 0, _, d, hd => by simp at hd
  | k + 1, h, d, hd => by
    have hk : k < l.length := by omega
    have hdk := hl _ (List.getElem_mem hk)
    have ho := hv.opos hdk
    have hc : 0 ≤ co x l[k] ∧ co x l[k] < p.o l[k] := x.inr.rng _ hdk
    have hg : l.getD k 0 = l[k] := by simp [hk]
    show ((elTo p l k (numF p (l.take (k + 1)) x / p.o (l.getD k 0))).set (l.getD k 0) (numF p (l.take (k + 1)) x % p.o (l.getD k 0))).getD d 0 = co x d
    rw [numF_take l x hk, hg]
    have e1 : (numF p (l.take k) x * p.o l[k] + co x l[k]) / p.o l[k] = numF p (l.take k) x := by
      rw [Int.add_comm, Int.add_mul_ediv_right _ _ (by omega), Int.ediv_eq_zero_of_lt hc.1 hc.2, Int.zero_add]
    have e2 : (numF p (l.take k) x * p.o l[k] + co x l[k]) % p.o l[k] = co x l[k] := by
      rw [Int.add_comm, Int.add_mul_emod_self_right, Int.emod_eq_of_lt hc.1 hc.2]
    rw [e1, e2]
    by_cases h1 : l[k] = d
    · subst h1
      rw [Pc.getD_set_eq _ _ _ (by rw [elTo_len]; exact hdk)]
    · rw [Pc.getD_set_ne _ _ _ _ h1]
      have h2 : d ∈ l.take k := ((take_mem_succ hk).1 hd).resolve_right fun e => h1 (by rw [e, hg])
      exact elTo_num hv l hn hl x k (by omega) d h2
end
section
variable {p : Pr} [hc : ConAll p]
/-- The element with a number. -/
def allE (p : Pr) [hc : ConAll p] (i : Nat) : El p := elAtT hc.valid (List.range p.n) (fun _ hd => List.mem_range.1 hd) i (by omega)
theorem allE_val (i : Nat) : (allE p i).v = elTo p (List.range p.n) (List.range p.n).length (i : Int) := rfl
def ordN (p : Pr) : Nat := (ordL p (List.range p.n)).toNat
theorem allE_surj (x : El p) : ∃ i, i < ordN p ∧ x = allE p i := by
  have hv := hc.valid
  have hl : ∀ d, d ∈ List.range p.n → d < p.n := fun d hd => List.mem_range.1 hd
  have hb := numF_lt hv (List.range p.n) hl x (List.range p.n).length (Nat.le_refl _)
  have hn := elTo_num hv (List.range p.n) List.nodup_range hl x (List.range p.n).length (Nat.le_refl _)
  rw [List.take_length] at hb hn
  refine ⟨(numF p (List.range p.n) x).toNat, by unfold ordN; omega, T.ext ?_⟩
  rw [allE_val, Int.toNat_of_nonneg hb.1]
  have hxl := x.inr.len
  refine list_ext0 (by rw [elTo_len]; exact hxl) fun d hd => ?_
  rw [hn d (List.mem_range.2 (by omega))]; rfl
open Classical in
/-- The elements of a kind among the first ones. -/
noncomputable def selL (P : El p → Prop) (k : Nat) : List (El p) := ((List.range k).map (allE p)).filter fun x => decide (P x)
theorem selL_yes {P : El p → Prop} {k : Nat} (h : P (allE p k)) : selL P (k + 1) = selL P k ++ [allE p k] := by simp [selL, List.range_succ, h]
theorem selL_no {P : El p → Prop} {k : Nat} (h : ¬ P (allE p k)) : selL P (k + 1) = selL P k := by simp [selL, List.range_succ, h]
theorem selL_len (P : El p → Prop) (k : Nat) : (selL P k).length ≤ k := Nat.le_trans (List.length_filter_le _ _) (by simp)
open Classical in
theorem selL_all (P : El p → Prop) : (fun a => a ∈ selL P (ordN p)) = P := by
  funext a
  refine propext ⟨fun h => of_decide_eq_true (List.mem_filter.1 h).2, fun h => List.mem_filter.2 ⟨?_, decide_eq_true h⟩⟩
  obtain ⟨i, hi, rfl⟩ := allE_surj a
  exact List.mem_map.2 ⟨i, List.mem_range.2 hi, rfl⟩
theorem ordN_rng (p : Pr) [hc : ConAll p] : ordL p (List.range p.n) = (ordN p : Int) ∧ 1 ≤ ordN p ∧ ordN p ≤ 117649 := by
  have hv := hc.valid
  have hn6 := hv.n6
  have h := ordL_rng hv (l := List.range p.n) (fun d hd => List.mem_range.1 hd) (by simp; omega) (k := p.n) (by simp)
  rw [List.take_of_length_le (by simp)] at h
  unfold ordN
  omega
/-- The commutators with all generators lie in the subgroup. -/
def AbP (ys : List (El p)) (x : El p) : Prop := ∀ i (h : i < (gensL p).length), Gen (fun a : El p => a ∈ ys) (Grp.cm x (gensL p)[i])
theorem gen_nil (a : El p) (h : Gen (fun a : El p => a ∈ ([] : List (El p))) a) : a = 1 := by
  have hs : Sub (fun a : El p => a = 1) := ⟨rfl, fun a b ha hb => by rw [ha, hb, Grp.one_mul], fun a ha => by rw [ha, Grp.inv_one]⟩
  exact Gen.le hs (fun a ha => (List.not_mem_nil ha).elim) a h
theorem seqEl_nil : SeqEl ([] : List (El p)) := by
  refine ⟨?_⟩
  rw [canon_vecs]
  have e : canEls (Gen (fun a : El p => a ∈ ([] : List (El p)))) = [] := by
    refine List.eq_nil_of_length_eq_zero ?_
    rw [canEls_len, List.countP_eq_zero]
    intro d _ h
    obtain ⟨x, h1, _, h3⟩ := (canT_isSome (Gen.sub _)).1 h
    rw [gen_nil x h1, co_one] at h3
    exact h3 rfl
  rw [e]
end
def CtV (p : Pr) (r : List (List Int)) (e : Int) : Prop := (∃ (_ : ConAll p), r = canon (Gen (fun a : El p => AbP [] a))) ∧ e = 0
theorem CtV.uniq {p : Pr} (a b : List (List Int)) (c d : Int) (h : CtV p a c) (k : CtV p b d) : a = b ∧ c = d := by
  obtain ⟨⟨_, h1⟩, h2⟩ := h
  obtain ⟨⟨_, k1⟩, k2⟩ := k
  exact ⟨by rw [h1, k1], by rw [h2, k2]⟩
theorem Center_sz0 {p : Pr} {r : List (List Int)} {e : Int} (_ : p.ord.length ≤ 2000000) (h : Ans (IsGrp p) (CtV p) [] r e) : r.length ≤ 2000000 ∧ ∀ i, (r.getD i []).length ≤ 2000000 := by
  rcases h with ⟨hG, ⟨hc, rfl⟩, _⟩ | ⟨_, rfl, _⟩
  · exact canon_sz _ hG.valid.n6
  · simp
end Go.Proofs.Ytgomfjhhfmhlgaa

/-
  The upper central series and the lower exponent series.
  Conditions: the tails at all levels are groups.
-/
namespace Go.Proofs.Ytgomfjhhfmhlgaa
open Go Go.Pc
section
variable {p : Pr} [hc : ConAll p]
noncomputable def abF (ys : List (El p)) : List (El p) := canEls (Gen (fun a : El p => AbP ys a))
noncomputable def expL (q : Int) (ys : List (El p)) : List (El p) := lowF ys ++ ys.map fun y => Grp.pwz y q
noncomputable def expF (q : Int) (ys : List (El p)) : List (El p) := canEls (Gen (fun a : El p => a ∈ expL q ys))
theorem abF_vecs (ys : List (El p)) : canon (Gen (fun a : El p => AbP ys a)) = vecs (abF ys) := canon_vecs _
theorem expF_vecs (q : Int) (ys : List (El p)) : canon (Gen (fun a : El p => a ∈ expL q ys)) = vecs (expF q ys) := canon_vecs _
theorem cj_cm (a g : El p) : Grp.cj a g = a * Grp.cm a g := by
  show _ = a * (a⁻¹ * Grp.cj a g)
  rw [← Grp.mul_assoc, Grp.mul_inv, Grp.one_mul]
theorem serOk_up : SerOk (abF (p := p)) [] := by
  have key : ∀ ys : List (El p), (∀ a, Gen (fun a : El p => a ∈ ys) a → ∀ g, g ∈ gensL p → Gen (fun a : El p => a ∈ ys) (Grp.cj a g)) → ∀ a, Gen (fun a : El p => a ∈ ys) a → Gen (fun a : El p => AbP ys a) a := fun ys h a ha =>
    .of a fun i hi => (Gen.sub _).mul _ _ ((Gen.sub _).inv _ ha) (h a ha _ (List.getElem_mem hi))
  refine SerOk.up (fun ys => SeqEl ys ∧ ∀ a, Gen (fun a : El p => a ∈ ys) a → ∀ g, g ∈ gensL p → Gen (fun a : El p => a ∈ ys) (Grp.cj a g)) ⟨seqEl_nil, fun a ha g hg => ?_⟩ (fun _ h => h.1) (fun ys hys => ⟨seqEl_can (Gen.sub _), fun a ha g hg => ?_⟩) fun ys hys a ha => ?_
  · rw [gen_nil a ha, Grp.cj_one]; exact (Gen.sub _).one
  · unfold abF at ha ⊢
    rw [gen_can_eq (Gen.sub _)] at ha ⊢
    refine Gen.cj_closed (Gen.sub _) (fun b hb => ?_) a ha
    obtain ⟨i, hi, rfl⟩ := List.getElem_of_mem hg
    rw [cj_cm]
    exact (Gen.sub _).mul _ _ (.of b hb) (key ys hys.2 _ (hb i hi))
  · unfold abF
    rw [gen_can_eq (Gen.sub _)]
    exact key ys hys.2 a ha
theorem pw_cj {H : El p → Prop} (hH : Pc.Sub H) {y g : El p} (hcj : ∀ c, H c → H (Grp.cj c y)) (hd : H (Grp.cm y g)) : ∀ n, ∃ c, H c ∧ Grp.pw (Grp.cj y g) n = Grp.pw y n * c
  | 0 => ⟨1, hH.one, by rw [Grp.pw_zero, Grp.pw_zero, Grp.one_mul]⟩
  | n + 1 => by
    obtain ⟨c, hc, e⟩ := pw_cj hH hcj hd n
    refine ⟨Grp.cj c y * Grp.cm y g, hH.mul _ _ (hcj c hc) hd, ?_⟩
    have e2 : c * y = y * Grp.cj c y := by
      show _ = y * (y⁻¹ * (c * y))
      rw [← Grp.mul_assoc, Grp.mul_inv, Grp.one_mul]
    rw [Grp.pw_succ, Grp.pw_succ, e, cj_cm y g, Grp.mul_assoc, ← Grp.mul_assoc c, e2]
    simp only [Grp.mul_assoc]
theorem serOk_exp {q : Int} (hq : 0 ≤ q) : SerOk (expF (p := p) q) (gensL p) := by
  have low : ∀ ys : List (El p), Gen (fun a : El p => a ∈ lowF ys) = CommC ys (gensL p) := fun ys => gen_can_eq (commC_sub ys (gensL p))
  have up : ∀ (ys : List (El p)) a, CommC ys (gensL p) a → Gen (fun a : El p => a ∈ expL q ys) a := fun ys a ha => by
    rw [← low ys] at ha
    exact Gen.le (Gen.sub _) (fun b hb => .of b (List.mem_append_left _ hb)) a ha
  refine SerOk.down (fun ys => SeqEl ys ∧ ∀ a, Gen (fun a : El p => a ∈ ys) a → ∀ g, g ∈ gensL p → Gen (fun a : El p => a ∈ ys) (Grp.cj a g)) ⟨seqEl_gens, fun a ha g hg => sub_cj (Gen.sub _) ha (.of g hg)⟩ (fun _ h => h.1) (fun ys hys => ⟨seqEl_can (Gen.sub _), fun a ha g hg => ?_⟩) fun ys hys a ha => ?_
  · unfold expF at ha ⊢
    rw [gen_can_eq (Gen.sub _)] at ha ⊢
    refine Gen.cj_closed (Gen.sub _) (fun b hb => ?_) a ha
    rcases List.mem_append.1 hb with hb | hb
    · have h1 : CommC ys (gensL p) b := by rw [← low ys]; exact .of b hb
      exact up ys _ (.cj b g h1 (List.mem_append_right _ hg))
    · obtain ⟨y, hy, rfl⟩ := List.mem_map.1 hb
      have h2 := hb
      rw [Grp.pwz_of y hq, Grp.cj_pw]
      obtain ⟨c, hc, e⟩ := pw_cj (commC_sub ys (gensL p)) (y := y) (g := g) (fun c hc => .cj c y hc (List.mem_append_left _ hy)) (.of _ (by
        unfold commsL2
        exact List.mem_flatMap.2 ⟨y, hy, List.mem_map.2 ⟨g, hg, rfl⟩⟩)) q.toNat
      rw [e, ← Grp.pwz_of y hq]
      exact (Gen.sub _).mul _ _ (.of _ (List.mem_append_right _ h2)) (up ys c hc)
  · have hS := Gen.sub (fun a : El p => a ∈ ys)
    unfold expF at ha
    rw [gen_can_eq (Gen.sub _)] at ha
    refine Gen.le hS (fun b hb => ?_) a ha
    rcases List.mem_append.1 hb with hb | hb
    · have h1 : CommC ys (gensL p) b := by rw [← low ys]; exact .of b hb
      refine Clo.le hS (fun a ha => ?_) (fun a b h1 h2 => ?_) b h1
      · obtain ⟨y, z, hy, hz, rfl⟩ := commsL2_mem ha
        exact hS.mul _ _ (hS.inv _ (.of y hy)) (hys.2 y (.of y hy) z hz)
      · rcases List.mem_append.1 h2 with h | h
        · exact sub_cj hS h1 (.of b h)
        · exact hys.2 a h1 b h
    · obtain ⟨y, hy, rfl⟩ := List.mem_map.1 hb
      exact hS.pwz (.of y hy) q
end
noncomputable def UpC (p : Pr) (c : ConAll p) : (List (El p) → List (El p)) × List (El p) := (abF, [])
noncomputable def ExpC (p : Pr) (q : Int) (c : ConAll p) : (List (El p) → List (El p)) × List (El p) := (expF q, gensL p)
/-- What a series for a prime is, with its code. -/
def ExV (p : Pr) (q : Int) (r : List (List (List Int))) (e : Int) : Prop := (¬ (q = 2 ∨ q = 3 ∨ q = 5 ∨ q = 7) ∧ r = [] ∧ e = 2) ∨ ((q = 2 ∨ q = 3 ∨ q = 5 ∨ q = 7) ∧ SrV p (ExpC p q) r e)
theorem ExV.uniq {p : Pr} {q : Int} (a b : List (List (List Int))) (c d : Int) (h : ExV p q a c) (g : ExV p q b d) : a = b ∧ c = d := by
  rcases h with ⟨h1, rfl, rfl⟩ | ⟨h1, h2⟩ <;> rcases g with ⟨g1, rfl, rfl⟩ | ⟨g1, g2⟩
  · exact ⟨rfl, rfl⟩
  · exact absurd g1 h1
  · exact absurd h1 g1
  · exact h2.uniq _ _ _ _ g2
end Go.Proofs.Ytgomfjhhfmhlgaa

/-
  Walks: the reference's CosetNumber, MemberElement, MemberExponents.
  Conditions: what the arguments read as.
-/
namespace Go.Proofs.Ytgomfjhhfmhlgaa
open Go Go.Pc
theorem l10One_ok {p : Pr} [hc : ConAll p] {w : World} {vp : Value} {lo hi : Nat} [hp : Pres lo hi w vp p] :
    Calls Try.prog 148 #[vp] w (Ret fun v w' => Ext w w' ∧ Fr w.heap.size w' v (1 : El p).v) := by
  have hn6 := hc.valid.n6
  have hol : p.ord.length = p.n := rfl
  obtain ⟨vo, vpw, vc, ps, cs, css, rfl, h1, h2, h3⟩ := hp.ex
  refine enter (args := [.agg #[vo, vpw, vc]]) (l := [.tmp 2]) Try.func148 rfl rfl Try.ntmps148 (by simp) ?_
  refine go ?_
  refine st_box3 (by ((try simp only [ev_tmp, ev_const, ev_func, get_put, get_args, get_putL, get_putL_nil, Nat.reduceEqDiff, reduceIte, List.getD_cons_zero, List.getD_cons_succ, List.getD_nil]); first | done | with_reducible rfl)) (by first | exact True.intro | exact ⟨_, rfl, by ((try simp only [ev_tmp, ev_const, ev_func, get_put, get_args, get_putL, get_putL_nil, Nat.reduceEqDiff, reduceIte, List.getD_cons_zero, List.getD_cons_succ, List.getD_nil, Bool.not_true, Bool.not_false]); first | done | with_reducible rfl)⟩) fun w1 b he1 hb1 hs1 hc0 hc1 hc2 => ?_
  refine go ?_
  refine st_make_int (by ((try simp only [ev_tmp, ev_const, ev_func, get_put, get_args, get_putL, get_putL_nil, Nat.reduceEqDiff, reduceIte, List.getD_cons_zero, List.getD_cons_succ, List.getD_nil]); first | done | with_reducible rfl)) (by ((try simp only [ev_tmp, ev_const, ev_func, get_put, get_args, get_putL, get_putL_nil, Nat.reduceEqDiff, reduceIte, List.getD_cons_zero, List.getD_cons_succ, List.getD_nil]); first | done | with_reducible rfl)) (by omega) (by omega) (by first | exact True.intro | exact ⟨_, rfl, by ((try simp only [ev_tmp, ev_const, ev_func, get_put, get_args, get_putL, get_putL_nil, Nat.reduceEqDiff, reduceIte, List.getD_cons_zero, List.getD_cons_succ, List.getD_nil, Bool.not_true, Bool.not_false]); first | done | with_reducible rfl)⟩) fun w2 v2 he2 hs2 ho2 => ?_
  refine go ?_
  exact ret1 ⟨he1.trans he2, (ho2.toFr (lo := w1.heap.size) (Nat.le_refl _)).mono he1.size⟩
set_option maxHeartbeats 1000000 in
theorem l12Product_ok {p : Pr} [hc : ConAll p] {ys : List (El p)} (hyl : ys.length ≤ 1000) {w : World} {vp vu vx : Value} {us : List Value} {xss : List (List Int)} {as_ : List Int} {lo hi lo1 hi1 lo2 hi2 : Nat} [hp : Pres lo hi w vp p] [hu : Pc.Rows lo1 hi1 w vu us xss] [hx : Ints lo2 hi2 w vx as_] (hus : xss = vecs ys) (hal : as_.length = ys.length) (har : ∀ i, i < ys.length → -1000 ≤ as_.getD i 0 ∧ as_.getD i 0 ≤ 1000) :
    Calls Try.prog 126 #[vp, vu, vx] w (Ret fun v w' => Ext w w' ∧ Fr w.heap.size w' v (prodTo ys as_ ys.length).v) := by
  subst hus
  have hvl : (vecs ys).length = ys.length := by simp
  obtain ⟨vo, vpw, vc, ps, cs, css, rfl, h1, h2, h3⟩ := hp.ex
  refine enter (args := [.agg #[vo, vpw, vc], vu, vx]) (l := [.tmp 6]) Try.func126 rfl rfl Try.ntmps126 (by simp) ?_
  refine go ?_
  refine st_box3 (by ((try simp only [ev_tmp, ev_const, ev_func, get_put, get_args, get_putL, get_putL_nil, Nat.reduceEqDiff, reduceIte, List.getD_cons_zero, List.getD_cons_succ, List.getD_nil]); first | done | with_reducible rfl)) (by first | exact True.intro | exact ⟨_, rfl, by ((try simp only [ev_tmp, ev_const, ev_func, get_put, get_args, get_putL, get_putL_nil, Nat.reduceEqDiff, reduceIte, List.getD_cons_zero, List.getD_cons_succ, List.getD_nil, Bool.not_true, Bool.not_false]); first | done | with_reducible rfl)⟩) fun w1 b he1 hb1 hs1 hc0 hc1 hc2 => ?_
  have hz1 := he1.size
  refine go ?_
  refine rc (l10One_ok (p := p)) (next := fun v2 w2 h4 => ?_)
  obtain ⟨he2, hf2⟩ := h4
  refine go ?_
  refine r_for ys.length (fun k ρ w' => ∃ vr, Has ρ [(1, vu), (2, vx), (3, .pointer (some ⟨b, 0, none⟩)), (7, vr), (8, .int .i64 k)] ∧ Ext w1 w' ∧ Fr w1.heap.size w' vr (prodTo ys as_ k).v) ?_ ?_
  · refine ⟨v2, ?_, he2, hf2⟩
    exact hasP
  clear hf2
  rintro k ρ w3 hk ⟨vr, hH, he3, hf3⟩
  refine rwp_has hH fun ρ0 => ?_
  have hz3 := he3.size
  refine go ?_
  refine c_if (fun h4 => ?_) (fun h4 => ?_)
  · have hkn : k < ys.length := by omega
    have hg := vecs_getD ys hkn
    have hak := har k hkn
    refine go ?_
    refine d_region fun w4 he4 _ => ?_
    refine dgo ?_
    refine dce (l10Pow_ok (p := p) (x := ys[k]) hg ?_) (next := fun v5 w5 h5 => ?_)
    · omega
    obtain ⟨he5, hf5⟩ := h5
    refine dce (l08Mul_ok (p := p) (x := prodTo ys as_ k) (y := Grp.pwz ys[k] (as_.getD k 0)) rfl rfl) (next := fun v6 w6 h6 => ?_)
    obtain ⟨he6, hf6⟩ := h6
    refine dgo ?_
    refine d_end (h := ?_)
    refine go ?_
    have hE := (he3.trans he4).trans he5
    refine forQ_normal (by omega) ⟨v6, ?_, hE.trans he6, ?_⟩
    · exact hasP
    · show Fr w1.heap.size w6 v6 (prodTo ys as_ k * Grp.pwz (ys.getD k 1) (as_.getD k 0)).v
      rw [getD_one hkn]
      exact hf6.mono hE.size
  · obtain rfl : k = ys.length := by omega
    refine go ?_
    exact ret1 ⟨he1.trans he3, hf3.mono hz1⟩
theorem range_iff {p : Pr} {ys : List (El p)} {as_ : List Int} : ExpP (ys.map fun y => p.o (lead y.v)) as_ (-1) ↔ RangeP p (vecs ys) as_ := by
  have e : ∀ i, i < ys.length → (ys.map fun y => p.o (lead y.v)).getD i 0 = p.o (lead ((vecs ys).getD i [])) := fun i hi => by simp [vecs, hi]
  constructor
  · rintro ⟨h1, h2⟩
    have hl : as_.length = ys.length := by simpa using h1
    refine ⟨by simpa using h1, fun i hi => ?_⟩
    have hi' : i < ys.length := by simpa using hi
    have := (h2 i (by omega)).1
    rw [e i hi'] at this
    exact this
  · rintro ⟨h1, h2⟩
    have hl : as_.length = ys.length := by simpa using h1
    refine ⟨by simpa using h1, fun i hi => ⟨?_, fun h => by omega⟩⟩
    rw [e i (by omega)]
    exact h2 i (by simp; omega)
end Go.Proofs.Ytgomfjhhfmhlgaa

/-
  Walks: the reference's order, index, transversal elements; Transversal.
  Conditions: stated at each theorem.
-/
namespace Go.Proofs.Ytgomfjhhfmhlgaa
open Go Go.Pc
set_option maxHeartbeats 1000000 in
theorem l10Order_ok {p : Pr} (hv : Valid p) {w : World} {vp : Value} {lo hi : Nat} [hp : Pres lo hi w vp p] :
    Calls Try.prog 81 #[vp] w (Ret fun v w' => v = .int .i64 (ordL p (List.range p.n)) ∧ Ext w w') := by
  have hn6 := hv.n6
  have hol : p.ord.length = p.n := rfl
  have hrl : (List.range p.n).length = p.n := by simp
  obtain ⟨vo, vpw, vc, ps, cs, css, rfl, h1, h2, h3⟩ := hp.ex
  refine enter (args := [.agg #[vo, vpw, vc]]) (l := [.tmp 2]) Try.func81 rfl rfl Try.ntmps81 (by simp) ?_
  refine go ?_
  refine st_box3 (by ((try simp only [ev_tmp, ev_const, ev_func, get_put, get_args, get_putL, get_putL_nil, Nat.reduceEqDiff, reduceIte, List.getD_cons_zero, List.getD_cons_succ, List.getD_nil]); first | done | with_reducible rfl)) (by first | exact True.intro | exact ⟨_, rfl, by ((try simp only [ev_tmp, ev_const, ev_func, get_put, get_args, get_putL, get_putL_nil, Nat.reduceEqDiff, reduceIte, List.getD_cons_zero, List.getD_cons_succ, List.getD_nil, Bool.not_true, Bool.not_false]); first | done | with_reducible rfl)⟩) fun w1 b he1 hb1 hs1 hc0 hc1 hc2 => ?_
  refine go ?_
  refine r_for p.n (fun k ρ w' => Has ρ [(1, .pointer (some ⟨b, 0, none⟩)), (3, .int .i64 (ordL p ((List.range p.n).take k))), (4, .int .i64 k)] ∧ Ext w1 w') ?_ ?_
  · refine ⟨?_, Ext.refl _⟩
    exact hasP
  rintro k ρ w2 hk ⟨hH, he2⟩
  refine rwp_has hH fun ρ0 => ?_
  refine go ?_
  refine c_if (fun h4 => ?_) (fun h4 => ?_)
  · have hkn : k < p.n := by omega
    have hod := hv.opos hkn
    have hr := ordL_rng hv (l := List.range p.n) (fun d hd => List.mem_range.1 hd) (by omega) (k := k) (by omega)
    have hm : 0 ≤ ordL p ((List.range p.n).take k) * p.o k ∧ ordL p ((List.range p.n).take k) * p.o k ≤ 117649 * 7 := ⟨Int.mul_nonneg (by omega) (by omega), Int.mul_le_mul hr.2 hod.2 (by omega) (by omega)⟩
    have hmb : -9223372036854775808 ≤ ordL p ((List.range p.n).take k) * p.o k ∧ ordL p ((List.range p.n).take k) * p.o k ≤ 9223372036854775807 := ⟨by omega, by omega⟩
    have hst := ordL_take (p := p) (List.range p.n) (show k < (List.range p.n).length by omega)
    rw [show (List.range p.n).getD k 0 = k by simp [hkn]] at hst
    refine go ?_
    rw [show p.ord.getD k 0 = p.o k from rfl]
    refine ra (h := rd_mul (by ((try simp only [ev_tmp, ev_const, ev_func, get_put, get_args, get_putL, get_putL_nil, Nat.reduceEqDiff, reduceIte, List.getD_cons_zero, List.getD_cons_succ, List.getD_nil]); first | done | with_reducible rfl)) (by ((try simp only [ev_tmp, ev_const, ev_func, get_put, get_args, get_putL, get_putL_nil, Nat.reduceEqDiff, reduceIte, List.getD_cons_zero, List.getD_cons_succ, List.getD_nil]); first | done | with_reducible rfl)) hmb) (next := ?_)
    refine go ?_
    refine forQ_normal (by omega) ⟨?_, he2⟩
    rw [hst]
    exact hasP
  · refine go ?_
    have e : (List.range p.n).take k = List.range p.n := by rw [show k = p.n by omega, List.take_of_length_le (by omega)]
    rw [e]
    exact ret1 ⟨rfl, he1.trans he2⟩
theorem ordL_all_rng {p : Pr} (hv : Valid p) : 1 ≤ ordL p (List.range p.n) ∧ ordL p (List.range p.n) ≤ 117649 := by
  have hn6 := hv.n6
  have h := ordL_rng hv (l := List.range p.n) (fun d hd => List.mem_range.1 hd) (by simp; omega) (k := p.n) (by simp)
  rwa [List.take_of_length_le (by simp)] at h
theorem idx_rng {p : Pr} (hv : Valid p) (ys : List (El p)) : 1 ≤ idxOf p ys ∧ idxOf p ys ≤ 117649 := by
  have hn6 := hv.n6
  have h := ordL_rng hv (l := freeL p ys p.n) (fun d hd => freeL_lt hd) (by have := freeL_len p ys p.n; omega) (k := (freeL p ys p.n).length) (Nat.le_refl _)
  rwa [List.take_length] at h
set_option maxHeartbeats 1000000 in
theorem l14Index_ok {p : Pr} [hc : ConAll p] {ys : List (El p)} (hs : SeqEl ys) {w : World} {vp vu : Value} {us : List Value} {xss : List (List Int)} {lo hi lo1 hi1 : Nat} [hp : Pres lo hi w vp p] [hu : Pc.Rows lo1 hi1 w vu us xss] (hus : xss = vecs ys) :
    Calls Try.prog 73 #[vp, vu] w (Ret fun v w' => v = .int .i64 (idxOf p ys) ∧ Ext w w') := by
  have hv := hc.valid
  have ho1 := ordL_all_rng hv
  have ho2 := ordOf_pos hs
  obtain ⟨vo, vpw, vc, ps, cs, css, rfl, h1, h2, h3⟩ := hp.ex
  refine enter (args := [.agg #[vo, vpw, vc], vu]) (l := [.tmp 4]) Try.func73 rfl rfl Try.ntmps73 (by simp) ?_
  refine go ?_
  refine st_box3 (by ((try simp only [ev_tmp, ev_const, ev_func, get_put, get_args, get_putL, get_putL_nil, Nat.reduceEqDiff, reduceIte, List.getD_cons_zero, List.getD_cons_succ, List.getD_nil]); first | done | with_reducible rfl)) (by first | exact True.intro | exact ⟨_, rfl, by ((try simp only [ev_tmp, ev_const, ev_func, get_put, get_args, get_putL, get_putL_nil, Nat.reduceEqDiff, reduceIte, List.getD_cons_zero, List.getD_cons_succ, List.getD_nil, Bool.not_true, Bool.not_false]); first | done | with_reducible rfl)⟩) fun w1 b he1 hb1 hs1 hc0 hc1 hc2 => ?_
  refine go ?_
  refine d_order [0, 2, 3, 1, 4, 5, 6] (h := fun w2 he2 _ => ?_)
  refine dgo ?_
  refine dce (l10Order_ok (p := p) hv) (next := fun v3 w3 h4 => ?_)
  obtain ⟨rfl, he3⟩ := h4
  refine dce (l12Order_ok (p := p) hs hus) (next := fun v4 w4 h5 => ?_)
  obtain ⟨rfl, he4⟩ := h5
  refine dgo ?_
  refine d_end (h := ?_)
  refine go ?_
  rw [idx_eq hs.ok ho2.1]
  exact ret1 ⟨rfl, ((he1.trans he2).trans he3).trans he4⟩
end Go.Proofs.Ytgomfjhhfmhlgaa

/-
  Walks: the reference's element with a number, the elements above a subgroup; Center.
  Conditions: stated at each theorem.
-/
namespace Go.Proofs.Ytgomfjhhfmhlgaa
open Go Go.Pc
set_option maxHeartbeats 2000000 in
theorem l10At_ok {p : Pr} [hc : ConAll p] {t : Nat} (ht : t ≤ 1000000) {w : World} {vp : Value} {lo hi : Nat} [hp : Pres lo hi w vp p] :
    Calls Try.prog 106 #[vp, .int .i64 t] w (Ret fun v w' => Ext w w' ∧ Fr w.heap.size w' v (allE p t).v) := by
  have hv := hc.valid
  have hn6 := hv.n6
  have hol : p.ord.length = p.n := rfl
  rw [allE_val]
  obtain ⟨l, hl⟩ : ∃ l, List.range p.n = l := ⟨_, rfl⟩
  have hll : l.length = p.n := by rw [← hl]; simp
  have hlt : ∀ d, d ∈ l → d < p.n := fun d hd => by rw [← hl] at hd; exact List.mem_range.1 hd
  have hnd : l.Nodup := by rw [← hl]; exact List.nodup_range
  have hlg : ∀ i, i < p.n → l.getD i 0 = i := fun i hi => by rw [← hl]; simp [hi]
  rw [hl]
  replace hp := hp.wide
  obtain ⟨vo, vpw, vc, ps, cs, css, rfl, h1, h2, h3⟩ := hp.ex
  refine enter (args := [.agg #[vo, vpw, vc], .int .i64 t]) (l := [.tmp 4]) Try.func106 rfl rfl Try.ntmps106 (by simp) ?_
  refine go ?_
  refine st_box3 (by ((try simp only [ev_tmp, ev_const, ev_func, get_put, get_args, get_putL, get_putL_nil, Nat.reduceEqDiff, reduceIte, List.getD_cons_zero, List.getD_cons_succ, List.getD_nil]); first | done | with_reducible rfl)) (by first | exact True.intro | exact ⟨_, rfl, by ((try simp only [ev_tmp, ev_const, ev_func, get_put, get_args, get_putL, get_putL_nil, Nat.reduceEqDiff, reduceIte, List.getD_cons_zero, List.getD_cons_succ, List.getD_nil, Bool.not_true, Bool.not_false]); first | done | with_reducible rfl)⟩) fun w1 b he1 hb1 hs1 hc0 hc1 hc2 => ?_
  have hz1 := he1.size
  refine go ?_
  refine rc (l10One_ok (p := p)) (next := fun v2 w2 h4 => ?_)
  obtain ⟨he2, hf2⟩ := h4
  have hz2 := he2.size
  have hlen2 : Len w2 v2 p.n := by
    have h := hf2.ints
    have h5 : Len w2 v2 (1 : El p).v.length := inferInstance
    rwa [(1 : El p).inr.len] at h5
  by_cases hn0 : p.n = 0
  · refine go ?_
    refine r_for 0 (fun k ρ w' => Has ρ [(5, v2), (6, .int .i64 (-1))] ∧ w' = w2) ?_ ?_
    · refine ⟨?_, rfl⟩
      rw [hn0]
      exact hasP
    rintro k ρ w4 hk ⟨hH, rfl⟩
    refine rwp_has hH fun ρ0 => ?_
    refine go ?_
    refine c_if (fun h4 => ?_) (fun h4 => ?_)
    · omega
    refine go ?_
    refine ret1 ⟨he1.trans he2, ?_⟩
    have e : elTo p l l.length t = (1 : El p).v := list_ext0 (by rw [elTo_len, (1 : El p).inr.len]) fun d hd => by rw [elTo_len] at hd; omega
    rw [e]
    exact hf2.mono hz1
  obtain ⟨te, b2, hb2, ho2⟩ := hf2.own (by intro e; have := (1 : El p).inr.len; rw [e] at this; simp at this; omega)
  have hbl := ho2.lt
  have ho3 : OwnI te b2 w2 v2 (zeros p.n) := ho2
  have ap1 : Apart 0 w.heap.size b2 := ⟨.inr (by omega)⟩
  have ap2 : Apart b (b + 1) b2 := ⟨.inr (by omega)⟩
  have hE2 := he1.trans he2
  have hzl := zeros_len p.n
  clear hf2 ho2
  refine go ?_
  refine r_for p.n (fun k ρ w' => ∃ (tk : Int) (xs : List Int), Has ρ [(1, .int .i64 tk), (2, .pointer (some ⟨b, 0, none⟩)), (5, v2), (6, .int .i64 (p.n - 1 - k))] ∧ Chg b2 w2 w' ∧ OwnI te b2 w' v2 xs ∧ xs.length = p.n ∧ 0 ≤ tk ∧ tk ≤ 1000000 ∧ fillTo p l (p.n - k) tk xs = elTo p l l.length t) ?_ ?_
  · refine ⟨t, zeros p.n, ?_, Chg.refl _ _, ho3, hzl, by omega, by omega, ?_⟩
    · exact hasP
    · have := fill_eq hnd hlt (t : Int)
      rwa [hll] at this ⊢
  clear ho3
  rintro k ρ w4 hk ⟨tk, xs, hH, hch4, ho4, hxl, ht0, ht1, hfill⟩
  refine rwp_has hH fun ρ0 => ?_
  refine go ?_
  refine c_if (fun h4 => ?_) (fun h4 => ?_)
  · have hkn : k < p.n := by omega
    obtain ⟨i, hi⟩ : ∃ i, p.n - 1 - k = i := ⟨_, rfl⟩
    have hil : i < p.n := by omega
    have hcast : ((p.n : Int) - 1 - k) = (i : Int) := by omega
    have hod := hv.opos hil
    have hmod : 0 ≤ tk % p.o i ∧ tk % p.o i < p.o i := ⟨Int.emod_nonneg _ (by omega), Int.emod_lt_of_pos _ (by omega)⟩
    have hdiv : 0 ≤ tk / p.o i ∧ tk / p.o i ≤ 1000000 := ⟨Int.ediv_nonneg ht0 (by omega), Int.le_trans (Int.ediv_le_self _ ht0) ht1⟩
    have hstep : fillTo p l (p.n - (k + 1)) (tk / p.o i) (xs.set i (tk % p.o i)) = elTo p l l.length t := by
      rw [← hfill, show p.n - k = i + 1 by omega, show p.n - (k + 1) = i by omega]
      show _ = fillTo p l i (tk / p.o (l.getD i 0)) (xs.set (l.getD i 0) (tk % p.o (l.getD i 0)))
      rw [hlg i hil]
    rw [hcast]
    refine go ?_
    first
      | rw [show p.ord.getD i 0 = p.o i from rfl]
      | rw [show p.ord.getD ((i : Int).toNat) 0 = p.o i from rfl]
    refine go ?_
    refine st_store_int (h := ho4) (by ((try simp only [ev_tmp, ev_const, ev_func, get_put, get_args, get_putL, get_putL_nil, Nat.reduceEqDiff, reduceIte, List.getD_cons_zero, List.getD_cons_succ, List.getD_nil]); first | done | with_reducible rfl)) (by ((try simp only [ev_tmp, ev_const, ev_func, get_put, get_args, get_putL, get_putL_nil, Nat.reduceEqDiff, reduceIte, List.getD_cons_zero, List.getD_cons_succ, List.getD_nil]); first | done | with_reducible rfl)) ?_ (by first | exact True.intro | exact ⟨_, rfl, by ((try simp only [ev_tmp, ev_const, ev_func, get_put, get_args, get_putL, get_putL_nil, Nat.reduceEqDiff, reduceIte, List.getD_cons_zero, List.getD_cons_succ, List.getD_nil, Bool.not_true, Bool.not_false]); first | done | with_reducible rfl)⟩) fun w6 hc6 hs6 ho6 => ?_
    · omega
    have hch6 : Chg b2 w2 w6 := hch4.trans hc6
    clear hch4 hc6 ho4
    refine go ?_
    first
      | rw [show p.ord.getD i 0 = p.o i from rfl]
      | rw [show p.ord.getD ((i : Int).toNat) 0 = p.o i from rfl]
    refine go ?_
    refine forQ_normal (by omega) ⟨tk / p.o i, _, ?_, hch6, ho6, by simp [hxl], hdiv.1, hdiv.2, hstep⟩
    exact hasP
  · refine go ?_
    obtain rfl : k = p.n := by omega
    rw [Nat.sub_self] at hfill
    have hx : xs = elTo p l l.length t := hfill
    refine ret1 ⟨hch4.ext hE2 (by omega), ?_⟩
    rw [← hx]
    exact ho4.toFr (by omega)
set_option maxHeartbeats 4000000 in
theorem l17Above_ok {p : Pr} [hc : ConAll p] {ys : List (El p)} (hs : SeqEl ys) {w : World} {vp vu : Value} {us : List Value} {xss : List (List Int)} {lo hi lo1 hi1 : Nat} [hp : Pres lo hi w vp p] [hu : Pc.Rows lo1 hi1 w vu us xss] (hus : xss = vecs ys) :
    Calls Try.prog 74 #[vp, vu] w (Ret fun v w' => Ext w w' ∧ ∃ us', Pc.Rows w.heap.size w'.heap.size w' v us' (canon (Gen (fun a : El p => AbP ys a)))) := by
  have hv := hc.valid
  have hn6 := hv.n6
  have hgl := gensL_len p
  obtain ⟨hoe, ho1, ho2⟩ := ordN_rng p
  replace hp := hp.wide
  replace hu := hu.wide
  obtain ⟨vo, vpw, vc, ps, cs, css, rfl, h1, h2, h3⟩ := hp.ex
  refine enter (args := [.agg #[vo, vpw, vc], vu]) (l := [.tmp 4]) Try.func74 rfl rfl Try.ntmps74 (by simp) ?_
  refine go ?_
  refine st_box3 (by ((try simp only [ev_tmp, ev_const, ev_func, get_put, get_args, get_putL, get_putL_nil, Nat.reduceEqDiff, reduceIte, List.getD_cons_zero, List.getD_cons_succ, List.getD_nil]); first | done | with_reducible rfl)) (by first | exact True.intro | exact ⟨_, rfl, by ((try simp only [ev_tmp, ev_const, ev_func, get_put, get_args, get_putL, get_putL_nil, Nat.reduceEqDiff, reduceIte, List.getD_cons_zero, List.getD_cons_succ, List.getD_nil, Bool.not_true, Bool.not_false]); first | done | with_reducible rfl)⟩) fun w1 b he1 hb1 hs1 hc0 hc1 hc2 => ?_
  have hz1 := he1.size
  refine go ?_
  refine rc (l12Whole_ok (p := p)) (next := fun v2 w2 h4 => ?_)
  obtain ⟨he2, us2, hR2⟩ := h4
  have hvl2 := hR2.vals.len
  have hvgl : (vecs (gensL p)).length = p.n := by simp [hgl]
  refine go ?_
  refine st_slice0 (by first | exact True.intro | exact ⟨_, rfl, by ((try simp only [ev_tmp, ev_const, ev_func, get_put, get_args, get_putL, get_putL_nil, Nat.reduceEqDiff, reduceIte, List.getD_cons_zero, List.getD_cons_succ, List.getD_nil, Bool.not_true, Bool.not_false]); first | done | with_reducible rfl)⟩) fun w3 v3 he3 hs3 ho3 => ?_
  have hz2 := he2.size
  refine go ?_
  refine r_for (ordN p) (fun k ρ w' => ∃ vl rs, Has ρ [(1, vu), (2, .pointer (some ⟨b, 0, none⟩)), (5, v2), (6, vl), (7, .int .i64 k)] ∧ Ext w2 w' ∧ GrowL 22 w2.heap.size w' vl rs ∧ rs.map (·.2) = vecs (selL (AbP ys) k)) ?_ ?_
  · refine ⟨v3, [], ?_, he3, GrowL.start ho3 (Nat.le_refl _), by simp [selL]⟩
    exact hasP
  clear ho3 hs3 he3
  rintro k ρ wa hk ⟨vl, rs, hH, hea, hG, hrs⟩
  refine rwp_has hH fun ρ0 => ?_
  have hza := hea.size
  have hrl : rs.length ≤ k := by have := congrArg List.length hrs; have := selL_len (AbP ys) k; simp at *; omega
  have hEa := (he1.trans he2).trans hea
  refine go ?_
  refine rc (l10Order_ok (p := p) hv) (next := fun v4 w4 h5 => ?_)
  obtain ⟨rfl, he4⟩ := h5
  rw [hoe]
  have hG4 := hG.ext he4
  have hea4 := hea.trans he4
  have hEa4 := hEa.trans he4
  clear hG
  refine go ?_
  refine c_if (fun h6 => ?_) (fun h6 => ?_)
  · have hkn : k < ordN p := by omega
    refine go ?_
    refine rc (l10At_ok (p := p) (t := k) (by omega)) (next := fun v5 w5 h7 => ?_)
    obtain ⟨he5, hf5⟩ := h7
    refine go ?_
    refine r_for p.n (fun i ρ w' => ∃ ib : Bool, Has ρ [(1, vu), (2, .pointer (some ⟨b, 0, none⟩)), (5, v2), (6, vl), (7, .int .i64 k), (8, v5), (9, .bool ib), (10, .int .i64 i)] ∧ Ext w5 w' ∧ (ib = true ↔ ∀ j (h : j < (gensL p).length), j < i → Gen (fun a : El p => a ∈ ys) (Grp.cm (allE p k) (gensL p)[j]))) ?_ ?_
    · refine ⟨true, ?_, Ext.refl _, by simp⟩
      exact hasP
    rintro i ρ wb hi ⟨ib, hHb, heb, hib⟩
    refine rwp_has hHb fun ρ1 => ?_
    have hE5 := hEa4.trans (he5.trans heb)
    refine go ?_
    refine sp (fun eb => ?_) (fun eb => ?_)
    · subst eb
      refine go ?_
      refine c_if (fun h8 => ?_) (fun h8 => ?_)
      · have hin : i < (gensL p).length := by omega
        have hgi := vecs_getD (gensL p) hin
        refine go ?_
        refine d_order [0, 1, 2, 3, 4, 5, 6, 7, 8, 9, 10] (h := fun w6 he6 _ => ?_)
        refine dgo ?_
        refine dce (l10Comm_ok (p := p) (x := allE p k) (y := (gensL p)[i]) rfl hgi) (next := fun v7 w7 h9 => ?_)
        obtain ⟨he7, hf7⟩ := h9
        refine dce (l12Has_ok (p := p) (x := Grp.cm (allE p k) (gensL p)[i]) hs hus rfl) (next := fun v8 w8 h10 => ?_)
        obtain ⟨b8, rfl, hb8, he8⟩ := h10
        refine dgo ?_
        refine d_end (h := ?_)
        refine go ?_
        refine forQ_normal (by omega) ⟨b8, ?_, heb.trans ((he6.trans he7).trans he8), ?_⟩
        · exact hasP
        · rw [hb8]
          refine ⟨fun h j hj hji => ?_, fun h => h i hin (by omega)⟩
          by_cases e : j = i
          · subst e; exact h
          · exact hib.1 rfl j hj (by omega)
      · have hP : AbP ys (allE p k) := fun j hj => hib.1 rfl j hj (by omega)
        refine go ?_
        refine st_grow hG4 (he5.trans heb) (hf5.ext' heb) (by have := hea4.size; omega) (by omega) (next := fun v10 v11 w11 hG11 hx11 hz11 hgs11 => ?_)
        refine go ?_
        refine forQ_normal (by omega) ⟨v11, _, ?_, hx11 w2 (hea4.trans (he5.trans heb)) (Nat.le_refl _), hG11, ?_⟩
        · exact hasP
        · rw [selL_yes hP]; simp [hrs]
    · have hP : ¬ AbP ys (allE p k) := fun h => by rw [hib.2 fun j hj _ => h j hj] at eb; cases eb
      subst eb
      refine go ?_
      refine forQ_normal (by omega) ⟨vl, rs, ?_, hea4.trans (he5.trans heb), hG4.ext (he5.trans heb), ?_⟩
      · exact hasP
      · rw [selL_no hP]; exact hrs
  · obtain rfl : k = ordN p := by omega
    have hRl := hG4.mat.rows
    rw [hrs] at hRl
    have hsl := selL_len (AbP ys) (ordN p)
    refine go ?_
    refine rc (l12Close_ok (p := p) (ys := selL (AbP ys) (ordN p)) rfl (by omega)) (next := fun v12 w12 h12 => ?_)
    obtain ⟨he12, us12, hL12⟩ := h12
    rw [selL_all] at hL12
    refine go ?_
    exact ret1 ⟨hEa4.trans he12, us12, hL12.newRows.mono hEa4.size (Nat.le_refl _)⟩
end Go.Proofs.Ytgomfjhhfmhlgaa

/-
  Walks: the reference's upper central series; DerivedSeries, LowerCentralSeries, UpperCentralSeries.
  Conditions: stated at each theorem.
-/
namespace Go.Proofs.Ytgomfjhhfmhlgaa
open Go Go.Pc
theorem rowss_nilR (lo hi : Nat) (w : World) (h : lo ≤ hi) : Rowss lo hi w nilv [] [] [] :=
  ⟨⟨⟨none, 0, rfl, Nat.le_refl _, by omega, fun k u hu => by simp at hu⟩⟩, rfl, rfl, fun i => (rows_nilv lo w).mono (Nat.le_refl _) h⟩
set_option maxHeartbeats 1000000 in
theorem spec_DerivedSeries_ok {p : Pr} {w : World} {vp : Value} {lo hi : Nat} [hp : Pres lo hi w vp p] (hl : p.ord.length ≤ 2000000) :
    Calls Try.prog 17 #[vp] w (Ret fun v w' => ∃ (u : Value) (k : List (List (List Int))) (e : Int), v = .tuple #[u, .int .i64 e] ∧ Ans (IsGrp p) (SrV p (DerC p)) [] k e ∧ Ext w w' ∧ ∃ us' uss', Rowss w.heap.size w'.heap.size w' u us' uss' k) := by
  obtain ⟨vo, vpw, vc, ps, cs, css, rfl, h1, h2, h3⟩ := hp.ex
  refine enter (args := [.agg #[vo, vpw, vc]]) (l := [.tmp 2, .tmp 3]) Try.func17 rfl rfl Try.ntmps17 (by simp) ?_
  refine go ?_
  refine st_box3 (by ((try simp only [ev_tmp, ev_const, ev_func, get_put, get_args, get_putL, get_putL_nil, Nat.reduceEqDiff, reduceIte, List.getD_cons_zero, List.getD_cons_succ, List.getD_nil]); first | done | with_reducible rfl)) (by first | exact True.intro | exact ⟨_, rfl, by ((try simp only [ev_tmp, ev_const, ev_func, get_put, get_args, get_putL, get_putL_nil, Nat.reduceEqDiff, reduceIte, List.getD_cons_zero, List.getD_cons_succ, List.getD_nil, Bool.not_true, Bool.not_false]); first | done | with_reducible rfl)⟩) fun w1 b he1 hb1 hs1 hc0 hc1 hc2 => ?_
  refine go ?_
  refine rc (l08Group_ok (p := p) hl) (next := fun v5 w5 h5 => ?_)
  obtain ⟨b5, rfl, hb5, he5⟩ := h5
  have hE5 := he1.trans he5
  refine go ?_
  refine c_b (fun e5 => ?_) (fun e5 => ?_)
  · refine go ?_
    refine ret2 ⟨nilv, [], 1, rfl, .inr ⟨fun h => ?_, rfl, rfl⟩, hE5, [], [], rowss_nilR _ _ _ hE5.size⟩
    rw [hb5.2 h] at e5; cases e5
  have hG := hb5.1 (by simpa using e5)
  haveI : ConAll p := ⟨hG.con⟩
  refine go ?_
  refine rc (l17Derived_ok (p := p)) (next := fun v8 w8 h8 => ?_)
  obtain ⟨he8, K, us8, uss8, hK, hR8⟩ := h8
  refine go ?_
  exact ret2 ⟨v8, _, 0, rfl, .inl ⟨hG, ⟨inferInstance, K, hK, rfl, rfl⟩⟩, hE5.trans he8, us8, uss8, hR8.lower hE5.size⟩
set_option maxHeartbeats 1000000 in
theorem spec_LowerCentralSeries_ok {p : Pr} {w : World} {vp : Value} {lo hi : Nat} [hp : Pres lo hi w vp p] (hl : p.ord.length ≤ 2000000) :
    Calls Try.prog 23 #[vp] w (Ret fun v w' => ∃ (u : Value) (k : List (List (List Int))) (e : Int), v = .tuple #[u, .int .i64 e] ∧ Ans (IsGrp p) (SrV p (LowC p)) [] k e ∧ Ext w w' ∧ ∃ us' uss', Rowss w.heap.size w'.heap.size w' u us' uss' k) := by
  obtain ⟨vo, vpw, vc, ps, cs, css, rfl, h1, h2, h3⟩ := hp.ex
  refine enter (args := [.agg #[vo, vpw, vc]]) (l := [.tmp 2, .tmp 3]) Try.func23 rfl rfl Try.ntmps23 (by simp) ?_
  refine go ?_
  refine st_box3 (by ((try simp only [ev_tmp, ev_const, ev_func, get_put, get_args, get_putL, get_putL_nil, Nat.reduceEqDiff, reduceIte, List.getD_cons_zero, List.getD_cons_succ, List.getD_nil]); first | done | with_reducible rfl)) (by first | exact True.intro | exact ⟨_, rfl, by ((try simp only [ev_tmp, ev_const, ev_func, get_put, get_args, get_putL, get_putL_nil, Nat.reduceEqDiff, reduceIte, List.getD_cons_zero, List.getD_cons_succ, List.getD_nil, Bool.not_true, Bool.not_false]); first | done | with_reducible rfl)⟩) fun w1 b he1 hb1 hs1 hc0 hc1 hc2 => ?_
  refine go ?_
  refine rc (l08Group_ok (p := p) hl) (next := fun v5 w5 h5 => ?_)
  obtain ⟨b5, rfl, hb5, he5⟩ := h5
  have hE5 := he1.trans he5
  refine go ?_
  refine c_b (fun e5 => ?_) (fun e5 => ?_)
  · refine go ?_
    refine ret2 ⟨nilv, [], 1, rfl, .inr ⟨fun h => ?_, rfl, rfl⟩, hE5, [], [], rowss_nilR _ _ _ hE5.size⟩
    rw [hb5.2 h] at e5; cases e5
  have hG := hb5.1 (by simpa using e5)
  haveI : ConAll p := ⟨hG.con⟩
  refine go ?_
  refine rc (l17Lower_ok (p := p)) (next := fun v8 w8 h8 => ?_)
  obtain ⟨he8, K, us8, uss8, hK, hR8⟩ := h8
  refine go ?_
  exact ret2 ⟨v8, _, 0, rfl, .inl ⟨hG, ⟨inferInstance, K, hK, rfl, rfl⟩⟩, hE5.trans he8, us8, uss8, hR8.lower hE5.size⟩
end Go.Proofs.Ytgomfjhhfmhlgaa

/-
  Walks: the program's CosetRepresentative.
  Conditions: what the arguments read as.
-/
namespace Go.Proofs.Ytgomfjhhfmhlgaa
open Go Go.Pc
end Go.Proofs.Ytgomfjhhfmhlgaa

/-
  Walks: the program's order of a subgroup (sizeOf, SubgroupOrder).
  Conditions: stated at each theorem.
-/
namespace Go.Proofs.Ytgomfjhhfmhlgaa
open Go Go.Pc
set_option maxHeartbeats 1000000 in
theorem sizeOf_ok {p : Pr} [hc : ConAll p] {ys : List (El p)} (hs : SeqEl ys) {w : World} {vp vu : Value} {us : List Value} {xss : List (List Int)} {lo hi lo1 hi1 : Nat} [hp : PresP lo hi w vp p] [hu : Pc.Rows lo1 hi1 w vu us xss] (hus : xss = vecs ys) :
    Calls Try.prog 76 #[vp, vu] w (Ret fun v w' => v = .int .i64 (ordOf p ys) ∧ Ext w w') := by
  subst hus
  have hv := hc.valid
  have hn6 := hv.n6
  have hol : p.ord.length = p.n := rfl
  have hlen := hs.len
  have hvl : (vecs ys).length = ys.length := by simp
  obtain ⟨g, vo, vpw, vc, ps, cs, css, rfl, hg1, hg2, hc0, hc1, hc2, h1, h2, h3⟩ := hp.ex
  refine enter (args := [.pointer (some ⟨g, 0, none⟩), vu]) (l := [.tmp 4]) Try.func76 rfl rfl Try.ntmps76 (by simp) ?_
  refine go ?_
  refine rc (pivots_ok (xss := vecs ys) ?_ ?_) (next := fun v2 w2 h5 => ?_)
  · omega
  · intro i hi
    rw [vecs_getD ys (by omega), (ys[i]'(by omega)).inr.len]
    exact ⟨(hs.ok.lead1 _ (List.getElem_mem _)).1, by omega⟩
  obtain ⟨he2, hf2⟩ := h5
  have hpi := hf2.ints
  have hpl : ((vecs ys).map fun x => (lead x : Int)).length = ys.length := by simp
  have hpg : ∀ i (h : i < ys.length), ((vecs ys).map fun x => (lead x : Int)).getD i 0 = (lead (ys[i]).v : Int) := fun i h => by simp [vecs, h]
  refine go ?_
  refine r_for ys.length (fun k ρ w' => Has ρ [(0, .pointer (some ⟨g, 0, none⟩)), (5, .int .i64 (ordOf p (ys.take k))), (9, v2), (10, .int .i64 ((vecs ys).map fun x => (lead x : Int)).length), (11, .int .i64 k)] ∧ Ext w2 w') ?_ ?_
  · refine ⟨?_, Ext.refl _⟩
    exact hasP
  rintro k ρ w3 hk ⟨hH, he3⟩
  refine rwp_has hH fun ρ0 => ?_
  refine go ?_
  refine c_if (fun h4 => ?_) (fun h4 => ?_)
  · have hkn : k < ys.length := by omega
    have hpk := hpg k hkn
    obtain ⟨hdn, hy1⟩ := hs.ok.lead1 _ (List.getElem_mem hkn)
    obtain ⟨d, hd⟩ : ∃ d, lead (ys[k]).v = d := ⟨_, rfl⟩
    rw [hd] at hdn hpk
    have hod := hv.opos hdn
    have hr := ordOf_rng (k := k) (by omega) (by omega) fun y hy => (hs.ok.lead1 y hy).1
    have hm : 0 ≤ ordOf p (ys.take k) * p.o d ∧ ordOf p (ys.take k) * p.o d ≤ 117649 * 7 := ⟨Int.mul_nonneg (by omega) (by omega), Int.mul_le_mul hr.2 hod.2 (by omega) (by omega)⟩
    have hmb : -9223372036854775808 ≤ ordOf p (ys.take k) * p.o d ∧ ordOf p (ys.take k) * p.o d ≤ 9223372036854775807 := ⟨by omega, by omega⟩
    refine go ?_
    rw [hpk]
    refine go ?_
    rw [show p.ord.getD ((d : Int).toNat) 0 = p.o d from rfl]
    refine ra (h := rd_mul (by ((try simp only [ev_tmp, ev_const, ev_func, get_put, get_args, get_putL, get_putL_nil, Nat.reduceEqDiff, reduceIte, List.getD_cons_zero, List.getD_cons_succ, List.getD_nil]); first | done | with_reducible rfl)) (by ((try simp only [ev_tmp, ev_const, ev_func, get_put, get_args, get_putL, get_putL_nil, Nat.reduceEqDiff, reduceIte, List.getD_cons_zero, List.getD_cons_succ, List.getD_nil]); first | done | with_reducible rfl)) hmb) (next := ?_)
    refine go ?_
    refine forQ_normal (by omega) ⟨?_, he3⟩
    have ht := ordOf_take ys hkn
    rw [hd] at ht
    rw [ht]
    exact hasP
  · refine go ?_
    rw [show k = ys.length by omega, List.take_length]
    exact ret1 ⟨rfl, he2.trans he3⟩
end Go.Proofs.Ytgomfjhhfmhlgaa

/-
  Walks: the program's GeneratedSubgroup, ConjugateSubgroup, IsNormalSubgroup, SubgroupIndex, SubgroupDepths.
  Conditions: what the arguments read as.
-/
namespace Go.Proofs.Ytgomfjhhfmhlgaa
open Go Go.Pc
theorem ordOf_pos' {p : Pr} [hc : ConAll p] {ys : List (El p)} (hs : SeqEl ys) : 1 ≤ ordOf p ys ∧ ordOf p ys ≤ 117649 := by
  have h := ordOf_rng (ys := ys) (k := ys.length) (by have := hs.len; have := hc.valid.n6; omega) (Nat.le_refl _) fun y hy => (hs.ok.lead1 y hy).1
  rwa [List.take_length] at h
end Go.Proofs.Ytgomfjhhfmhlgaa

/-
  Walks: the program's CosetNumber, MemberElement, MemberExponents.
  Conditions: what the arguments read as.
-/
namespace Go.Proofs.Ytgomfjhhfmhlgaa
open Go Go.Pc
end Go.Proofs.Ytgomfjhhfmhlgaa

/-
  Walks: the program's order, index code, transversal; Transversal.
  Conditions: stated at each theorem.
-/
namespace Go.Proofs.Ytgomfjhhfmhlgaa
open Go Go.Pc
set_option maxHeartbeats 1000000 in
theorem orderOf_ok {p : Pr} (hv : Valid p) {w : World} {vp : Value} {lo hi : Nat} [hp : PresP lo hi w vp p] :
    Calls Try.prog 75 #[vp] w (Ret fun v w' => v = .int .i64 (ordL p (List.range p.n)) ∧ Ext w w') := by
  have hn6 := hv.n6
  have hol : p.ord.length = p.n := rfl
  have hrl : (List.range p.n).length = p.n := by simp
  obtain ⟨g, vo, vpw, vc, ps, cs, css, rfl, hg1, hg2, hc0, hc1, hc2, h1, h2, h3⟩ := hp.ex
  refine enter (args := [.pointer (some ⟨g, 0, none⟩)]) (l := [.tmp 2]) Try.func75 rfl rfl Try.ntmps75 (by simp) ?_
  refine go ?_
  refine r_for p.n (fun k ρ w' => Has ρ [(3, .int .i64 (ordL p ((List.range p.n).take k))), (9, vo), (10, .int .i64 p.ord.length), (11, .int .i64 k)] ∧ Ext w w') ?_ ?_
  · refine ⟨?_, Ext.refl _⟩
    exact hasP
  rintro k ρ w2 hk ⟨hH, he2⟩
  refine rwp_has hH fun ρ0 => ?_
  refine go ?_
  refine c_if (fun h4 => ?_) (fun h4 => ?_)
  · have hkn : k < p.n := by omega
    have hod := hv.opos hkn
    have hr := ordL_rng hv (l := List.range p.n) (fun d hd => List.mem_range.1 hd) (by omega) (k := k) (by omega)
    have hm : 0 ≤ ordL p ((List.range p.n).take k) * p.o k ∧ ordL p ((List.range p.n).take k) * p.o k ≤ 117649 * 7 := ⟨Int.mul_nonneg (by omega) (by omega), Int.mul_le_mul hr.2 hod.2 (by omega) (by omega)⟩
    have hmb : -9223372036854775808 ≤ ordL p ((List.range p.n).take k) * p.o k ∧ ordL p ((List.range p.n).take k) * p.o k ≤ 9223372036854775807 := ⟨by omega, by omega⟩
    have hst := ordL_take (p := p) (List.range p.n) (show k < (List.range p.n).length by omega)
    rw [show (List.range p.n).getD k 0 = k by simp [hkn]] at hst
    refine go ?_
    rw [show p.ord.getD k 0 = p.o k from rfl]
    refine ra (h := rd_mul (by ((try simp only [ev_tmp, ev_const, ev_func, get_put, get_args, get_putL, get_putL_nil, Nat.reduceEqDiff, reduceIte, List.getD_cons_zero, List.getD_cons_succ, List.getD_nil]); first | done | with_reducible rfl)) (by ((try simp only [ev_tmp, ev_const, ev_func, get_put, get_args, get_putL, get_putL_nil, Nat.reduceEqDiff, reduceIte, List.getD_cons_zero, List.getD_cons_succ, List.getD_nil]); first | done | with_reducible rfl)) hmb) (next := ?_)
    refine go ?_
    refine forQ_normal (by omega) ⟨?_, he2⟩
    rw [hst]
    exact hasP
  · refine go ?_
    have e : (List.range p.n).take k = List.range p.n := by rw [show k = p.n by omega, List.take_of_length_le (by omega)]
    rw [e]
    exact ret1 ⟨rfl, he2⟩
theorem ordL_all_rng' {p : Pr} (hv : Valid p) : 1 ≤ ordL p (List.range p.n) ∧ ordL p (List.range p.n) ≤ 117649 := by
  have hn6 := hv.n6
  have h := ordL_rng hv (l := List.range p.n) (fun d hd => List.mem_range.1 hd) (by simp; omega) (k := p.n) (by simp)
  rwa [List.take_of_length_le (by simp)] at h
theorem grow_one {e b : Nat} {w0 w1 w2 : World} {v u : Value} {xs : List Int} (ho : Own e b w2 v [u]) (hb : b = w1.heap.size) (hu : Fr w0.heap.size w1 u xs) (x0 : Ext w0 w1) (x : Ext w1 w2) : GrowL e w0.heap.size w2 v [(u, xs)] := by
  have hvb := ho.toN_block
  have h0 := x0.size
  have h1 := x.size
  refine ⟨⟨ho.toN.mono (by omega), ⟨rfl, fun i => ?_⟩, fun g hg => ?_, fun g hg => by omega⟩, ?_⟩
  · cases i with
    | zero =>
      have h : IntsAp (fun g => g < w0.heap.size ∨ v.ownBlock = some g) w1 u xs := ⟨w0.heap.size, w1.heap.size, hu.ints, Nat.le_refl _, fun g hg => by
        rcases hg with hg | hg
        · exact .inl hg
        · rw [hvb] at hg; injection hg with hg; exact .inr (by omega)⟩
      exact h.ext x
    | succ i => exact IntsAp.nil _ _
  · rw [hvb] at hg; injection hg with hg; omega
  · exact ((RowsO.nil w0.heap.size w0).cons x0 (Nat.le_refl _) hu).ext x
theorem take_flatMap {α β : Type} (L : List α) (f : α → List β) (z : α) {j : Nat} (hj : j < L.length) : (L.take (j + 1)).flatMap f = (L.take j).flatMap f ++ f (L.getD j z) := by
  rw [List.take_succ_eq_append_getElem hj, List.flatMap_append]; simp [hj]
end Go.Proofs.Ytgomfjhhfmhlgaa

/-
  Walks: the program's element with a number, all elements, subgroups of all elements with a property; Center.
  Conditions: stated at each theorem.
-/
namespace Go.Proofs.Ytgomfjhhfmhlgaa
open Go Go.Pc
set_option maxHeartbeats 2000000 in
theorem elementAt_ok {p : Pr} [hc : ConAll p] {t : Nat} (ht : t ≤ 1000000) {w : World} {vp : Value} {lo hi : Nat} [hp : PresP lo hi w vp p] :
    Calls Try.prog 184 #[vp, .int .i64 t] w (Ret fun v w' => Ext w w' ∧ Fr w.heap.size w' v (allE p t).v) := by
  have hv := hc.valid
  have hn6 := hv.n6
  have hol : p.ord.length = p.n := rfl
  rw [allE_val]
  obtain ⟨l, hl⟩ : ∃ l, List.range p.n = l := ⟨_, rfl⟩
  have hll : l.length = p.n := by rw [← hl]; simp
  have hlt : ∀ d, d ∈ l → d < p.n := fun d hd => by rw [← hl] at hd; exact List.mem_range.1 hd
  have hnd : l.Nodup := by rw [← hl]; exact List.nodup_range
  have hlg : ∀ i, i < p.n → l.getD i 0 = i := fun i hi => by rw [← hl]; simp [hi]
  rw [hl]
  replace hp := hp.wide
  obtain ⟨g, vo, vpw, vc, ps, cs, css, rfl, hg1, hg2, hc0, hc1, hc2, h1, h2, h3⟩ := hp.ex
  refine enter (args := [.pointer (some ⟨g, 0, none⟩), .int .i64 t]) (l := [.tmp 4]) Try.func184 rfl rfl Try.ntmps184 (by simp) ?_
  refine go ?_
  refine st_make_int (by ((try simp only [ev_tmp, ev_const, ev_func, get_put, get_args, get_putL, get_putL_nil, Nat.reduceEqDiff, reduceIte, List.getD_cons_zero, List.getD_cons_succ, List.getD_nil]); first | done | with_reducible rfl)) (by ((try simp only [ev_tmp, ev_const, ev_func, get_put, get_args, get_putL, get_putL_nil, Nat.reduceEqDiff, reduceIte, List.getD_cons_zero, List.getD_cons_succ, List.getD_nil]); first | done | with_reducible rfl)) (by omega) (by omega) (by first | exact True.intro | exact ⟨_, rfl, by ((try simp only [ev_tmp, ev_const, ev_func, get_put, get_args, get_putL, get_putL_nil, Nat.reduceEqDiff, reduceIte, List.getD_cons_zero, List.getD_cons_succ, List.getD_nil, Bool.not_true, Bool.not_false]); first | done | with_reducible rfl)⟩) fun w2 v2 he2 hs2 ho2 => ?_
  have hz2 := he2.size
  have hzz : List.replicate p.ord.length (0 : Int) = zeros p.n := rfl
  rw [hzz] at ho2
  have hzl := zeros_len p.n
  have ap1 : Apart 0 w.heap.size w.heap.size := ⟨.inr (Nat.le_refl _)⟩
  have hgs : g + 1 ≤ w.heap.size := by have := hc0.lt; omega
  have ap2 : Apart g (g + 1) w.heap.size := ⟨.inr hgs⟩
  refine go ?_
  refine r_for p.n (fun k ρ w' => ∃ (tk : Int) (xs : List Int), Has ρ [(0, .pointer (some ⟨g, 0, none⟩)), (1, .int .i64 tk), (5, v2), (6, .int .i64 (p.n - 1 - k))] ∧ Chg w.heap.size w2 w' ∧ OwnI 2 w.heap.size w' v2 xs ∧ xs.length = p.n ∧ 0 ≤ tk ∧ tk ≤ 1000000 ∧ fillTo p l (p.n - k) tk xs = elTo p l l.length t) ?_ ?_
  · refine ⟨t, zeros p.n, ?_, Chg.refl _ _, ho2, hzl, by omega, by omega, ?_⟩
    · exact hasP
    · have := fill_eq hnd hlt (t : Int)
      rwa [hll] at this ⊢
  clear ho2
  rintro k ρ w4 hk ⟨tk, xs, hH, hch4, ho4, hxl, ht0, ht1, hfill⟩
  refine rwp_has hH fun ρ0 => ?_
  refine go ?_
  refine c_if (fun h4 => ?_) (fun h4 => ?_)
  · have hkn : k < p.n := by omega
    obtain ⟨i, hi⟩ : ∃ i, p.n - 1 - k = i := ⟨_, rfl⟩
    have hil : i < p.n := by omega
    have hcast : ((p.n : Int) - 1 - k) = (i : Int) := by omega
    have hod := hv.opos hil
    have hmod : 0 ≤ tk % p.o i ∧ tk % p.o i < p.o i := ⟨Int.emod_nonneg _ (by omega), Int.emod_lt_of_pos _ (by omega)⟩
    have hdiv : 0 ≤ tk / p.o i ∧ tk / p.o i ≤ 1000000 := ⟨Int.ediv_nonneg ht0 (by omega), Int.le_trans (Int.ediv_le_self _ ht0) ht1⟩
    have hstep : fillTo p l (p.n - (k + 1)) (tk / p.o i) (xs.set i (tk % p.o i)) = elTo p l l.length t := by
      rw [← hfill, show p.n - k = i + 1 by omega, show p.n - (k + 1) = i by omega]
      show _ = fillTo p l i (tk / p.o (l.getD i 0)) (xs.set (l.getD i 0) (tk % p.o (l.getD i 0)))
      rw [hlg i hil]
    rw [hcast]
    refine go ?_
    first
      | rw [show p.ord.getD i 0 = p.o i from rfl]
      | rw [show p.ord.getD ((i : Int).toNat) 0 = p.o i from rfl]
    refine go ?_
    refine st_store_int (h := ho4) (by ((try simp only [ev_tmp, ev_const, ev_func, get_put, get_args, get_putL, get_putL_nil, Nat.reduceEqDiff, reduceIte, List.getD_cons_zero, List.getD_cons_succ, List.getD_nil]); first | done | with_reducible rfl)) (by ((try simp only [ev_tmp, ev_const, ev_func, get_put, get_args, get_putL, get_putL_nil, Nat.reduceEqDiff, reduceIte, List.getD_cons_zero, List.getD_cons_succ, List.getD_nil]); first | done | with_reducible rfl)) ?_ (by first | exact True.intro | exact ⟨_, rfl, by ((try simp only [ev_tmp, ev_const, ev_func, get_put, get_args, get_putL, get_putL_nil, Nat.reduceEqDiff, reduceIte, List.getD_cons_zero, List.getD_cons_succ, List.getD_nil, Bool.not_true, Bool.not_false]); first | done | with_reducible rfl)⟩) fun w6 hc6 hs6 ho6 => ?_
    · omega
    have hch6 : Chg w.heap.size w2 w6 := hch4.trans hc6
    clear hch4 hc6 ho4
    refine go ?_
    first
      | rw [show p.ord.getD i 0 = p.o i from rfl]
      | rw [show p.ord.getD ((i : Int).toNat) 0 = p.o i from rfl]
    refine go ?_
    refine forQ_normal (by omega) ⟨tk / p.o i, _, ?_, hch6, ho6, by simp [hxl], hdiv.1, hdiv.2, hstep⟩
    exact hasP
  · refine go ?_
    obtain rfl : k = p.n := by omega
    rw [Nat.sub_self] at hfill
    have hx : xs = elTo p l l.length t := hfill
    refine ret1 ⟨hch4.ext he2 (Nat.le_refl _), ?_⟩
    rw [← hx]
    exact ho4.toFr (Nat.le_refl _)
set_option maxHeartbeats 2000000 in
theorem allElements_ok {p : Pr} [hc : ConAll p] {w : World} {vp : Value} {lo hi : Nat} [hp : PresP lo hi w vp p] :
    Calls Try.prog 153 #[vp] w (Ret fun v w' => Ext w w' ∧ ∃ rs, vecs ((List.range (ordN p)).map (allE p)) = rs.map (·.2) ∧ MatO w.heap.size w'.heap.size w' v rs) := by
  have hv := hc.valid
  obtain ⟨hoe, ho1, ho2⟩ := ordN_rng p
  have hpw := hp.wide
  refine enter (args := [vp]) (l := [.tmp 2]) Try.func153 rfl rfl Try.ntmps153 (by simp) ?_
  refine go ?_
  refine rc (orderOf_ok (p := p) hv) (next := fun v2 w2 h4 => ?_)
  obtain ⟨rfl, he2⟩ := h4
  rw [hoe]
  have hz2 := he2.size
  refine go ?_
  refine r_for (ordN p) (fun k ρ w' => ∃ vl rs, Has ρ [(0, vp), (3, vl), (6, .int .i64 (ordN p)), (7, .int .i64 k)] ∧ Ext w2 w' ∧ GrowL 22 w2.heap.size w' vl rs ∧ rs.map (·.2) = vecs ((List.range k).map (allE p))) ?_ ?_
  · refine ⟨nilv, [], ?_, Ext.refl _, GrowL.nil _ _ _ (Nat.le_refl _), by simp⟩
    exact hasP
  rintro k ρ w3 hk ⟨vl, rs, hH, he3, hG, hrs⟩
  refine rwp_has hH fun ρ0 => ?_
  have hz3 := he3.size
  have hrl : rs.length = k := by have := congrArg List.length hrs; simp at this; omega
  have hE3 := he2.trans he3
  refine go ?_
  refine c_if (fun h4 => ?_) (fun h4 => ?_)
  · refine go ?_
    refine rc (elementAt_ok (p := p) (t := k) (by omega)) (next := fun v4 w4 h5 => ?_)
    obtain ⟨he4, hf4⟩ := h5
    refine go ?_
    refine st_grow hG he4 hf4 hz3 (by omega) (next := fun v6 v7 w7 hG7 hx7 hz7 hgs7 => ?_)
    refine go ?_
    refine forQ_normal (by omega) ⟨v7, _, ?_, hx7 w2 (he3.trans he4) (Nat.le_refl _), hG7, ?_⟩
    · exact hasP
    · rw [List.range_succ, List.map_append, List.map_append, hrs]; simp
  · obtain rfl : k = ordN p := by omega
    refine go ?_
    exact ret1 ⟨hE3, rs, hrs.symm, hG.mat.lower hz2⟩
set_option maxHeartbeats 4000000 in
theorem elementsWith_ok {f : FuncId} {caps : Array Value} [hf : FnT Try.prog f] {p : Pr} [hcon : ConAll p] {P : El p → Prop} {w : World} {vp : Value} {lo hi : Nat} [hp : PresP lo hi w vp p]
    (hcall : ∀ {w' : World} {vx : Value} {lo' hi' : Nat} {xs : List Int}, Ext w w' → ∀ x : El p, Ints lo' hi' w' vx xs → xs = x.v → Calls Try.prog f (#[vx] ++ caps) w' (Ret fun r w'' => ∃ b, r = .bool b ∧ (b = true ↔ P x) ∧ Ext w' w'')) :
    Calls Try.prog 110 #[vp, .func (.func f) #[] caps] w (Ret fun v w' => Ext w w' ∧ ∃ rs, canon (Gen (fun a : El p => P a)) = rs.map (·.2) ∧ MatO w.heap.size w'.heap.size w' v rs) := by
  have hn6 := hcon.valid.n6
  obtain ⟨hoe, ho1, ho2⟩ := ordN_rng p
  replace hp := hp.wide
  refine enter (args := [vp, .func (.func f) #[] caps]) (l := [.tmp 4]) Try.func110 rfl rfl Try.ntmps110 (by simp) ?_
  refine go ?_
  refine rc (newSequence_ok (p := p) hn6) (next := fun v1 w1 h1 => ?_)
  obtain ⟨st, vt, rfl, he1, hc0, hc1, hst, hvt, ho⟩ := h1
  have hz1 := he1.size
  have hq : SeqAt st w.heap.size w.heap.size (fun _ => False) w1 vp vt (fun _ => none : Tab p) := by
    refine ⟨hc0, hc1, by omega, hvt, List.replicate p.n nilv, ?_, fun d hd _ => ?_⟩
    · rw [tabL_none]
      exact Lst.ofNils ho (Nat.le_refl _) (fun h => h) (fun g h => h.elim)
    · rw [List.getD_eq_getElem?_getD, List.getElem?_replicate]; split <;> rfl
  have hap : Apart 0 w.heap.size w.heap.size := ⟨.inr (Nat.le_refl _)⟩
  have hz11 : w.heap.size + 1 ≤ w1.heap.size := by have := ho.lt; omega
  clear hc0 hc1 ho
  refine go ?_
  refine rc (allElements_ok (p := p)) (next := fun v2 w2 h2 => ?_)
  obtain ⟨he2, rs2, hrs2, hM2⟩ := h2
  have hR2 := hM2.rows
  rw [← hrs2] at hR2
  have hE2 := he1.trans he2
  have hz2 := he2.size
  have hvl : (vecs ((List.range (ordN p)).map (allE p))).length = ordN p := by simp
  have hq2 := hq.ext he2
  clear hq
  refine go ?_
  refine r_for (ordN p) (fun k ρ w' => ∃ (t : Tab p) (S : El p → Prop), Has ρ [(0, vp), (1, .func (.func f) #[] caps), (5, .pointer (some ⟨st, 0, none⟩)), (11, v2), (12, .int .i64 (ordN p)), (13, .int .i64 k)] ∧ Chg w.heap.size w2 w' ∧ SeqAt st w.heap.size w.heap.size (fun _ => False) w' vp vt t ∧ Wk S t (fun _ => False) ∧ ∀ a, S a ↔ a ∈ selL P k) ?_ ?_
  · refine ⟨fun _ => none, fun _ => False, ?_, Chg.refl _ _, hq2, Wk.none, fun a => by simp [selL]⟩
    exact hasP
  clear hq2
  rintro k ρ w3 hk ⟨t, S, hH, hch3, hq3, hW3, hS3⟩
  refine rwp_has hH fun ρ0 => ?_
  have hE3 : Ext w w3 := hch3.ext hE2 (Nat.le_refl _)
  have hz3 := hch3.size
  have hR3 : Pc.Rows w1.heap.size w2.heap.size w3 v2 _ _ := hR2.same (hch3.same (.inl (by omega)))
  refine go ?_
  refine c_if (fun h4 => ?_) (fun h4 => ?_)
  · have hkn : k < ordN p := by omega
    have hxk : (vecs ((List.range (ordN p)).map (allE p))).getD k [] = (allE p k).v := by
      rw [vecs_getD _ (by simpa using hkn)]; simp
    have hxi : Ints w1.heap.size w2.heap.size w3 (Pc.rowAt v2 (rs2.map fun x : Value × List Int => x.1) k) ((vecs ((List.range (ordN p)).map (allE p))).getD k []) := hR3.vals.at_ k
    refine go ?_
    refine rc (hcall hE3 (allE p k) hxi hxk) (ho := cl_clo (by ((try simp only [ev_tmp, ev_const, ev_func, get_put, get_args, get_putL, get_putL_nil, Nat.reduceEqDiff, reduceIte, List.getD_cons_zero, List.getD_cons_succ, List.getD_nil]); first | done | with_reducible rfl)) (by simp only [List.map_toArray, List.map_cons, List.map_nil, ev_tmp, ev_const, ev_func, get_put, get_args, get_putL, get_putL_nil, Nat.reduceEqDiff, reduceIte, List.getD_cons_zero, List.getD_cons_succ, List.getD_nil])) (next := fun v5 w5 h5 => ?_)
    obtain ⟨b5, rfl, hb5, he5⟩ := h5
    have hq5 := hq3.ext he5
    have hch5 := hch3.grow he5
    have hxi5 : Ints w1.heap.size w2.heap.size w5 (Pc.rowAt v2 (rs2.map (·.1)) k) (allE p k).v := by rw [← hxk]; exact hxi.same (he5.same _ _)
    clear hq3 hch3
    refine go ?_
    refine c_b (fun e5 => ?_) (fun e5 => ?_)
    · refine go ?_
      refine st_slice1 (u := Pc.rowAt v2 (rs2.map (·.1)) k) (by ((try simp only [ev_tmp, ev_const, ev_func, get_put, get_args, get_putL, get_putL_nil, Nat.reduceEqDiff, reduceIte, List.getD_cons_zero, List.getD_cons_succ, List.getD_nil]); first | done | with_reducible rfl)) hxi5.sl.cells rfl (by first | exact True.intro | exact ⟨_, rfl, by ((try simp only [ev_tmp, ev_const, ev_func, get_put, get_args, get_putL, get_putL_nil, Nat.reduceEqDiff, reduceIte, List.getD_cons_zero, List.getD_cons_succ, List.getD_nil, Bool.not_true, Bool.not_false]); first | done | with_reducible rfl)⟩) fun w6 v6 he6 hs6 hsl6 => ?_
      have hq6 := hq5.ext he6
      have hch6 := hch5.grow he6
      have hz6 := hch6.size
      have hxi6 : Ints w1.heap.size w2.heap.size w6 (Pc.rowAt v2 (rs2.map (·.1)) k) (allE p k).v := hxi5.same (he6.same _ _)
      have hr6 : RowsAp (fun g => g = w.heap.size) w6 [Pc.rowAt v2 (rs2.map (·.1)) k] (vecs [allE p k]) := by
        refine ⟨rfl, fun i => ?_⟩
        cases i with
        | zero => exact ⟨w1.heap.size, w2.heap.size, hxi6, by omega, fun g hg => .inl (by omega)⟩
        | succ i => exact IntsAp.nil _ _
      refine go ?_
      refine rc (add_ok (p := p) (S := S) (by omega) hq6 hW3 hr6 (by simp)) (next := fun v7 w7 h7 => ?_)
      obtain ⟨bg7, t7, rfl, hch7, hq7, hW7, _⟩ := h7
      refine go ?_
      refine forQ_normal (by omega) ⟨t7, _, ?_, hch6.trans hch7, hq7, hW7, fun a => ?_⟩
      · exact hasP
      · rw [selL_yes (hb5.1 e5), List.mem_append, hS3]
    · refine go ?_
      refine forQ_normal (by omega) ⟨t, S, ?_, hch5, hq5, hW3, fun a => ?_⟩
      · exact hasP
      · rw [selL_no (fun h => by rw [hb5.2 h] at e5; cases e5), hS3]
  · obtain rfl : k = ordN p := by omega
    have hgen := hW3.gen (fun _ h => h)
    have hfull := hW3.full (fun _ h => h)
    have hSP : S = fun a => P a := by
      have h := selL_all P
      funext a
      exact propext ((hS3 a).trans (by rw [← congrFun h a]))
    refine go ?_
    refine rc (canonicalM_ok (p := p) hfull hq3) (next := fun v9 w9 h9 => ?_)
    obtain ⟨he9, rs9, hrs9, hM9⟩ := h9
    rw [hgen, hSP] at hrs9
    refine go ?_
    exact ret1 ⟨hE3.trans he9, rs9, hrs9, hM9.lower hE3.size⟩
set_option maxHeartbeats 2000000 in
theorem centerFn_ok {p : Pr} [hc : ConAll p] {ys : List (El p)} (hs : SeqEl ys) {w : World} {vp vu vx : Value} {us : List Value} {xss : List (List Int)} {x : El p} {xs : List Int} {bp bu lo hi lo1 hi1 lo2 hi2 : Nat} [hp : PresP lo hi w vp p] [hu : Pc.Rows lo1 hi1 w vu us xss] [hx : Ints lo2 hi2 w vx xs] [hcp : Cell w bp 0 vp] [hcu : Cell w bu 0 vu] (hus : xss = vecs ys) (hxe : xs = x.v) :
    Calls Try.prog 118 #[vx, .pointer (some ⟨bp, 0, none⟩), .pointer (some ⟨bu, 0, none⟩)] w (Ret fun v w' => ∃ b, v = .bool b ∧ (b = true ↔ AbP ys x) ∧ Ext w w') := by
  have hn6 := hc.valid.n6
  have hgl := gensL_len p
  refine enter (args := [vx, .pointer (some ⟨bp, 0, none⟩), .pointer (some ⟨bu, 0, none⟩)]) (l := [.tmp 4]) Try.func118 rfl rfl Try.ntmps118 (by simp) ?_
  refine go ?_
  refine rc (generators_ok (p := p)) (next := fun v2 w2 h4 => ?_)
  obtain ⟨he2, rs2, hrs2, hM2⟩ := h4
  have hR2 := hM2.rows
  rw [← hrs2] at hR2
  have hvl : (vecs (gensL p)).length = p.n := by simp [hgl]
  refine go ?_
  refine r_for p.n (fun k ρ w' => Has ρ [(0, vx), (1, .pointer (some ⟨bp, 0, none⟩)), (2, .pointer (some ⟨bu, 0, none⟩)), (8, v2), (9, .int .i64 (vecs (gensL p)).length), (10, .int .i64 k)] ∧ Ext w2 w' ∧ ∀ j (h : j < (gensL p).length), j < k → Gen (fun a : El p => a ∈ ys) (Grp.cm x (gensL p)[j])) ?_ ?_
  · refine ⟨?_, Ext.refl _, fun j _ hj => by omega⟩
    exact hasP
  rintro k ρ w3 hk ⟨hH, he3, hI⟩
  refine rwp_has hH fun ρ0 => ?_
  have hE3 := he2.trans he3
  refine go ?_
  refine c_if (fun h4 => ?_) (fun h4 => ?_)
  · have hkn : k < (gensL p).length := by omega
    have hgk := vecs_getD (gensL p) hkn
    refine go ?_
    refine d_order [0, 1, 2, 3, 4, 5, 6, 7] (h := fun w4 he4 _ => ?_)
    refine dgo ?_
    refine dce (commutator_ok (p := p) (i := 0) (x := x) (y := (gensL p)[k]) (Nat.zero_le _) hxe hgk) (next := fun v5 w5 h5 => ?_)
    obtain ⟨he5, hf5⟩ := h5
    refine dce (isMember_ok (p := p) (x := Grp.cm x (gensL p)[k]) hs hus rfl) (next := fun v6 w6 h6 => ?_)
    obtain ⟨b6, rfl, hb6, he6⟩ := h6
    refine dgo ?_
    refine d_end (h := ?_)
    have hE6 := ((he4.trans he5).trans he6)
    refine go ?_
    refine c_b (fun e6 => ?_) (fun e6 => ?_)
    · refine go ?_
      refine ret1 ⟨false, rfl, ?_, hE3.trans hE6⟩
      simp only [Bool.false_eq_true, false_iff]
      intro h
      rw [hb6.2 (h k hkn)] at e6; cases e6
    · have hb : b6 = true := by simpa using e6
      refine go ?_
      refine forQ_normal (by omega) ⟨?_, he3.trans hE6, fun j hj hjk => ?_⟩
      · exact hasP
      · by_cases e : j = k
        · subst e; exact hb6.1 hb
        · exact hI j hj (by omega)
  · refine go ?_
    exact ret1 ⟨true, rfl, ⟨fun _ j hj => hI j hj (by omega), fun _ => rfl⟩, hE3⟩
set_option maxHeartbeats 2000000 in
theorem centerAbove_ok {p : Pr} [hc : ConAll p] {ys : List (El p)} (hs : SeqEl ys) {w : World} {vp vu : Value} {us : List Value} {xss : List (List Int)} {lo hi lo1 hi1 : Nat} [hp : PresP lo hi w vp p] [hu : Pc.Rows lo1 hi1 w vu us xss] (hus : xss = vecs ys) :
    Calls Try.prog 77 #[vp, vu] w (Ret fun v w' => Ext w w' ∧ ∃ rs, canon (Gen (fun a : El p => AbP ys a)) = rs.map (·.2) ∧ MatO w.heap.size w'.heap.size w' v rs) := by
  have hpc : vp.cells = #[vp] := by obtain ⟨g, _, _, _, _, _, _, rfl, _⟩ := hp.ex; rfl
  refine enter (args := [vp, vu]) (l := [.tmp 4]) Try.func77 rfl rfl Try.ntmps77 (by simp) ?_
  refine go ?_
  refine st_box1 (v := vp) (by ((try simp only [ev_tmp, ev_const, ev_func, get_put, get_args, get_putL, get_putL_nil, Nat.reduceEqDiff, reduceIte, List.getD_cons_zero, List.getD_cons_succ, List.getD_nil]); first | done | with_reducible rfl)) hpc (by first | exact True.intro | exact ⟨_, rfl, by ((try simp only [ev_tmp, ev_const, ev_func, get_put, get_args, get_putL, get_putL_nil, Nat.reduceEqDiff, reduceIte, List.getD_cons_zero, List.getD_cons_succ, List.getD_nil, Bool.not_true, Bool.not_false]); first | done | with_reducible rfl)⟩) fun w1 bp he1 hb1 hs1 hbk1 => ?_
  have hcp := hbk1.cell (k := 0) rfl
  refine go ?_
  refine st_box1 (v := vu) (by ((try simp only [ev_tmp, ev_const, ev_func, get_put, get_args, get_putL, get_putL_nil, Nat.reduceEqDiff, reduceIte, List.getD_cons_zero, List.getD_cons_succ, List.getD_nil]); first | done | with_reducible rfl)) hu.sl.cells (by first | exact True.intro | exact ⟨_, rfl, by ((try simp only [ev_tmp, ev_const, ev_func, get_put, get_args, get_putL, get_putL_nil, Nat.reduceEqDiff, reduceIte, List.getD_cons_zero, List.getD_cons_succ, List.getD_nil, Bool.not_true, Bool.not_false]); first | done | with_reducible rfl)⟩) fun w2 bu he2 hb2 hs2 hbk2 => ?_
  have hcu := hbk2.cell (k := 0) rfl
  have hE2 := he1.trans he2
  have hcp2 : Cell w2 bp 0 vp := hcp.same (he2.same _ _) he2.size
  refine go ?_
  refine ra (h := rd_makeFunc (caps := #[.pointer (some ⟨bp, 0, none⟩), .pointer (some ⟨bu, 0, none⟩)]) (by simp only [List.map_toArray, List.map_cons, List.map_nil, ev_tmp, ev_const, ev_func, get_put, get_args, get_putL, get_putL_nil, Nat.reduceEqDiff, reduceIte, List.getD_cons_zero, List.getD_cons_succ, List.getD_nil])) (next := ?_)
  refine go ?_
  refine rc (elementsWith_ok (p := p) (P := AbP ys) (fun {w'} {vx} {lo'} {hi'} {xs} x0 x hx hxe => ?_)) (next := fun v3 w3 h3 => ?_)
  · have hx' := hE2.trans x0
    haveI : Ints lo' hi' w' vx xs := hx
    haveI : Cell w' bp 0 vp := hcp2.same (x0.same _ _) x0.size
    haveI : Cell w' bu 0 vu := hcu.same (x0.same _ _) x0.size
    haveI : Pc.Rows lo1 hi1 w' vu us xss := hu.same (hx'.same _ _)
    haveI : PresP lo hi w' vp p := hp.same (hx'.same _ _) hx'.size
    exact centerFn_ok (p := p) (x := x) hs hus hxe
  obtain ⟨he3, rs3, hrs3, hM3⟩ := h3
  refine go ?_
  exact ret1 ⟨hE2.trans he3, rs3, hrs3, hM3.lower hE2.size⟩
end Go.Proofs.Ytgomfjhhfmhlgaa

/-
  Walks: the program's DerivedSeries, LowerCentralSeries, UpperCentralSeries.
  Conditions: stated at each theorem.
-/
namespace Go.Proofs.Ytgomfjhhfmhlgaa
open Go Go.Pc
set_option maxHeartbeats 1000000 in
theorem derivedFn_ok {p : Pr} [hc : ConAll p] {ys : List (El p)} (hs : SeqEl ys) {w : World} {vp vx : Value} {us : List Value} {xss : List (List Int)} {lo hi lo1 hi1 : Nat} [hp : PresP lo hi w vp p] [hx : Pc.Rows lo1 hi1 w vx us xss] (hxe : xss = vecs ys) :
    Calls Try.prog 60 #[vx, vp] w (Ret fun r w' => Ext w w' ∧ ∃ rs, vecs (derF ys) = rs.map (·.2) ∧ MatO w.heap.size w'.heap.size w' r rs) := by
  have hn6 := hc.valid.n6
  have hsl := hs.len
  refine enter (args := [vx, vp]) (l := [.tmp 3]) Try.func60 rfl rfl Try.ntmps60 (by simp) ?_
  refine go ?_
  refine rc (commutatorSubgroup_ok (p := p) (ys := ys) (zs := ys) (by omega) (by omega) hxe hxe) (next := fun v3 w3 h3 => ?_)
  obtain ⟨he3, rs3, hrs3, hM3⟩ := h3
  rw [derF_vecs] at hrs3
  refine go ?_
  exact ret1 ⟨he3, rs3, hrs3, hM3⟩
set_option maxHeartbeats 1000000 in
theorem impl_DerivedSeries_ok {p : Pr} {w : World} {vp : Value} {lo hi : Nat} [hp : Pres lo hi w vp p] (hl : p.ord.length ≤ 2000000) :
    Calls Try.prog 18 #[vp] w (Ret fun v w' => ∃ (u : Value) (k : List (List (List Int))) (e : Int), v = .tuple #[u, .int .i64 e] ∧ Ans (IsGrp p) (SrV p (DerC p)) [] k e ∧ Ext w w' ∧ ∃ gs : List (Value × List (Value × List Int)), k = (gs.map fun q => q.2.map (·.2)) ∧ MatC w.heap.size w'.heap.size w' u gs) := by
  obtain ⟨vo, vpw, vc, ps, cs, css, rfl, h1, h2, h3⟩ := hp.ex
  refine enter (args := [.agg #[vo, vpw, vc]]) (l := [.tmp 2, .tmp 3]) Try.func18 rfl rfl Try.ntmps18 (by simp) ?_
  refine go ?_
  refine st_box3 (by ((try simp only [ev_tmp, ev_const, ev_func, get_put, get_args, get_putL, get_putL_nil, Nat.reduceEqDiff, reduceIte, List.getD_cons_zero, List.getD_cons_succ, List.getD_nil]); first | done | with_reducible rfl)) (by first | exact True.intro | exact ⟨_, rfl, by ((try simp only [ev_tmp, ev_const, ev_func, get_put, get_args, get_putL, get_putL_nil, Nat.reduceEqDiff, reduceIte, List.getD_cons_zero, List.getD_cons_succ, List.getD_nil, Bool.not_true, Bool.not_false]); first | done | with_reducible rfl)⟩) fun w1 b he1 hb1 hs1 hc0 hc1 hc2 => ?_
  have hpp := hp.boxed he1 hc0 hc1 hc2
  refine go ?_
  refine rc (impl_IsConsistent_ok (p := p) hl) (next := fun v5 w5 h5 => ?_)
  obtain ⟨b5, rfl, hb5, he5⟩ := h5
  have hE5 := he1.trans he5
  refine go ?_
  refine c_b (fun e5 => ?_) (fun e5 => ?_)
  · refine go ?_
    refine ret2 ⟨nilv, [], 1, rfl, .inr ⟨fun h => ?_, rfl, rfl⟩, hE5, [], rfl, MatC.nilR _ _ _ hE5.size⟩
    rw [hb5.2 h] at e5; cases e5
  have hG := hb5.1 (by simpa using e5)
  haveI : ConAll p := ⟨hG.con⟩
  have hpp5 : PresP 0 w5.heap.size w5 (.pointer (some ⟨b, 0, none⟩)) p := PresP.wide inferInstance
  refine go ?_
  refine rc (whole_ok (p := p)) (next := fun v2 w2 h2 => ?_)
  obtain ⟨he2, rs2, hrs2, hM2⟩ := h2
  have hz2 := he2.size
  refine go ?_
  refine ra (h := rd_makeFunc (caps := #[.pointer (some ⟨b, 0, none⟩)]) (by simp only [List.map_toArray, List.map_cons, List.map_nil, ev_tmp, ev_const, ev_func, get_put, get_args, get_putL, get_putL_nil, Nat.reduceEqDiff, reduceIte, List.getD_cons_zero, List.getD_cons_succ, List.getD_nil])) (next := ?_)
  refine go ?_
  refine rc (series_ok (p := p) serOk_der hz2 hM2 hrs2 (fun {w'} {vx} {lo'} {hi'} {us} {xss} x0 ys hsy hx hxe => ?_)) (next := fun v3 w3 h3 => ?_)
  · haveI : Pc.Rows lo' hi' w' vx us xss := hx
    haveI : PresP 0 w5.heap.size w' (.pointer (some ⟨b, 0, none⟩)) p := hpp5.same ((he2.trans x0).same _ _) (he2.trans x0).size
    exact derivedFn_ok (p := p) (vp := .pointer (some ⟨b, 0, none⟩)) hsy hxe
  obtain ⟨he3, K, gs, hK, hgs, hM3⟩ := h3
  refine go ?_
  exact ret2 ⟨v3, _, 0, rfl, .inl ⟨hG, ⟨inferInstance, K, hK, rfl, rfl⟩⟩, (hE5.trans he2).trans he3, gs, hgs.symm, hM3.lower hE5.size⟩
set_option maxHeartbeats 1000000 in
theorem impl_LowerCentralSeries_ok {p : Pr} {w : World} {vp : Value} {lo hi : Nat} [hp : Pres lo hi w vp p] (hl : p.ord.length ≤ 2000000) :
    Calls Try.prog 24 #[vp] w (Ret fun v w' => ∃ (u : Value) (k : List (List (List Int))) (e : Int), v = .tuple #[u, .int .i64 e] ∧ Ans (IsGrp p) (SrV p (LowC p)) [] k e ∧ Ext w w' ∧ ∃ gs : List (Value × List (Value × List Int)), k = (gs.map fun q => q.2.map (·.2)) ∧ MatC w.heap.size w'.heap.size w' u gs) := by
  obtain ⟨vo, vpw, vc, ps, cs, css, rfl, h1, h2, h3⟩ := hp.ex
  refine enter (args := [.agg #[vo, vpw, vc]]) (l := [.tmp 2, .tmp 3]) Try.func24 rfl rfl Try.ntmps24 (by simp) ?_
  refine go ?_
  refine st_box3 (by ((try simp only [ev_tmp, ev_const, ev_func, get_put, get_args, get_putL, get_putL_nil, Nat.reduceEqDiff, reduceIte, List.getD_cons_zero, List.getD_cons_succ, List.getD_nil]); first | done | with_reducible rfl)) (by first | exact True.intro | exact ⟨_, rfl, by ((try simp only [ev_tmp, ev_const, ev_func, get_put, get_args, get_putL, get_putL_nil, Nat.reduceEqDiff, reduceIte, List.getD_cons_zero, List.getD_cons_succ, List.getD_nil, Bool.not_true, Bool.not_false]); first | done | with_reducible rfl)⟩) fun w1 b he1 hb1 hs1 hc0 hc1 hc2 => ?_
  have hpp := hp.boxed he1 hc0 hc1 hc2
  refine go ?_
  refine rc (impl_IsConsistent_ok (p := p) hl) (next := fun v5 w5 h5 => ?_)
  obtain ⟨b5, rfl, hb5, he5⟩ := h5
  have hE5 := he1.trans he5
  refine go ?_
  refine c_b (fun e5 => ?_) (fun e5 => ?_)
  · refine go ?_
    refine ret2 ⟨nilv, [], 1, rfl, .inr ⟨fun h => ?_, rfl, rfl⟩, hE5, [], rfl, MatC.nilR _ _ _ hE5.size⟩
    rw [hb5.2 h] at e5; cases e5
  have hG := hb5.1 (by simpa using e5)
  haveI : ConAll p := ⟨hG.con⟩
  have hpp5 : PresP 0 w5.heap.size w5 (.pointer (some ⟨b, 0, none⟩)) p := PresP.wide inferInstance
  refine go ?_
  refine rc (lowerCentral_ok (p := p)) (next := fun v3 w3 h3 => ?_)
  obtain ⟨he3, K, gs, hK, hgs, hM3⟩ := h3
  refine go ?_
  exact ret2 ⟨v3, _, 0, rfl, .inl ⟨hG, ⟨inferInstance, K, hK, rfl, rfl⟩⟩, hE5.trans he3, gs, hgs.symm, hM3.lower hE5.size⟩
end Go.Proofs.Ytgomfjhhfmhlgaa

/-
  Walks: the check of marks on lists of lists of lists (heldInt64SSS); sizes of series.
  Conditions: stated at each theorem.
-/
namespace Go.Proofs.Ytgomfjhhfmhlgaa
open Go Go.Pc
def markC (k : Int) : List (List (List Int)) → List (List (List Int))
  | [] => []
  | x :: l => markL k x :: markC (k + tot x) l
def mkC (k : Int) : List (Value × List (Value × List Int)) → List (Value × List (Value × List Int))
  | [] => []
  | q :: l => (q.1, mkR k q.2) :: mkC (k + tot (q.2.map (·.2))) l
theorem mkC_fst : ∀ (gs : List (Value × List (Value × List Int))) (k : Int), (mkC k gs).map (·.1) = gs.map (·.1)
  | [], _ => rfl
  | q :: l, k => by simp [mkC, mkC_fst l]
theorem mkC_mid : ∀ (gs : List (Value × List (Value × List Int))) (k : Int), ((mkC k gs).map fun q => q.2.map (·.1)) = gs.map fun q => q.2.map (·.1)
  | [], _ => rfl
  | q :: l, k => by
    show (mkR k q.2).map (·.1) :: ((mkC (k + tot (q.2.map (·.2))) l).map fun q => q.2.map (·.1)) = _
    rw [mkR_fst, mkC_mid l]; rfl
theorem mkC_snd : ∀ (gs : List (Value × List (Value × List Int))) (k : Int), ((mkC k gs).map fun q => q.2.map (·.2)) = markC k (gs.map fun q => q.2.map (·.2))
  | [], _ => rfl
  | q :: l, k => by
    show (mkR k q.2).map (·.2) :: ((mkC (k + tot (q.2.map (·.2))) l).map fun q => q.2.map (·.2)) = _
    rw [mkR_snd, mkC_snd l]; rfl
theorem flat_cons (q : Value × List (Value × List Int)) (l : List (Value × List (Value × List Int))) : flat (q :: l) = q.2 ++ flat l := by simp [flat]
theorem flat_mkC : ∀ (gs : List (Value × List (Value × List Int))) (k : Int), flat (mkC k gs) = mkR k (flat gs)
  | [], _ => rfl
  | q :: l, k => by
    rw [flat_cons, mkR_append, ← flat_mkC l]
    show flat ((q.1, mkR k q.2) :: mkC (k + tot (q.2.map (·.2))) l) = _
    rw [flat_cons]
theorem markC_len : ∀ (l : List (List (List Int))) (k : Int), (markC k l).length = l.length
  | [], _ => rfl
  | x :: l, k => by simp [markC, markC_len l]
theorem markC_getD : ∀ (l : List (List (List Int))) (k : Int) (i : Nat), i < l.length → (markC k l).getD i [] = markL (k + tot (l.take i).flatten) (l.getD i [])
  | [], _, _, h => by simp at h
  | x :: l, k, 0, _ => by simp [markC, tot]
  | x :: l, k, i + 1, h => by
    have := markC_getD l (k + tot x) i (by simpa using h)
    simp only [markC, List.getD_cons_succ, this, List.take_succ_cons, List.flatten_cons, tot_append]
    rw [Int.add_assoc]; simp
theorem tot_takeF_le (l : List (List (List Int))) (k : Nat) : tot (l.take k).flatten ≤ tot l.flatten := by
  have e : l.flatten = (l.take k).flatten ++ (l.drop k).flatten := by rw [← List.flatten_append, List.take_append_drop]
  rw [e, tot_append]; omega
theorem tot_takeF_succ (l : List (List (List Int))) {k : Nat} (hk : k < l.length) : tot (l.take (k + 1)).flatten = tot (l.take k).flatten + tot (l.getD k []) := by
  rw [List.take_succ_eq_append_getElem hk, List.flatten_append, tot_append]
  simp [hk]
theorem mkC_mem {gs : List (Value × List (Value × List Int))} {k : Int} {q : Value × List (Value × List Int)} (hq : q ∈ mkC k gs) : ∃ q', q' ∈ gs ∧ q.1 = q'.1 ∧ q.2.map (·.1) = q'.2.map (·.1) := by
  induction gs generalizing k with
  | nil => cases hq
  | cons g l ih =>
    rcases List.mem_cons.1 hq with rfl | hq
    · exact ⟨g, List.mem_cons_self, rfl, mkR_fst _ _⟩
    · obtain ⟨q', h1, h2⟩ := ih hq
      exact ⟨q', List.mem_cons_of_mem _ h1, h2⟩
theorem RowsO.ofFlat {s : Nat} {w : World} {gs : List (Value × List (Value × List Int))} (h : RowsO s w (flat gs)) {q : Value × List (Value × List Int)} (hq : q ∈ gs) : RowsO s w q.2 := by
  have hs : List.Sublist q.2 (flat gs) := List.sublist_flatten_of_mem (List.mem_map.2 ⟨q, hq, rfl⟩)
  exact ⟨fun r hr => h.fr r (hs.subset hr), h.sep.sublist hs⟩
theorem matC_mk {s t : Nat} {w w' : World} {v : Value} {k : Int} {gs : List (Value × List (Value × List Int))} (h : MatC s t w v gs) (hO : RowsO s w' (mkR k (flat gs))) (hW : Wrt (BlkOf (flat gs)) w w') :
    Rowss 0 w'.heap.size w' v (gs.map (·.1)) (gs.map fun q => q.2.map (·.1)) (markC k (gs.map fun q => q.2.map (·.2))) := by
  have hC := h.cub.wr hW (fun b hb => .inl hb)
  rw [← flat_mkC] at hO
  rw [← mkC_fst gs k, ← mkC_mid gs k, ← mkC_snd gs k]
  refine rowss_of_cub (A := fun _ => True) (s := 0) ?_ (Nat.zero_le _) fun q hq => ?_
  · rw [mkC_fst]; exact hC.sp0.sl
  · obtain ⟨q', h1, h2, h3⟩ := mkC_mem hq
    refine (RowsO.ofFlat hO hq).rows (v := q.1) ?_
    rw [h2, h3]
    exact (hC.sp _ h1).sl
set_option maxHeartbeats 1000000 in
theorem heldInt64SSS_ok {w : World} {v : Value} {k : Int} {lo hi : Nat} {us : List Value} {uss : List (List Value)} {xsss ysss : List (List (List Int))} [hx : Rowss lo hi w v us uss xsss] (hxs : xsss = markC k ysss) (hk : 0 ≤ k) (hb : k + tot ysss.flatten ≤ 9000000000000000000) :
    Calls Try.prog 22 #[v, .int .i64 k] w (Ret fun v' w' => v' = .int .i64 (k + tot ysss.flatten) ∧ Ext w w') := by
  have hl : xsss.length = ysss.length := by rw [hxs, markC_len]
  have hul := hx.vals.len
  have hm := sl_len hx.sl
  have hg : ∀ i, i < ysss.length → xsss.getD i [] = markL (k + tot (ysss.take i).flatten) (ysss.getD i []) := fun i hi => by rw [hxs, markC_getD _ _ _ hi]
  refine enter (args := [v, .int .i64 k]) (l := [.tmp 4]) Try.func22 rfl rfl Try.ntmps22 (by simp) ?_
  refine go ?_
  refine r_for ysss.length (fun i ρ w' => Has ρ [(0, v), (1, .int .i64 (k + tot (ysss.take i).flatten)), (5, .int .i64 i)] ∧ Ext w w') ?_ ?_
  · refine ⟨?_, Ext.refl _⟩
    simp only [List.take_zero, List.flatten_nil, tot]
    exact hasP
  rintro i ρ w2 hi ⟨hH, he2⟩
  refine rwp_has hH fun ρ0 => ?_
  have ht := tot_takeF_le ysss i
  refine go ?_
  refine c_if (fun h4 => ?_) (fun h4 => ?_)
  · have hin : i < ysss.length := by omega
    have hts := tot_takeF_succ ysss hin
    have ht2 := tot_takeF_le ysss (i + 1)
    refine go ?_
    refine rc (heldInt64SS_ok (xss := xsss.getD i []) (yss := ysss.getD i []) (hg i hin) ?_ ?_) (next := fun v3 w3 h3 => ?_)
    · omega
    · omega
    obtain ⟨rfl, he3⟩ := h3
    refine go ?_
    refine c_if (fun h5 => ?_) (fun h5 => ?_)
    · omega
    · refine go ?_
      refine forQ_normal (by omega) ⟨?_, he2.trans he3⟩
      exact hasP
  · refine go ?_
    obtain rfl : i = ysss.length := by omega
    refine ret1 ⟨?_, he2⟩
    rw [List.take_length]
/-- Sizes of a series. -/
theorem sz3 {r : List (List (List Int))} (h : r.length ≤ 7) (h2 : ∀ x, x ∈ r → x.length ≤ 6 ∧ ∀ y, y ∈ x → y.length ≤ 6) : r.length ≤ 2000000 ∧ (∀ i, (r.getD i []).length ≤ 2000000 ∧ ∀ j, ((r.getD i []).getD j []).length ≤ 2000000) ∧ tot r.flatten ≤ 4000000000000 := by
  refine ⟨by omega, fun i => ?_, ?_⟩
  · by_cases hi : i < r.length
    · have e : r.getD i [] = r[i] := by simp [hi]
      have h3 := h2 _ (List.getElem_mem hi)
      rw [e]
      refine ⟨by omega, fun j => ?_⟩
      by_cases hj : j < (r[i]).length
      · have e2 : (r[i]).getD j [] = (r[i])[j] := by simp [hj]
        have := h3.2 _ (List.getElem_mem hj)
        rw [e2]; omega
      · rw [List.getD_eq_getElem?_getD, List.getElem?_eq_none (by omega)]; simp
    · have e : r.getD i [] = [] := by rw [List.getD_eq_getElem?_getD, List.getElem?_eq_none (by omega)]; rfl
      rw [e]; simp
  · have h3 := tot_flatten (n := 6) r fun x hx => h2 x hx
    have : r.length * (6 * 6) ≤ 7 * (6 * 6) := Nat.mul_le_mul_right _ h
    omega
theorem SrV.sz {p : Pr} {C : ConAll p → (List (El p) → List (El p)) × List (El p)} {r : List (List (List Int))} {e : Int} (h : SrV p C r e) (hS : ∀ c : ConAll p, SerOk (C c).1 (C c).2) : r.length ≤ 2000000 ∧ (∀ i, (r.getD i []).length ≤ 2000000 ∧ ∀ j, ((r.getD i []).getD j []).length ≤ 2000000) ∧ tot r.flatten ≤ 4000000000000 := by
  obtain ⟨c, K, hK, rfl, _⟩ := h
  have hn := c.valid.n6
  have hb := (hS c).bd K hK.2
  refine sz3 (by simp; omega) fun x hx => ?_
  obtain ⟨j, _, rfl⟩ := List.mem_map.1 hx
  have hl := ((hS c).seq j).len
  refine ⟨by simp; omega, fun y hy => ?_⟩
  obtain ⟨a, _, rfl⟩ := List.mem_map.1 hy
  rw [a.inr.len]; omega
theorem nil_sz3 : ([] : List (List (List Int))).length ≤ 2000000 ∧ (∀ i, (([] : List (List (List Int))).getD i []).length ≤ 2000000 ∧ ∀ j, ((([] : List (List (List Int))).getD i []).getD j []).length ≤ 2000000) ∧ tot ([] : List (List (List Int))).flatten ≤ 4000000000000 := sz3 (by simp) (by simp)
theorem DerivedSeries_sz0 {p : Pr} {r : List (List (List Int))} {e : Int} (_ : p.ord.length ≤ 2000000) (h : Ans (IsGrp p) (SrV p (DerC p)) [] r e) : r.length ≤ 2000000 ∧ (∀ i, (r.getD i []).length ≤ 2000000 ∧ ∀ j, ((r.getD i []).getD j []).length ≤ 2000000) ∧ tot r.flatten ≤ 4000000000000 := by
  rcases h with ⟨_, h⟩ | ⟨_, rfl, _⟩
  · exact h.sz fun c => serOk_der
  · exact nil_sz3
theorem LowerCentralSeries_sz0 {p : Pr} {r : List (List (List Int))} {e : Int} (_ : p.ord.length ≤ 2000000) (h : Ans (IsGrp p) (SrV p (LowC p)) [] r e) : r.length ≤ 2000000 ∧ (∀ i, (r.getD i []).length ≤ 2000000 ∧ ∀ j, ((r.getD i []).getD j []).length ≤ 2000000) ∧ tot r.flatten ≤ 4000000000000 := by
  rcases h with ⟨_, h⟩ | ⟨_, rfl, _⟩
  · exact h.sz fun c => serOk_low
  · exact nil_sz3
theorem UpperCentralSeries_sz0 {p : Pr} {r : List (List (List Int))} {e : Int} (_ : p.ord.length ≤ 2000000) (h : Ans (IsGrp p) (SrV p (UpC p)) [] r e) : r.length ≤ 2000000 ∧ (∀ i, (r.getD i []).length ≤ 2000000 ∧ ∀ j, ((r.getD i []).getD j []).length ≤ 2000000) ∧ tot r.flatten ≤ 4000000000000 := by
  rcases h with ⟨_, h⟩ | ⟨_, rfl, _⟩
  · exact h.sz fun c => serOk_up
  · exact nil_sz3
end Go.Proofs.Ytgomfjhhfmhlgaa
