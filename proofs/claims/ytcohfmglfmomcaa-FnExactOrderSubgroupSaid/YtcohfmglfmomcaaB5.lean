/-
  Texts of one proof, put together by program: I19, I15, I13, I17, I18, I20, I23, L01, L02, L03, L04, L05, Open, Per, W24, I24.
  Conditions: those told at each part.
-/
import Derived.Test.YtcohfmglfmomcaaB4
import Derived.Deep.Slices
set_option linter.unusedVariables false
set_option linter.unusedSimpArgs false
set_option linter.unusedSectionVars false
set_option linter.constructorNameAsVariable false
set_option linter.unnecessarySimpa false
set_option linter.deprecated false
/-
  Walks: the program's slices.Concat, closure under conjugation, commutator subgroup; SubgroupJoin, NormalClosure, CommutatorSubgroup.
  Conditions: stated at each theorem.
-/
namespace Go.Proofs.Ytcohfmglfmomcaa
open Go Go.Pc
set_option maxHeartbeats 400000 in
theorem growRows_ok {w : World} {n : Nat} {k : Int} (hk : k = n) (hn : n ≤ 1000000) :
    Calls Try.prog 93 #[nilv, .int .i64 k] w (Ret fun v w' => Ext w w' ∧ OwnN 22 w.heap.size w' v []) := by
  subst hk
  have hl0 : Len w nilv 0 := ⟨⟨none, 0, rfl, Nat.le_refl _, by omega, fun h => by omega⟩⟩
  refine enter (args := [nilv, .int .i64 n]) (l := [.tmp 4]) Try.func93 rfl rfl Try.ntmps93 (by simp) ?_
  refine go ?_
  refine c_if (fun h4 => ?_) (fun h4 => ?_)
  · omega
  refine go ?_
  refine ra (h := rd_cap_nil (by ((try simp only [ev_tmp, ev_const, ev_func, get_put, get_args, get_putL, get_putL_nil, Nat.reduceEqDiff, reduceIte, List.getD_cons_zero, List.getD_cons_succ, List.getD_nil]); first | done | with_reducible rfl))) (next := ?_)
  refine go ?_
  refine c_if (fun h5 => ?_) (fun h5 => ?_)
  · refine go ?_
    refine ra (h := rd_cap_nil (by ((try simp only [ev_tmp, ev_const, ev_func, get_put, get_args, get_putL, get_putL_nil, Nat.reduceEqDiff, reduceIte, List.getD_cons_zero, List.getD_cons_succ, List.getD_nil]); first | done | with_reducible rfl))) (next := ?_)
    refine go ?_
    have hkk : (n : Int) - (0 - ((0 : Nat) : Int)) = (n : Int) := by omega
    rw [hkk, show cutTo nilv 0 = nilv from rfl]
    refine st_appz (n := n) Try.underlying3 (by ((try simp only [ev_tmp, ev_const, ev_func, get_put, get_args, get_putL, get_putL_nil, Nat.reduceEqDiff, reduceIte, List.getD_cons_zero, List.getD_cons_succ, List.getD_nil]); first | done | with_reducible rfl)) (by ((try simp only [ev_tmp, ev_const, ev_func, get_put, get_args, get_putL, get_putL_nil, Nat.reduceEqDiff, reduceIte, List.getD_cons_zero, List.getD_cons_succ, List.getD_nil]); first | done | with_reducible rfl)) (by omega) hn (by decide) rfl (by first | exact True.intro | exact ⟨_, rfl, by ((try simp only [ev_tmp, ev_const, ev_func, get_put, get_args, get_putL, get_putL_nil, Nat.reduceEqDiff, reduceIte, List.getD_cons_zero, List.getD_cons_succ, List.getD_nil, Bool.not_true, Bool.not_false]); first | done | with_reducible rfl)⟩) fun w1 v1 he1 hl1 ho1 => ?_
    refine go ?_
    exact ret1 ⟨he1, ho1.toN⟩
  · refine go ?_
    exact ret1 ⟨Ext.refl _, OwnN.nil _ _ _⟩
theorem SeqAt.ext {p : Pr} {bs b0 base : Nat} {av : Nat → Prop} {w w' : World} {vp vb : Value} {t : Tab p} (h : SeqAt bs b0 base av w vp vb t) (x : Ext w w') : SeqAt bs b0 base av w' vp vb t := by
  obtain ⟨c0, c1, hn, ho, us, hL, hnil⟩ := h
  exact ⟨c0.same (x.same _ _) x.size, c1.same (x.same _ _) x.size, hn, ho, us, hL.ext x, hnil⟩
theorem canonicalM_ok {p : Pr} [hcon : ConAll p] {t : Tab p} (hf : Full t) {av : Nat → Prop} {base bs b0 : Nat} {w : World} {vp vb : Value} {lo hi : Nat} [hp : PresP lo hi w vp p] (hq : SeqAt bs b0 base av w vp vb t) :
    Calls Try.prog 81 #[.pointer (some ⟨bs, 0, none⟩)] w (Ret fun v w' => Ext w w' ∧ ∃ rs, canon (Gen (Ents t)) = rs.map (·.2) ∧ MatO w.heap.size w'.heap.size w' v rs) :=
  Pc.Calls.ret_mono (canonicalO_ok hf hq) fun _ _ ⟨h1, rs, h2, h3, h4⟩ => ⟨h1, rs, h3, MatO.ofLst h2 h4 h2.newRows⟩
set_option maxHeartbeats 4000000 in
theorem closure_ok {p : Pr} [hcon : ConAll p] {ls bs : List (El p)} (hll : ls.length ≤ 100000) (hbl : bs.length ≤ 1000) {w : World} {vp vl vb : Value} {us ub : List Value} {xss yss : List (List Int)} {lo hi lo1 hi1 lo2 hi2 : Nat} [hp : PresP lo hi w vp p] [hl : Pc.Rows lo1 hi1 w vl us xss] [hb : Pc.Rows lo2 hi2 w vb ub yss] (hls : xss = vecs ls) (hbs : yss = vecs bs) :
    Calls Try.prog 58 #[vp, vl, vb] w (Ret fun v w' => Ext w w' ∧ ∃ rs, canon (Clo (fun a : El p => a ∈ ls) (fun a : El p => a ∈ bs)) = rs.map (·.2) ∧ MatO w.heap.size w'.heap.size w' v rs) := by
  subst hls hbs
  have hn6 := hcon.valid.n6
  have hbvl : (vecs bs).length = bs.length := by simp
  replace hp := hp.wide
  replace hl := hl.wide
  replace hb := hb.wide
  have hSC := Clo.sub (fun a : El p => a ∈ ls) (fun a : El p => a ∈ bs)
  refine enter (args := [vp, vl, vb]) (l := [.tmp 6]) Try.func58 rfl rfl Try.ntmps58 (by simp) ?_
  refine go ?_
  refine rc (newSequence_ok (p := p) hn6) (next := fun v1 w1 h1 => ?_)
  obtain ⟨st, vt, rfl, he1, hc0, hc1, hst, hvt, ho⟩ := h1
  have hz1 := he1.size
  have hq : SeqAt st w.heap.size w.heap.size (fun _ => False) w1 vp vt (fun _ => none : Tab p) := by
    refine ⟨hc0, hc1, by omega, hvt, List.replicate p.n nilv, ?_, fun d hd _ => ?_⟩
    · rw [tabL_none]
      exact Lst.ofNils ho (Nat.le_refl _) (fun h => h) (fun g h => h.elim)
    · rw [List.getD_eq_getElem?_getD, List.getElem?_replicate]; split <;> rfl
  have hap : Apart 0 w.heap.size w.heap.size := ⟨.inr (Nat.le_refl _)⟩
  have hr : RowsAp (fun g => g = w.heap.size) w1 us (vecs ls) := (hl.ap (Nat.le_refl _) (fun g hg => .inr (by omega))).ext he1
  have hsl : Sl 0 w.heap.size w1 vl us := inferInstance
  refine go ?_
  refine rc (add_ok (p := p) (S := fun _ => False) hz1 hq Wk.none hr hll) (next := fun v2 w2 h2 => ?_)
  obtain ⟨bg2, t2, rfl, hch2, hq2, hW2, _⟩ := h2
  have he2 : Ext w w2 := hch2.ext he1 (Nat.le_refl _)
  have hz12 := hch2.size
  have hz11 : w.heap.size + 1 ≤ w1.heap.size := by have := ho.lt; omega
  clear hch2 hsl hc0 hc1 hr hq ho
  refine go ?_
  refine r_loop (fun m ρ w' => ∃ (gb : Bool) (t : Tab p) (S : El p → Prop), Has ρ [(0, vp), (2, vb), (7, .pointer (some ⟨st, 0, none⟩)), (8, .bool gb)] ∧ Ext w w' ∧ w.heap.size + 1 ≤ w'.heap.size ∧ SeqAt st w.heap.size w.heap.size (fun _ => False) w' vp vt t ∧ Wk S t (fun _ => False) ∧
    (∀ a, S a → Clo (fun a : El p => a ∈ ls) (fun a : El p => a ∈ bs) a) ∧ (∀ y, y ∈ ls → S y) ∧ (gb = false → ∀ a, Clo (fun a : El p => a ∈ ls) (fun a : El p => a ∈ bs) a → Gen S a) ∧ m = (if gb then 1 else 0) + 2 * (p.n - (canEls (Gen S)).length)) (1 + 2 * (p.n - (canEls (Gen (fun a : El p => False ∨ a ∈ ls))).length)) ?_ ?_
  · refine ⟨true, t2, _, ?_, he2, by omega, hq2, hW2, fun a ha => .of a (ha.resolve_left id), fun y hy => .inr hy, fun h => (by cases h), rfl⟩
    exact hasP
  clear hq2 hW2 he2 t2
  rintro m ρ w2' ⟨gb, t, S, hH, he2, hz2, hq2, hW2, hSc, hlS, hcl, hm⟩
  refine rwp_has hH fun ρ0 => ?_
  have hgen := hW2.gen (fun _ h => h)
  have hfull := hW2.full (fun _ h => h)
  have hSS := Gen.sub S
  have hos := seqEl_can hSS
  have hol := hos.len
  refine go ?_
  refine c_b (fun eg => ?_) (fun eg => ?_)
  · subst eg
    rw [if_pos rfl] at hm
    refine go ?_
    refine rc (canonicalM_ok (p := p) hfull hq2) (next := fun v3 w3 h3 => ?_)
    obtain ⟨he3, rs3, hrs3, hM3⟩ := h3
    rw [hgen, canon_vecs] at hrs3
    have hR3 := hM3.rows
    rw [← hrs3] at hR3
    have hz3 := he3.size
    have ap3 : Apart w2'.heap.size w3.heap.size w.heap.size := ⟨.inl (by omega)⟩
    have hE3 := he2.trans he3
    refine go ?_
    refine r_for bs.length (fun i ρ w' => ∃ (gb : Bool) (t' : Tab p) (S' : El p → Prop), Has ρ [(0, vp), (2, vb), (7, .pointer (some ⟨st, 0, none⟩)), (8, .bool gb), (9, v3), (20, vb), (21, .int .i64 (vecs bs).length), (22, .int .i64 i)] ∧ Chg w.heap.size w3 w' ∧ SeqAt st w.heap.size w.heap.size (fun _ => False) w' vp vt t' ∧ Wk S' t' (fun _ => False) ∧
      (∀ a, S a → S' a) ∧ (∀ a, S' a → Clo (fun a : El p => a ∈ ls) (fun a : El p => a ∈ bs) a) ∧ (∀ i' (h : i' < bs.length), i' < i → ∀ o, o ∈ canEls (Gen S) → S' (Grp.cj o bs[i'])) ∧ (gb = true ↔ ∃ a, S' a ∧ ¬ Gen S a)) ?_ ?_
    · refine ⟨false, t, S, ?_, Chg.refl _ _, hq2.ext he3, hW2, fun a ha => ha, hSc, fun i' _ h => absurd h (Nat.not_lt_zero _), ?_⟩
      · exact hasP
      · simp only [Bool.false_eq_true, false_iff]
        rintro ⟨a, h1, h2⟩
        exact h2 (.of a h1)
    clear hq2 hW2 he2 he3
    rintro i ρ w4 hi ⟨gb, t', S', hH4, hch4, hq4, hW4, hS4, hC4, hK4, hf4⟩
    refine rwp_has hH4 fun ρ1 => ?_
    have hE4 : Ext w w4 := hch4.ext hE3 (Nat.le_refl _)
    have hz4 := hch4.size
    have hR4 : Pc.Rows w2'.heap.size w3.heap.size w4 v3 _ _ := hR3.same (hch4.same (.inl (by omega)))
    refine go ?_
    refine c_if (fun h4 => ?_) (fun h4 => ?_)
    · have hin : i < bs.length := by omega
      have hg := vecs_getD bs hin
      have hbi : Ints 0 w.heap.size w4 (Pc.rowAt vb ub i) ((vecs bs).getD i []) := (hb.vals.at_ i).same (hE4.same _ _)
      have hch4' := hch4
      clear hch4
      refine go ?_
      refine rc (conjugates_ok (p := p) (ys := canEls (Gen S)) (x := bs[i]) (by omega) rfl hg) (next := fun v5 w5 h5 => ?_)
      obtain ⟨he5, rs5, hrs5, hM5⟩ := h5
      have hR5 := hM5.rows
      rw [← hrs5] at hR5
      have hz5 := he5.size
      have hr5 : RowsAp (fun g => g = w.heap.size) w5 _ (vecs ((canEls (Gen S)).map (Grp.cj · bs[i]))) := hR5.ap (Nat.le_refl _) (fun g hg => .inl (by omega))
      have hsl5 := hR5.sl
      have hE5 := hE4.trans he5
      refine go ?_
      refine rc (add_ok (p := p) (S := S') (by omega) (hq4.ext he5) hW4 hr5 (by simp; omega)) (next := fun v6 w6 h6 => ?_)
      obtain ⟨bg6, t6, rfl, hch6, hq6, hW6, hbg6⟩ := h6
      have hch36 : Chg w.heap.size w3 w6 := (hch4'.grow he5).trans hch6
      have hS6 : ∀ a, S a → S' a ∨ a ∈ (canEls (Gen S)).map (Grp.cj · bs[i]) := fun a ha => .inl (hS4 a ha)
      have hC6 : ∀ a, (S' a ∨ a ∈ (canEls (Gen S)).map (Grp.cj · bs[i])) → Clo (fun a : El p => a ∈ ls) (fun a : El p => a ∈ bs) a := fun a ha => by
        rcases ha with ha | ha
        · exact hC4 a ha
        · obtain ⟨o, ho, rfl⟩ := List.mem_map.1 ha
          obtain ⟨d, _, hd⟩ := canEls_mem.1 ho
          exact .cj _ _ (Gen.le hSC hSc _ (canT_some hd).mem) (List.getElem_mem hin)
      have hK6 : ∀ i' (h : i' < bs.length), i' < i + 1 → ∀ o, o ∈ canEls (Gen S) → S' (Grp.cj o bs[i']) ∨ Grp.cj o bs[i'] ∈ (canEls (Gen S)).map (Grp.cj · bs[i]) := fun i' h h7 o ho => by
        by_cases e : i' = i
        · subst e; exact .inr (List.mem_map.2 ⟨o, ho, rfl⟩)
        · exact .inl (hK4 i' h (by omega) o ho)
      have hSG : ∀ a, Gen S a → Gen S' a := Gen.le (Gen.sub S') fun a ha => .of a (hS4 a ha)
      refine go ?_
      refine c_b (fun eb => ?_) (fun eb => ?_)
      · subst eb
        refine go ?_
        refine forQ_normal (by omega) ⟨true, t6, _, ?_, hch36, hq6, hW6, hS6, hC6, hK6, ?_⟩
        · exact hasP
        · obtain ⟨a, h7, h8⟩ := hbg6.1 rfl
          exact ⟨fun _ => ⟨a, .inr h7, fun h => h8 (hSG a h)⟩, fun _ => rfl⟩
      · subst eb
        refine go ?_
        refine forQ_normal (by omega) ⟨gb, t6, _, ?_, hch36, hq6, hW6, hS6, hC6, hK6, ?_⟩
        · exact hasP
        · constructor
          · intro h
            obtain ⟨a, h7, h8⟩ := hf4.1 h
            exact ⟨a, .inl h7, h8⟩
          · rintro ⟨a, h7 | h7, h8⟩
            · exact hf4.2 ⟨a, h7, h8⟩
            · cases hgb : gb with
              | true => rfl
              | false =>
                exfalso
                have h9 : ∀ a, S' a → Gen S a := fun b hb' => Classical.byContradiction fun hn => by
                  have := hf4.2 ⟨b, hb', hn⟩
                  rw [hgb] at this; cases this
                have h10 : Gen S' a := Classical.byContradiction fun hn => by
                  have := hbg6.2 ⟨a, h7, hn⟩
                  cases this
                exact h8 (Gen.le hSS h9 a h10)
    · obtain rfl : i = bs.length := by omega
      have hS4S := Gen.sub S'
      have hSG : ∀ a, Gen S a → Gen S' a := Gen.le hS4S fun a ha => .of a (hS4 a ha)
      have hle := can_len_le hSS hS4S hSG
      have hl4 := (seqEl_can hS4S).len
      refine go ?_
      refine loopQ_normal ?_ ⟨gb, t', S', ?_, hE4, by omega, hq4, hW4, hC4, fun y hy => hS4 y (hlS y hy), fun hgb a ha => ?_, rfl⟩
      · cases hgb : gb with
        | false => simp only [Bool.false_eq_true, if_false]; omega
        | true =>
          simp only [if_true]
          obtain ⟨a, h7, h8⟩ := hf4.1 hgb
          have hne : (canEls (Gen S)).length ≠ (canEls (Gen S')).length := fun e => h8 (same_of_len hSS hS4S hSG (by omega) a (.of a h7))
          omega
      · exact hasP
      · have h9 : ∀ a, S' a → Gen S a := fun b hb' => Classical.byContradiction fun hn => by
          have := hf4.2 ⟨b, hb', hn⟩
          rw [hgb] at this; cases this
        refine Clo.le hS4S (fun y hy => .of y (hS4 y (hlS y hy))) (fun a b ha hb' => ?_) a ha
        have h10 : Gen S a := Gen.le hSS h9 a ha
        rw [← gen_can_eq hSS] at h10
        refine Gen.cj_closed hS4S (fun o ho => ?_) a h10
        obtain ⟨i', hi', rfl⟩ := List.getElem_of_mem hb'
        exact .of _ (hK4 i' hi' hi' o ho)
  · subst eg
    have hfun : Gen S = Clo (fun a : El p => a ∈ ls) (fun a : El p => a ∈ bs) := by
      funext a; exact propext ⟨Gen.le hSC hSc a, hcl rfl a⟩
    refine go ?_
    refine rc (canonicalM_ok (p := p) hfull hq2) (next := fun v3 w3 h3 => ?_)
    obtain ⟨he3, rs3, hrs3, hM3⟩ := h3
    rw [hgen, hfun] at hrs3
    refine go ?_
    exact ret1 ⟨he2.trans he3, rs3, hrs3, hM3.lower he2.size⟩
theorem flat_take {α : Type} (L : List (List α)) {k : Nat} (hk : k < L.length) : (L.take (k + 1)).flatten = (L.take k).flatten ++ L.getD k [] := by
  rw [List.take_succ_eq_append_getElem hk, List.flatten_append]; simp [hk]
theorem rows_one {lo hi : Nat} {w : World} {v : Value} {us : List Value} {xss : List (List Int)} (h : Pc.Rows lo hi w v us xss) : ∀ u ∈ us, u.oneCell' = true := by
  intro u hu
  obtain ⟨i, hi, rfl⟩ := List.getElem_of_mem hu
  have := (h.vals.at_ i).sl.one
  rwa [show us.getD i nilv = us[i] by simp [hi]] at this
set_option maxHeartbeats 1000000 in
theorem concat_ok {w : World} {v v1 v2 : Value} {us vs : List Value} {xss yss : List (List Int)} {lo hi : Nat} [hl : Rowss lo hi w v [v1, v2] [us, vs] [xss, yss]] (hx : xss.length ≤ 100000) (hy : yss.length ≤ 100000) :
    Calls Try.prog 51 #[v] w (Ret fun v' w' => Ext w w' ∧ ∃ us', Pc.Rows 0 w'.heap.size w' v' us' (xss ++ yss)) := by
  replace hl := hl.wide
  have hlen : ∀ k, ([xss, yss].getD k []).length ≤ 100000 := fun k => by
    match k with
    | 0 => exact hx
    | 1 => exact hy
    | k + 2 => simp
  have h2 : [xss, yss].length = 2 := rfl
  refine enter (args := [v]) (l := [.tmp 2]) Try.func51 rfl rfl Try.ntmps51 (by simp) ?_
  refine go ?_
  refine r_for 2 (fun k ρ w' => ∃ s : Nat, Has ρ [(0, v), (3, .int .i64 s), (9, v), (10, .int .i64 [xss, yss].length), (11, .int .i64 k)] ∧ Ext w w' ∧ s ≤ 100000 * k) ?_ ?_
  · refine ⟨0, ?_, Ext.refl _, Nat.zero_le _⟩
    exact hasP
  rintro k ρ w2 hk ⟨s, hH, he2, hs⟩
  refine rwp_has hH fun ρ0 => ?_
  refine go ?_
  refine c_if (fun h4 => ?_) (fun h4 => ?_)
  · have hlk := hlen k
    refine go ?_
    refine c_if (fun h5 => ?_) (fun h5 => ?_)
    · omega
    refine go ?_
    refine forQ_normal (by omega) ⟨s + ([xss, yss].getD k []).length, ?_, he2, by omega⟩
    exact hasP
  refine go ?_
  refine rc (growRows_ok (n := s) rfl (by omega)) (next := fun v3 w3 h5 => ?_)
  obtain ⟨he3, ho3⟩ := h5
  have hE3 := he2.trans he3
  have hz2 := he2.size
  have hL3 : Lst 22 w.heap.size (fun _ => False) w3 v3 [] [] := ⟨ho3.mono hz2, RowsAp.nil _ _, fun _ _ h => h, fun _ h => h.elim⟩
  refine go ?_
  refine r_for 2 (fun k ρ w' => ∃ vl, Has ρ [(6, vl), (25, v), (26, .int .i64 [xss, yss].length), (27, .int .i64 k)] ∧ Ext w w' ∧ Lst 22 w.heap.size (fun _ => False) w' vl (([us, vs].take k).flatten) (([xss, yss].take k).flatten)) ?_ ?_
  · refine ⟨v3, ?_, hE3, by simpa using hL3⟩
    exact hasP
  rintro k ρ w4 hk ⟨vl, hH4, he4, hL4⟩
  refine rwp_has hH4 fun ρ1 => ?_
  have hz4 := he4.size
  refine go ?_
  refine c_if (fun h4 => ?_) (fun h4 => ?_)
  · have hlk := hlen k
    have hrow : Pc.Rows 0 w.heap.size w4 (Pc.rowAt v [v1, v2] k) ([us, vs].getD k []) ([xss, yss].getD k []) := (hl.vals.at_ k).same (he4.same _ _)
    have hrl := hrow.vals.len
    have hO4 := hL4.own
    have hsl4 := hrow.sl
    have hul4 := hL4.len
    have hfl : (([xss, yss].take k).flatten).length ≤ 200000 := by
      match k with
      | 0 => simp
      | 1 => simp; omega
      | k + 2 => simp; omega
    refine go ?_
    refine st_append (hv := hO4) (hy := hsl4) (by ((try simp only [ev_tmp, ev_const, ev_func, get_put, get_args, get_putL, get_putL_nil, Nat.reduceEqDiff, reduceIte, List.getD_cons_zero, List.getD_cons_succ, List.getD_nil]); first | done | with_reducible rfl)) (by ((try simp only [ev_tmp, ev_const, ev_func, get_put, get_args, get_putL, get_putL_nil, Nat.reduceEqDiff, reduceIte, List.getD_cons_zero, List.getD_cons_succ, List.getD_nil]); first | done | with_reducible rfl)) rfl (rows_one hrow) ?_ ?_ ?_ (by first | exact True.intro | exact ⟨_, rfl, by ((try simp only [ev_tmp, ev_const, ev_func, get_put, get_args, get_putL, get_putL_nil, Nat.reduceEqDiff, reduceIte, List.getD_cons_zero, List.getD_cons_succ, List.getD_nil, Bool.not_true, Bool.not_false]); first | done | with_reducible rfl)⟩) fun v5 w5 ho5 hg5 ha5 => ?_
    · omega
    · simp only [maxLen]; omega
    · omega
    have hL5 := hL4.pushs (hrow.ap (av := fun g => False ∨ vl.ownBlock = some g) (by omega) (fun g hg => .inr (by
      rcases hg with hg | hg
      · exact hg.elim
      · exact (hL4.lt hg).1))) ho5 hg5 ha5
    refine go ?_
    refine forQ_normal (by omega) ⟨v5, ?_, he4.app hg5 (fun g hg => (hL4.lt hg).1), ?_⟩
    · exact hasP
    · rw [flat_take _ (show k < [us, vs].length by simp; omega), flat_take _ (show k < [xss, yss].length by simp; omega)]
      exact hL5
  · obtain rfl : k = 2 := by omega
    refine go ?_
    have e : ([xss, yss].take 2).flatten = xss ++ yss := by simp
    rw [e] at hL4
    exact ret1 ⟨he4, _, hL4.toRows⟩
set_option maxHeartbeats 1000000 in
theorem commutatorSubgroup_ok {p : Pr} [hc : ConAll p] {ys zs : List (El p)} (hyl : ys.length ≤ 100) (hzl : zs.length ≤ 100) {w : World} {vp vu vv : Value} {us vs : List Value} {xss yss : List (List Int)} {lo hi lo1 hi1 lo2 hi2 : Nat} [hp : PresP lo hi w vp p] [hu : Pc.Rows lo1 hi1 w vu us xss] [hv : Pc.Rows lo2 hi2 w vv vs yss] (hus : xss = vecs ys) (hvs : yss = vecs zs) :
    Calls Try.prog 61 #[vp, vu, vv] w (Ret fun v w' => Ext w w' ∧ ∃ rs, canon (CommC ys zs) = rs.map (·.2) ∧ MatO w.heap.size w'.heap.size w' v rs) := by
  subst hus hvs
  have hyv : (vecs ys).length = ys.length := by simp
  have hzv : (vecs zs).length = zs.length := by simp
  refine enter (args := [vp, vu, vv]) (l := [.tmp 6]) Try.func61 rfl rfl Try.ntmps61 (by simp) ?_
  refine go ?_
  refine r_for ys.length (fun i ρ w' => ∃ vl rs, Has ρ [(0, vp), (1, vu), (2, vv), (7, vl), (12, vu), (13, .int .i64 (vecs ys).length), (14, .int .i64 i)] ∧ Ext w w' ∧ GrowL 22 w.heap.size w' vl rs ∧ rs.map (·.2) = vecs (commsL2 (ys.take i) zs) ∧ rs.length ≤ 1000 * i) ?_ ?_
  · refine ⟨nilv, [], ?_, Ext.refl _, GrowL.nil _ _ _ (Nat.le_refl _), by simp [commsL2], by simp⟩
    exact hasP
  rintro i ρ w2 hi ⟨vl, rs, hH, he2, hG2, hrs2, hl2⟩
  refine rwp_has hH fun ρ0 => ?_
  refine go ?_
  refine c_if (fun h4 => ?_) (fun h4 => ?_)
  · have hin : i < ys.length := by omega
    have hg1 := vecs_getD ys hin
    refine go ?_
    refine r_for zs.length (fun j ρ w' => ∃ vl rs, Has ρ [(0, vp), (1, vu), (2, vv), (7, vl), (9, Pc.rowAt vu us i), (12, vu), (13, .int .i64 (vecs ys).length), (14, .int .i64 i), (18, vv), (19, .int .i64 (vecs zs).length), (20, .int .i64 j)] ∧ Ext w w' ∧ GrowL 22 w.heap.size w' vl rs ∧ rs.map (·.2) = vecs (commsL2 (ys.take i) zs ++ (zs.take j).map (Grp.cm ys[i])) ∧ rs.length ≤ 1000 * i + j) ?_ ?_
    · refine ⟨vl, rs, ?_, he2, hG2, by simpa using hrs2, by omega⟩
      exact hasP
    clear he2 hG2 hrs2 hl2
    rintro j ρ w3 hj ⟨vl, rs, hH3, he3, hG3, hrs3, hl3⟩
    refine rwp_has hH3 fun ρ1 => ?_
    have hz3 := he3.size
    refine go ?_
    refine c_if (fun h5 => ?_) (fun h5 => ?_)
    · have hjn : j < zs.length := by omega
      have hg2 := vecs_getD zs hjn
      refine go ?_
      refine rc (commutator_ok (p := p) (x := ys[i]) (y := zs[j]) (Nat.zero_le _) hg1 hg2) (next := fun v5 w5 h6 => ?_)
      obtain ⟨he5, hf5⟩ := h6
      refine go ?_
      refine st_grow hG3 he5 hf5 hz3 (by omega) (next := fun v6 v7 w7 hG7 hx7 hz7 hgs7 => ?_)
      refine go ?_
      refine forQ_normal (by omega) ⟨v7, _, ?_, hx7 w (he3.trans he5) (Nat.le_refl _), hG7, ?_, ?_⟩
      · exact hasP
      · rw [List.take_succ_eq_append_getElem hjn]
        simp only [List.map_append, List.map_cons, List.map_nil, hrs3, vecs, List.append_assoc]
      · simp only [List.length_append, List.length_singleton]; omega
    · obtain rfl : j = zs.length := by omega
      rw [List.take_length, ← commsL2_succ hin] at hrs3
      refine go ?_
      refine forQ_normal (by omega) ⟨vl, rs, ?_, he3, hG3, hrs3, by omega⟩
      exact hasP
  · obtain rfl : i = ys.length := by omega
    rw [List.take_length] at hrs2
    have hz2 := he2.size
    have hll : (commsL2 ys zs).length ≤ 100000 := by
      have := congrArg List.length hrs2
      simp at this
      omega
    refine go ?_
    refine st_slice2 (u := vu) (v := vv) (by ((try simp only [ev_tmp, ev_const, ev_func, get_put, get_args, get_putL, get_putL_nil, Nat.reduceEqDiff, reduceIte, List.getD_cons_zero, List.getD_cons_succ, List.getD_nil]); first | done | with_reducible rfl)) (by ((try simp only [ev_tmp, ev_const, ev_func, get_put, get_args, get_putL, get_putL_nil, Nat.reduceEqDiff, reduceIte, List.getD_cons_zero, List.getD_cons_succ, List.getD_nil]); first | done | with_reducible rfl)) ?_ ?_ ?_ (by first | exact True.intro | exact ⟨_, rfl, by ((try simp only [ev_tmp, ev_const, ev_func, get_put, get_args, get_putL, get_putL_nil, Nat.reduceEqDiff, reduceIte, List.getD_cons_zero, List.getD_cons_succ, List.getD_nil, Bool.not_true, Bool.not_false]); first | done | with_reducible rfl)⟩) fun w4 v4 he4 hs4 ho4 => ?_
    · exact hu.sl.cells
    · exact hv.sl.cells
    · rfl
    have hu4 : Pc.Rows lo1 hi1 w4 vu us (vecs ys) := hu.same ((he2.trans he4).same _ _)
    have hv4 : Pc.Rows lo2 hi2 w4 vv vs (vecs zs) := hv.same ((he2.trans he4).same _ _)
    have hR4 := rowss_two ho4 hu4 hv4
    refine go ?_
    refine rc (concat_ok (xss := vecs ys) (yss := vecs zs) (by omega) (by omega)) (next := fun v5 w5 h6 => ?_)
    obtain ⟨he5, us5, hR5⟩ := h6
    have hG5 := (hG2.ext he4).ext he5
    have hRl := hG5.rows
    have hE5 := (he2.trans he4).trans he5
    refine go ?_
    refine rc (closure_ok (p := p) (ls := commsL2 ys zs) (bs := ys ++ zs) hll (by simp; omega) hrs2 ?_) (next := fun v6 w6 h7 => ?_)
    · simp [vecs]
    obtain ⟨he6, rs6, hrs6, hM6⟩ := h7
    refine go ?_
    exact ret1 ⟨hE5.trans he6, rs6, hrs6, hM6.lower hE5.size⟩
set_option maxHeartbeats 1000000 in
theorem impl_CommutatorSubgroup_ok {p : Pr} {w : World} {vp vu vx : Value} {us vs : List Value} {xss yss : List (List Int)} {lo hi lo1 hi1 lo2 hi2 : Nat} [hp : Pres lo hi w vp p] [hu : Pc.Rows lo1 hi1 w vu us xss] [hx : Pc.Rows lo2 hi2 w vx vs yss] (hl : p.ord.length ≤ 2000000) :
    Calls Try.prog 26 #[vp, vu, vx] w (Ret fun v w' => ∃ (u : Value) (k : List (List Int)) (e : Int), v = .tuple #[u, .int .i64 e] ∧ Ans (IsSubP p xss ∧ IsSubP p yss) (CommV p xss yss) [] k e ∧ Ext w w' ∧ ∃ rs, k = rs.map (·.2) ∧ MatO w.heap.size w'.heap.size w' u rs) := by
  obtain ⟨vo, vpw, vc, ps, cs, css, rfl, h1, h2, h3⟩ := hp.ex
  refine enter (args := [.agg #[vo, vpw, vc], vu, vx]) (l := [.tmp 6, .tmp 7]) Try.func26 rfl rfl Try.ntmps26 (by simp) ?_
  refine go ?_
  refine st_box3 (by ((try simp only [ev_tmp, ev_const, ev_func, get_put, get_args, get_putL, get_putL_nil, Nat.reduceEqDiff, reduceIte, List.getD_cons_zero, List.getD_cons_succ, List.getD_nil]); first | done | with_reducible rfl)) (by first | exact True.intro | exact ⟨_, rfl, by ((try simp only [ev_tmp, ev_const, ev_func, get_put, get_args, get_putL, get_putL_nil, Nat.reduceEqDiff, reduceIte, List.getD_cons_zero, List.getD_cons_succ, List.getD_nil, Bool.not_true, Bool.not_false]); first | done | with_reducible rfl)⟩) fun w1 b he1 hb1 hs1 hc0 hc1 hc2 => ?_
  have hpp := hp.boxed he1 hc0 hc1 hc2
  refine go ?_
  refine st_slice2 (u := vu) (v := vx) (by ((try simp only [ev_tmp, ev_const, ev_func, get_put, get_args, get_putL, get_putL_nil, Nat.reduceEqDiff, reduceIte, List.getD_cons_zero, List.getD_cons_succ, List.getD_nil]); first | done | with_reducible rfl)) (by ((try simp only [ev_tmp, ev_const, ev_func, get_put, get_args, get_putL, get_putL_nil, Nat.reduceEqDiff, reduceIte, List.getD_cons_zero, List.getD_cons_succ, List.getD_nil]); first | done | with_reducible rfl)) ?_ ?_ ?_ (by first | exact True.intro | exact ⟨_, rfl, by ((try simp only [ev_tmp, ev_const, ev_func, get_put, get_args, get_putL, get_putL_nil, Nat.reduceEqDiff, reduceIte, List.getD_cons_zero, List.getD_cons_succ, List.getD_nil, Bool.not_true, Bool.not_false]); first | done | with_reducible rfl)⟩) fun w2 v2 he2 hs2 ho2 => ?_
  · exact hu.sl.cells
  · exact hx.sl.cells
  · rfl
  have hE2 := he1.trans he2
  have hR := rowss_two (xss := xss) (yss := yss) ho2 inferInstance inferInstance
  refine go ?_
  refine rc (areSubgroups_ok (p := p) (xsss := [xss, yss]) hl (by simp)) (next := fun v5 w5 h5 => ?_)
  obtain ⟨b5, rfl, hb5, he5⟩ := h5
  rw [areSub2] at hb5
  have hE5 := hE2.trans he5
  refine go ?_
  refine c_b (fun e5 => ?_) (fun e5 => ?_)
  · refine go ?_
    refine ret2 ⟨nilv, [], 1, rfl, .inr ⟨fun h => ?_, rfl, rfl⟩, hE5, [], rfl, MatO.nilR _ _ _⟩
    rw [hb5.2 h] at e5; cases e5
  have hS := hb5.1 (by simpa using e5)
  obtain ⟨⟨hG, hq⟩, ⟨_, hI⟩⟩ := hS
  haveI : ConAll p := ⟨hG.con⟩
  have hv := hG.valid
  have hn6 := hv.n6
  obtain ⟨ys, hys, hse⟩ := isSeq_iff.1 hq
  obtain ⟨zs, hzs, hsz⟩ := isSeq_iff.1 hI
  have hyl := hse.len
  have hzl := hsz.len
  have hE6 := hE5
  refine go ?_
  refine rc (commutatorSubgroup_ok (p := p) (ys := ys) (zs := zs) (by omega) (by omega) hys hzs) (next := fun v7 w7 h7 => ?_)
  obtain ⟨he7, rs7, hrs7, hM7⟩ := h7
  refine go ?_
  exact ret2 ⟨v7, _, 0, rfl, .inl ⟨⟨⟨hG, hq⟩, ⟨hG, hI⟩⟩, ⟨inferInstance, ys, zs, hys, hzs, rfl⟩, rfl⟩, hE6.trans he7, rs7, hrs7, hM7.lower hE6.size⟩
set_option maxHeartbeats 1000000 in
theorem impl_SubgroupJoin_ok {p : Pr} {w : World} {vp vu vx : Value} {us vs : List Value} {xss yss : List (List Int)} {lo hi lo1 hi1 lo2 hi2 : Nat} [hp : Pres lo hi w vp p] [hu : Pc.Rows lo1 hi1 w vu us xss] [hx : Pc.Rows lo2 hi2 w vx vs yss] (hl : p.ord.length ≤ 2000000) :
    Calls Try.prog 17 #[vp, vu, vx] w (Ret fun v w' => ∃ (u : Value) (k : List (List Int)) (e : Int), v = .tuple #[u, .int .i64 e] ∧ Ans (IsSubP p xss ∧ IsSubP p yss) (JoinV p xss yss) [] k e ∧ Ext w w' ∧ ∃ rs, k = rs.map (·.2) ∧ MatO w.heap.size w'.heap.size w' u rs) := by
  obtain ⟨vo, vpw, vc, ps, cs, css, rfl, h1, h2, h3⟩ := hp.ex
  refine enter (args := [.agg #[vo, vpw, vc], vu, vx]) (l := [.tmp 6, .tmp 7]) Try.func17 rfl rfl Try.ntmps17 (by simp) ?_
  refine go ?_
  refine st_box3 (by ((try simp only [ev_tmp, ev_const, ev_func, get_put, get_args, get_putL, get_putL_nil, Nat.reduceEqDiff, reduceIte, List.getD_cons_zero, List.getD_cons_succ, List.getD_nil]); first | done | with_reducible rfl)) (by first | exact True.intro | exact ⟨_, rfl, by ((try simp only [ev_tmp, ev_const, ev_func, get_put, get_args, get_putL, get_putL_nil, Nat.reduceEqDiff, reduceIte, List.getD_cons_zero, List.getD_cons_succ, List.getD_nil, Bool.not_true, Bool.not_false]); first | done | with_reducible rfl)⟩) fun w1 b he1 hb1 hs1 hc0 hc1 hc2 => ?_
  have hpp := hp.boxed he1 hc0 hc1 hc2
  refine go ?_
  refine st_slice2 (u := vu) (v := vx) (by ((try simp only [ev_tmp, ev_const, ev_func, get_put, get_args, get_putL, get_putL_nil, Nat.reduceEqDiff, reduceIte, List.getD_cons_zero, List.getD_cons_succ, List.getD_nil]); first | done | with_reducible rfl)) (by ((try simp only [ev_tmp, ev_const, ev_func, get_put, get_args, get_putL, get_putL_nil, Nat.reduceEqDiff, reduceIte, List.getD_cons_zero, List.getD_cons_succ, List.getD_nil]); first | done | with_reducible rfl)) ?_ ?_ ?_ (by first | exact True.intro | exact ⟨_, rfl, by ((try simp only [ev_tmp, ev_const, ev_func, get_put, get_args, get_putL, get_putL_nil, Nat.reduceEqDiff, reduceIte, List.getD_cons_zero, List.getD_cons_succ, List.getD_nil, Bool.not_true, Bool.not_false]); first | done | with_reducible rfl)⟩) fun w2 v2 he2 hs2 ho2 => ?_
  · exact hu.sl.cells
  · exact hx.sl.cells
  · rfl
  have hE2 := he1.trans he2
  have hR := rowss_two (xss := xss) (yss := yss) ho2 inferInstance inferInstance
  refine go ?_
  refine rc (areSubgroups_ok (p := p) (xsss := [xss, yss]) hl (by simp)) (next := fun v5 w5 h5 => ?_)
  obtain ⟨b5, rfl, hb5, he5⟩ := h5
  rw [areSub2] at hb5
  have hE5 := hE2.trans he5
  refine go ?_
  refine c_b (fun e5 => ?_) (fun e5 => ?_)
  · refine go ?_
    refine ret2 ⟨nilv, [], 1, rfl, .inr ⟨fun h => ?_, rfl, rfl⟩, hE5, [], rfl, MatO.nilR _ _ _⟩
    rw [hb5.2 h] at e5; cases e5
  have hS := hb5.1 (by simpa using e5)
  obtain ⟨⟨hG, hq⟩, ⟨_, hI⟩⟩ := hS
  haveI : ConAll p := ⟨hG.con⟩
  have hv := hG.valid
  have hn6 := hv.n6
  obtain ⟨ys, hys, hse⟩ := isSeq_iff.1 hq
  obtain ⟨zs, hzs, hsz⟩ := isSeq_iff.1 hI
  have hyl := hse.len
  have hzl := hsz.len
  have hE6 := hE5
  have hxl : xss.length = ys.length := by rw [hys]; simp
  have hyl2 : yss.length = zs.length := by rw [hzs]; simp
  refine go ?_
  refine st_slice2 (u := vu) (v := vx) (by ((try simp only [ev_tmp, ev_const, ev_func, get_put, get_args, get_putL, get_putL_nil, Nat.reduceEqDiff, reduceIte, List.getD_cons_zero, List.getD_cons_succ, List.getD_nil]); first | done | with_reducible rfl)) (by ((try simp only [ev_tmp, ev_const, ev_func, get_put, get_args, get_putL, get_putL_nil, Nat.reduceEqDiff, reduceIte, List.getD_cons_zero, List.getD_cons_succ, List.getD_nil]); first | done | with_reducible rfl)) ?_ ?_ ?_ (by first | exact True.intro | exact ⟨_, rfl, by ((try simp only [ev_tmp, ev_const, ev_func, get_put, get_args, get_putL, get_putL_nil, Nat.reduceEqDiff, reduceIte, List.getD_cons_zero, List.getD_cons_succ, List.getD_nil, Bool.not_true, Bool.not_false]); first | done | with_reducible rfl)⟩) fun w7 v7 he7 hs7 ho7 => ?_
  · exact hu.sl.cells
  · exact hx.sl.cells
  · rfl
  have hu7 : Pc.Rows lo1 hi1 w7 vu us xss := hu.same ((hE6.trans he7).same _ _)
  have hx7 : Pc.Rows lo2 hi2 w7 vx vs yss := hx.same ((hE6.trans he7).same _ _)
  have hR7 := rowss_two ho7 hu7 hx7
  refine go ?_
  refine rc (concat_ok (xss := xss) (yss := yss) (by omega) (by omega)) (next := fun v8 w8 h8 => ?_)
  obtain ⟨he8, us8, hR8⟩ := h8
  have hE8 := (hE6.trans he7).trans he8
  clear hR
  refine go ?_
  refine rc (generatedM_ok (p := p) (ys := ys ++ zs) ?_ ?_) (next := fun v9 w9 h9 => ?_)
  · rw [hys, hzs]; simp [vecs]
  · simp; omega
  obtain ⟨he9, rs9, hrs9, hM9⟩ := h9
  refine go ?_
  exact ret2 ⟨v9, _, 0, rfl, .inl ⟨⟨⟨hG, hq⟩, ⟨hG, hI⟩⟩, ⟨inferInstance, ys, zs, hys, hzs, rfl⟩, rfl⟩, hE8.trans he9, rs9, hrs9, hM9.lower hE8.size⟩
set_option maxHeartbeats 1000000 in
theorem impl_NormalClosure_ok {p : Pr} {w : World} {vp vu : Value} {us : List Value} {xss : List (List Int)} {lo hi lo1 hi1 : Nat} [hp : Pres lo hi w vp p] [hu : Pc.Rows lo1 hi1 w vu us xss] (hl : p.ord.length ≤ 2000000) :
    Calls Try.prog 24 #[vp, vu] w (Ret fun v w' => ∃ (u : Value) (k : List (List Int)) (e : Int), v = .tuple #[u, .int .i64 e] ∧ Ans (IsSubP p xss) (NclV p xss) [] k e ∧ Ext w w' ∧ ∃ rs, k = rs.map (·.2) ∧ MatO w.heap.size w'.heap.size w' u rs) := by
  obtain ⟨vo, vpw, vc, ps, cs, css, rfl, h1, h2, h3⟩ := hp.ex
  refine enter (args := [.agg #[vo, vpw, vc], vu]) (l := [.tmp 4, .tmp 5]) Try.func24 rfl rfl Try.ntmps24 (by simp) ?_
  refine go ?_
  refine st_box3 (by ((try simp only [ev_tmp, ev_const, ev_func, get_put, get_args, get_putL, get_putL_nil, Nat.reduceEqDiff, reduceIte, List.getD_cons_zero, List.getD_cons_succ, List.getD_nil]); first | done | with_reducible rfl)) (by first | exact True.intro | exact ⟨_, rfl, by ((try simp only [ev_tmp, ev_const, ev_func, get_put, get_args, get_putL, get_putL_nil, Nat.reduceEqDiff, reduceIte, List.getD_cons_zero, List.getD_cons_succ, List.getD_nil, Bool.not_true, Bool.not_false]); first | done | with_reducible rfl)⟩) fun w1 b he1 hb1 hs1 hc0 hc1 hc2 => ?_
  have hpp := hp.boxed he1 hc0 hc1 hc2
  refine go ?_
  refine st_slice1 (u := vu) (by ((try simp only [ev_tmp, ev_const, ev_func, get_put, get_args, get_putL, get_putL_nil, Nat.reduceEqDiff, reduceIte, List.getD_cons_zero, List.getD_cons_succ, List.getD_nil]); first | done | with_reducible rfl)) ?_ ?_ (by first | exact True.intro | exact ⟨_, rfl, by ((try simp only [ev_tmp, ev_const, ev_func, get_put, get_args, get_putL, get_putL_nil, Nat.reduceEqDiff, reduceIte, List.getD_cons_zero, List.getD_cons_succ, List.getD_nil, Bool.not_true, Bool.not_false]); first | done | with_reducible rfl)⟩) fun w2 v2 he2 hs2 ho2 => ?_
  · exact hu.sl.cells
  · rfl
  have hE2 := he1.trans he2
  have hR := rowss_one (xss := xss) ho2 inferInstance
  refine go ?_
  refine rc (areSubgroups_ok (p := p) (xsss := [xss]) hl (by simp)) (next := fun v5 w5 h5 => ?_)
  obtain ⟨b5, rfl, hb5, he5⟩ := h5
  rw [areSub1] at hb5
  have hE5 := hE2.trans he5
  refine go ?_
  refine c_b (fun e5 => ?_) (fun e5 => ?_)
  · refine go ?_
    refine ret2 ⟨nilv, [], 1, rfl, .inr ⟨fun h => ?_, rfl, rfl⟩, hE5, [], rfl, MatO.nilR _ _ _⟩
    rw [hb5.2 h] at e5; cases e5
  have hS := hb5.1 (by simpa using e5)
  obtain ⟨hG, hq⟩ := hS
  haveI : ConAll p := ⟨hG.con⟩
  have hv := hG.valid
  have hn6 := hv.n6
  obtain ⟨ys, hys, hse⟩ := isSeq_iff.1 hq
  have hyl := hse.len
  have hE6 := hE5
  have hgl := gensL_len p
  refine go ?_
  refine rc (generators_ok (p := p)) (next := fun v7 w7 h7 => ?_)
  obtain ⟨he7, rs7, hrs7, hM7⟩ := h7
  have hR7 := hM7.rows
  rw [← hrs7] at hR7
  refine go ?_
  refine rc (closure_ok (p := p) (ls := ys) (bs := gensL p) (by omega) (by omega) hys rfl) (next := fun v8 w8 h8 => ?_)
  obtain ⟨he8, rs8, hrs8, hM8⟩ := h8
  have hE7 := hE6.trans he7
  refine go ?_
  exact ret2 ⟨v8, _, 0, rfl, .inl ⟨⟨hG, hq⟩, ⟨inferInstance, ys, hys, rfl⟩, rfl⟩, hE7.trans he8, rs8, hrs8, hM8.lower hE7.size⟩
end Go.Proofs.Ytcohfmglfmomcaa

/-
  Walks: the program's CosetRepresentative.
  Conditions: what the arguments read as.
-/
namespace Go.Proofs.Ytcohfmglfmomcaa
open Go Go.Pc
end Go.Proofs.Ytcohfmglfmomcaa

/-
  Walks: the program's order of a subgroup (sizeOf, SubgroupOrder).
  Conditions: stated at each theorem.
-/
namespace Go.Proofs.Ytcohfmglfmomcaa
open Go Go.Pc
end Go.Proofs.Ytcohfmglfmomcaa

/-
  Walks: the program's GeneratedSubgroup, ConjugateSubgroup, IsNormalSubgroup, SubgroupIndex, SubgroupDepths.
  Conditions: what the arguments read as.
-/
namespace Go.Proofs.Ytcohfmglfmomcaa
open Go Go.Pc
theorem ordOf_pos' {p : Pr} [hc : ConAll p] {ys : List (El p)} (hs : SeqEl ys) : 1 ≤ ordOf p ys ∧ ordOf p ys ≤ 117649 := by
  have h := ordOf_rng (ys := ys) (k := ys.length) (by have := hs.len; have := hc.valid.n6; omega) (Nat.le_refl _) fun y hy => (hs.ok.lead1 y hy).1
  rwa [List.take_length] at h
end Go.Proofs.Ytcohfmglfmomcaa

/-
  Walks: the program's CosetNumber, MemberElement, MemberExponents.
  Conditions: what the arguments read as.
-/
namespace Go.Proofs.Ytcohfmglfmomcaa
open Go Go.Pc
end Go.Proofs.Ytcohfmglfmomcaa

/-
  Walks: the program's order, index code, transversal; Transversal.
  Conditions: stated at each theorem.
-/
namespace Go.Proofs.Ytcohfmglfmomcaa
open Go Go.Pc
set_option maxHeartbeats 1000000 in
theorem orderOf_ok {p : Pr} (hv : Valid p) {w : World} {vp : Value} {lo hi : Nat} [hp : PresP lo hi w vp p] :
    Calls Try.prog 109 #[vp] w (Ret fun v w' => v = .int .i64 (ordL p (List.range p.n)) ∧ Ext w w') := by
  have hn6 := hv.n6
  have hol : p.ord.length = p.n := rfl
  have hrl : (List.range p.n).length = p.n := by simp
  obtain ⟨g, vo, vpw, vc, ps, cs, css, rfl, hg1, hg2, hc0, hc1, hc2, h1, h2, h3⟩ := hp.ex
  refine enter (args := [.pointer (some ⟨g, 0, none⟩)]) (l := [.tmp 2]) Try.func109 rfl rfl Try.ntmps109 (by simp) ?_
  refine go ?_
  refine r_for p.n (fun k ρ w' => Has ρ [(3, .int .i64 (ordL p ((List.range p.n).take k))), (9, vo), (10, .int .i64 p.ord.length), (11, .int .i64 k)] ∧ Ext w w') ?_ ?_
  · refine ⟨?_, Ext.refl _⟩
    exact hasP
  rintro k ρ w2 hk ⟨hH, he2⟩
  refine rwp_has hH fun ρ0 => ?_
  refine go ?_
  refine c_if (fun h4 => ?_) (fun h4 => ?_)
  · have hkn : k < p.n := by omega
    have hod := hv.opos hkn
    have hr := ordL_rng hv (l := List.range p.n) (fun d hd => List.mem_range.1 hd) (by omega) (k := k) (by omega)
    have hm : 0 ≤ ordL p ((List.range p.n).take k) * p.o k ∧ ordL p ((List.range p.n).take k) * p.o k ≤ 117649 * 7 := ⟨Int.mul_nonneg (by omega) (by omega), Int.mul_le_mul hr.2 hod.2 (by omega) (by omega)⟩
    have hmb : -9223372036854775808 ≤ ordL p ((List.range p.n).take k) * p.o k ∧ ordL p ((List.range p.n).take k) * p.o k ≤ 9223372036854775807 := ⟨by omega, by omega⟩
    have hst := ordL_take (p := p) (List.range p.n) (show k < (List.range p.n).length by omega)
    rw [show (List.range p.n).getD k 0 = k by simp [hkn]] at hst
    refine go ?_
    rw [show p.ord.getD k 0 = p.o k from rfl]
    refine ra (h := rd_mul (by ((try simp only [ev_tmp, ev_const, ev_func, get_put, get_args, get_putL, get_putL_nil, Nat.reduceEqDiff, reduceIte, List.getD_cons_zero, List.getD_cons_succ, List.getD_nil]); first | done | with_reducible rfl)) (by ((try simp only [ev_tmp, ev_const, ev_func, get_put, get_args, get_putL, get_putL_nil, Nat.reduceEqDiff, reduceIte, List.getD_cons_zero, List.getD_cons_succ, List.getD_nil]); first | done | with_reducible rfl)) hmb) (next := ?_)
    refine go ?_
    refine forQ_normal (by omega) ⟨?_, he2⟩
    rw [hst]
    exact hasP
  · refine go ?_
    have e : (List.range p.n).take k = List.range p.n := by rw [show k = p.n by omega, List.take_of_length_le (by omega)]
    rw [e]
    exact ret1 ⟨rfl, he2⟩
theorem ordL_all_rng' {p : Pr} (hv : Valid p) : 1 ≤ ordL p (List.range p.n) ∧ ordL p (List.range p.n) ≤ 117649 := by
  have hn6 := hv.n6
  have h := ordL_rng hv (l := List.range p.n) (fun d hd => List.mem_range.1 hd) (by simp; omega) (k := p.n) (by simp)
  rwa [List.take_of_length_le (by simp)] at h
theorem grow_one {e b : Nat} {w0 w1 w2 : World} {v u : Value} {xs : List Int} (ho : Own e b w2 v [u]) (hb : b = w1.heap.size) (hu : Fr w0.heap.size w1 u xs) (x0 : Ext w0 w1) (x : Ext w1 w2) : GrowL e w0.heap.size w2 v [(u, xs)] := by
  have hvb := ho.toN_block
  have h0 := x0.size
  have h1 := x.size
  refine ⟨⟨ho.toN.mono (by omega), ⟨rfl, fun i => ?_⟩, fun g hg => ?_, fun g hg => by omega⟩, ?_⟩
  · cases i with
    | zero =>
      have h : IntsAp (fun g => g < w0.heap.size ∨ v.ownBlock = some g) w1 u xs := ⟨w0.heap.size, w1.heap.size, hu.ints, Nat.le_refl _, fun g hg => by
        rcases hg with hg | hg
        · exact .inl hg
        · rw [hvb] at hg; injection hg with hg; exact .inr (by omega)⟩
      exact h.ext x
    | succ i => exact IntsAp.nil _ _
  · rw [hvb] at hg; injection hg with hg; omega
  · exact ((RowsO.nil w0.heap.size w0).cons x0 (Nat.le_refl _) hu).ext x
theorem take_flatMap {α β : Type} (L : List α) (f : α → List β) (z : α) {j : Nat} (hj : j < L.length) : (L.take (j + 1)).flatMap f = (L.take j).flatMap f ++ f (L.getD j z) := by
  rw [List.take_succ_eq_append_getElem hj, List.flatMap_append]; simp [hj]
end Go.Proofs.Ytcohfmglfmomcaa

/-
  Walks: the program's element with a number, all elements, subgroups of all elements with a property; Center.
  Conditions: stated at each theorem.
-/
namespace Go.Proofs.Ytcohfmglfmomcaa
open Go Go.Pc
set_option maxHeartbeats 2000000 in
theorem elementAt_ok {p : Pr} [hc : ConAll p] {t : Nat} (ht : t ≤ 1000000) {w : World} {vp : Value} {lo hi : Nat} [hp : PresP lo hi w vp p] :
    Calls Try.prog 110 #[vp, .int .i64 t] w (Ret fun v w' => Ext w w' ∧ Fr w.heap.size w' v (allE p t).v) := by
  have hv := hc.valid
  have hn6 := hv.n6
  have hol : p.ord.length = p.n := rfl
  rw [allE_val]
  obtain ⟨l, hl⟩ : ∃ l, List.range p.n = l := ⟨_, rfl⟩
  have hll : l.length = p.n := by rw [← hl]; simp
  have hlt : ∀ d, d ∈ l → d < p.n := fun d hd => by rw [← hl] at hd; exact List.mem_range.1 hd
  have hnd : l.Nodup := by rw [← hl]; exact List.nodup_range
  have hlg : ∀ i, i < p.n → l.getD i 0 = i := fun i hi => by rw [← hl]; simp [hi]
  rw [hl]
  replace hp := hp.wide
  obtain ⟨g, vo, vpw, vc, ps, cs, css, rfl, hg1, hg2, hc0, hc1, hc2, h1, h2, h3⟩ := hp.ex
  refine enter (args := [.pointer (some ⟨g, 0, none⟩), .int .i64 t]) (l := [.tmp 4]) Try.func110 rfl rfl Try.ntmps110 (by simp) ?_
  refine go ?_
  refine st_make_int (by ((try simp only [ev_tmp, ev_const, ev_func, get_put, get_args, get_putL, get_putL_nil, Nat.reduceEqDiff, reduceIte, List.getD_cons_zero, List.getD_cons_succ, List.getD_nil]); first | done | with_reducible rfl)) (by ((try simp only [ev_tmp, ev_const, ev_func, get_put, get_args, get_putL, get_putL_nil, Nat.reduceEqDiff, reduceIte, List.getD_cons_zero, List.getD_cons_succ, List.getD_nil]); first | done | with_reducible rfl)) (by omega) (by omega) (by first | exact True.intro | exact ⟨_, rfl, by ((try simp only [ev_tmp, ev_const, ev_func, get_put, get_args, get_putL, get_putL_nil, Nat.reduceEqDiff, reduceIte, List.getD_cons_zero, List.getD_cons_succ, List.getD_nil, Bool.not_true, Bool.not_false]); first | done | with_reducible rfl)⟩) fun w2 v2 he2 hs2 ho2 => ?_
  have hz2 := he2.size
  have hzz : List.replicate p.ord.length (0 : Int) = zeros p.n := rfl
  rw [hzz] at ho2
  have hzl := zeros_len p.n
  have ap1 : Apart 0 w.heap.size w.heap.size := ⟨.inr (Nat.le_refl _)⟩
  have hgs : g + 1 ≤ w.heap.size := by have := hc0.lt; omega
  have ap2 : Apart g (g + 1) w.heap.size := ⟨.inr hgs⟩
  refine go ?_
  refine r_for p.n (fun k ρ w' => ∃ (tk : Int) (xs : List Int), Has ρ [(0, .pointer (some ⟨g, 0, none⟩)), (1, .int .i64 tk), (5, v2), (6, .int .i64 (p.n - 1 - k))] ∧ Chg w.heap.size w2 w' ∧ OwnI 2 w.heap.size w' v2 xs ∧ xs.length = p.n ∧ 0 ≤ tk ∧ tk ≤ 1000000 ∧ fillTo p l (p.n - k) tk xs = elTo p l l.length t) ?_ ?_
  · refine ⟨t, zeros p.n, ?_, Chg.refl _ _, ho2, hzl, by omega, by omega, ?_⟩
    · exact hasP
    · have := fill_eq hnd hlt (t : Int)
      rwa [hll] at this ⊢
  clear ho2
  rintro k ρ w4 hk ⟨tk, xs, hH, hch4, ho4, hxl, ht0, ht1, hfill⟩
  refine rwp_has hH fun ρ0 => ?_
  refine go ?_
  refine c_if (fun h4 => ?_) (fun h4 => ?_)
  · have hkn : k < p.n := by omega
    obtain ⟨i, hi⟩ : ∃ i, p.n - 1 - k = i := ⟨_, rfl⟩
    have hil : i < p.n := by omega
    have hcast : ((p.n : Int) - 1 - k) = (i : Int) := by omega
    have hod := hv.opos hil
    have hmod : 0 ≤ tk % p.o i ∧ tk % p.o i < p.o i := ⟨Int.emod_nonneg _ (by omega), Int.emod_lt_of_pos _ (by omega)⟩
    have hdiv : 0 ≤ tk / p.o i ∧ tk / p.o i ≤ 1000000 := ⟨Int.ediv_nonneg ht0 (by omega), Int.le_trans (Int.ediv_le_self _ ht0) ht1⟩
    have hstep : fillTo p l (p.n - (k + 1)) (tk / p.o i) (xs.set i (tk % p.o i)) = elTo p l l.length t := by
      rw [← hfill, show p.n - k = i + 1 by omega, show p.n - (k + 1) = i by omega]
      show _ = fillTo p l i (tk / p.o (l.getD i 0)) (xs.set (l.getD i 0) (tk % p.o (l.getD i 0)))
      rw [hlg i hil]
    rw [hcast]
    refine go ?_
    first
      | rw [show p.ord.getD i 0 = p.o i from rfl]
      | rw [show p.ord.getD ((i : Int).toNat) 0 = p.o i from rfl]
    refine go ?_
    refine st_store_int (h := ho4) (by ((try simp only [ev_tmp, ev_const, ev_func, get_put, get_args, get_putL, get_putL_nil, Nat.reduceEqDiff, reduceIte, List.getD_cons_zero, List.getD_cons_succ, List.getD_nil]); first | done | with_reducible rfl)) (by ((try simp only [ev_tmp, ev_const, ev_func, get_put, get_args, get_putL, get_putL_nil, Nat.reduceEqDiff, reduceIte, List.getD_cons_zero, List.getD_cons_succ, List.getD_nil]); first | done | with_reducible rfl)) ?_ (by first | exact True.intro | exact ⟨_, rfl, by ((try simp only [ev_tmp, ev_const, ev_func, get_put, get_args, get_putL, get_putL_nil, Nat.reduceEqDiff, reduceIte, List.getD_cons_zero, List.getD_cons_succ, List.getD_nil, Bool.not_true, Bool.not_false]); first | done | with_reducible rfl)⟩) fun w6 hc6 hs6 ho6 => ?_
    · omega
    have hch6 : Chg w.heap.size w2 w6 := hch4.trans hc6
    clear hch4 hc6 ho4
    refine go ?_
    first
      | rw [show p.ord.getD i 0 = p.o i from rfl]
      | rw [show p.ord.getD ((i : Int).toNat) 0 = p.o i from rfl]
    refine go ?_
    refine forQ_normal (by omega) ⟨tk / p.o i, _, ?_, hch6, ho6, by simp [hxl], hdiv.1, hdiv.2, hstep⟩
    exact hasP
  · refine go ?_
    obtain rfl : k = p.n := by omega
    rw [Nat.sub_self] at hfill
    have hx : xs = elTo p l l.length t := hfill
    refine ret1 ⟨hch4.ext he2 (Nat.le_refl _), ?_⟩
    rw [← hx]
    exact ho4.toFr (Nat.le_refl _)
set_option maxHeartbeats 2000000 in
theorem allElements_ok {p : Pr} [hc : ConAll p] {w : World} {vp : Value} {lo hi : Nat} [hp : PresP lo hi w vp p] :
    Calls Try.prog 77 #[vp] w (Ret fun v w' => Ext w w' ∧ ∃ rs, vecs ((List.range (ordN p)).map (allE p)) = rs.map (·.2) ∧ MatO w.heap.size w'.heap.size w' v rs) := by
  have hv := hc.valid
  obtain ⟨hoe, ho1, ho2⟩ := ordN_rng p
  have hpw := hp.wide
  refine enter (args := [vp]) (l := [.tmp 2]) Try.func77 rfl rfl Try.ntmps77 (by simp) ?_
  refine go ?_
  refine rc (orderOf_ok (p := p) hv) (next := fun v2 w2 h4 => ?_)
  obtain ⟨rfl, he2⟩ := h4
  rw [hoe]
  have hz2 := he2.size
  refine go ?_
  refine r_for (ordN p) (fun k ρ w' => ∃ vl rs, Has ρ [(0, vp), (3, vl), (6, .int .i64 (ordN p)), (7, .int .i64 k)] ∧ Ext w2 w' ∧ GrowL 22 w2.heap.size w' vl rs ∧ rs.map (·.2) = vecs ((List.range k).map (allE p))) ?_ ?_
  · refine ⟨nilv, [], ?_, Ext.refl _, GrowL.nil _ _ _ (Nat.le_refl _), by simp⟩
    exact hasP
  rintro k ρ w3 hk ⟨vl, rs, hH, he3, hG, hrs⟩
  refine rwp_has hH fun ρ0 => ?_
  have hz3 := he3.size
  have hrl : rs.length = k := by have := congrArg List.length hrs; simp at this; omega
  have hE3 := he2.trans he3
  refine go ?_
  refine c_if (fun h4 => ?_) (fun h4 => ?_)
  · refine go ?_
    refine rc (elementAt_ok (p := p) (t := k) (by omega)) (next := fun v4 w4 h5 => ?_)
    obtain ⟨he4, hf4⟩ := h5
    refine go ?_
    refine st_grow hG he4 hf4 hz3 (by omega) (next := fun v6 v7 w7 hG7 hx7 hz7 hgs7 => ?_)
    refine go ?_
    refine forQ_normal (by omega) ⟨v7, _, ?_, hx7 w2 (he3.trans he4) (Nat.le_refl _), hG7, ?_⟩
    · exact hasP
    · rw [List.range_succ, List.map_append, List.map_append, hrs]; simp
  · obtain rfl : k = ordN p := by omega
    refine go ?_
    exact ret1 ⟨hE3, rs, hrs.symm, hG.mat.lower hz2⟩
set_option maxHeartbeats 4000000 in
theorem elementsWith_ok {f : FuncId} {caps : Array Value} [hf : FnT Try.prog f] {p : Pr} [hcon : ConAll p] {P : El p → Prop} {w : World} {vp : Value} {lo hi : Nat} [hp : PresP lo hi w vp p]
    (hcall : ∀ {w' : World} {vx : Value} {lo' hi' : Nat} {xs : List Int}, Ext w w' → ∀ x : El p, Ints lo' hi' w' vx xs → xs = x.v → Calls Try.prog f (#[vx] ++ caps) w' (Ret fun r w'' => ∃ b, r = .bool b ∧ (b = true ↔ P x) ∧ Ext w' w'')) :
    Calls Try.prog 119 #[vp, .func (.func f) #[] caps] w (Ret fun v w' => Ext w w' ∧ ∃ rs, canon (Gen (fun a : El p => P a)) = rs.map (·.2) ∧ MatO w.heap.size w'.heap.size w' v rs) := by
  have hn6 := hcon.valid.n6
  obtain ⟨hoe, ho1, ho2⟩ := ordN_rng p
  replace hp := hp.wide
  refine enter (args := [vp, .func (.func f) #[] caps]) (l := [.tmp 4]) Try.func119 rfl rfl Try.ntmps119 (by simp) ?_
  refine go ?_
  refine rc (newSequence_ok (p := p) hn6) (next := fun v1 w1 h1 => ?_)
  obtain ⟨st, vt, rfl, he1, hc0, hc1, hst, hvt, ho⟩ := h1
  have hz1 := he1.size
  have hq : SeqAt st w.heap.size w.heap.size (fun _ => False) w1 vp vt (fun _ => none : Tab p) := by
    refine ⟨hc0, hc1, by omega, hvt, List.replicate p.n nilv, ?_, fun d hd _ => ?_⟩
    · rw [tabL_none]
      exact Lst.ofNils ho (Nat.le_refl _) (fun h => h) (fun g h => h.elim)
    · rw [List.getD_eq_getElem?_getD, List.getElem?_replicate]; split <;> rfl
  have hap : Apart 0 w.heap.size w.heap.size := ⟨.inr (Nat.le_refl _)⟩
  have hz11 : w.heap.size + 1 ≤ w1.heap.size := by have := ho.lt; omega
  clear hc0 hc1 ho
  refine go ?_
  refine rc (allElements_ok (p := p)) (next := fun v2 w2 h2 => ?_)
  obtain ⟨he2, rs2, hrs2, hM2⟩ := h2
  have hR2 := hM2.rows
  rw [← hrs2] at hR2
  have hE2 := he1.trans he2
  have hz2 := he2.size
  have hvl : (vecs ((List.range (ordN p)).map (allE p))).length = ordN p := by simp
  have hq2 := hq.ext he2
  clear hq
  refine go ?_
  refine r_for (ordN p) (fun k ρ w' => ∃ (t : Tab p) (S : El p → Prop), Has ρ [(0, vp), (1, .func (.func f) #[] caps), (5, .pointer (some ⟨st, 0, none⟩)), (11, v2), (12, .int .i64 (ordN p)), (13, .int .i64 k)] ∧ Chg w.heap.size w2 w' ∧ SeqAt st w.heap.size w.heap.size (fun _ => False) w' vp vt t ∧ Wk S t (fun _ => False) ∧ ∀ a, S a ↔ a ∈ selL P k) ?_ ?_
  · refine ⟨fun _ => none, fun _ => False, ?_, Chg.refl _ _, hq2, Wk.none, fun a => by simp [selL]⟩
    exact hasP
  clear hq2
  rintro k ρ w3 hk ⟨t, S, hH, hch3, hq3, hW3, hS3⟩
  refine rwp_has hH fun ρ0 => ?_
  have hE3 : Ext w w3 := hch3.ext hE2 (Nat.le_refl _)
  have hz3 := hch3.size
  have hR3 : Pc.Rows w1.heap.size w2.heap.size w3 v2 _ _ := hR2.same (hch3.same (.inl (by omega)))
  refine go ?_
  refine c_if (fun h4 => ?_) (fun h4 => ?_)
  · have hkn : k < ordN p := by omega
    have hxk : (vecs ((List.range (ordN p)).map (allE p))).getD k [] = (allE p k).v := by
      rw [vecs_getD _ (by simpa using hkn)]; simp
    have hxi : Ints w1.heap.size w2.heap.size w3 (Pc.rowAt v2 (rs2.map fun x : Value × List Int => x.1) k) ((vecs ((List.range (ordN p)).map (allE p))).getD k []) := hR3.vals.at_ k
    refine go ?_
    refine rc (hcall hE3 (allE p k) hxi hxk) (ho := cl_clo (by ((try simp only [ev_tmp, ev_const, ev_func, get_put, get_args, get_putL, get_putL_nil, Nat.reduceEqDiff, reduceIte, List.getD_cons_zero, List.getD_cons_succ, List.getD_nil]); first | done | with_reducible rfl)) (by simp only [List.map_toArray, List.map_cons, List.map_nil, ev_tmp, ev_const, ev_func, get_put, get_args, get_putL, get_putL_nil, Nat.reduceEqDiff, reduceIte, List.getD_cons_zero, List.getD_cons_succ, List.getD_nil])) (next := fun v5 w5 h5 => ?_)
    obtain ⟨b5, rfl, hb5, he5⟩ := h5
    have hq5 := hq3.ext he5
    have hch5 := hch3.grow he5
    have hxi5 : Ints w1.heap.size w2.heap.size w5 (Pc.rowAt v2 (rs2.map (·.1)) k) (allE p k).v := by rw [← hxk]; exact hxi.same (he5.same _ _)
    clear hq3 hch3
    refine go ?_
    refine c_b (fun e5 => ?_) (fun e5 => ?_)
    · refine go ?_
      refine st_slice1 (u := Pc.rowAt v2 (rs2.map (·.1)) k) (by ((try simp only [ev_tmp, ev_const, ev_func, get_put, get_args, get_putL, get_putL_nil, Nat.reduceEqDiff, reduceIte, List.getD_cons_zero, List.getD_cons_succ, List.getD_nil]); first | done | with_reducible rfl)) hxi5.sl.cells rfl (by first | exact True.intro | exact ⟨_, rfl, by ((try simp only [ev_tmp, ev_const, ev_func, get_put, get_args, get_putL, get_putL_nil, Nat.reduceEqDiff, reduceIte, List.getD_cons_zero, List.getD_cons_succ, List.getD_nil, Bool.not_true, Bool.not_false]); first | done | with_reducible rfl)⟩) fun w6 v6 he6 hs6 hsl6 => ?_
      have hq6 := hq5.ext he6
      have hch6 := hch5.grow he6
      have hz6 := hch6.size
      have hxi6 : Ints w1.heap.size w2.heap.size w6 (Pc.rowAt v2 (rs2.map (·.1)) k) (allE p k).v := hxi5.same (he6.same _ _)
      have hr6 : RowsAp (fun g => g = w.heap.size) w6 [Pc.rowAt v2 (rs2.map (·.1)) k] (vecs [allE p k]) := by
        refine ⟨rfl, fun i => ?_⟩
        cases i with
        | zero => exact ⟨w1.heap.size, w2.heap.size, hxi6, by omega, fun g hg => .inl (by omega)⟩
        | succ i => exact IntsAp.nil _ _
      refine go ?_
      refine rc (add_ok (p := p) (S := S) (by omega) hq6 hW3 hr6 (by simp)) (next := fun v7 w7 h7 => ?_)
      obtain ⟨bg7, t7, rfl, hch7, hq7, hW7, _⟩ := h7
      refine go ?_
      refine forQ_normal (by omega) ⟨t7, _, ?_, hch6.trans hch7, hq7, hW7, fun a => ?_⟩
      · exact hasP
      · rw [selL_yes (hb5.1 e5), List.mem_append, hS3]
    · refine go ?_
      refine forQ_normal (by omega) ⟨t, S, ?_, hch5, hq5, hW3, fun a => ?_⟩
      · exact hasP
      · rw [selL_no (fun h => by rw [hb5.2 h] at e5; cases e5), hS3]
  · obtain rfl : k = ordN p := by omega
    have hgen := hW3.gen (fun _ h => h)
    have hfull := hW3.full (fun _ h => h)
    have hSP : S = fun a => P a := by
      have h := selL_all P
      funext a
      exact propext ((hS3 a).trans (by rw [← congrFun h a]))
    refine go ?_
    refine rc (canonicalM_ok (p := p) hfull hq3) (next := fun v9 w9 h9 => ?_)
    obtain ⟨he9, rs9, hrs9, hM9⟩ := h9
    rw [hgen, hSP] at hrs9
    refine go ?_
    exact ret1 ⟨hE3.trans he9, rs9, hrs9, hM9.lower hE3.size⟩
set_option maxHeartbeats 2000000 in
theorem centerFn_ok {p : Pr} [hc : ConAll p] {ys : List (El p)} (hs : SeqEl ys) {w : World} {vp vu vx : Value} {us : List Value} {xss : List (List Int)} {x : El p} {xs : List Int} {bp bu lo hi lo1 hi1 lo2 hi2 : Nat} [hp : PresP lo hi w vp p] [hu : Pc.Rows lo1 hi1 w vu us xss] [hx : Ints lo2 hi2 w vx xs] [hcp : Cell w bp 0 vp] [hcu : Cell w bu 0 vu] (hus : xss = vecs ys) (hxe : xs = x.v) :
    Calls Try.prog 120 #[vx, .pointer (some ⟨bp, 0, none⟩), .pointer (some ⟨bu, 0, none⟩)] w (Ret fun v w' => ∃ b, v = .bool b ∧ (b = true ↔ AbP ys x) ∧ Ext w w') := by
  have hn6 := hc.valid.n6
  have hgl := gensL_len p
  refine enter (args := [vx, .pointer (some ⟨bp, 0, none⟩), .pointer (some ⟨bu, 0, none⟩)]) (l := [.tmp 4]) Try.func120 rfl rfl Try.ntmps120 (by simp) ?_
  refine go ?_
  refine rc (generators_ok (p := p)) (next := fun v2 w2 h4 => ?_)
  obtain ⟨he2, rs2, hrs2, hM2⟩ := h4
  have hR2 := hM2.rows
  rw [← hrs2] at hR2
  have hvl : (vecs (gensL p)).length = p.n := by simp [hgl]
  refine go ?_
  refine r_for p.n (fun k ρ w' => Has ρ [(0, vx), (1, .pointer (some ⟨bp, 0, none⟩)), (2, .pointer (some ⟨bu, 0, none⟩)), (8, v2), (9, .int .i64 (vecs (gensL p)).length), (10, .int .i64 k)] ∧ Ext w2 w' ∧ ∀ j (h : j < (gensL p).length), j < k → Gen (fun a : El p => a ∈ ys) (Grp.cm x (gensL p)[j])) ?_ ?_
  · refine ⟨?_, Ext.refl _, fun j _ hj => by omega⟩
    exact hasP
  rintro k ρ w3 hk ⟨hH, he3, hI⟩
  refine rwp_has hH fun ρ0 => ?_
  have hE3 := he2.trans he3
  refine go ?_
  refine c_if (fun h4 => ?_) (fun h4 => ?_)
  · have hkn : k < (gensL p).length := by omega
    have hgk := vecs_getD (gensL p) hkn
    refine go ?_
    refine d_order [0, 1, 2, 3, 4, 5, 6, 7] (h := fun w4 he4 _ => ?_)
    refine dgo ?_
    refine dce (commutator_ok (p := p) (i := 0) (x := x) (y := (gensL p)[k]) (Nat.zero_le _) hxe hgk) (next := fun v5 w5 h5 => ?_)
    obtain ⟨he5, hf5⟩ := h5
    refine dce (isMember_ok (p := p) (x := Grp.cm x (gensL p)[k]) hs hus rfl) (next := fun v6 w6 h6 => ?_)
    obtain ⟨b6, rfl, hb6, he6⟩ := h6
    refine dgo ?_
    refine d_end (h := ?_)
    have hE6 := ((he4.trans he5).trans he6)
    refine go ?_
    refine c_b (fun e6 => ?_) (fun e6 => ?_)
    · refine go ?_
      refine ret1 ⟨false, rfl, ?_, hE3.trans hE6⟩
      simp only [Bool.false_eq_true, false_iff]
      intro h
      rw [hb6.2 (h k hkn)] at e6; cases e6
    · have hb : b6 = true := by simpa using e6
      refine go ?_
      refine forQ_normal (by omega) ⟨?_, he3.trans hE6, fun j hj hjk => ?_⟩
      · exact hasP
      · by_cases e : j = k
        · subst e; exact hb6.1 hb
        · exact hI j hj (by omega)
  · refine go ?_
    exact ret1 ⟨true, rfl, ⟨fun _ j hj => hI j hj (by omega), fun _ => rfl⟩, hE3⟩
set_option maxHeartbeats 2000000 in
theorem centerAbove_ok {p : Pr} [hc : ConAll p] {ys : List (El p)} (hs : SeqEl ys) {w : World} {vp vu : Value} {us : List Value} {xss : List (List Int)} {lo hi lo1 hi1 : Nat} [hp : PresP lo hi w vp p] [hu : Pc.Rows lo1 hi1 w vu us xss] (hus : xss = vecs ys) :
    Calls Try.prog 84 #[vp, vu] w (Ret fun v w' => Ext w w' ∧ ∃ rs, canon (Gen (fun a : El p => AbP ys a)) = rs.map (·.2) ∧ MatO w.heap.size w'.heap.size w' v rs) := by
  have hpc : vp.cells = #[vp] := by obtain ⟨g, _, _, _, _, _, _, rfl, _⟩ := hp.ex; rfl
  refine enter (args := [vp, vu]) (l := [.tmp 4]) Try.func84 rfl rfl Try.ntmps84 (by simp) ?_
  refine go ?_
  refine st_box1 (v := vp) (by ((try simp only [ev_tmp, ev_const, ev_func, get_put, get_args, get_putL, get_putL_nil, Nat.reduceEqDiff, reduceIte, List.getD_cons_zero, List.getD_cons_succ, List.getD_nil]); first | done | with_reducible rfl)) hpc (by first | exact True.intro | exact ⟨_, rfl, by ((try simp only [ev_tmp, ev_const, ev_func, get_put, get_args, get_putL, get_putL_nil, Nat.reduceEqDiff, reduceIte, List.getD_cons_zero, List.getD_cons_succ, List.getD_nil, Bool.not_true, Bool.not_false]); first | done | with_reducible rfl)⟩) fun w1 bp he1 hb1 hs1 hbk1 => ?_
  have hcp := hbk1.cell (k := 0) rfl
  refine go ?_
  refine st_box1 (v := vu) (by ((try simp only [ev_tmp, ev_const, ev_func, get_put, get_args, get_putL, get_putL_nil, Nat.reduceEqDiff, reduceIte, List.getD_cons_zero, List.getD_cons_succ, List.getD_nil]); first | done | with_reducible rfl)) hu.sl.cells (by first | exact True.intro | exact ⟨_, rfl, by ((try simp only [ev_tmp, ev_const, ev_func, get_put, get_args, get_putL, get_putL_nil, Nat.reduceEqDiff, reduceIte, List.getD_cons_zero, List.getD_cons_succ, List.getD_nil, Bool.not_true, Bool.not_false]); first | done | with_reducible rfl)⟩) fun w2 bu he2 hb2 hs2 hbk2 => ?_
  have hcu := hbk2.cell (k := 0) rfl
  have hE2 := he1.trans he2
  have hcp2 : Cell w2 bp 0 vp := hcp.same (he2.same _ _) he2.size
  refine go ?_
  refine ra (h := rd_makeFunc (caps := #[.pointer (some ⟨bp, 0, none⟩), .pointer (some ⟨bu, 0, none⟩)]) (by simp only [List.map_toArray, List.map_cons, List.map_nil, ev_tmp, ev_const, ev_func, get_put, get_args, get_putL, get_putL_nil, Nat.reduceEqDiff, reduceIte, List.getD_cons_zero, List.getD_cons_succ, List.getD_nil])) (next := ?_)
  refine go ?_
  refine rc (elementsWith_ok (p := p) (P := AbP ys) (fun {w'} {vx} {lo'} {hi'} {xs} x0 x hx hxe => ?_)) (next := fun v3 w3 h3 => ?_)
  · have hx' := hE2.trans x0
    haveI : Ints lo' hi' w' vx xs := hx
    haveI : Cell w' bp 0 vp := hcp2.same (x0.same _ _) x0.size
    haveI : Cell w' bu 0 vu := hcu.same (x0.same _ _) x0.size
    haveI : Pc.Rows lo1 hi1 w' vu us xss := hu.same (hx'.same _ _)
    haveI : PresP lo hi w' vp p := hp.same (hx'.same _ _) hx'.size
    exact centerFn_ok (p := p) (x := x) hs hus hxe
  obtain ⟨he3, rs3, hrs3, hM3⟩ := h3
  refine go ?_
  exact ret1 ⟨hE2.trans he3, rs3, hrs3, hM3.lower hE2.size⟩
set_option maxHeartbeats 1000000 in
theorem impl_Center_ok {p : Pr} {w : World} {vp : Value} {lo hi : Nat} [hp : Pres lo hi w vp p] (hl : p.ord.length ≤ 2000000) :
    Calls Try.prog 41 #[vp] w (Ret fun v w' => ∃ (u : Value) (k : List (List Int)) (e : Int), v = .tuple #[u, .int .i64 e] ∧ Ans (IsGrp p) (CtV p) [] k e ∧ Ext w w' ∧ ∃ rs, k = rs.map (·.2) ∧ MatO w.heap.size w'.heap.size w' u rs) := by
  obtain ⟨vo, vpw, vc, ps, cs, css, rfl, h1, h2, h3⟩ := hp.ex
  refine enter (args := [.agg #[vo, vpw, vc]]) (l := [.tmp 2, .tmp 3]) Try.func41 rfl rfl Try.ntmps41 (by simp) ?_
  refine go ?_
  refine st_box3 (by ((try simp only [ev_tmp, ev_const, ev_func, get_put, get_args, get_putL, get_putL_nil, Nat.reduceEqDiff, reduceIte, List.getD_cons_zero, List.getD_cons_succ, List.getD_nil]); first | done | with_reducible rfl)) (by first | exact True.intro | exact ⟨_, rfl, by ((try simp only [ev_tmp, ev_const, ev_func, get_put, get_args, get_putL, get_putL_nil, Nat.reduceEqDiff, reduceIte, List.getD_cons_zero, List.getD_cons_succ, List.getD_nil, Bool.not_true, Bool.not_false]); first | done | with_reducible rfl)⟩) fun w1 b he1 hb1 hs1 hc0 hc1 hc2 => ?_
  have hpp := hp.boxed he1 hc0 hc1 hc2
  refine go ?_
  refine rc (impl_IsConsistent_ok (p := p) hl) (next := fun v5 w5 h5 => ?_)
  obtain ⟨b5, rfl, hb5, he5⟩ := h5
  have hE5 := he1.trans he5
  refine go ?_
  refine c_b (fun e5 => ?_) (fun e5 => ?_)
  · refine go ?_
    refine ret2 ⟨nilv, [], 1, rfl, .inr ⟨fun h => ?_, rfl, rfl⟩, hE5, [], rfl, MatO.nilR _ _ _⟩
    rw [hb5.2 h] at e5; cases e5
  have hG := hb5.1 (by simpa using e5)
  haveI : ConAll p := ⟨hG.con⟩
  have hRn : Pc.Rows 0 0 w5 nilv [] [] := Rows.nilR _ _ _
  refine go ?_
  refine rc (centerAbove_ok (p := p) (ys := []) seqEl_nil rfl) (next := fun v8 w8 h8 => ?_)
  obtain ⟨he8, rs8, hrs8, hM8⟩ := h8
  refine go ?_
  exact ret2 ⟨v8, _, 0, rfl, .inl ⟨hG, ⟨inferInstance, rfl⟩, rfl⟩, hE5.trans he8, rs8, hrs8, hM8.lower hE5.size⟩
end Go.Proofs.Ytcohfmglfmomcaa

/-
  Walks: the statement's own helpers on lists: sizes, copies, comparisons (szInt64S, .., toInt64S, .., eqInt64SSS).
  Conditions: stated at each theorem.
-/
namespace Go.Proofs.Ytcohfmglfmomcaa
open Go Go.Pc
theorem szInt64S_ok {w : World} {v : Value} {xs : List Int} {k : Int} {lo hi : Nat} [hx : Ints lo hi w v xs] (hk : 0 ≤ k ∧ k ≤ 2000000) :
    Calls Try.prog 42 #[v, .int .i64 k] w (Ret fun v w' => ∃ j : Int, v = .int .i64 j ∧ (j < 0 ∨ 0 ≤ j ∧ j ≤ k ∧ (xs.length : Int) ≤ k) ∧ Ext w w') := by
  have hl : xs.length ≤ 9223372036854775807 := by
    obtain ⟨A, c, _, hc, hm, _⟩ := hx.sl.ex
    simp at hc; omega
  refine enter (args := [v, .int .i64 k]) (l := [.tmp 4]) Try.func42 rfl rfl Try.ntmps42 (by simp) ?_
  refine go ?_
  refine c_if (fun h4 => ?_) (fun h4 => ?_)
  · refine go ?_
    exact ret1 ⟨-1, rfl, .inl (by omega), Ext.refl _⟩
  · refine go ?_
    exact ret1 ⟨k - xs.length, rfl, .inr ⟨by omega, by omega, by omega⟩, Ext.refl _⟩
theorem sl_len {lo hi : Nat} {w : World} {v : Value} {us : List Value} (h : Sl lo hi w v us) : us.length ≤ 9223372036854775807 := by
  obtain ⟨A, c, _, hc, hm, _⟩ := h.ex
  omega
set_option maxHeartbeats 1000000 in
theorem szInt64SS_ok {w : World} {v : Value} {us : List Value} {xss : List (List Int)} {k : Int} {lo hi : Nat} [hx : Pc.Rows lo hi w v us xss] (hk : 0 ≤ k ∧ k ≤ 2000000) :
    Calls Try.prog 13 #[v, .int .i64 k] w (Ret fun v w' => ∃ j : Int, v = .int .i64 j ∧ (j < 0 ∨ 0 ≤ j ∧ j ≤ k ∧ (xss.length : Int) ≤ k ∧ ∀ i, ((xss.getD i []).length : Int) ≤ k) ∧ Ext w w') := by
  have hl := sl_len hx.sl
  have hul := hx.vals.len
  refine enter (args := [v, .int .i64 k]) (l := [.tmp 4]) Try.func13 rfl rfl Try.ntmps13 (by simp) ?_
  refine go ?_
  refine c_if (fun h4 => ?_) (fun h4 => ?_)
  · refine go ?_
    exact ret1 ⟨-1, rfl, .inl (by omega), Ext.refl _⟩
  refine go ?_
  refine r_for xss.length (fun q ρ w' => ∃ j : Int, Has ρ [(0, v), (1, .int .i64 j), (5, .int .i64 q)] ∧ Ext w w' ∧ 0 ≤ j ∧ j ≤ k ∧ ∀ i, i < q → ((xss.getD i []).length : Int) ≤ k) ?_ ?_
  · refine ⟨k - xss.length, ?_, Ext.refl _, by omega, by omega, fun i hi => by omega⟩
    exact hasP
  rintro q ρ w2 hq ⟨j, hH, he2, hj0, hjk, hI⟩
  refine rwp_has hH fun ρ0 => ?_
  refine go ?_
  refine c_if (fun h5 => ?_) (fun h5 => ?_)
  · refine go ?_
    refine rc (szInt64S_ok (xs := xss.getD q []) (k := j) ?_) (next := fun v3 w3 h3 => ?_)
    · omega
    obtain ⟨j3, rfl, hj3, he3⟩ := h3
    refine go ?_
    refine c_if (fun h6 => ?_) (fun h6 => ?_)
    · refine go ?_
      exact ret1 ⟨-1, rfl, .inl (by omega), he2.trans he3⟩
    · have h7 : 0 ≤ j3 ∧ j3 ≤ j ∧ ((xss.getD q []).length : Int) ≤ j := by
        rcases hj3 with h | h
        · omega
        · exact h
      refine go ?_
      refine forQ_normal (by omega) ⟨j3, ?_, he2.trans he3, by omega, by omega, fun i hi => ?_⟩
      · exact hasP
      · by_cases e : i = q
        · subst e; omega
        · exact hI i (by omega)
  · refine go ?_
    refine ret1 ⟨j, rfl, .inr ⟨hj0, hjk, by omega, fun i => ?_⟩, he2⟩
    by_cases hi : i < xss.length
    · exact hI i (by omega)
    · rw [List.getD_eq_getElem?_getD, List.getElem?_eq_none (by omega)]; simp; omega
set_option maxHeartbeats 1000000 in
theorem szInt64SSS_ok {w : World} {v : Value} {us : List Value} {uss : List (List Value)} {xsss : List (List (List Int))} {k : Int} {lo hi : Nat} [hx : Rowss lo hi w v us uss xsss] (hk : 0 ≤ k ∧ k ≤ 2000000) :
    Calls Try.prog 43 #[v, .int .i64 k] w (Ret fun v w' => ∃ j : Int, v = .int .i64 j ∧ (j < 0 ∨ 0 ≤ j ∧ j ≤ k ∧ (xsss.length : Int) ≤ k ∧ ∀ i, ((xsss.getD i []).length : Int) ≤ k ∧ ∀ h, (((xsss.getD i []).getD h []).length : Int) ≤ k) ∧ Ext w w') := by
  have hl := sl_len hx.sl
  have hul := hx.vals.len
  refine enter (args := [v, .int .i64 k]) (l := [.tmp 4]) Try.func43 rfl rfl Try.ntmps43 (by simp) ?_
  refine go ?_
  refine c_if (fun h4 => ?_) (fun h4 => ?_)
  · refine go ?_
    exact ret1 ⟨-1, rfl, .inl (by omega), Ext.refl _⟩
  refine go ?_
  refine r_for xsss.length (fun q ρ w' => ∃ j : Int, Has ρ [(0, v), (1, .int .i64 j), (5, .int .i64 q)] ∧ Ext w w' ∧ 0 ≤ j ∧ j ≤ k ∧ ∀ i, i < q → ((xsss.getD i []).length : Int) ≤ k ∧ ∀ h, (((xsss.getD i []).getD h []).length : Int) ≤ k) ?_ ?_
  · refine ⟨k - xsss.length, ?_, Ext.refl _, by omega, by omega, fun i hi => by omega⟩
    exact hasP
  rintro q ρ w2 hq ⟨j, hH, he2, hj0, hjk, hI⟩
  refine rwp_has hH fun ρ0 => ?_
  refine go ?_
  refine c_if (fun h5 => ?_) (fun h5 => ?_)
  · refine go ?_
    refine rc (szInt64SS_ok (xss := xsss.getD q []) (k := j) ?_) (next := fun v3 w3 h3 => ?_)
    · omega
    obtain ⟨j3, rfl, hj3, he3⟩ := h3
    refine go ?_
    refine c_if (fun h6 => ?_) (fun h6 => ?_)
    · refine go ?_
      exact ret1 ⟨-1, rfl, .inl (by omega), he2.trans he3⟩
    · have h7 : 0 ≤ j3 ∧ j3 ≤ j ∧ ((xsss.getD q []).length : Int) ≤ j ∧ ∀ i, (((xsss.getD q []).getD i []).length : Int) ≤ j := by
        rcases hj3 with h | h
        · omega
        · exact h
      refine go ?_
      refine forQ_normal (by omega) ⟨j3, ?_, he2.trans he3, by omega, by omega, fun i hi => ?_⟩
      · exact hasP
      · by_cases e : i = q
        · subst e; exact ⟨by omega, fun h => by have := h7.2.2.2 h; omega⟩
        · exact hI i (by omega)
  · refine go ?_
    refine ret1 ⟨j, rfl, .inr ⟨hj0, hjk, by omega, fun i => ?_⟩, he2⟩
    by_cases hi : i < xsss.length
    · exact hI i (by omega)
    · rw [List.getD_eq_getElem?_getD, List.getElem?_eq_none (by omega)]; simp; omega
set_option maxHeartbeats 1000000 in
theorem toInt64S_ok {w : World} {v : Value} {xs : List Int} {lo hi : Nat} [hx : Ints lo hi w v xs] (hl : xs.length ≤ 2000000) :
    Calls Try.prog 47 #[v] w (Ret fun v' w' => Ext w w' ∧ Fr w.heap.size w' v' xs) := by
  refine enter (args := [v]) (l := [.tmp 2]) Try.func47 rfl rfl Try.ntmps47 (by simp) ?_
  refine go ?_
  refine st_make_int (by ((try simp only [ev_tmp, ev_const, ev_func, get_put, get_args, get_putL, get_putL_nil, Nat.reduceEqDiff, reduceIte, List.getD_cons_zero, List.getD_cons_succ, List.getD_nil]); first | done | with_reducible rfl)) (by ((try simp only [ev_tmp, ev_const, ev_func, get_put, get_args, get_putL, get_putL_nil, Nat.reduceEqDiff, reduceIte, List.getD_cons_zero, List.getD_cons_succ, List.getD_nil]); first | done | with_reducible rfl)) (by omega) (by omega) (by first | exact True.intro | exact ⟨_, rfl, by ((try simp only [ev_tmp, ev_const, ev_func, get_put, get_args, get_putL, get_putL_nil, Nat.reduceEqDiff, reduceIte, List.getD_cons_zero, List.getD_cons_succ, List.getD_nil, Bool.not_true, Bool.not_false]); first | done | with_reducible rfl)⟩) fun w1 v1 he1 hs1 ho1 => ?_
  replace hx := hx.wide
  have ap : Apart 0 w.heap.size w.heap.size := ⟨.inr (Nat.le_refl _)⟩
  refine go ?_
  refine r_for xs.length (fun k ρ w' => ∃ ys, Has ρ [(0, v), (3, v1), (4, .int .i64 k)] ∧ Chg w.heap.size w1 w' ∧ OwnI 2 w.heap.size w' v1 ys ∧ ys.length = xs.length ∧ ∀ i, i < k → ys.getD i 0 = xs.getD i 0) ?_ ?_
  · refine ⟨_, ?_, Chg.refl _ _, ho1, by simp, fun i hi => by omega⟩
    exact hasP
  clear ho1
  rintro k ρ w2 hk ⟨ys, hH, hc2, ho2, hl2, hI⟩
  refine rwp_has hH fun ρ0 => ?_
  refine go ?_
  refine c_if (fun h4 => ?_) (fun h4 => ?_)
  · refine go ?_
    refine st_store_int (by ((try simp only [ev_tmp, ev_const, ev_func, get_put, get_args, get_putL, get_putL_nil, Nat.reduceEqDiff, reduceIte, List.getD_cons_zero, List.getD_cons_succ, List.getD_nil]); first | done | with_reducible rfl)) (by ((try simp only [ev_tmp, ev_const, ev_func, get_put, get_args, get_putL, get_putL_nil, Nat.reduceEqDiff, reduceIte, List.getD_cons_zero, List.getD_cons_succ, List.getD_nil]); first | done | with_reducible rfl)) ?_ (by first | exact True.intro | exact ⟨_, rfl, by ((try simp only [ev_tmp, ev_const, ev_func, get_put, get_args, get_putL, get_putL_nil, Nat.reduceEqDiff, reduceIte, List.getD_cons_zero, List.getD_cons_succ, List.getD_nil, Bool.not_true, Bool.not_false]); first | done | with_reducible rfl)⟩) fun w3 hc3 hs3 ho3 => ?_
    · omega
    refine go ?_
    refine forQ_normal (by omega) ⟨_, ?_, hc2.trans hc3, ho3, by simp [hl2], fun i hi => ?_⟩
    · exact hasP
    · by_cases e : k = i
      · subst e; rw [Pc.getD_set_eq _ _ _ (by omega)]
      · rw [Pc.getD_set_ne _ _ _ _ e]; exact hI i (by omega)
  · refine go ?_
    have hy : ys = xs := list_ext0 hl2 fun i hi => hI i (by omega)
    subst hy
    exact ret1 ⟨hc2.ext he1 (Nat.le_refl _), ho2.toFr (Nat.le_refl _)⟩
theorem rows_ext {xss yss : List (List Int)} (hl : xss.length = yss.length) (h : ∀ i, i < xss.length → xss.getD i [] = yss.getD i []) : xss = yss := by
  apply List.ext_getElem hl
  intro i h1 h2
  have := h i h1
  simpa [h1, h2] using this
theorem set_nils {α : Type} (l : List α) (z u : α) (m : Nat) : (l ++ List.replicate (m + 1) z).set l.length u = (l ++ [u]) ++ List.replicate m z := by
  simp [List.replicate_succ]
set_option maxHeartbeats 1000000 in
theorem toInt64SSO_ok {w : World} {v : Value} {us : List Value} {xss : List (List Int)} {lo hi : Nat} [hx : Pc.Rows lo hi w v us xss] (hl : xss.length ≤ 2000000) (hr : ∀ i, (xss.getD i []).length ≤ 2000000) :
    Calls Try.prog 16 #[v] w (Ret fun v' w' => Ext w w' ∧ ∃ rs, Lst 22 w.heap.size (· < w.heap.size) w' v' (rs.map (·.1)) xss ∧ xss = rs.map (·.2) ∧ RowsO w.heap.size w' rs) := by
  refine enter (args := [v]) (l := [.tmp 2]) Try.func16 rfl rfl Try.ntmps16 (by simp) ?_
  refine go ?_
  refine st_make_nil (by ((try simp only [ev_tmp, ev_const, ev_func, get_put, get_args, get_putL, get_putL_nil, Nat.reduceEqDiff, reduceIte, List.getD_cons_zero, List.getD_cons_succ, List.getD_nil]); first | done | with_reducible rfl)) (by ((try simp only [ev_tmp, ev_const, ev_func, get_put, get_args, get_putL, get_putL_nil, Nat.reduceEqDiff, reduceIte, List.getD_cons_zero, List.getD_cons_succ, List.getD_nil]); first | done | with_reducible rfl)) (by omega) (by omega) (by first | exact True.intro | exact ⟨_, rfl, by ((try simp only [ev_tmp, ev_const, ev_func, get_put, get_args, get_putL, get_putL_nil, Nat.reduceEqDiff, reduceIte, List.getD_cons_zero, List.getD_cons_succ, List.getD_nil, Bool.not_true, Bool.not_false]); first | done | with_reducible rfl)⟩) fun w1 v1 he1 hs1 ho1 => ?_
  have hvb := ho1.toN_block
  have hL1 : Lst 22 w.heap.size (· < w.heap.size) w1 v1 _ _ := Lst.ofNils ho1 (Nat.le_refl _) (by omega) (fun g hg => by omega)
  refine go ?_
  refine r_for xss.length (fun k ρ w' => ∃ rs : List (Value × List Int), Has ρ [(0, v), (3, v1), (4, .int .i64 k)] ∧ Ext w w' ∧ Lst 22 w.heap.size (· < w.heap.size) w' v1 (rs.map (·.1) ++ List.replicate (xss.length - k) nilv) (rs.map (·.2) ++ List.replicate (xss.length - k) []) ∧ rs.length = k ∧ rs.map (·.2) = xss.take k ∧ RowsO (w.heap.size + 1) w' rs ∧ w.heap.size + 1 ≤ w'.heap.size) ?_ ?_
  · refine ⟨[], ?_, he1, by simpa using hL1, rfl, by simp, RowsO.nil _ _, by omega⟩
    exact hasP
  clear hL1 ho1
  rintro k ρ w2 hk ⟨rs, hH, he2, hL2, hl2, hI, hO2, hsz2⟩
  refine rwp_has hH fun ρ0 => ?_
  have hLr := hL2.toRows
  refine go ?_
  refine c_if (fun h4 => ?_) (fun h4 => ?_)
  · refine go ?_
    refine rc (toInt64S_ok (xs := xss.getD k []) (hr k)) (next := fun v3 w3 h3 => ?_)
    obtain ⟨he3, hf3⟩ := h3
    have hL3 := hL2.ext he3
    have hO3 := hL3.toOwn hvb
    have hz2 := he2.size
    have hul : (rs.map (·.1) ++ List.replicate (xss.length - k) nilv).length = xss.length := by simp; omega
    have hul2 : (rs.map (·.2) ++ List.replicate (xss.length - k) ([] : List Int)).length = xss.length := by simp; omega
    refine go ?_
    refine st_store_val (h := hO3) (by ((try simp only [ev_tmp, ev_const, ev_func, get_put, get_args, get_putL, get_putL_nil, Nat.reduceEqDiff, reduceIte, List.getD_cons_zero, List.getD_cons_succ, List.getD_nil]); first | done | with_reducible rfl)) (by ((try simp only [ev_tmp, ev_const, ev_func, get_put, get_args, get_putL, get_putL_nil, Nat.reduceEqDiff, reduceIte, List.getD_cons_zero, List.getD_cons_succ, List.getD_nil]); first | done | with_reducible rfl)) ?_ ?_ (by first | exact True.intro | exact ⟨_, rfl, by ((try simp only [ev_tmp, ev_const, ev_func, get_put, get_args, get_putL, get_putL_nil, Nat.reduceEqDiff, reduceIte, List.getD_cons_zero, List.getD_cons_succ, List.getD_nil, Bool.not_true, Bool.not_false]); first | done | with_reducible rfl)⟩) fun w4 hc4 hs4 ho4 => ?_
    · exact hf3.ints.sl.one
    · omega
    have hL4 := hL3.set hvb (IntsAp.ofFr hf3 (fun g hg => by
      rcases hg with hg | hg
      · omega
      · exact (hL2.lt hg).2)) hc4 ho4 (by omega)
    have hkn : k < xss.length := by omega
    have e0 : xss.length - k = (xss.length - (k + 1)) + 1 := by omega
    have e1 := set_nils (rs.map (·.1)) nilv v3 (xss.length - (k + 1))
    have e2 := set_nils (rs.map (·.2)) [] (xss.getD k []) (xss.length - (k + 1))
    rw [List.length_map, hl2, ← e0] at e1 e2
    rw [e1, e2] at hL4
    have hO4 := hO2.push he3 hsz2 hf3
    have hO5 := hO4.wr (.one (B := fun b => b = w.heap.size) rfl hc4) fun b hb e => by have := (hO4.blk hb).1; omega
    have hz3 := he3.size
    refine go ?_
    refine forQ_normal (by omega) ⟨rs ++ [(v3, xss.getD k [])], ?_, hc4.ext (he2.trans he3) (Nat.le_refl _), by simpa using hL4, by simp [hl2], ?_, hO5, by omega⟩
    · exact hasP
    · rw [List.take_succ_eq_append_getElem hkn, List.map_append, hI]; simp [hkn]
  · refine go ?_
    obtain rfl : k = xss.length := by omega
    rw [List.take_length] at hI
    refine ret1 ⟨he2, rs, ?_, hI.symm, hO2.mono (by omega)⟩
    simpa [hI] using hL2
theorem toInt64SS_ok {w : World} {v : Value} {us : List Value} {xss : List (List Int)} {lo hi : Nat} [hx : Pc.Rows lo hi w v us xss] (hl : xss.length ≤ 2000000) (hr : ∀ i, (xss.getD i []).length ≤ 2000000) :
    Calls Try.prog 16 #[v] w (Ret fun v' w' => Ext w w' ∧ ∃ us', Lst 22 w.heap.size (· < w.heap.size) w' v' us' xss) :=
  Pc.Calls.ret_mono (toInt64SSO_ok hl hr) fun _ _ ⟨h1, _, h2, _⟩ => ⟨h1, _, h2⟩
end Go.Proofs.Ytcohfmglfmomcaa

/-
  Walks: the statement's own helpers on presentations: sizes, copies, comparisons (toInt64SSS, szPresentation, toPresentation, eqInt64SSS, eqPresentation).
  Conditions: stated at each theorem.
-/
namespace Go.Proofs.Ytcohfmglfmomcaa
open Go Go.Pc
set_option maxHeartbeats 1000000 in
theorem toInt64SSS_ok {w : World} {v : Value} {us : List Value} {uss : List (List Value)} {xsss : List (List (List Int))} {lo hi : Nat} [hx : Rowss lo hi w v us uss xsss] (hl : xsss.length ≤ 2000000) (hr : ∀ i, (xsss.getD i []).length ≤ 2000000 ∧ ∀ j, ((xsss.getD i []).getD j []).length ≤ 2000000) :
    Calls Try.prog 48 #[v] w (Ret fun v' w' => Ext w w' ∧ ∃ us' uss', Rowss w.heap.size w'.heap.size w' v' us' uss' xsss) := by
  refine enter (args := [v]) (l := [.tmp 2]) Try.func48 rfl rfl Try.ntmps48 (by simp) ?_
  refine go ?_
  refine st_make_nil (by ((try simp only [ev_tmp, ev_const, ev_func, get_put, get_args, get_putL, get_putL_nil, Nat.reduceEqDiff, reduceIte, List.getD_cons_zero, List.getD_cons_succ, List.getD_nil]); first | done | with_reducible rfl)) (by ((try simp only [ev_tmp, ev_const, ev_func, get_put, get_args, get_putL, get_putL_nil, Nat.reduceEqDiff, reduceIte, List.getD_cons_zero, List.getD_cons_succ, List.getD_nil]); first | done | with_reducible rfl)) (by omega) (by omega) (by first | exact True.intro | exact ⟨_, rfl, by ((try simp only [ev_tmp, ev_const, ev_func, get_put, get_args, get_putL, get_putL_nil, Nat.reduceEqDiff, reduceIte, List.getD_cons_zero, List.getD_cons_succ, List.getD_nil, Bool.not_true, Bool.not_false]); first | done | with_reducible rfl)⟩) fun w1 v1 he1 hs1 ho1 => ?_
  refine go ?_
  refine r_for xsss.length (fun k ρ w' => ∃ (us' : List Value) (uss' : List (List Value)) (ysss : List (List (List Int))), Has ρ [(0, v), (3, v1), (4, .int .i64 k)] ∧ Ext w w' ∧ Own 23 w.heap.size w' v1 us' ∧ us'.length = xsss.length ∧ uss'.length = xsss.length ∧ ysss.length = xsss.length ∧
    (∀ i, Pc.Rows (w.heap.size + 1) w'.heap.size w' (us'.getD i nilv) (uss'.getD i []) (ysss.getD i [])) ∧ ∀ i, i < k → ysss.getD i [] = xsss.getD i []) ?_ ?_
  · refine ⟨_, List.replicate xsss.length [], List.replicate xsss.length [], ?_, he1, ho1, by simp, by simp, by simp, fun i => ?_, fun i hi => by omega⟩
    · exact hasP
    · have e1 : (List.replicate xsss.length nilv).getD i nilv = nilv := by
        rw [List.getD_eq_getElem?_getD, List.getElem?_replicate]; split <;> rfl
      have e2 : (List.replicate xsss.length ([] : List Value)).getD i [] = [] := by
        rw [List.getD_eq_getElem?_getD, List.getElem?_replicate]; split <;> rfl
      have e3 : (List.replicate xsss.length ([] : List (List Int))).getD i [] = [] := by
        rw [List.getD_eq_getElem?_getD, List.getElem?_replicate]; split <;> rfl
      rw [e1, e2, e3]
      refine ⟨⟨⟨none, 0, rfl, Nat.le_refl _, by omega, fun k u hu => by simp at hu⟩⟩, rfl, fun i => ?_⟩
      exact ⟨⟨none, 0, by simp, by simp, by omega, fun k u hu => by simp at hu⟩⟩
  clear ho1
  rintro k ρ w2 hk ⟨us', uss', ysss, hH, he2, ho2, hl1, hl2, hl3, hR, hI⟩
  refine rwp_has hH fun ρ0 => ?_
  have hsl := ho2.toSl
  refine go ?_
  refine c_if (fun h4 => ?_) (fun h4 => ?_)
  · refine go ?_
    refine rc (toInt64SS_ok (xss := xsss.getD k []) (hr k).1 (hr k).2) (next := fun v3 w3 h3 => ?_)
    obtain ⟨he3, us3, hL3⟩ := h3
    have hN3 := hL3.newRows
    have ho3 : Own 23 w.heap.size w3 v1 us' := Own.ext (h := ho2)
    have hsl3 := ho3.toSl
    have hlen3 := hsl3.toLen
    have hz2 := he2.size
    have hz3 := he3.size
    have hol := ho2.lt
    refine go ?_
    refine st_store_val (h := ho3) (by ((try simp only [ev_tmp, ev_const, ev_func, get_put, get_args, get_putL, get_putL_nil, Nat.reduceEqDiff, reduceIte, List.getD_cons_zero, List.getD_cons_succ, List.getD_nil]); first | done | with_reducible rfl)) (by ((try simp only [ev_tmp, ev_const, ev_func, get_put, get_args, get_putL, get_putL_nil, Nat.reduceEqDiff, reduceIte, List.getD_cons_zero, List.getD_cons_succ, List.getD_nil]); first | done | with_reducible rfl)) ?_ ?_ (by first | exact True.intro | exact ⟨_, rfl, by ((try simp only [ev_tmp, ev_const, ev_func, get_put, get_args, get_putL, get_putL_nil, Nat.reduceEqDiff, reduceIte, List.getD_cons_zero, List.getD_cons_succ, List.getD_nil, Bool.not_true, Bool.not_false]); first | done | with_reducible rfl)⟩) fun w4 hc4 hs4 ho4 => ?_
    · exact hN3.sl.one
    · omega
    refine go ?_
    refine forQ_normal (by omega) ⟨us'.set k v3, uss'.set k us3, ysss.set k (xsss.getD k []), ?_, hc4.ext (he2.trans he3) (Nat.le_refl _), ho4, by simp [hl1], by simp [hl2], by simp [hl3], fun i => ?_, fun i hi => ?_⟩
    · exact hasP
    · by_cases e : k = i
      · subst e
        have e1 : (us'.set k v3).getD k nilv = v3 := by simp [show k < us'.length by omega]
        have e2 : (uss'.set k us3).getD k [] = us3 := by simp [show k < uss'.length by omega]
        have e3 : (ysss.set k (xsss.getD k [])).getD k [] = xsss.getD k [] := by simp [show k < ysss.length by omega]
        rw [e1, e2, e3]
        exact (hN3.same (hc4.same (.inl (by omega)))).mono (by omega) (by omega)
      · have e1 : (us'.set k v3).getD i nilv = us'.getD i nilv := by simp [List.getElem?_set_ne e]
        have e2 : (uss'.set k us3).getD i [] = uss'.getD i [] := by simp [List.getElem?_set_ne e]
        have e3 : (ysss.set k (xsss.getD k [])).getD i [] = ysss.getD i [] := by simp [List.getElem?_set_ne e]
        rw [e1, e2, e3]
        exact (((hR i).same (he3.same _ _)).same (hc4.same (.inl (by omega)))).mono (Nat.le_refl _) (by omega)
    · by_cases e : k = i
      · subst e; simp [show k < ysss.length by omega]
      · have : (ysss.set k (xsss.getD k [])).getD i [] = ysss.getD i [] := by simp [List.getElem?_set_ne e]
        rw [this]; exact hI i (by omega)
  · refine go ?_
    refine ret1 ⟨he2, us', uss', ?_⟩
    have hy : ysss = xsss := by
      apply List.ext_getElem hl3
      intro i h1 h2
      have := hI i (by omega)
      simpa [h1, h2] using this
    subst hy
    exact ⟨hsl.mono (Nat.le_refl _) (by have := ho2.lt; omega), hl1, hl2, fun i => (hR i).mono (by omega) (Nat.le_refl _)⟩
theorem rowss_mono {lo hi lo' hi' : Nat} {w : World} {v : Value} {us : List Value} {uss : List (List Value)} {xsss : List (List (List Int))} (h : Rowss lo hi w v us uss xsss) (h1 : lo' ≤ lo) (h2 : hi ≤ hi') : Rowss lo' hi' w v us uss xsss :=
  ⟨h.sl.mono h1 h2, h.vals.len, h.vals.len', fun i => (h.vals.at_ i).mono h1 h2⟩
/-- The sizes of a presentation, none above k. -/
structure SizeP (p : Pr) (k : Int) : Prop where
  ord : (p.ord.length : Int) ≤ k
  pow : (p.pow.length : Int) ≤ k
  powi : ∀ i, ((p.pow.getD i []).length : Int) ≤ k
  cnj : (p.cnj.length : Int) ≤ k
  cnji : ∀ i, ((p.cnj.getD i []).length : Int) ≤ k
  cnjij : ∀ i j, (((p.cnj.getD i []).getD j []).length : Int) ≤ k
set_option maxHeartbeats 1000000 in
theorem szPresentation_ok {w : World} {v : Value} {p : Pr} {k : Int} {lo hi : Nat} [hp : Pres lo hi w v p] (hk : 0 ≤ k ∧ k ≤ 2000000) :
    Calls Try.prog 12 #[v, .int .i64 k] w (Ret fun v w' => ∃ j : Int, v = .int .i64 j ∧ (j < 0 ∨ 0 ≤ j ∧ j ≤ k ∧ SizeP p k) ∧ Ext w w') := by
  obtain ⟨vo, vpw, vc, ps, cs, css, rfl, h1, h2, h3⟩ := hp.ex
  refine enter (args := [.agg #[vo, vpw, vc], .int .i64 k]) (l := [.tmp 4]) Try.func12 rfl rfl Try.ntmps12 (by simp) ?_
  refine go ?_
  refine st_box3 (by ((try simp only [ev_tmp, ev_const, ev_func, get_put, get_args, get_putL, get_putL_nil, Nat.reduceEqDiff, reduceIte, List.getD_cons_zero, List.getD_cons_succ, List.getD_nil]); first | done | with_reducible rfl)) (by first | exact True.intro | exact ⟨_, rfl, by ((try simp only [ev_tmp, ev_const, ev_func, get_put, get_args, get_putL, get_putL_nil, Nat.reduceEqDiff, reduceIte, List.getD_cons_zero, List.getD_cons_succ, List.getD_nil, Bool.not_true, Bool.not_false]); first | done | with_reducible rfl)⟩) fun w1 b he1 hb1 hs1 hc0 hc1 hc2 => ?_
  refine go ?_
  refine rc (szInt64S_ok (xs := p.ord) hk) (next := fun v2 w2 h4 => ?_)
  obtain ⟨j2, rfl, hj2, he2⟩ := h4
  refine go ?_
  refine c_if (fun h5 => ?_) (fun h5 => ?_)
  · refine go ?_
    exact ret1 ⟨-1, rfl, .inl (by omega), he1.trans he2⟩
  have h6 : 0 ≤ j2 ∧ j2 ≤ k ∧ (p.ord.length : Int) ≤ k := by
    rcases hj2 with h | h
    · omega
    · exact h
  refine go ?_
  refine rc (szInt64SS_ok (xss := p.pow) (k := j2) ?_) (next := fun v3 w3 h7 => ?_)
  · omega
  obtain ⟨j3, rfl, hj3, he3⟩ := h7
  refine go ?_
  refine c_if (fun h8 => ?_) (fun h8 => ?_)
  · refine go ?_
    exact ret1 ⟨-1, rfl, .inl (by omega), (he1.trans he2).trans he3⟩
  have h9 : 0 ≤ j3 ∧ j3 ≤ j2 ∧ (p.pow.length : Int) ≤ j2 ∧ ∀ i, ((p.pow.getD i []).length : Int) ≤ j2 := by
    rcases hj3 with h | h
    · omega
    · exact h
  refine go ?_
  refine rc (szInt64SSS_ok (xsss := p.cnj) (k := j3) ?_) (next := fun v4 w4 h10 => ?_)
  · omega
  obtain ⟨j4, rfl, hj4, he4⟩ := h10
  refine go ?_
  refine c_if (fun h11 => ?_) (fun h11 => ?_)
  · refine go ?_
    exact ret1 ⟨-1, rfl, .inl (by omega), ((he1.trans he2).trans he3).trans he4⟩
  have h12 : 0 ≤ j4 ∧ j4 ≤ j3 ∧ (p.cnj.length : Int) ≤ j3 ∧ ∀ i, ((p.cnj.getD i []).length : Int) ≤ j3 ∧ ∀ h, (((p.cnj.getD i []).getD h []).length : Int) ≤ j3 := by
    rcases hj4 with h | h
    · omega
    · exact h
  refine go ?_
  refine ret1 ⟨j4, rfl, .inr ⟨h12.1, by omega, ⟨h6.2.2, by omega, fun i => by have := h9.2.2.2 i; omega, by omega, fun i => by have := (h12.2.2.2 i).1; omega, fun i j => by have := (h12.2.2.2 i).2 j; omega⟩⟩, ((he1.trans he2).trans he3).trans he4⟩
set_option maxHeartbeats 1000000 in
theorem toPresentation_ok {w : World} {v : Value} {p : Pr} {lo hi : Nat} [hp : Pres lo hi w v p] (hs : SizeP p 2000000) :
    Calls Try.prog 15 #[v] w (Ret fun v w' => Ext w w' ∧ Pres w.heap.size w'.heap.size w' v p) := by
  have hs1 := hs.ord
  have hs2 := hs.pow
  have hs3 := hs.cnj
  obtain ⟨vo, vpw, vc, ps, cs, css, rfl, h1, h2, h3⟩ := hp.ex
  refine enter (args := [.agg #[vo, vpw, vc]]) (l := [.cell 2 31]) Try.func15 rfl rfl Try.ntmps15 (by simp) ?_
  refine go ?_
  refine st_box3 (by ((try simp only [ev_tmp, ev_const, ev_func, get_put, get_args, get_putL, get_putL_nil, Nat.reduceEqDiff, reduceIte, List.getD_cons_zero, List.getD_cons_succ, List.getD_nil]); first | done | with_reducible rfl)) (by first | exact True.intro | exact ⟨_, rfl, by ((try simp only [ev_tmp, ev_const, ev_func, get_put, get_args, get_putL, get_putL_nil, Nat.reduceEqDiff, reduceIte, List.getD_cons_zero, List.getD_cons_succ, List.getD_nil, Bool.not_true, Bool.not_false]); first | done | with_reducible rfl)⟩) fun w1 b he1 hb1 hsz1 hc0 hc1 hc2 => ?_
  refine go ?_
  refine st_alloc (by first | exact True.intro | exact ⟨_, rfl, by ((try simp only [ev_tmp, ev_const, ev_func, get_put, get_args, get_putL, get_putL_nil, Nat.reduceEqDiff, reduceIte, List.getD_cons_zero, List.getD_cons_succ, List.getD_nil, Bool.not_true, Bool.not_false]); first | done | with_reducible rfl)⟩) fun w2 br he2 hbr hsz2 hbk2 => ?_
  refine go ?_
  refine st_alloc (by first | exact True.intro | exact ⟨_, rfl, by ((try simp only [ev_tmp, ev_const, ev_func, get_put, get_args, get_putL, get_putL_nil, Nat.reduceEqDiff, reduceIte, List.getD_cons_zero, List.getD_cons_succ, List.getD_nil, Bool.not_true, Bool.not_false]); first | done | with_reducible rfl)⟩) fun w3 bo he3 hbo hsz3 hbk3 => ?_
  have hE3 := (he1.trans he2).trans he3
  refine go ?_
  refine rc (toInt64S_ok (xs := p.ord) (by omega)) (next := fun v4 w4 h4 => ?_)
  obtain ⟨he4, hf4⟩ := h4
  have hb4 : Blk w4 bo _ := Blk.ext (h := hbk3)
  have hz4 := he4.size
  refine go ?_
  refine st_store_fld (h := hb4) (by ((try simp only [ev_tmp, ev_const, ev_func, get_put, get_args, get_putL, get_putL_nil, Nat.reduceEqDiff, reduceIte, List.getD_cons_zero, List.getD_cons_succ, List.getD_nil]); first | done | with_reducible rfl)) (by ((try simp only [ev_tmp, ev_const, ev_func, get_put, get_args, get_putL, get_putL_nil, Nat.reduceEqDiff, reduceIte, List.getD_cons_zero, List.getD_cons_succ, List.getD_nil]); first | done | with_reducible rfl)) ?_ ?_ (by first | exact True.intro | exact ⟨_, rfl, by ((try simp only [ev_tmp, ev_const, ev_func, get_put, get_args, get_putL, get_putL_nil, Nat.reduceEqDiff, reduceIte, List.getD_cons_zero, List.getD_cons_succ, List.getD_nil, Bool.not_true, Bool.not_false]); first | done | with_reducible rfl)⟩) fun w5 hc5 hs5 hb5 => ?_
  · exact hf4.ints.sl.one
  · simp
  have hE15 : Ext w1 w5 := hc5.ext ((he2.trans he3).trans he4) (by have := he2.size; omega)
  have hz15 := hE15.size
  have hz2 := he2.size
  have hi5 : Ints w3.heap.size w4.heap.size w5 v4 p.ord := hf4.ints.same (hc5.same (.inl (by omega)))
  have hr5 : Blk w5 br _ := (Blk.ext (x := he3.trans he4) (h := hbk2)).chg' hc5 (by omega)
  refine go ?_
  refine rc (toInt64SS_ok (xss := p.pow) (by omega) (fun i => by have := hs.powi i; omega)) (next := fun v6 w6 h6 => ?_)
  obtain ⟨he6, us6, hL6⟩ := h6
  have hN6 := hL6.newRows
  have hb6 : Blk w6 bo _ := Blk.ext (h := hb5)
  have hz6 := he6.size
  refine go ?_
  refine st_store_fld (h := hb6) (by ((try simp only [ev_tmp, ev_const, ev_func, get_put, get_args, get_putL, get_putL_nil, Nat.reduceEqDiff, reduceIte, List.getD_cons_zero, List.getD_cons_succ, List.getD_nil]); first | done | with_reducible rfl)) (by ((try simp only [ev_tmp, ev_const, ev_func, get_put, get_args, get_putL, get_putL_nil, Nat.reduceEqDiff, reduceIte, List.getD_cons_zero, List.getD_cons_succ, List.getD_nil]); first | done | with_reducible rfl)) ?_ ?_ (by first | exact True.intro | exact ⟨_, rfl, by ((try simp only [ev_tmp, ev_const, ev_func, get_put, get_args, get_putL, get_putL_nil, Nat.reduceEqDiff, reduceIte, List.getD_cons_zero, List.getD_cons_succ, List.getD_nil, Bool.not_true, Bool.not_false]); first | done | with_reducible rfl)⟩) fun w7 hc7 hs7 hb7 => ?_
  · exact hN6.sl.one
  · simp
  have hE17 : Ext w1 w7 := hc7.ext (hE15.trans he6) (by omega)
  have hi7 : Ints w3.heap.size w4.heap.size w7 v4 p.ord := (hi5.same (he6.same _ _)).same (hc7.same (.inl (by omega)))
  have hp7 : Pc.Rows w5.heap.size w6.heap.size w7 v6 us6 p.pow := hN6.same (hc7.same (.inl (by omega)))
  have hr7 : Blk w7 br _ := (Blk.ext (x := he6) (h := hr5)).chg' hc7 (by omega)
  refine go ?_
  refine rc (toInt64SSS_ok (xsss := p.cnj) (by omega) (fun i => ⟨by have := hs.cnji i; omega, fun j => by have := hs.cnjij i j; omega⟩)) (next := fun v8 w8 h8 => ?_)
  obtain ⟨he8, us8, uss8, hR8⟩ := h8
  have hb8 : Blk w8 bo _ := Blk.ext (h := hb7)
  have hz8 := he8.size
  refine go ?_
  refine st_store_fld (h := hb8) (by ((try simp only [ev_tmp, ev_const, ev_func, get_put, get_args, get_putL, get_putL_nil, Nat.reduceEqDiff, reduceIte, List.getD_cons_zero, List.getD_cons_succ, List.getD_nil]); first | done | with_reducible rfl)) (by ((try simp only [ev_tmp, ev_const, ev_func, get_put, get_args, get_putL, get_putL_nil, Nat.reduceEqDiff, reduceIte, List.getD_cons_zero, List.getD_cons_succ, List.getD_nil]); first | done | with_reducible rfl)) ?_ ?_ (by first | exact True.intro | exact ⟨_, rfl, by ((try simp only [ev_tmp, ev_const, ev_func, get_put, get_args, get_putL, get_putL_nil, Nat.reduceEqDiff, reduceIte, List.getD_cons_zero, List.getD_cons_succ, List.getD_nil, Bool.not_true, Bool.not_false]); first | done | with_reducible rfl)⟩) fun w9 hc9 hs9 hb9 => ?_
  · exact hR8.sl.one
  · simp
  have hE19 : Ext w1 w9 := hc9.ext (hE17.trans he8) (by omega)
  have hi9 : Ints w3.heap.size w4.heap.size w9 v4 p.ord := (hi7.same (he8.same _ _)).same (hc9.same (.inl (by omega)))
  have hp9 : Pc.Rows w5.heap.size w6.heap.size w9 v6 us6 p.pow := (hp7.same (he8.same _ _)).same (hc9.same (.inl (by omega)))
  have hq9 : Rowss w7.heap.size w8.heap.size w9 v8 us8 uss8 p.cnj := hR8.same (hc9.same (.inl (by omega)))
  have hr9 : Blk w9 br _ := (Blk.ext (x := he8) (h := hr7)).chg' hc9 (by omega)
  refine go ?_
  have hb9' : Blk w9 bo [v4, v6, v8] := hb9
  refine ra (v := .agg #[v4, v6, v8]) (h := rd_load_blk (hb := hb9') (by ((try simp only [ev_tmp, ev_const, ev_func, get_put, get_args, get_putL, get_putL_nil, Nat.reduceEqDiff, reduceIte, List.getD_cons_zero, List.getD_cons_succ, List.getD_nil]); first | done | with_reducible rfl)) rfl) (next := ?_)
  refine st_store_agg (vs := [v4, v6, v8]) (cs := _) (hb := hr9) (by ((try simp only [ev_tmp, ev_const, ev_func, get_put, get_args, get_putL, get_putL_nil, Nat.reduceEqDiff, reduceIte, List.getD_cons_zero, List.getD_cons_succ, List.getD_nil]); first | done | with_reducible rfl)) (by ((try simp only [ev_tmp, ev_const, ev_func, get_put, get_args, get_putL, get_putL_nil, Nat.reduceEqDiff, reduceIte, List.getD_cons_zero, List.getD_cons_succ, List.getD_nil]); first | done | with_reducible rfl)) rfl ?_ ?_ (by first | exact True.intro | exact ⟨_, rfl, by ((try simp only [ev_tmp, ev_const, ev_func, get_put, get_args, get_putL, get_putL_nil, Nat.reduceEqDiff, reduceIte, List.getD_cons_zero, List.getD_cons_succ, List.getD_nil, Bool.not_true, Bool.not_false]); first | done | with_reducible rfl)⟩) fun w10 hc10 hs10 hb10 => ?_
  · rfl
  · have e1 := hi9.sl.one
    have e2 := hp9.sl.one
    have e3 := hq9.sl.one
    simp [e1, e2, e3]
  refine go ?_
  refine retc (b := br) (hb := hb10) ⟨hc10.ext (he1.trans hE19) (by omega), ?_⟩ rfl
  have hi10 := (hi9.same (hc10.same (.inl (by omega)))).mono (lo' := w.heap.size) (hi' := w10.heap.size) (by omega) (by omega)
  have hp10 := (hp9.same (hc10.same (.inl (by omega)))).mono (lo' := w.heap.size) (hi' := w10.heap.size) (by omega) (by omega)
  have hq10 := rowss_mono (lo' := w.heap.size) (hi' := w10.heap.size) (hq9.same (hc10.same (.inl (by omega)))) (by omega) (by omega)
  exact ⟨⟨v4, v6, v8, us6, us8, uss8, rfl, hi10, hp10, hq10⟩⟩
set_option maxHeartbeats 1000000 in
theorem eqInt64SSS_ok {w : World} {va vb : Value} {us vs : List Value} {uss vss : List (List Value)} {xsss ysss : List (List (List Int))} {lo hi lo1 hi1 : Nat} [hx : Rowss lo hi w va us uss xsss] [hy : Rowss lo1 hi1 w vb vs vss ysss] (hm : ∀ i, (xsss.getD i []).length ≤ 2000000 ∧ ∀ j, ((xsss.getD i []).getD j []).length ≤ 2000000) (hl : xsss.length ≤ 10000000) :
    Calls Try.prog 29 #[va, vb] w (Ret fun v w' => ∃ b, v = .bool b ∧ (b = true ↔ xsss = ysss) ∧ Ext w w') := by
  have hul := hx.vals.len
  have hvl := hy.vals.len
  refine enter (args := [va, vb]) (l := [.tmp 4]) Try.func29 rfl rfl Try.ntmps29 (by simp) ?_
  refine go ?_
  refine c_if (fun h1 => ?_) (fun h1 => ?_)
  · refine go ?_
    refine ret1 ⟨_, rfl, ?_, Ext.refl _⟩
    simp only [Bool.false_eq_true, false_iff]
    rintro rfl
    omega
  · have hxy : xsss.length = ysss.length := by omega
    refine go ?_
    refine r_for xsss.length (fun k ρ w' => Has ρ [(0, va), (1, vb), (5, .int .i64 k)] ∧ Ext w w' ∧ ∀ i, i < k → xsss.getD i [] = ysss.getD i []) ?_ ?_
    · refine ⟨?_, Ext.refl _, fun i hi => by omega⟩
      exact hasP
    rintro k ρ w1 hk ⟨hH, he1, hI⟩
    refine rwp_has hH fun ρ0 => ?_
    refine go ?_
    refine c_if (fun h4 => ?_) (fun h4 => ?_)
    · refine go ?_
      refine d_region fun w2 he2 _ => ?_
      refine dgo ?_
      refine dce (eqInt64SS_ok (xss := xsss.getD k []) (yss := ysss.getD k []) (hm k).2 (by have := (hm k).1; omega)) (next := fun v3 w3 h3 => ?_)
      obtain ⟨b3, rfl, hb3, he3⟩ := h3
      refine dgo ?_
      refine d_end (h := ?_)
      refine go ?_
      refine c_b (fun h5 => ?_) (fun h5 => ?_)
      · refine go ?_
        refine ret1 ⟨_, rfl, ?_, (he1.trans he2).trans he3⟩
        simp only [Bool.false_eq_true, false_iff]
        rintro rfl
        have := hb3.2 rfl
        rw [this] at h5; cases h5
      · have h6 := hb3.1 (by simpa using h5)
        refine go ?_
        refine forQ_normal (by omega) ⟨?_, (he1.trans he2).trans he3, fun i hi => ?_⟩
        · exact hasP
        · by_cases e : i = k
          · subst e; exact h6
          · exact hI i (by omega)
    · refine go ?_
      refine ret1 ⟨_, rfl, ?_, he1⟩
      simp only [true_iff]
      apply List.ext_getElem hxy
      intro i h1 h2
      have := hI i (by omega)
      simpa [h1, h2] using this
theorem pr_ext {p q : Pr} (h1 : p.ord = q.ord) (h2 : p.pow = q.pow) (h3 : p.cnj = q.cnj) : p = q := by cases p; cases q; simp_all
set_option maxHeartbeats 1000000 in
theorem eqPresentation_ok {w : World} {va vb : Value} {p q : Pr} {lo hi lo1 hi1 : Nat} [hp : Pres lo hi w va p] [hq : Pres lo1 hi1 w vb q] (hs : SizeP p 2000000) :
    Calls Try.prog 19 #[va, vb] w (Ret fun v w' => ∃ b, v = .bool b ∧ (b = true ↔ p = q) ∧ Ext w w') := by
  have hs1 := hs.ord
  have hs2 := hs.pow
  have hs3 := hs.cnj
  obtain ⟨vo, vpw, vc, ps, cs, css, rfl, h1, h2, h3⟩ := hp.ex
  obtain ⟨vo', vpw', vc', ps', cs', css', rfl, h1', h2', h3'⟩ := hq.ex
  refine enter (args := [.agg #[vo, vpw, vc], .agg #[vo', vpw', vc']]) (l := [.tmp 4]) Try.func19 rfl rfl Try.ntmps19 (by simp) ?_
  refine go ?_
  refine st_box3 (by ((try simp only [ev_tmp, ev_const, ev_func, get_put, get_args, get_putL, get_putL_nil, Nat.reduceEqDiff, reduceIte, List.getD_cons_zero, List.getD_cons_succ, List.getD_nil]); first | done | with_reducible rfl)) (by first | exact True.intro | exact ⟨_, rfl, by ((try simp only [ev_tmp, ev_const, ev_func, get_put, get_args, get_putL, get_putL_nil, Nat.reduceEqDiff, reduceIte, List.getD_cons_zero, List.getD_cons_succ, List.getD_nil, Bool.not_true, Bool.not_false]); first | done | with_reducible rfl)⟩) fun w1 b he1 hb1 hsz1 hc0 hc1 hc2 => ?_
  refine go ?_
  refine st_box3 (by ((try simp only [ev_tmp, ev_const, ev_func, get_put, get_args, get_putL, get_putL_nil, Nat.reduceEqDiff, reduceIte, List.getD_cons_zero, List.getD_cons_succ, List.getD_nil]); first | done | with_reducible rfl)) (by first | exact True.intro | exact ⟨_, rfl, by ((try simp only [ev_tmp, ev_const, ev_func, get_put, get_args, get_putL, get_putL_nil, Nat.reduceEqDiff, reduceIte, List.getD_cons_zero, List.getD_cons_succ, List.getD_nil, Bool.not_true, Bool.not_false]); first | done | with_reducible rfl)⟩) fun w2 b' he2 hb2 hsz2 hc0' hc1' hc2' => ?_
  have hE2 := he1.trans he2
  have no : ∀ {w' : World}, p ≠ q → Ext w w' → ∃ b, Value.bool false = .bool b ∧ (b = true ↔ p = q) ∧ Ext w w' := fun h he => ⟨_, rfl, by simp [h], he⟩
  refine go ?_
  refine rc (eqInt64S_ok (xs := p.ord) (ys := q.ord) (by omega)) (next := fun v3 w3 h4 => ?_)
  obtain ⟨b3, rfl, hb3, he3⟩ := h4
  refine go ?_
  refine c_b (fun h5 => ?_) (fun h5 => ?_)
  · refine go ?_
    refine ret1 (no (fun e => ?_) (hE2.trans he3))
    rw [hb3.2 (by rw [e])] at h5; cases h5
  have e1 := hb3.1 (by simpa using h5)
  refine go ?_
  refine rc (eqInt64SS_ok (xss := p.pow) (yss := q.pow) (fun i => by have := hs.powi i; omega) (by omega)) (next := fun v4 w4 h6 => ?_)
  obtain ⟨b4, rfl, hb4, he4⟩ := h6
  refine go ?_
  refine c_b (fun h7 => ?_) (fun h7 => ?_)
  · refine go ?_
    refine ret1 (no (fun e => ?_) ((hE2.trans he3).trans he4))
    rw [hb4.2 (by rw [e])] at h7; cases h7
  have e2 := hb4.1 (by simpa using h7)
  refine go ?_
  refine rc (eqInt64SSS_ok (xsss := p.cnj) (ysss := q.cnj) (fun i => ⟨by have := hs.cnji i; omega, fun j => by have := hs.cnjij i j; omega⟩) (by omega)) (next := fun v5 w5 h8 => ?_)
  obtain ⟨b5, rfl, hb5, he5⟩ := h8
  refine go ?_
  refine c_b (fun h9 => ?_) (fun h9 => ?_)
  · refine go ?_
    refine ret1 (no (fun e => ?_) (((hE2.trans he3).trans he4).trans he5))
    rw [hb5.2 (by rw [e])] at h9; cases h9
  have e3 := hb5.1 (by simpa using h9)
  refine go ?_
  exact ret1 ⟨_, rfl, ⟨fun _ => pr_ext e1 e2 e3, fun _ => rfl⟩, ((hE2.trans he3).trans he4).trans he5⟩
end Go.Proofs.Ytcohfmglfmomcaa

/-
  Walks: the statement's own helpers that mark memory and read the marks (markInt64S, markInt64SS, heldInt64S, heldInt64SS).
  Conditions: stated at each theorem.
-/
namespace Go.Proofs.Ytcohfmglfmomcaa
open Go Go.Pc
set_option maxHeartbeats 1000000 in
theorem markInt64S_ok {s : Nat} {w : World} {v : Value} {xs : List Int} {k : Int} (hf : Fr s w v xs) (hk : 0 ≤ k) (hb : k + xs.length ≤ 9000000000000000000) :
    Calls Try.prog 53 #[v, .int .i64 k] w (Ret fun v' w' => v' = .int .i64 (k + xs.length) ∧ Fr s w' v (marks k xs.length) ∧ Wrt (fun b => xs ≠ [] ∧ v.ownBlock = some b) w w') := by
  by_cases hn : xs = []
  · subst hn
    have hx := hf.ints
    refine enter (args := [v, .int .i64 k]) (l := [.tmp 4]) Try.func53 rfl rfl Try.ntmps53 (by simp) ?_
    refine go ?_
    refine r_for 0 (fun i ρ w' => Has ρ [(0, v), (1, .int .i64 k), (5, .int .i64 i)] ∧ w' = w) ?_ ?_
    · refine ⟨?_, rfl⟩
      exact hasP
    rintro i ρ w2 hi ⟨hH, rfl⟩
    refine rwp_has hH fun ρ0 => ?_
    refine go ?_
    refine c_if (fun h4 => ?_) (fun h4 => ?_)
    · simp at h4; omega
    · refine go ?_
      exact ret1 (v := .int .i64 k) ⟨by simp, hf, .refl _⟩
  obtain ⟨e, b, hsb, ho⟩ := hf.own hn
  have hl := sl_len ho.own.toSl
  simp only [List.length_map] at hl
  refine enter (args := [v, .int .i64 k]) (l := [.tmp 4]) Try.func53 rfl rfl Try.ntmps53 (by simp) ?_
  refine go ?_
  refine r_for xs.length (fun i ρ w' => ∃ ys, Has ρ [(0, v), (1, .int .i64 (k + i)), (5, .int .i64 i)] ∧ Chg b w w' ∧ OwnI e b w' v ys ∧ ys.length = xs.length ∧ ∀ j : Nat, j < i → ys.getD j 0 = k + j) ?_ ?_
  · refine ⟨xs, ?_, Chg.refl _ _, ho, rfl, fun j hj => by omega⟩
    exact hasP
  have hblk := ho.block
  clear ho hf
  rintro i ρ w2 hi ⟨ys, hH, hc2, ho2, hl2, hI⟩
  refine rwp_has hH fun ρ0 => ?_
  refine go ?_
  refine c_if (fun h4 => ?_) (fun h4 => ?_)
  · refine go ?_
    refine st_store_int (by ((try simp only [ev_tmp, ev_const, ev_func, get_put, get_args, get_putL, get_putL_nil, Nat.reduceEqDiff, reduceIte, List.getD_cons_zero, List.getD_cons_succ, List.getD_nil]); first | done | with_reducible rfl)) (by ((try simp only [ev_tmp, ev_const, ev_func, get_put, get_args, get_putL, get_putL_nil, Nat.reduceEqDiff, reduceIte, List.getD_cons_zero, List.getD_cons_succ, List.getD_nil]); first | done | with_reducible rfl)) ?_ (by first | exact True.intro | exact ⟨_, rfl, by ((try simp only [ev_tmp, ev_const, ev_func, get_put, get_args, get_putL, get_putL_nil, Nat.reduceEqDiff, reduceIte, List.getD_cons_zero, List.getD_cons_succ, List.getD_nil, Bool.not_true, Bool.not_false]); first | done | with_reducible rfl)⟩) fun w3 hc3 hs3 ho3 => ?_
    · omega
    refine go ?_
    refine forQ_normal (by omega) ⟨_, ?_, hc2.trans hc3, ho3, by simp [hl2], fun j hj => ?_⟩
    · exact hasP
    · by_cases ee : i = j
      · subst ee; rw [Pc.getD_set_eq _ _ _ (by omega)]
      · rw [Pc.getD_set_ne _ _ _ _ ee]; exact hI j (by omega)
  · refine go ?_
    obtain rfl : i = xs.length := by omega
    have hy : ys = marks k xs.length := list_ext0 (by rw [marks_len]; exact hl2) fun j hj => by rw [hI j (by omega), marks_getD _ (by omega)]
    refine ret1 ⟨rfl, ?_, .one ⟨hn, hblk⟩ hc2⟩
    rw [← hy]
    exact ho2.toFr hsb
set_option maxHeartbeats 1000000 in
theorem heldInt64S_ok {w : World} {v : Value} {k : Int} {n lo hi : Nat} {xs : List Int} [hx : Ints lo hi w v xs] (hxs : xs = marks k n) (hk : 0 ≤ k) (hb : k + n ≤ 9000000000000000000) :
    Calls Try.prog 54 #[v, .int .i64 k] w (Ret fun v' w' => v' = .int .i64 (k + n) ∧ Ext w w') := by
  have hl : xs.length = n := by rw [hxs, marks_len]
  have hg : ∀ i, i < n → xs.getD i 0 = k + i := fun i hi => by rw [hxs, marks_getD _ hi]
  have hm : n ≤ 9223372036854775807 := by have := sl_len hx.sl; simp at this; omega
  refine enter (args := [v, .int .i64 k]) (l := [.tmp 4]) Try.func54 rfl rfl Try.ntmps54 (by simp) ?_
  refine go ?_
  refine r_for n (fun i ρ w' => Has ρ [(0, v), (1, .int .i64 (k + i)), (5, .int .i64 i)] ∧ Ext w w') ?_ ?_
  · refine ⟨?_, Ext.refl _⟩
    exact hasP
  rintro i ρ w2 hi ⟨hH, he2⟩
  refine rwp_has hH fun ρ0 => ?_
  refine go ?_
  refine c_if (fun h4 => ?_) (fun h4 => ?_)
  · have hgi := hg i (by omega)
    refine go ?_
    refine c_if (fun h5 => ?_) (fun h5 => ?_)
    · exact absurd hgi h5
    · refine go ?_
      refine forQ_normal (by omega) ⟨?_, he2⟩
      exact hasP
  · refine go ?_
    obtain rfl : i = n := by omega
    exact ret1 ⟨rfl, he2⟩
set_option maxHeartbeats 1000000 in
theorem heldInt64SS_ok {w : World} {v : Value} {k : Int} {lo hi : Nat} {us : List Value} {xss yss : List (List Int)} [hx : Pc.Rows lo hi w v us xss] (hxs : xss = markL k yss) (hk : 0 ≤ k) (hb : k + tot yss ≤ 9000000000000000000) :
    Calls Try.prog 22 #[v, .int .i64 k] w (Ret fun v' w' => v' = .int .i64 (k + tot yss) ∧ Ext w w') := by
  have hl : xss.length = yss.length := by rw [hxs, markL_len]
  have hul := hx.vals.len
  have hm := sl_len hx.sl
  have hg : ∀ i, i < yss.length → xss.getD i [] = marks (k + tot (yss.take i)) (yss.getD i []).length := fun i hi => by rw [hxs, markL_getD _ _ _ hi]
  refine enter (args := [v, .int .i64 k]) (l := [.tmp 4]) Try.func22 rfl rfl Try.ntmps22 (by simp) ?_
  refine go ?_
  refine r_for yss.length (fun i ρ w' => Has ρ [(0, v), (1, .int .i64 (k + tot (yss.take i))), (5, .int .i64 i)] ∧ Ext w w') ?_ ?_
  · refine ⟨?_, Ext.refl _⟩
    simp only [List.take_zero, tot]
    exact hasP
  rintro i ρ w2 hi ⟨hH, he2⟩
  refine rwp_has hH fun ρ0 => ?_
  have ht := tot_take_le yss i
  refine go ?_
  refine c_if (fun h4 => ?_) (fun h4 => ?_)
  · have hin : i < yss.length := by omega
    have hts := tot_take_succ yss hin
    have ht2 := tot_take_le yss (i + 1)
    refine go ?_
    refine rc (heldInt64S_ok (xs := xss.getD i []) (hg i hin) ?_ ?_) (next := fun v3 w3 h3 => ?_)
    · omega
    · omega
    obtain ⟨rfl, he3⟩ := h3
    refine go ?_
    refine c_if (fun h5 => ?_) (fun h5 => ?_)
    · omega
    · refine go ?_
      refine forQ_normal (by omega) ⟨?_, he2.trans he3⟩
      exact hasP
  · refine go ?_
    obtain rfl : i = yss.length := by omega
    refine ret1 ⟨?_, he2⟩
    rw [List.take_length]
theorem split_at {α : Type} (l : List α) {i : Nat} (h : i < l.length) : l = l.take i ++ l[i] :: l.drop (i + 1) := by
  rw [List.getElem_cons_drop]; exact (List.take_append_drop i l).symm
set_option maxHeartbeats 2000000 in
theorem markInt64SS_ok {A : Nat → Prop} {s : Nat} {w : World} {v : Value} {k : Int} {pre rs post : List (Value × List Int)} (hO : RowsO s w (pre ++ rs ++ post)) (hS : SpA A w v (rs.map (·.1))) (hA : ∀ b, BlkOf rs b → A b) (hk : 0 ≤ k) (hb : k + tot (rs.map (·.2)) ≤ 9000000000000000000) :
    Calls Try.prog 21 #[v, .int .i64 k] w (Ret fun v' w' => v' = .int .i64 (k + tot (rs.map (·.2))) ∧ RowsO s w' (pre ++ mkR k rs ++ post) ∧ Wrt (BlkOf rs) w w') := by
  have hm := sl_len hS.sl
  simp only [List.length_map] at hm
  have hsl := hS.sl
  have hlen := hsl.toLen
  refine enter (args := [v, .int .i64 k]) (l := [.tmp 4]) Try.func21 rfl rfl Try.ntmps21 (by simp) ?_
  refine go ?_
  refine r_for rs.length (fun i ρ w' => Has ρ [(0, v), (1, .int .i64 (k + tot ((rs.take i).map (·.2)))), (5, .int .i64 i)] ∧ RowsO s w' (pre ++ (mkR k (rs.take i) ++ rs.drop i) ++ post) ∧ Wrt (BlkOf rs) w w') ?_ ?_
  · refine ⟨?_, by simpa [mkR] using hO, .refl _⟩
    simp only [List.take_zero, List.map_nil, tot]
    exact hasP
  clear hO hsl hlen
  rintro i ρ w2 hi ⟨hH, hO2, hW2⟩
  refine rwp_has hH fun ρ0 => ?_
  have hS2 := hS.wr hW2 hA
  have hsl2 := hS2.sl
  have hlen2 := hsl2.toLen
  have hll : (rs.map (·.1)).length = rs.length := by simp
  have ht : tot ((rs.take i).map (·.2)) ≤ tot (rs.map (·.2)) := by rw [List.map_take]; exact tot_take_le _ _
  refine go ?_
  refine c_if (fun h4 => ?_) (fun h4 => ?_)
  · have hin : i < rs.length := by simp at h4; omega
    have e1 : Pc.rowAt v (rs.map (·.1)) i = rs[i].1 := by simp [Pc.rowAt, hin]
    have e2 : rs.drop i = rs[i] :: rs.drop (i + 1) := (List.getElem_cons_drop (h := hin)).symm
    have e3 : rs.take (i + 1) = rs.take i ++ [rs[i]] := List.take_succ_eq_append_getElem hin
    have hts : tot ((rs.take (i + 1)).map (·.2)) = tot ((rs.take i).map (·.2)) + (rs[i]).2.length := by rw [e3, List.map_append, tot_append]; simp [tot]
    have ht2 : tot ((rs.take (i + 1)).map (·.2)) ≤ tot (rs.map (·.2)) := by rw [List.map_take]; exact tot_take_le _ _
    have hO3 : RowsO s w2 ((pre ++ mkR k (rs.take i)) ++ rs[i] :: (rs.drop (i + 1) ++ post)) := by
      rw [e2] at hO2
      simpa only [List.append_assoc, List.cons_append] using hO2
    have hfr := hO3.fr rs[i] (by simp)
    refine go ?_
    refine ra (v := Pc.rowAt v (rs.map fun x : Value × List Int => x.1) i) (h := rd_load_sl (us := rs.map fun x : Value × List Int => x.1) (by ((try simp only [ev_tmp, ev_const, ev_func, get_put, get_args, get_putL, get_putL_nil, Nat.reduceEqDiff, reduceIte, List.getD_cons_zero, List.getD_cons_succ, List.getD_nil]); first | done | with_reducible rfl)) (by omega)) (next := ?_)
    rw [e1]
    refine go ?_
    refine rc (markInt64S_ok hfr ?_ ?_) (next := fun v3 w3 h3 => ?_)
    · omega
    · omega
    obtain ⟨rfl, hf3, hW3⟩ := h3
    have hO4 := hO3.upd hW3 hf3 marks_ne.1
    refine go ?_
    refine forQ_normal (by omega) ⟨?_, ?_, hW2.trans (hW3.mono fun b ⟨hn, e⟩ => ⟨_, List.getElem_mem hin, hn, e⟩)⟩
    · exact hasP
    · rw [e3, mkR_append]
      simpa only [mkR, List.append_assoc, List.cons_append, List.nil_append] using hO4
  · refine go ?_
    obtain rfl : i = rs.length := by simp at h4; omega
    rw [List.take_length] at hO2 ⊢
    exact ret1 ⟨rfl, by simpa using hO2, hW2⟩
end Go.Proofs.Ytcohfmglfmomcaa

/-
  Walks: copies that are the call's own (toInt64SSS, toPresentation), marks of presentations (markInt64SSS, markPresentation).
  Conditions: stated at each theorem.
-/
namespace Go.Proofs.Ytcohfmglfmomcaa
open Go Go.Pc
theorem toInt64SSM_ok {w : World} {v : Value} {us : List Value} {xss : List (List Int)} {lo hi : Nat} [hx : Pc.Rows lo hi w v us xss] (hl : xss.length ≤ 2000000) (hr : ∀ i, (xss.getD i []).length ≤ 2000000) :
    Calls Try.prog 16 #[v] w (Ret fun v' w' => Ext w w' ∧ ∃ rs, xss = rs.map (·.2) ∧ MatO w.heap.size w'.heap.size w' v' rs) :=
  Pc.Calls.ret_mono (toInt64SSO_ok hl hr) fun _ _ ⟨h1, rs, h2, h3, h4⟩ => by subst h3; exact ⟨h1, rs, rfl, MatO.ofLst h2 h4 h2.newRows⟩
theorem getD_nils {α : Type} (l : List α) (z : α) (m i : Nat) : (l ++ List.replicate m z).getD i z = l.getD i z := by
  by_cases h : i < l.length
  · simp [List.getElem?_append_left h, h]
  · rw [List.getD_eq_getElem?_getD, List.getElem?_append_right (by omega), List.getElem?_replicate]
    rw [List.getD_eq_getElem?_getD, List.getElem?_eq_none (by omega)]
    split <;> rfl
theorem rowss_of_cub {A : Nat → Prop} {s : Nat} {w : World} {v : Value} {gs : List (Value × List (Value × List Int))} {lo hi : Nat} (hs : Sl lo hi w v (gs.map (·.1))) (hlo : lo ≤ hi) (h : ∀ q, q ∈ gs → Pc.Rows lo hi w q.1 (q.2.map (·.1)) (q.2.map (·.2))) :
    Rowss lo hi w v (gs.map (·.1)) (gs.map fun q => q.2.map (·.1)) (gs.map fun q => q.2.map (·.2)) := by
  refine ⟨hs, by simp, by simp, fun i => ?_⟩
  by_cases hi' : i < gs.length
  · have := h gs[i] (List.getElem_mem hi')
    simpa [hi'] using this
  · have e1 : (gs.map (·.1)).getD i nilv = nilv := by rw [List.getD_eq_getElem?_getD, List.getElem?_eq_none (by simp; omega)]; rfl
    have e2 : (gs.map fun q => q.2.map (·.1)).getD i [] = [] := by rw [List.getD_eq_getElem?_getD, List.getElem?_eq_none (by simp; omega)]; rfl
    have e3 : (gs.map fun q => q.2.map (·.2)).getD i [] = [] := by rw [List.getD_eq_getElem?_getD, List.getElem?_eq_none (by simp; omega)]; rfl
    rw [e1, e2, e3]
    exact ⟨⟨⟨none, 0, rfl, Nat.le_refl _, by omega, fun k u hu => by simp at hu⟩⟩, rfl, fun i => ⟨⟨none, 0, by simp, by simp, by omega, fun k u hu => by simp at hu⟩⟩⟩
set_option maxHeartbeats 2000000 in
theorem toInt64SSSO_ok {w : World} {v : Value} {us : List Value} {uss : List (List Value)} {xsss : List (List (List Int))} {lo hi : Nat} [hx : Rowss lo hi w v us uss xsss] (hl : xsss.length ≤ 2000000) (hr : ∀ i, (xsss.getD i []).length ≤ 2000000 ∧ ∀ j, ((xsss.getD i []).getD j []).length ≤ 2000000) :
    Calls Try.prog 48 #[v] w (Ret fun v' w' => Ext w w' ∧ ∃ gs, xsss = gs.map (fun q => q.2.map (·.2)) ∧ RowsO w.heap.size w' (flat gs) ∧ CubO (fun b => BlkOf (flat gs) b ∨ b < w.heap.size) w' v' gs ∧ Rowss w.heap.size w'.heap.size w' v' (gs.map (·.1)) (gs.map fun q => q.2.map (·.1)) xsss) := by
  refine enter (args := [v]) (l := [.tmp 2]) Try.func48 rfl rfl Try.ntmps48 (by simp) ?_
  refine go ?_
  refine st_make_nil (by ((try simp only [ev_tmp, ev_const, ev_func, get_put, get_args, get_putL, get_putL_nil, Nat.reduceEqDiff, reduceIte, List.getD_cons_zero, List.getD_cons_succ, List.getD_nil]); first | done | with_reducible rfl)) (by ((try simp only [ev_tmp, ev_const, ev_func, get_put, get_args, get_putL, get_putL_nil, Nat.reduceEqDiff, reduceIte, List.getD_cons_zero, List.getD_cons_succ, List.getD_nil]); first | done | with_reducible rfl)) (by omega) (by omega) (by first | exact True.intro | exact ⟨_, rfl, by ((try simp only [ev_tmp, ev_const, ev_func, get_put, get_args, get_putL, get_putL_nil, Nat.reduceEqDiff, reduceIte, List.getD_cons_zero, List.getD_cons_succ, List.getD_nil, Bool.not_true, Bool.not_false]); first | done | with_reducible rfl)⟩) fun w1 v1 he1 hs1 ho1 => ?_
  refine go ?_
  refine r_for xsss.length (fun k ρ w' => ∃ gs : List (Value × List (Value × List Int)), Has ρ [(0, v), (3, v1), (4, .int .i64 k)] ∧ Ext w w' ∧ w.heap.size + 1 ≤ w'.heap.size ∧ Own 23 w.heap.size w' v1 (gs.map (·.1) ++ List.replicate (xsss.length - k) nilv) ∧ gs.length = k ∧ gs.map (fun q => q.2.map (·.2)) = xsss.take k ∧
    RowsO (w.heap.size + 1) w' (flat gs) ∧ (∀ q, q ∈ gs → SpA (fun b => BlkOf (flat gs) b ∨ b < w.heap.size + 1) w' q.1 (q.2.map (·.1))) ∧ ∀ q, q ∈ gs → Pc.Rows (w.heap.size + 1) w'.heap.size w' q.1 (q.2.map (·.1)) (q.2.map (·.2))) ?_ ?_
  · refine ⟨[], ?_, he1, by omega, by simpa using ho1, rfl, by simp, RowsO.nil _ _, fun q hq => (by cases hq), fun q hq => (by cases hq)⟩
    exact hasP
  clear ho1
  rintro k ρ w2 hk ⟨gs, hH, he2, hz2, ho2, hgl, hI, hO2, hS2, hR2⟩
  refine rwp_has hH fun ρ0 => ?_
  have hsl := ho2.toSl
  have hul : (gs.map (·.1) ++ List.replicate (xsss.length - k) nilv).length = xsss.length := by simp; omega
  refine go ?_
  refine c_if (fun h4 => ?_) (fun h4 => ?_)
  · have hkn : k < xsss.length := by omega
    refine go ?_
    refine rc (toInt64SSM_ok (xss := xsss.getD k []) (hr k).1 (hr k).2) (next := fun v3 w3 h3 => ?_)
    obtain ⟨he3, rs, hrs, hM3⟩ := h3
    have ho3 : Own 23 w.heap.size w3 v1 _ := Own.ext (h := ho2)
    have hsl3 := ho3.toSl
    have hlen3 := hsl3.toLen
    have hz3 := he3.size
    have hol := ho2.lt
    refine go ?_
    refine st_store_val (h := ho3) (by ((try simp only [ev_tmp, ev_const, ev_func, get_put, get_args, get_putL, get_putL_nil, Nat.reduceEqDiff, reduceIte, List.getD_cons_zero, List.getD_cons_succ, List.getD_nil]); first | done | with_reducible rfl)) (by ((try simp only [ev_tmp, ev_const, ev_func, get_put, get_args, get_putL, get_putL_nil, Nat.reduceEqDiff, reduceIte, List.getD_cons_zero, List.getD_cons_succ, List.getD_nil]); first | done | with_reducible rfl)) ?_ ?_ (by first | exact True.intro | exact ⟨_, rfl, by ((try simp only [ev_tmp, ev_const, ev_func, get_put, get_args, get_putL, get_putL_nil, Nat.reduceEqDiff, reduceIte, List.getD_cons_zero, List.getD_cons_succ, List.getD_nil, Bool.not_true, Bool.not_false]); first | done | with_reducible rfl)⟩) fun w4 hc4 hs4 ho4 => ?_
    · exact hM3.rows.sl.one
    · omega
    refine go ?_
    have e0 : xsss.length - k = (xsss.length - (k + 1)) + 1 := by omega
    have e1 := set_nils (gs.map (·.1)) nilv v3 (xsss.length - (k + 1))
    rw [List.length_map, hgl, ← e0] at e1
    rw [e1] at ho4
    have hW4 : Wrt (fun b => b = w.heap.size) w3 w4 := .one rfl hc4
    have hM4 := hM3.wr hW4 (fun b hb => .inl (by omega))
    have hf : flat (gs ++ [(v3, rs)]) = flat gs ++ rs := by rw [flat_append, flat_one]
    have hO3 := hO2.append he3 (by omega) hM3.own
    have hO4 := hO3.wr hW4 (fun b hb e => by have := (hO3.blk hb).1; omega)
    refine forQ_normal (by omega) ⟨gs ++ [(v3, rs)], ?_, hc4.ext (he2.trans he3) (Nat.le_refl _), by omega, by simpa using ho4, by simp [hgl], ?_, ?_, fun q hq => ?_, fun q hq => ?_⟩
    · exact hasP
    · rw [List.take_succ_eq_append_getElem hkn, List.map_append, hI]
      simp only [List.map_cons, List.map_nil, ← hrs]
      simp [hkn]
    · rw [hf]; exact hO4
    · rw [hf]
      rcases List.mem_append.1 hq with hq | hq
      · have h5 := (hS2 q hq).grow he3 (A' := fun b => BlkOf (flat gs ++ rs) b ∨ b < w.heap.size + 1) (fun b hb => by
          rcases hb with hb | hb
          · rcases blkOf_append'.1 hb with hb | hb
            · exact .inl (.inl hb)
            · exact .inr (hM3.own.blk hb).1
          · exact .inl (.inr hb))
        exact h5.wr hW4 (fun b hb => .inr (by omega))
      · obtain rfl := List.mem_singleton.1 hq
        refine SpA.weak hM4.sp fun b hb => ?_
        rcases hb with hb | hb
        · rcases blkOf_append'.1 hb with hb | hb
          · exact .inr (hO2.blk hb).2
          · exact .inl hb
        · exact .inr (by omega)
    · rcases List.mem_append.1 hq with hq | hq
      · exact (((hR2 q hq).same (he3.same _ _)).same (hc4.same (.inl (by omega)))).mono (Nat.le_refl _) (by omega)
      · obtain rfl := List.mem_singleton.1 hq
        exact hM4.rows.mono (by omega) (by omega)
  · refine go ?_
    obtain rfl : k = xsss.length := by omega
    rw [List.take_length] at hI
    rw [Nat.sub_self, List.replicate_zero, List.append_nil] at ho2
    have hol := ho2.lt
    refine ret1 ⟨he2, gs, hI.symm, hO2.mono (by omega), ⟨⟨_, _, ho2.toSl, fun b hb => ?_⟩, fun q hq => (hS2 q hq).weak fun b hb => hb.imp id (by omega)⟩, ?_⟩
    · rcases hb with hb | hb
      · have := (hO2.blk hb).1; omega
      · omega
    · rw [← hI]
      exact rowss_of_cub (A := fun _ => True) (s := 0) (ho2.toSl.mono (Nat.le_refl _) (by omega)) (by omega) fun q hq => (hR2 q hq).mono (by omega) (Nat.le_refl _)
theorem flat_blk {gs : List (Value × List (Value × List Int))} {q : Value × List (Value × List Int)} (hq : q ∈ gs) {b : Nat} (h : BlkOf q.2 b) : BlkOf (flat gs) b := by
  obtain ⟨r, hr, h1, h2⟩ := h
  refine ⟨r, ?_, h1, h2⟩
  unfold flat
  rw [List.mem_flatten]
  exact ⟨q.2, List.mem_map.2 ⟨q, hq, rfl⟩, hr⟩
theorem flat_tot (gs : List (Value × List (Value × List Int))) : (flat gs).map (·.2) = (gs.map fun q => q.2.map (·.2)).flatten := by
  unfold flat
  rw [List.map_flatten, List.map_map]; rfl
set_option maxHeartbeats 2000000 in
theorem markInt64SSS_ok {A : Nat → Prop} {s : Nat} {w : World} {v : Value} {k : Int} {gs : List (Value × List (Value × List Int))} {pre post : List (Value × List Int)} (hO : RowsO s w (pre ++ flat gs ++ post)) (hS : CubO A w v gs) (hA : ∀ b, BlkOf (flat gs) b → A b) (hk : 0 ≤ k) (hb : k + tot ((flat gs).map (·.2)) ≤ 9000000000000000000) :
    Calls Try.prog 30 #[v, .int .i64 k] w (Ret fun v' w' => v' = .int .i64 (k + tot ((flat gs).map (·.2))) ∧ RowsO s w' (pre ++ mkR k (flat gs) ++ post) ∧ Wrt (BlkOf (flat gs)) w w') := by
  have hm := sl_len hS.sp0.sl
  simp only [List.length_map] at hm
  have hsl := hS.sp0.sl
  have hlen := hsl.toLen
  refine enter (args := [v, .int .i64 k]) (l := [.tmp 4]) Try.func30 rfl rfl Try.ntmps30 (by simp) ?_
  refine go ?_
  refine r_for gs.length (fun i ρ w' => Has ρ [(0, v), (1, .int .i64 (k + tot ((flat (gs.take i)).map (·.2)))), (5, .int .i64 i)] ∧ RowsO s w' (pre ++ (mkR k (flat (gs.take i)) ++ flat (gs.drop i)) ++ post) ∧ Wrt (BlkOf (flat gs)) w w') ?_ ?_
  · refine ⟨?_, by simpa [mkR, flat] using hO, .refl _⟩
    have e : ((flat (gs.take 0)).map (·.2)) = [] := rfl
    rw [e]
    simp only [tot]
    exact hasP
  clear hO hsl hlen
  rintro i ρ w2 hi ⟨hH, hO2, hW2⟩
  refine rwp_has hH fun ρ0 => ?_
  have hS2 := hS.wr hW2 hA
  have hsl2 := hS2.sp0.sl
  have hlen2 := hsl2.toLen
  have hll : (gs.map (·.1)).length = gs.length := by simp
  have ht0 : ∀ j, tot ((flat (gs.take j)).map (·.2)) ≤ tot ((flat gs).map (·.2)) := fun j => by
    have e : flat gs = flat (gs.take j) ++ flat (gs.drop j) := by rw [← flat_append, List.take_append_drop]
    rw [e, List.map_append, tot_append]; omega
  have ht := ht0 i
  refine go ?_
  refine c_if (fun h4 => ?_) (fun h4 => ?_)
  · have hin : i < gs.length := by simp at h4; omega
    have e1 : Pc.rowAt v (gs.map (·.1)) i = gs[i].1 := by simp [Pc.rowAt, hin]
    have e2 : flat (gs.drop i) = gs[i].2 ++ flat (gs.drop (i + 1)) := by
      have e : gs.drop i = [gs[i]] ++ gs.drop (i + 1) := (List.getElem_cons_drop (h := hin)).symm
      rw [e, flat_append, flat_one]
    have e3 : flat (gs.take (i + 1)) = flat (gs.take i) ++ gs[i].2 := by rw [List.take_succ_eq_append_getElem hin, flat_append, flat_one]
    have hts : tot ((flat (gs.take (i + 1))).map (·.2)) = tot ((flat (gs.take i)).map (·.2)) + tot ((gs[i]).2.map (·.2)) := by rw [e3, List.map_append, tot_append]
    have ht2 := ht0 (i + 1)
    have hmem := List.getElem_mem hin
    have hO3 : RowsO s w2 ((pre ++ mkR k (flat (gs.take i))) ++ gs[i].2 ++ (flat (gs.drop (i + 1)) ++ post)) := by
      rw [e2] at hO2
      simpa only [List.append_assoc] using hO2
    refine go ?_
    refine ra (v := Pc.rowAt v (gs.map fun x : Value × List (Value × List Int) => x.1) i) (h := rd_load_sl (us := gs.map fun x : Value × List (Value × List Int) => x.1) (by ((try simp only [ev_tmp, ev_const, ev_func, get_put, get_args, get_putL, get_putL_nil, Nat.reduceEqDiff, reduceIte, List.getD_cons_zero, List.getD_cons_succ, List.getD_nil]); first | done | with_reducible rfl)) (by omega)) (next := ?_)
    rw [e1]
    refine go ?_
    refine rc (markInt64SS_ok hO3 (hS2.sp _ hmem) (fun b hb => hA b (flat_blk hmem hb)) ?_ ?_) (next := fun v3 w3 h3 => ?_)
    · omega
    · omega
    obtain ⟨rfl, hO4, hW3⟩ := h3
    refine go ?_
    refine forQ_normal (by omega) ⟨?_, ?_, hW2.trans (hW3.mono fun b hb => flat_blk hmem hb)⟩
    · exact hasP
    · rw [e3, mkR_append]
      simpa only [List.append_assoc] using hO4
  · refine go ?_
    obtain rfl : i = gs.length := by simp at h4; omega
    rw [List.take_length] at hO2 ⊢
    exact ret1 ⟨rfl, by simpa [flat] using hO2, hW2⟩
set_option maxHeartbeats 1000000 in
/-- Marks on a presentation that is the call's own. -/
theorem markPresentation_ok {s t : Nat} {w : World} {v : Value} {p : Pr} {k : Int} (hP : PresO s t w v p) (hk : 0 ≤ k) (hb : k + totP p ≤ 9000000000000000000) :
    Calls Try.prog 20 #[v, .int .i64 k] w (Ret fun v' w' => v' = .int .i64 (k + totP p) ∧ Wrt (fun b => s ≤ b ∧ b < t) w w') := by
  obtain ⟨vo, vp, vc, rp, gs, rfl, hO, hlt, hsp, hcub, hpow, hcnj, _, _, _⟩ := hP.ex
  have hA : ∀ b, BlkOf ((vo, p.ord) :: (rp ++ flat gs)) b → s ≤ b ∧ b < t := fun b hb => ⟨(hO.blk hb).1, hlt b hb⟩
  have e1 : totP p = p.ord.length + (tot (rp.map (·.2)) + tot ((flat gs).map (·.2))) := by rw [flat_tot, ← hpow, ← hcnj]; rfl
  refine enter (args := [.agg #[vo, vp, vc], .int .i64 k]) (l := [.tmp 4]) Try.func20 rfl rfl Try.ntmps20 (by simp) ?_
  refine go ?_
  refine st_box3 (by ((try simp only [ev_tmp, ev_const, ev_func, get_put, get_args, get_putL, get_putL_nil, Nat.reduceEqDiff, reduceIte, List.getD_cons_zero, List.getD_cons_succ, List.getD_nil]); first | done | with_reducible rfl)) (by first | exact True.intro | exact ⟨_, rfl, by ((try simp only [ev_tmp, ev_const, ev_func, get_put, get_args, get_putL, get_putL_nil, Nat.reduceEqDiff, reduceIte, List.getD_cons_zero, List.getD_cons_succ, List.getD_nil, Bool.not_true, Bool.not_false]); first | done | with_reducible rfl)⟩) fun w1 b he1 hb1 hs1 hc0 hc1 hc2 => ?_
  have hO1 := hO.ext he1
  have hB1 : ∀ g, BlkOf ((vo, p.ord) :: (rp ++ flat gs)) g → g ≠ b := fun g hg e => by have := (hO.blk hg).2; omega
  have hcell : ∀ {w2 : World} {j : Nat} {u : Value}, Cell w1 b j u → Wrt (BlkOf ((vo, p.ord) :: (rp ++ flat gs))) w1 w2 → Cell w2 b j u := fun h k => h.same (k.same fun g hg => by have := hB1 g hg; omega) k.size
  have hfr : Fr s w1 vo p.ord := hO1.fr _ List.mem_cons_self
  refine go ?_
  refine rc (markInt64S_ok hfr hk ?_) (next := fun v2 w2 h2 => ?_)
  · omega
  obtain ⟨rfl, hf2, hW2⟩ := h2
  have hW2' : Wrt (BlkOf ((vo, p.ord) :: (rp ++ flat gs))) w1 w2 := hW2.mono fun g ⟨hn, e⟩ => ⟨_, List.mem_cons_self, hn, e⟩
  have hO2 : RowsO s w2 ([] ++ (vo, marks k p.ord.length) :: (rp ++ flat gs)) := RowsO.upd (pre := []) (by simpa using hO1) hW2 hf2 marks_ne.1
  have hc0' := hcell hc0 hW2'
  have hc1' := hcell hc1 hW2'
  have hc2' := hcell hc2 hW2'
  have hO2' : RowsO s w2 (([(vo, marks k p.ord.length)]) ++ rp ++ flat gs) := by simpa using hO2
  have hsp2 := (SpA.grow hsp he1 (fun g hg => .inl hg)).wr hW2' (fun g hg => hg)
  refine go ?_
  refine rc (markInt64SS_ok hO2' hsp2 (fun g hg => ?_) ?_ ?_) (next := fun v3 w3 h3 => ?_)
  · obtain ⟨r, h1, h2⟩ := hg
    exact ⟨r, List.mem_cons_of_mem _ (List.mem_append_left _ h1), h2⟩
  · omega
  · omega
  obtain ⟨rfl, hO3, hW3⟩ := h3
  have hW3' : Wrt (BlkOf ((vo, p.ord) :: (rp ++ flat gs))) w2 w3 := hW3.mono fun g ⟨r, h1, h2⟩ => ⟨r, List.mem_cons_of_mem _ (List.mem_append_left _ h1), h2⟩
  have hc2'' := hcell hc2 (hW2'.trans hW3')
  have hO3' : RowsO s w3 (([(vo, marks k p.ord.length)] ++ mkR (k + p.ord.length) rp) ++ flat gs ++ []) := by simpa using hO3
  have hcub3 : CubO (BlkOf ((vo, p.ord) :: (rp ++ flat gs))) w3 vc gs := CubO.wr ⟨(SpA.grow hcub.sp0 he1 (fun g hg => .inl hg)).wr hW2' (fun g hg => hg), fun q hq => (SpA.grow (hcub.sp q hq) he1 (fun g hg => .inl hg)).wr hW2' (fun g hg => hg)⟩ hW3' (fun g hg => hg)
  clear hc0' hc1' hc2'
  refine go ?_
  refine rc (markInt64SSS_ok hO3' hcub3 (fun g hg => ?_) ?_ ?_) (next := fun v4 w4 h4 => ?_)
  · obtain ⟨r, h1, h2⟩ := hg
    exact ⟨r, List.mem_cons_of_mem _ (List.mem_append_right _ h1), h2⟩
  · omega
  · omega
  obtain ⟨rfl, hO4, hW4⟩ := h4
  refine go ?_
  refine ret1 ⟨?_, ?_⟩
  · rw [e1]
    exact int_congr (by omega)
  · refine (Wrt.ofExt he1).trans ((hW2'.mono hA).trans ((hW3'.mono hA).trans (hW4.mono fun g hg => hA g ?_)))
    obtain ⟨r, h1, h2⟩ := hg
    exact ⟨r, List.mem_cons_of_mem _ (List.mem_append_right _ h1), h2⟩
end Go.Proofs.Ytcohfmglfmomcaa

/-
  Walk: a copy of a presentation that is the call's own (toPresentation).
  Conditions: stated at the theorem.
-/
namespace Go.Proofs.Ytcohfmglfmomcaa
open Go Go.Pc
theorem rd_neqb {ρ : Env} {w : World} {ty tt : TypeId} {x y : Operand} {a b : Bool} (h : ev ρ x = .bool a) (k : ev ρ y = .bool b) : Rd Try.prog (.binOp .neq 4 x y tt) ty ρ w (.bool (!(a == b))) := by
  constructor; intro _ _ _ _
  simp [execOp, h, k, eqGuard, binOp, run_equal_bool w 4 a b Try.underlying4]
theorem rd_neqb_same {ρ : Env} {w : World} {ty tt : TypeId} {x y : Operand} {a : Bool} (h : ev ρ x = .bool a) (k : ev ρ y = .bool a) : Rd Try.prog (.binOp .neq 4 x y tt) ty ρ w (.bool false) := by
  have := rd_neqb (w := w) (ty := ty) (tt := tt) h k
  simpa using this
set_option maxHeartbeats 2000000 in
theorem toPresentationO_ok {w : World} {v : Value} {p : Pr} {lo hi : Nat} [hp : Pres lo hi w v p] (hs : SizeP p 2000000) :
    Calls Try.prog 15 #[v] w (Ret fun v w' => Ext w w' ∧ PresO w.heap.size w'.heap.size w' v p) := by
  have hs1 := hs.ord
  have hs2 := hs.pow
  have hs3 := hs.cnj
  obtain ⟨vo, vpw, vc, ps, cs, css, rfl, h1, h2, h3⟩ := hp.ex
  refine enter (args := [.agg #[vo, vpw, vc]]) (l := [.cell 2 31]) Try.func15 rfl rfl Try.ntmps15 (by simp) ?_
  refine go ?_
  refine st_box3 (by ((try simp only [ev_tmp, ev_const, ev_func, get_put, get_args, get_putL, get_putL_nil, Nat.reduceEqDiff, reduceIte, List.getD_cons_zero, List.getD_cons_succ, List.getD_nil]); first | done | with_reducible rfl)) (by first | exact True.intro | exact ⟨_, rfl, by ((try simp only [ev_tmp, ev_const, ev_func, get_put, get_args, get_putL, get_putL_nil, Nat.reduceEqDiff, reduceIte, List.getD_cons_zero, List.getD_cons_succ, List.getD_nil, Bool.not_true, Bool.not_false]); first | done | with_reducible rfl)⟩) fun w1 b he1 hb1 hsz1 hc0 hc1 hc2 => ?_
  refine go ?_
  refine st_alloc (by first | exact True.intro | exact ⟨_, rfl, by ((try simp only [ev_tmp, ev_const, ev_func, get_put, get_args, get_putL, get_putL_nil, Nat.reduceEqDiff, reduceIte, List.getD_cons_zero, List.getD_cons_succ, List.getD_nil, Bool.not_true, Bool.not_false]); first | done | with_reducible rfl)⟩) fun w2 br he2 hbr hsz2 hbk2 => ?_
  refine go ?_
  refine st_alloc (by first | exact True.intro | exact ⟨_, rfl, by ((try simp only [ev_tmp, ev_const, ev_func, get_put, get_args, get_putL, get_putL_nil, Nat.reduceEqDiff, reduceIte, List.getD_cons_zero, List.getD_cons_succ, List.getD_nil, Bool.not_true, Bool.not_false]); first | done | with_reducible rfl)⟩) fun w3 bo he3 hbo hsz3 hbk3 => ?_
  have hE3 := (he1.trans he2).trans he3
  refine go ?_
  refine rc (toInt64S_ok (xs := p.ord) (by omega)) (next := fun v4 w4 h4 => ?_)
  obtain ⟨he4, hf4⟩ := h4
  have hb4 : Blk w4 bo _ := Blk.ext (h := hbk3)
  have hz4 := he4.size
  refine go ?_
  refine st_store_fld (h := hb4) (by ((try simp only [ev_tmp, ev_const, ev_func, get_put, get_args, get_putL, get_putL_nil, Nat.reduceEqDiff, reduceIte, List.getD_cons_zero, List.getD_cons_succ, List.getD_nil]); first | done | with_reducible rfl)) (by ((try simp only [ev_tmp, ev_const, ev_func, get_put, get_args, get_putL, get_putL_nil, Nat.reduceEqDiff, reduceIte, List.getD_cons_zero, List.getD_cons_succ, List.getD_nil]); first | done | with_reducible rfl)) ?_ ?_ (by first | exact True.intro | exact ⟨_, rfl, by ((try simp only [ev_tmp, ev_const, ev_func, get_put, get_args, get_putL, get_putL_nil, Nat.reduceEqDiff, reduceIte, List.getD_cons_zero, List.getD_cons_succ, List.getD_nil, Bool.not_true, Bool.not_false]); first | done | with_reducible rfl)⟩) fun w5 hc5 hs5 hb5 => ?_
  · exact hf4.ints.sl.one
  · simp
  have hE15 : Ext w1 w5 := hc5.ext ((he2.trans he3).trans he4) (by have := he2.size; omega)
  have hz15 := hE15.size
  have hz2 := he2.size
  have hi5 : Ints w3.heap.size w4.heap.size w5 v4 p.ord := hf4.ints.same (hc5.same (.inl (by omega)))
  have hr5 : Blk w5 br _ := (Blk.ext (x := he3.trans he4) (h := hbk2)).chg' hc5 (by omega)
  have hO4 : RowsO w3.heap.size w4 [(v4, p.ord)] := (RowsO.nil w3.heap.size w3).push he4 (Nat.le_refl _) hf4
  have hO5 : RowsO w3.heap.size w5 [(v4, p.ord)] := hO4.wr (.one (B := fun g => g = bo) rfl hc5) (fun g hg e => by have := (hO4.blk hg).1; omega)
  refine go ?_
  refine rc (toInt64SSM_ok (xss := p.pow) (by omega) (fun i => by have := hs.powi i; omega)) (next := fun v6 w6 h6 => ?_)
  obtain ⟨he6, rp, hrp, hM6⟩ := h6
  have hN6 := hM6.rows
  have hb6 : Blk w6 bo _ := Blk.ext (h := hb5)
  have hz6 := he6.size
  refine go ?_
  refine st_store_fld (h := hb6) (by ((try simp only [ev_tmp, ev_const, ev_func, get_put, get_args, get_putL, get_putL_nil, Nat.reduceEqDiff, reduceIte, List.getD_cons_zero, List.getD_cons_succ, List.getD_nil]); first | done | with_reducible rfl)) (by ((try simp only [ev_tmp, ev_const, ev_func, get_put, get_args, get_putL, get_putL_nil, Nat.reduceEqDiff, reduceIte, List.getD_cons_zero, List.getD_cons_succ, List.getD_nil]); first | done | with_reducible rfl)) ?_ ?_ (by first | exact True.intro | exact ⟨_, rfl, by ((try simp only [ev_tmp, ev_const, ev_func, get_put, get_args, get_putL, get_putL_nil, Nat.reduceEqDiff, reduceIte, List.getD_cons_zero, List.getD_cons_succ, List.getD_nil, Bool.not_true, Bool.not_false]); first | done | with_reducible rfl)⟩) fun w7 hc7 hs7 hb7 => ?_
  · exact hN6.sl.one
  · simp
  have hE17 : Ext w1 w7 := hc7.ext (hE15.trans he6) (by omega)
  have hi7 : Ints w3.heap.size w4.heap.size w7 v4 p.ord := (hi5.same (he6.same _ _)).same (hc7.same (.inl (by omega)))
  have hM7 := hM6.wr (.one (B := fun g => g = bo) rfl hc7) (fun g hg => .inl (by omega))
  have hp7 := hM7.rows
  have hr7 : Blk w7 br _ := (Blk.ext (x := he6) (h := hr5)).chg' hc7 (by omega)
  have hO6 := hO5.append he6 (by omega) hM6.own
  have hO7 := hO6.wr (.one (B := fun g => g = bo) rfl hc7) (fun g hg e => by have := (hO6.blk hg).1; omega)
  refine go ?_
  refine rc (toInt64SSSO_ok (xsss := p.cnj) (by omega) (fun i => ⟨by have := hs.cnji i; omega, fun j => by have := hs.cnjij i j; omega⟩)) (next := fun v8 w8 h8 => ?_)
  obtain ⟨he8, gs, hgs, hOg, hCu, hR8⟩ := h8
  have hb8 : Blk w8 bo _ := Blk.ext (h := hb7)
  have hz8 := he8.size
  have hO8 := hO7.append he8 (by omega) hOg
  have hAll : ∀ g, BlkOf ([(v4, p.ord)] ++ rp ++ flat gs) g → (w3.heap.size ≤ g ∧ g < w5.heap.size) ∨ BlkOf rp g ∨ w7.heap.size ≤ g := fun g hg => by
    rcases blkOf_append'.1 hg with hg | hg
    · rcases blkOf_append'.1 hg with hg | hg
      · exact .inl (hO5.blk hg)
      · exact .inr (.inl hg)
    · exact .inr (.inr (hOg.blk hg).1)
  have hsp8 : SpA (fun g => BlkOf ([(v4, p.ord)] ++ rp ++ flat gs) g ∨ g < w3.heap.size) w8 v6 (rp.map (·.1)) := hM7.sp.grow he8 fun g hg => by
    rcases hg with hg | hg
    · rcases hAll g hg with h | h | h
      · exact .inl (.inr h.2)
      · exact .inl (.inl h)
      · exact .inr h
    · exact .inl (.inr (by omega))
  have hcu8 : CubO (fun g => BlkOf ([(v4, p.ord)] ++ rp ++ flat gs) g ∨ g < w3.heap.size) w8 v8 gs := by
    have hA : ∀ g, (BlkOf ([(v4, p.ord)] ++ rp ++ flat gs) g ∨ g < w3.heap.size) → BlkOf (flat gs) g ∨ g < w7.heap.size := fun g hg => by
      rcases hg with hg | hg
      · rcases blkOf_append'.1 hg with hg | hg
        · have := (hO7.blk hg).2; exact .inr this
        · exact .inl hg
      · exact .inr (by omega)
    exact ⟨hCu.sp0.weak hA, fun q hq => (hCu.sp q hq).weak hA⟩
  refine go ?_
  refine st_store_fld (h := hb8) (by ((try simp only [ev_tmp, ev_const, ev_func, get_put, get_args, get_putL, get_putL_nil, Nat.reduceEqDiff, reduceIte, List.getD_cons_zero, List.getD_cons_succ, List.getD_nil]); first | done | with_reducible rfl)) (by ((try simp only [ev_tmp, ev_const, ev_func, get_put, get_args, get_putL, get_putL_nil, Nat.reduceEqDiff, reduceIte, List.getD_cons_zero, List.getD_cons_succ, List.getD_nil]); first | done | with_reducible rfl)) ?_ ?_ (by first | exact True.intro | exact ⟨_, rfl, by ((try simp only [ev_tmp, ev_const, ev_func, get_put, get_args, get_putL, get_putL_nil, Nat.reduceEqDiff, reduceIte, List.getD_cons_zero, List.getD_cons_succ, List.getD_nil, Bool.not_true, Bool.not_false]); first | done | with_reducible rfl)⟩) fun w9 hc9 hs9 hb9 => ?_
  · exact hR8.sl.one
  · simp
  have hE19 : Ext w1 w9 := hc9.ext (hE17.trans he8) (by omega)
  have hi9 : Ints w3.heap.size w4.heap.size w9 v4 p.ord := (hi7.same (he8.same _ _)).same (hc9.same (.inl (by omega)))
  have hp9 := (hp7.same (he8.same _ _)).same (hc9.same (.inl (by omega)))
  have hq9 := hR8.same (hc9.same (.inl (by omega)))
  have hr9 : Blk w9 br _ := (Blk.ext (x := he8) (h := hr7)).chg' hc9 (by omega)
  refine go ?_
  have hb9' : Blk w9 bo [v4, v6, v8] := hb9
  refine ra (v := .agg #[v4, v6, v8]) (h := rd_load_blk (hb := hb9') (by ((try simp only [ev_tmp, ev_const, ev_func, get_put, get_args, get_putL, get_putL_nil, Nat.reduceEqDiff, reduceIte, List.getD_cons_zero, List.getD_cons_succ, List.getD_nil]); first | done | with_reducible rfl)) rfl) (next := ?_)
  refine st_store_agg (vs := [v4, v6, v8]) (cs := _) (hb := hr9) (by ((try simp only [ev_tmp, ev_const, ev_func, get_put, get_args, get_putL, get_putL_nil, Nat.reduceEqDiff, reduceIte, List.getD_cons_zero, List.getD_cons_succ, List.getD_nil]); first | done | with_reducible rfl)) (by ((try simp only [ev_tmp, ev_const, ev_func, get_put, get_args, get_putL, get_putL_nil, Nat.reduceEqDiff, reduceIte, List.getD_cons_zero, List.getD_cons_succ, List.getD_nil]); first | done | with_reducible rfl)) rfl ?_ ?_ (by first | exact True.intro | exact ⟨_, rfl, by ((try simp only [ev_tmp, ev_const, ev_func, get_put, get_args, get_putL, get_putL_nil, Nat.reduceEqDiff, reduceIte, List.getD_cons_zero, List.getD_cons_succ, List.getD_nil, Bool.not_true, Bool.not_false]); first | done | with_reducible rfl)⟩) fun w10 hc10 hs10 hb10 => ?_
  · rfl
  · have e1 := hi9.sl.one
    have e2 := hp9.sl.one
    have e3 := hq9.sl.one
    simp [e1, e2, e3]
  have hW10 : Wrt (fun g => g = bo ∨ g = br) w8 w10 := (Wrt.one (.inl rfl) hc9).trans (.one (.inr rfl) hc10)
  have hO10 := hO8.wr hW10 (fun g hg e => by have := (hO8.blk hg).1; omega)
  have hlow : ∀ g, (g = bo ∨ g = br) → BlkOf ([(v4, p.ord)] ++ rp ++ flat gs) g ∨ g < w3.heap.size := fun g hg => .inr (by omega)
  refine go ?_
  refine retc (b := br) (hb := hb10) ⟨hc10.ext (he1.trans hE19) (by omega), ?_⟩ rfl
  have hi10 := (hi9.same (hc10.same (.inl (by omega)))).mono (lo' := w.heap.size) (hi' := w10.heap.size) (by omega) (by omega)
  have hp10 := (hp9.same (hc10.same (.inl (by omega)))).mono (lo' := w.heap.size) (hi' := w10.heap.size) (by omega) (by omega)
  have hq10 := rowss_mono (lo' := w.heap.size) (hi' := w10.heap.size) (hq9.same (hc10.same (.inl (by omega)))) (by omega) (by omega)
  have e : (v4, p.ord) :: (rp ++ flat gs) = [(v4, p.ord)] ++ rp ++ flat gs := by simp
  rw [hgs] at hq10
  refine ⟨v4, v6, v8, rp, gs, rfl, ?_, ?_, ?_, ?_, hrp, hgs, hi10, hp10, hq10⟩ <;> rw [e]
  · exact hO10.mono (by omega)
  · exact fun g hg => (hO10.blk hg).2
  · exact (hsp8.wr hW10 hlow).weak fun g hg => .inl hg
  · exact ⟨(hcu8.sp0.wr hW10 hlow).weak fun g hg => .inl hg, fun q hq => ((hcu8.sp q hq).wr hW10 hlow).weak fun g hg => .inl hg⟩
/-- The number of integers of a presentation of bounded sizes. -/
theorem totP_le {p : Pr} (hs : SizeP p 1048576) : totP p ≤ 1048576 + (1048576 * 1048576 + 1048576 * (1048576 * 1048576)) := by
  have h1 := hs.ord
  have h2 := hs.pow
  have h3 := hs.cnj
  have e2 : tot p.pow ≤ p.pow.length * 1048576 := tot_le _ fun x hx => by
    obtain ⟨i, hi, rfl⟩ := List.getElem_of_mem hx
    have := hs.powi i
    simp only [List.getD_eq_getElem?_getD, List.getElem?_eq_getElem hi, Option.getD_some] at this
    omega
  have e3 : tot p.cnj.flatten ≤ p.cnj.length * (1048576 * 1048576) := tot_flatten _ fun x hx => by
    obtain ⟨i, hi, rfl⟩ := List.getElem_of_mem hx
    have h4 := hs.cnji i
    simp only [List.getD_eq_getElem?_getD, List.getElem?_eq_getElem hi, Option.getD_some] at h4
    refine ⟨by omega, fun y hy => ?_⟩
    obtain ⟨j, hj, rfl⟩ := List.getElem_of_mem hy
    have h5 := hs.cnjij i j
    simp only [List.getD_eq_getElem?_getD, List.getElem?_eq_getElem hi, Option.getD_some, List.getElem?_eq_getElem hj] at h5
    omega
  unfold totP
  omega
theorem SizeP.mono {p : Pr} {k j : Int} (h : SizeP p k) (hkj : k ≤ j) : SizeP p j :=
  ⟨by have := h.ord; omega, by have := h.pow; omega, fun i => by have := h.powi i; omega, by have := h.cnj; omega, fun i => by have := h.cnji i; omega, fun i j => by have := h.cnjij i j; omega⟩
theorem tot_rows_le {xss : List (List Int)} {n : Nat} (hl : xss.length ≤ n) (hr : ∀ i, (xss.getD i []).length ≤ n) : tot xss ≤ n * n :=
  Nat.le_trans (tot_le xss fun x hx => by
    obtain ⟨i, hi, rfl⟩ := List.getElem_of_mem hx
    have := hr i
    simpa [hi] using this) (Nat.mul_le_mul_right _ hl)
end Go.Proofs.Ytcohfmglfmomcaa

/-
  Arguments that read as slices of integers, slices of slices, slices of slices of slices: what the calculus knows of them.
  Conditions: none; nothing of the program stands here.
-/
namespace Go.Pc
open Go Go.RowKit Go.Deep Go.ChangeShapes Go.WideShapes
section
variable {H : Type} {enc : TypeId × Value → H} {P : Program} {w : World} {base : Nat} {held : Bool} {fuel : Nat} {v : Value} {x : DataW H × List MemPlace}
theorem ints_of_trod {t e : TypeId} (ht : P.underlying t = some (.slice e)) (he : P.underlying e = some (.int .i64)) (hc : P.cellsOf e = 1) (h : DataW.trod enc P w base (fun _ => true) held fuel t [v] = some x) : ∃ xs, Ints 0 w.heap.size w v xs := by
  rcases open_ints ht he hc h with ⟨hcs, _⟩ | ⟨a, len, cap, zs, hcs, _, hl, hm, hz, _, hcell, _⟩
  · have : v = nilv := by simpa using hcs
    subst this
    exact ⟨[], (Ints.nil_ w).mono (Nat.le_refl 0) (Nat.zero_le _)⟩
  · have : v = .slice (some a) len cap := by simpa using hcs
    subst this
    simp only [if_true] at hz
    have hlen : (zs.take len).length = len := by rw [List.length_take]; omega
    refine ⟨zs.take len, ⟨⟨some a, cap, by rw [List.length_map, hlen], by rw [List.length_map, hlen]; omega, by simp only [maxLen] at hm; omega, fun k u hu => ?_⟩⟩⟩
    rw [List.getElem?_map, List.getElem?_take] at hu
    split at hu
    · have hk : k < zs.length := by omega
      have hck := hcell k hk
      rw [List.getElem?_eq_getElem hk] at hu
      simp only [Option.map_some, Option.some.injEq] at hu
      have e : zs.getD k 0 = zs[k] := by simp [hk]
      rw [e, hu] at hck
      exact ⟨a, rfl, Nat.zero_le _, by have := block_lt hck; rwa [add_block] at this, hck⟩
    · cases hu
theorem sl_of {a : Addr} {len cap m : Nat} {V : Nat → Value} (hl : len ≤ cap) (hm : cap ≤ maxLen) (hlm : len ≤ m) (hx : ∀ i, i < m → w.cell? (a.add i) = some (V i)) : Sl 0 w.heap.size w (.slice (some a) len cap) ((List.range len).map V) := by
  refine ⟨⟨some a, cap, by simp, by simpa using hl, by simp only [maxLen] at hm; omega, fun k u hu => ?_⟩⟩
  rw [List.getElem?_map] at hu
  by_cases hk : k < len
  · rw [List.getElem?_range hk] at hu
    simp only [Option.map_some, Option.some.injEq] at hu
    have hck := hx k (by omega)
    rw [hu] at hck
    exact ⟨a, rfl, Nat.zero_le _, by have := block_lt hck; rwa [add_block] at this, hck⟩
  · rw [List.getElem?_eq_none (by simp; omega)] at hu; cases hu
theorem getD_map_range {α : Type} {n i : Nat} {f : Nat → α} {d : α} (h : i < n) : ((List.range n).map f).getD i d = f i := by simp [h]
theorem getD_map_range' {α : Type} {n i : Nat} {f : Nat → α} {d : α} (h : ¬ i < n) : ((List.range n).map f).getD i d = d := by
  rw [List.getD_eq_getElem?_getD, List.getElem?_eq_none (by simp; omega)]; rfl
theorem Rows.nil_ (w : World) : Rows 0 w.heap.size w nilv [] [] :=
  ⟨⟨⟨none, 0, rfl, Nat.le_refl _, by omega, fun k u hu => by simp at hu⟩⟩, rfl, fun i => by simpa using (Ints.nil_ w).mono (Nat.le_refl 0) (Nat.zero_le _)⟩
theorem rows_of_trod {t e q : TypeId} (ht : P.underlying t = some (.slice e)) (he : P.underlying e = some (.slice q)) (hq : P.underlying q = some (.int .i64)) (ce : P.cellsOf e = 1) (cq : P.cellsOf q = 1)
    (h : DataW.trod enc P w base (fun _ => true) held fuel t [v] = some x) : ∃ us xss, Rows 0 w.heap.size w v us xss := by
  rcases open_slice1 ht ce h with ⟨hcs, _⟩ | ⟨a, len, cap, m, n, V, D, Pl, hcs, _, hl, hm, hmm, _, hx⟩
  · have : v = nilv := by simpa using hcs
    subst this
    exact ⟨[], [], Rows.nil_ w⟩
  · have : v = .slice (some a) len cap := by simpa using hcs
    subst this
    simp only [if_true] at hmm
    have hlm : len ≤ m := by omega
    obtain ⟨X, hX⟩ := choose_lt (α := List Int) (n := len) (p := fun i xs => Ints 0 w.heap.size w (V i) xs) fun i hi => ints_of_trod he hq cq (hx i (by omega)).2
    refine ⟨(List.range len).map V, (List.range len).map X, sl_of hl hm hlm fun i hi => (hx i hi).1, by simp, fun i => ?_⟩
    by_cases hi : i < len
    · rw [getD_map_range hi, getD_map_range hi]; exact hX i hi
    · rw [getD_map_range' hi, getD_map_range' hi]; exact (Ints.nil_ w).mono (Nat.le_refl 0) (Nat.zero_le _)
theorem rowss_of_trod {t e q r : TypeId} (ht : P.underlying t = some (.slice e)) (he : P.underlying e = some (.slice q)) (hq : P.underlying q = some (.slice r)) (hr : P.underlying r = some (.int .i64)) (ce : P.cellsOf e = 1) (cq : P.cellsOf q = 1) (cr : P.cellsOf r = 1)
    (h : DataW.trod enc P w base (fun _ => true) held fuel t [v] = some x) : ∃ us uss xsss, Rowss 0 w.heap.size w v us uss xsss := by
  rcases open_slice1 ht ce h with ⟨hcs, _⟩ | ⟨a, len, cap, m, n, V, D, Pl, hcs, _, hl, hm, hmm, _, hx⟩
  · have : v = nilv := by simpa using hcs
    subst this
    exact ⟨[], [], [], ⟨⟨none, 0, rfl, Nat.le_refl _, by omega, fun k u hu => by simp at hu⟩⟩, rfl, rfl, fun i => by simpa using Rows.nil_ w⟩
  · have : v = .slice (some a) len cap := by simpa using hcs
    subst this
    simp only [if_true] at hmm
    have hlm : len ≤ m := by omega
    obtain ⟨X, hX⟩ := choose_lt (α := List Value × List (List Int)) (n := len) (p := fun i y => Rows 0 w.heap.size w (V i) y.1 y.2) fun i hi => by
      obtain ⟨us, xss, hR⟩ := rows_of_trod he hq hr cq cr (hx i (by omega)).2
      exact ⟨(us, xss), hR⟩
    refine ⟨(List.range len).map V, (List.range len).map fun i => (X i).1, (List.range len).map fun i => (X i).2, sl_of hl hm hlm fun i hi => (hx i hi).1, by simp, by simp, fun i => ?_⟩
    by_cases hi : i < len
    · rw [getD_map_range hi, getD_map_range hi, getD_map_range hi]; exact hX i hi
    · rw [getD_map_range' hi, getD_map_range' hi, getD_map_range' hi]; exact Rows.nil_ w
end
end Go.Pc

/-
  Orders of elements; the answers of PowerSubgroup and OrderSubgroup.
  Conditions: the tails at all levels are groups.
-/
namespace Go.Proofs.Ytcohfmglfmomcaa
open Go Go.Pc
section
variable {p : Pr} [hc : ConAll p]
/-- The number is the order of the element. -/
def Per (x : El p) (K : Nat) : Prop := 1 ≤ K ∧ K ≤ 117649 ∧ Grp.pw x K = 1 ∧ ∀ m, Grp.pw x m = 1 → K ∣ m
def PerI (x y : El p) (d K : Nat) : Prop := Tl d y ∧ y = Grp.pw x K ∧ 1 ≤ K ∧ K ≤ 7 ^ d ∧ ∀ m, Grp.pw x m = 1 → K ∣ m
theorem PerI.start (x : El p) : PerI x x 0 1 := ⟨Tl.zero x, (Grp.pw_one x).symm, Nat.le_refl _, by simp, fun m _ => Nat.one_dvd m⟩
theorem PerI.done {x y : El p} {d K : Nat} (hd : d ≤ p.n) (h : PerI x y d K) (hy : y = 1) : Per x K := by
  obtain ⟨_, h2, h3, h4, h5⟩ := h
  have hn6 := hc.valid.n6
  have h6 : (7 : Nat) ^ d ≤ 7 ^ 6 := Nat.pow_le_pow_right (by omega) (by omega)
  have h7 : (7 : Nat) ^ 6 = 117649 := by decide
  exact ⟨h3, by omega, by rw [← h2, hy], h5⟩
theorem PerI.skip {x y : El p} {d K : Nat} (h : PerI x y d K) (h0 : co y d = 0) : PerI x y (d + 1) K := by
  obtain ⟨h1, h2, h3, h4, h5⟩ := h
  exact ⟨h1.succ h0, h2, h3, Nat.le_trans h4 (Nat.pow_le_pow_right (by omega) (by omega)), h5⟩
theorem dvd_prime {c o : Int} (ho : o = 2 ∨ o = 3 ∨ o = 5 ∨ o = 7) (hc : 0 ≤ c ∧ c < o) (h0 : c ≠ 0) (j : Nat) (h : ((j : Int) * c) % o = 0) : o.toNat ∣ j := by
  have hd : j % o.toNat = 0 := by
    have hcc : c = 1 ∨ c = 2 ∨ c = 3 ∨ c = 4 ∨ c = 5 ∨ c = 6 := by omega
    rcases ho with rfl | rfl | rfl | rfl <;> rcases hcc with rfl | rfl | rfl | rfl | rfl | rfl <;> simp only [Int.reduceToNat] <;> omega
  exact Nat.dvd_of_mod_eq_zero hd
theorem PerI.step {x y : El p} {d K : Nat} (hd : d < p.n) (h : PerI x y d K) (h0 : co y d ≠ 0) : PerI x (Grp.pw y (p.o d).toNat) (d + 1) (K * (p.o d).toNat) := by
  obtain ⟨h1, h2, h3, h4, h5⟩ := h
  have ho := hc.valid.opos hd
  have hr := co_rng y hd
  refine ⟨(h1.pw (by omega) _).succ ?_, by rw [Grp.pw_mul, ← h2], Nat.mul_pos h3 (by omega), ?_, fun m hm => ?_⟩
  · rw [co_pw hd h1, Int.toNat_of_nonneg (by omega)]
    exact Int.mul_emod_right _ _
  · rw [Nat.pow_succ]; exact Nat.mul_le_mul h4 (by omega)
  · obtain ⟨j, rfl⟩ := h5 m hm
    rw [Grp.pw_mul, ← h2] at hm
    have h6 := co_pw hd h1 j
    rw [hm, co_one] at h6
    exact Nat.mul_dvd_mul_left K (dvd_prime (hc.valid.prime d hd) hr h0 j h6.symm)
theorem Per.mod {x : El p} {K : Nat} (h : Per x K) (m : Nat) : Grp.pw x (m % K) = Grp.pw x m := by
  have e : Grp.pw x m = Grp.pw x (K * (m / K) + m % K) := by rw [Nat.div_add_mod]
  rw [e, Grp.pw_add, Grp.pw_mul, h.2.2.1, Grp.one_pw, Grp.one_mul]
theorem Per.mod_zero {x : El p} {K : Nat} (h : Per x K) (m : Nat) : m % K = 0 ↔ Grp.pw x m = 1 :=
  ⟨fun e => by rw [← h.mod, e, Grp.pw_zero], fun e => Nat.mod_eq_zero_of_dvd (h.2.2.2 m e)⟩
theorem pow_all (k : Int) : (fun a => a ∈ (List.range (ordN p)).map fun i => Grp.pwz (allE p i) k) = fun a => ∃ x : El p, a = Grp.pwz x k := by
  funext a
  refine propext ⟨fun h => ?_, fun ⟨x, h⟩ => ?_⟩
  · obtain ⟨i, _, rfl⟩ := List.mem_map.1 h
    exact ⟨_, rfl⟩
  · obtain ⟨i, hi, rfl⟩ := allE_surj x
    exact List.mem_map.2 ⟨i, List.mem_range.2 hi, h.symm⟩
end
/-- The code of a group that is enumerated and an exponent. -/
def PcV (p : Pr) (k e : Int) : Prop := (¬ IsGrp p ∧ e = 1) ∨ (IsGrp p ∧ ((¬ (1 ≤ k ∧ k ≤ 1000000) ∧ e = 2) ∨ ((1 ≤ k ∧ k ≤ 1000000) ∧ ((128 < ordN p ∧ e = 3) ∨ (ordN p ≤ 128 ∧ e = 0)))))
/-- What a subgroup of powers is, with its code. -/
def PsV (p : Pr) (k : Int) (C : ConAll p → List (List Int)) (r : List (List Int)) (e : Int) : Prop := (¬ (1 ≤ k ∧ k ≤ 1000000) ∧ r = [] ∧ e = 2) ∨ ((1 ≤ k ∧ k ≤ 1000000) ∧ ((128 < ordN p ∧ r = [] ∧ e = 3) ∨ (ordN p ≤ 128 ∧ (∃ c : ConAll p, r = C c) ∧ e = 0)))
theorem PsV.uniq {p : Pr} {k : Int} {C : ConAll p → List (List Int)} (a b : List (List Int)) (c d : Int) (h : PsV p k C a c) (g : PsV p k C b d) : a = b ∧ c = d := by
  rcases h with ⟨h1, rfl, rfl⟩ | ⟨h1, ⟨h2, rfl, rfl⟩ | ⟨h2, ⟨_, rfl⟩, rfl⟩⟩ <;> rcases g with ⟨g1, rfl, rfl⟩ | ⟨g1, ⟨g2, rfl, rfl⟩ | ⟨g2, ⟨_, rfl⟩, rfl⟩⟩
  · exact ⟨rfl, rfl⟩
  · exact absurd g1 h1
  · exact absurd g1 h1
  · exact absurd h1 g1
  · exact ⟨rfl, rfl⟩
  · omega
  · exact absurd h1 g1
  · omega
  · exact ⟨rfl, rfl⟩
theorem PsV.err {p : Pr} {k e : Int} {C : ConAll p → List (List Int)} (h : PcV p k e) (he : e ≠ 0) : Ans (IsGrp p) (PsV p k C) [] [] e := by
  rcases h with ⟨h1, rfl⟩ | ⟨h1, ⟨h2, rfl⟩ | ⟨h2, ⟨h3, rfl⟩ | ⟨h3, rfl⟩⟩⟩
  · exact .inr ⟨h1, rfl, rfl⟩
  · exact .inl ⟨h1, .inl ⟨h2, rfl, rfl⟩⟩
  · exact .inl ⟨h1, .inr ⟨h2, .inl ⟨h3, rfl, rfl⟩⟩⟩
  · exact absurd rfl he
theorem PcV.zero {p : Pr} {k : Int} (h : PcV p k 0) : IsGrp p ∧ (1 ≤ k ∧ k ≤ 1000000) ∧ ordN p ≤ 128 := by
  rcases h with ⟨_, h2⟩ | ⟨h1, ⟨_, h2⟩ | ⟨h2, ⟨_, h3⟩ | ⟨h3, _⟩⟩⟩
  · omega
  · omega
  · omega
  · exact ⟨h1, h2, h3⟩
noncomputable def PowC (p : Pr) (k : Int) (c : ConAll p) : List (List Int) := canon (Gen (fun a : El p => ∃ x : El p, a = Grp.pwz x k))
noncomputable def OrdC (p : Pr) (k : Int) (c : ConAll p) : List (List Int) := canon (Gen (fun a : El p => Grp.pwz a k = 1))
theorem PsV_sz {p : Pr} {k : Int} {C : ConAll p → List (List Int)} {r : List (List Int)} {e : Int} (hC : ∀ c, (C c).length ≤ 2000000 ∧ ∀ i, ((C c).getD i []).length ≤ 2000000) (h : Ans (IsGrp p) (PsV p k C) [] r e) : r.length ≤ 2000000 ∧ ∀ i, (r.getD i []).length ≤ 2000000 := by
  rcases h with ⟨_, ⟨_, rfl, _⟩ | ⟨_, ⟨_, rfl, _⟩ | ⟨_, ⟨c, rfl⟩, _⟩⟩⟩ | ⟨_, rfl, _⟩
  · simp
  · simp
  · exact hC c
  · simp
theorem PowerSubgroup_sz0 {p : Pr} {k : Int} {r : List (List Int)} {e : Int} (_ : p.ord.length ≤ 2000000) (h : Ans (IsGrp p) (PsV p k (PowC p k)) [] r e) : r.length ≤ 2000000 ∧ ∀ i, (r.getD i []).length ≤ 2000000 :=
  PsV_sz (fun c => canon_sz _ c.valid.n6) h
theorem OrderSubgroup_sz0 {p : Pr} {k : Int} {r : List (List Int)} {e : Int} (_ : p.ord.length ≤ 2000000) (h : Ans (IsGrp p) (PsV p k (OrdC p k)) [] r e) : r.length ≤ 2000000 ∧ ∀ i, (r.getD i []).length ≤ 2000000 :=
  PsV_sz (fun c => canon_sz _ c.valid.n6) h
end Go.Proofs.Ytcohfmglfmomcaa

/-
  Walks: the reference's PowerSubgroup, OrderSubgroup.
  Conditions: what the arguments read as.
-/
namespace Go.Proofs.Ytcohfmglfmomcaa
open Go Go.Pc
set_option maxHeartbeats 1000000 in
theorem l17Code_ok {p : Pr} {k : Int} {w : World} {vp : Value} {lo hi : Nat} [hp : Pres lo hi w vp p] (hl : p.ord.length ≤ 2000000) :
    Calls Try.prog 71 #[vp, .int .i64 k] w (Ret fun v w' => ∃ e : Int, v = .int .i64 e ∧ PcV p k e ∧ Ext w w') := by
  obtain ⟨vo, vpw, vc, ps, cs, css, rfl, h1, h2, h3⟩ := hp.ex
  refine enter (args := [.agg #[vo, vpw, vc], .int .i64 k]) (l := [.tmp 4]) Try.func71 rfl rfl Try.ntmps71 (by simp) ?_
  refine go ?_
  refine st_box3 (by ((try simp only [ev_tmp, ev_const, ev_func, get_put, get_args, get_putL, get_putL_nil, Nat.reduceEqDiff, reduceIte, List.getD_cons_zero, List.getD_cons_succ, List.getD_nil]); first | done | with_reducible rfl)) (by first | exact True.intro | exact ⟨_, rfl, by ((try simp only [ev_tmp, ev_const, ev_func, get_put, get_args, get_putL, get_putL_nil, Nat.reduceEqDiff, reduceIte, List.getD_cons_zero, List.getD_cons_succ, List.getD_nil, Bool.not_true, Bool.not_false]); first | done | with_reducible rfl)⟩) fun w1 b he1 hb1 hs1 hc0 hc1 hc2 => ?_
  refine go ?_
  refine rc (l08Group_ok (p := p) hl) (next := fun v5 w5 h5 => ?_)
  obtain ⟨b5, rfl, hb5, he5⟩ := h5
  have hE5 := he1.trans he5
  refine go ?_
  refine c_b (fun e5 => ?_) (fun e5 => ?_)
  · refine go ?_
    refine ret1 ⟨1, rfl, .inl ⟨fun h => ?_, rfl⟩, hE5⟩
    rw [hb5.2 h] at e5; cases e5
  have hG := hb5.1 (by simpa using e5)
  haveI : ConAll p := ⟨hG.con⟩
  obtain ⟨hoe, ho1, ho2⟩ := ordN_rng p
  refine go ?_
  refine rc l01In_ok (next := fun v6 w6 h6 => ?_)
  obtain ⟨b6, rfl, hb6, he6⟩ := h6
  have hE6 := hE5.trans he6
  refine go ?_
  refine c_b (fun e6 => ?_) (fun e6 => ?_)
  · refine go ?_
    refine ret1 ⟨2, rfl, .inr ⟨hG, .inl ⟨fun h => ?_, rfl⟩⟩, hE6⟩
    rw [hb6.2 h] at e6; cases e6
  have hk := hb6.1 (by simpa using e6)
  refine go ?_
  refine rc (l10Order_ok (p := p) hG.valid) (next := fun v7 w7 h7 => ?_)
  obtain ⟨rfl, he7⟩ := h7
  rw [hoe]
  have hE7 := hE6.trans he7
  refine go ?_
  refine c_if (fun h8 => ?_) (fun h8 => ?_)
  · refine go ?_
    exact ret1 ⟨3, rfl, .inr ⟨hG, .inr ⟨hk, .inl ⟨by omega, rfl⟩⟩⟩, hE7⟩
  · refine go ?_
    exact ret1 ⟨0, rfl, .inr ⟨hG, .inr ⟨hk, .inr ⟨by omega, rfl⟩⟩⟩, hE7⟩
set_option maxHeartbeats 2000000 in
theorem spec_PowerSubgroup_ok {p : Pr} {k : Int} {w : World} {vp : Value} {lo hi : Nat} [hp : Pres lo hi w vp p] (hl : p.ord.length ≤ 2000000) :
    Calls Try.prog 36 #[vp, .int .i64 k] w (Ret fun v w' => ∃ (u : Value) (r : List (List Int)) (e : Int), v = .tuple #[u, .int .i64 e] ∧ Ans (IsGrp p) (PsV p k (PowC p k)) [] r e ∧ Ext w w' ∧ ∃ us', Pc.Rows w.heap.size w'.heap.size w' u us' r) := by
  replace hp := hp.wide
  obtain ⟨vo, vpw, vc, ps, cs, css, rfl, h1, h2, h3⟩ := hp.ex
  refine enter (args := [.agg #[vo, vpw, vc], .int .i64 k]) (l := [.tmp 4, .tmp 5]) Try.func36 rfl rfl Try.ntmps36 (by simp) ?_
  refine go ?_
  refine st_box3 (by ((try simp only [ev_tmp, ev_const, ev_func, get_put, get_args, get_putL, get_putL_nil, Nat.reduceEqDiff, reduceIte, List.getD_cons_zero, List.getD_cons_succ, List.getD_nil]); first | done | with_reducible rfl)) (by first | exact True.intro | exact ⟨_, rfl, by ((try simp only [ev_tmp, ev_const, ev_func, get_put, get_args, get_putL, get_putL_nil, Nat.reduceEqDiff, reduceIte, List.getD_cons_zero, List.getD_cons_succ, List.getD_nil, Bool.not_true, Bool.not_false]); first | done | with_reducible rfl)⟩) fun w1 b he1 hb1 hs1 hc0 hc1 hc2 => ?_
  refine go ?_
  refine rc (l17Code_ok (p := p) hl) (next := fun v5 w5 h5 => ?_)
  obtain ⟨e5, rfl, hcode, he5⟩ := h5
  have hE5 := he1.trans he5
  refine go ?_
  refine c_if (fun h6 => ?_) (fun h6 => ?_)
  · refine go ?_
    exact ret2 ⟨nilv, [], e5, rfl, PsV.err hcode h6, hE5, [], Rows.nilR _ _ _⟩
  obtain rfl : e5 = 0 := Decidable.not_not.1 h6
  obtain ⟨hG, hk, hN⟩ := hcode.zero
  haveI : ConAll p := ⟨hG.con⟩
  have hv := hG.valid
  obtain ⟨hoe, ho1, ho2⟩ := ordN_rng p
  have hz1 := he1.size
  have hz5 := hE5.size
  have hz15 := he5.size
  refine go ?_
  refine st_slice0 (by first | exact True.intro | exact ⟨_, rfl, by ((try simp only [ev_tmp, ev_const, ev_func, get_put, get_args, get_putL, get_putL_nil, Nat.reduceEqDiff, reduceIte, List.getD_cons_zero, List.getD_cons_succ, List.getD_nil, Bool.not_true, Bool.not_false]); first | done | with_reducible rfl)⟩) fun w3 v3 he3 hs3 ho3 => ?_
  refine go ?_
  refine r_for (ordN p) (fun j ρ w' => ∃ vl rs, Has ρ [(1, .int .i64 k), (2, .pointer (some ⟨b, 0, none⟩)), (7, vl), (8, .int .i64 j)] ∧ Ext w5 w' ∧ GrowL 22 w5.heap.size w' vl rs ∧ rs.map (·.2) = vecs ((List.range j).map fun i => Grp.pwz (allE p i) k)) ?_ ?_
  · refine ⟨v3, [], ?_, he3, GrowL.start ho3 (Nat.le_refl _), by simp⟩
    exact hasP
  clear ho3 hs3 he3
  rintro j ρ wa hj ⟨vl, rs, hH, hea, hG3, hrs⟩
  refine rwp_has hH fun ρ0 => ?_
  have hza := hea.size
  have hrl : rs.length = j := by have := congrArg List.length hrs; simp at this; omega
  have hEa := hE5.trans hea
  refine go ?_
  refine rc (l10Order_ok (p := p) hv) (next := fun v4 w4 h5 => ?_)
  obtain ⟨rfl, he4⟩ := h5
  rw [hoe]
  have hz4 := he4.size
  have hG4 := hG3.ext he4
  have hea4 := hea.trans he4
  have hEa4 := hEa.trans he4
  clear hG3
  refine go ?_
  refine c_if (fun h7 => ?_) (fun h7 => ?_)
  · have hjn : j < ordN p := by omega
    obtain ⟨b', hb', hvb'⟩ := own_some' vl w5.heap.size w4.heap.size (by omega) (fun g h => (hG4.lst.lt h).1)
    have ap1 : Apart 0 w.heap.size b' := ⟨.inr (by omega)⟩
    have ap2 : Apart b (b + 1) b' := ⟨.inr (by omega)⟩
    refine go ?_
    refine z_order b' [0, 1, 2, 3, 5, 4, 6, 7, 8, 9] (h := fun w6 he6 _ => ?_)
    refine zgo ?_
    refine zc (l10At_ok (p := p) (t := j) (by omega)) (next := fun v7 w7 h8 => ?_)
    obtain ⟨he7, hf7⟩ := h8
    have hi7 := hf7.ints
    refine zgo ?_
    refine zc (l10Pow_ok (p := p) (x := allE p j) (k := k) rfl (by omega)) (next := fun v8 w8 h9 => ?_)
    obtain ⟨he8, hf8⟩ := h9
    refine z_grow ((hG4.ext he6).ext he7) he8 hf8 (by have := he6.size; have := he7.size; omega) (by omega) hvb' (next := fun v9 v10 w10 hG10 hx10 hz10 hgs10 => ?_)
    refine zgo ?_
    refine z_end ?_
    refine go ?_
    refine forQ_normal (by omega) ⟨v10, _, ?_, hx10 w5 (((hea4.trans he6).trans he7).trans he8) (Nat.le_refl _), hG10, ?_⟩
    · exact hasP
    · rw [List.range_succ, List.map_append, List.map_append, hrs]; simp
  · obtain rfl : j = ordN p := by omega
    have hRl := hG4.mat.rows
    rw [hrs] at hRl
    refine go ?_
    refine rc (l12Close_ok (p := p) (ys := (List.range (ordN p)).map fun i => Grp.pwz (allE p i) k) rfl (by simp; omega)) (next := fun v12 w12 h12 => ?_)
    obtain ⟨he12, us12, hL12⟩ := h12
    rw [pow_all] at hL12
    refine go ?_
    exact ret2 ⟨v12, _, 0, rfl, .inl ⟨hG, .inr ⟨hk, .inr ⟨hN, ⟨inferInstance, rfl⟩, rfl⟩⟩⟩, hEa4.trans he12, us12, hL12.newRows.mono hEa4.size (Nat.le_refl _)⟩
set_option maxHeartbeats 2000000 in
theorem spec_OrderSubgroup_ok {p : Pr} {k : Int} {w : World} {vp : Value} {lo hi : Nat} [hp : Pres lo hi w vp p] (hl : p.ord.length ≤ 2000000) :
    Calls Try.prog 38 #[vp, .int .i64 k] w (Ret fun v w' => ∃ (u : Value) (r : List (List Int)) (e : Int), v = .tuple #[u, .int .i64 e] ∧ Ans (IsGrp p) (PsV p k (OrdC p k)) [] r e ∧ Ext w w' ∧ ∃ us', Pc.Rows w.heap.size w'.heap.size w' u us' r) := by
  replace hp := hp.wide
  obtain ⟨vo, vpw, vc, ps, cs, css, rfl, h1, h2, h3⟩ := hp.ex
  refine enter (args := [.agg #[vo, vpw, vc], .int .i64 k]) (l := [.tmp 4, .tmp 5]) Try.func38 rfl rfl Try.ntmps38 (by simp) ?_
  refine go ?_
  refine st_box3 (by ((try simp only [ev_tmp, ev_const, ev_func, get_put, get_args, get_putL, get_putL_nil, Nat.reduceEqDiff, reduceIte, List.getD_cons_zero, List.getD_cons_succ, List.getD_nil]); first | done | with_reducible rfl)) (by first | exact True.intro | exact ⟨_, rfl, by ((try simp only [ev_tmp, ev_const, ev_func, get_put, get_args, get_putL, get_putL_nil, Nat.reduceEqDiff, reduceIte, List.getD_cons_zero, List.getD_cons_succ, List.getD_nil, Bool.not_true, Bool.not_false]); first | done | with_reducible rfl)⟩) fun w1 b he1 hb1 hs1 hc0 hc1 hc2 => ?_
  refine go ?_
  refine rc (l17Code_ok (p := p) hl) (next := fun v5 w5 h5 => ?_)
  obtain ⟨e5, rfl, hcode, he5⟩ := h5
  have hE5 := he1.trans he5
  refine go ?_
  refine c_if (fun h6 => ?_) (fun h6 => ?_)
  · refine go ?_
    exact ret2 ⟨nilv, [], e5, rfl, PsV.err hcode h6, hE5, [], Rows.nilR _ _ _⟩
  obtain rfl : e5 = 0 := Decidable.not_not.1 h6
  obtain ⟨hG, hk, hN⟩ := hcode.zero
  haveI : ConAll p := ⟨hG.con⟩
  have hv := hG.valid
  have hn6 := hv.n6
  obtain ⟨hoe, ho1, ho2⟩ := ordN_rng p
  have hz1 := he1.size
  have hz5 := hE5.size
  have hz15 := he5.size
  refine go ?_
  refine st_slice0 (by first | exact True.intro | exact ⟨_, rfl, by ((try simp only [ev_tmp, ev_const, ev_func, get_put, get_args, get_putL, get_putL_nil, Nat.reduceEqDiff, reduceIte, List.getD_cons_zero, List.getD_cons_succ, List.getD_nil, Bool.not_true, Bool.not_false]); first | done | with_reducible rfl)⟩) fun w3 v3 he3 hs3 ho3 => ?_
  refine go ?_
  refine r_for (ordN p) (fun j ρ w' => ∃ vl rs, Has ρ [(1, .int .i64 k), (2, .pointer (some ⟨b, 0, none⟩)), (7, vl), (8, .int .i64 j)] ∧ Ext w5 w' ∧ GrowL 22 w5.heap.size w' vl rs ∧ rs.map (·.2) = vecs (selL (fun a : El p => Grp.pwz a k = 1) j)) ?_ ?_
  · refine ⟨v3, [], ?_, he3, GrowL.start ho3 (Nat.le_refl _), by simp [selL]⟩
    exact hasP
  clear ho3 hs3 he3
  rintro j ρ wa hj ⟨vl, rs, hH, hea, hG3, hrs⟩
  refine rwp_has hH fun ρ0 => ?_
  have hza := hea.size
  have hrl : rs.length ≤ j := by have := congrArg List.length hrs; have := selL_len (fun a : El p => Grp.pwz a k = 1) j; simp at *; omega
  have hEa := hE5.trans hea
  refine go ?_
  refine rc (l10Order_ok (p := p) hv) (next := fun v4 w4 h5 => ?_)
  obtain ⟨rfl, he4⟩ := h5
  rw [hoe]
  have hz4 := he4.size
  have hG4 := hG3.ext he4
  have hea4 := hea.trans he4
  have hEa4 := hEa.trans he4
  clear hG3
  refine go ?_
  refine c_if (fun h7 => ?_) (fun h7 => ?_)
  · have hjn : j < ordN p := by omega
    refine go ?_
    refine rc (l10At_ok (p := p) (t := j) (by omega)) (next := fun v7 w7 h8 => ?_)
    obtain ⟨he7, hf7⟩ := h8
    have hi7 := hf7.ints
    refine go ?_
    refine rc (l10Pow_ok (p := p) (x := allE p j) (k := k) rfl (by omega)) (next := fun v8 w8 h9 => ?_)
    obtain ⟨he8, hf8⟩ := h9
    have hi8 := hf8.ints
    have hl8 := (Grp.pwz (allE p j) k).inr.len
    refine go ?_
    refine rc (l01Zero_ok (xs := (Grp.pwz (allE p j) k).v) (by omega)) (next := fun v9 w9 h10 => ?_)
    obtain ⟨b9, rfl, hb9, he9⟩ := h10
    rw [← el_one_iff] at hb9
    have hx89 := he8.trans he9
    refine go ?_
    refine c_b (fun e9 => ?_) (fun e9 => ?_)
    · have hP := hb9.1 e9
      refine go ?_
      refine st_grow hG4 (he7.trans hx89) (hf7.ext' hx89) (by omega) (by omega) (next := fun v10 v11 w11 hG11 hx11 hz11 hgs11 => ?_)
      refine go ?_
      refine forQ_normal (by omega) ⟨v11, _, ?_, hx11 w5 (hea4.trans (he7.trans hx89)) (Nat.le_refl _), hG11, ?_⟩
      · exact hasP
      · rw [selL_yes (P := fun a : El p => Grp.pwz a k = 1) hP]; simp [hrs]
    · refine go ?_
      refine forQ_normal (by omega) ⟨vl, rs, ?_, hea4.trans (he7.trans hx89), hG4.ext (he7.trans hx89), ?_⟩
      · exact hasP
      · rw [selL_no (P := fun a : El p => Grp.pwz a k = 1) (fun h => by rw [hb9.2 h] at e9; cases e9)]; exact hrs
  · obtain rfl : j = ordN p := by omega
    have hRl := hG4.mat.rows
    rw [hrs] at hRl
    have hsl := selL_len (fun a : El p => Grp.pwz a k = 1) (ordN p)
    refine go ?_
    refine rc (l12Close_ok (p := p) (ys := selL (fun a : El p => Grp.pwz a k = 1) (ordN p)) rfl (by omega)) (next := fun v12 w12 h12 => ?_)
    obtain ⟨he12, us12, hL12⟩ := h12
    rw [selL_all] at hL12
    refine go ?_
    exact ret2 ⟨v12, _, 0, rfl, .inl ⟨hG, .inr ⟨hk, .inr ⟨hN, ⟨inferInstance, rfl⟩, rfl⟩⟩⟩, hEa4.trans he12, us12, hL12.newRows.mono hEa4.size (Nat.le_refl _)⟩
end Go.Proofs.Ytcohfmglfmomcaa

/-
  Walks: the program's order of an element; PowerSubgroup, OrderSubgroup.
  Conditions: what the arguments read as.
-/
namespace Go.Proofs.Ytcohfmglfmomcaa
open Go Go.Pc
set_option maxHeartbeats 2000000 in
theorem orderOfElement_ok {p : Pr} [hc : ConAll p] {x : El p} {w : World} {vp vx : Value} {xs : List Int} {lo hi lo1 hi1 : Nat} [hp : PresP lo hi w vp p] [hx : Ints lo1 hi1 w vx xs] (hxe : xs = x.v) :
    Calls Try.prog 80 #[vp, vx] w (Ret fun v w' => ∃ K : Nat, v = .int .i64 K ∧ Per x K ∧ Ext w w') := by
  subst hxe
  have hn6 := hc.valid.n6
  have hol : p.ord.length = p.n := rfl
  replace hp := hp.wide
  obtain ⟨g, vo, vpw, vc, ps, cs, css, rfl, hg1, hg2, hc0, hc1, hc2, h1, h2, h3⟩ := hp.ex
  refine enter (args := [.pointer (some ⟨g, 0, none⟩), vx]) (l := [.tmp 4]) Try.func80 rfl rfl Try.ntmps80 (by simp) ?_
  refine go ?_
  refine r_for p.n (fun d ρ w' => ∃ (K : Nat) (y : El p) (vn : Value), Has ρ [(0, .pointer (some ⟨g, 0, none⟩)), (5, .int .i64 K), (6, .int .i64 d), (7, vn)] ∧ Ext w w' ∧ Ints 0 w'.heap.size w' vn y.v ∧ PerI x y d K) ?_ ?_
  · refine ⟨1, x, vx, ?_, Ext.refl _, hx.wide, PerI.start x⟩
    exact hasP
  rintro d ρ w3 hd ⟨K, y, vn, hH, he3, hy, hI⟩
  refine rwp_has hH fun ρ0 => ?_
  have hyl := y.inr.len
  refine go ?_
  refine rc (isZero_ok (xs := y.v) (by omega)) (next := fun v4 w4 h4 => ?_)
  obtain ⟨b4, rfl, hb4, he4⟩ := h4
  rw [← el_one_iff] at hb4
  have hE4 := he3.trans he4
  have hy4 : Ints 0 w3.heap.size w4 vn y.v := hy.same (he4.same _ _)
  have hy5 : Ints 0 w4.heap.size w4 vn y.v := hy4.wide
  have h7 : K ≤ 117649 := by
    have h6 : (7 : Nat) ^ d ≤ 7 ^ 6 := Nat.pow_le_pow_right (by omega) (by omega)
    have h7 : (7 : Nat) ^ 6 = 117649 := by decide
    have := hI.2.2.2.1
    omega
  refine go ?_
  refine c_b (fun e4 => ?_) (fun e4 => ?_)
  · have hne : y ≠ 1 := fun h => by rw [hb4.2 h] at e4; cases e4
    have hdn : d < p.n := by
      by_cases e : d = p.n
      · subst e; exact absurd hI.1.end_ hne
      · omega
    have ho := hc.valid.opos hdn
    refine go ?_
    refine c_if (fun h5 => ?_) (fun h5 => ?_)
    · refine go ?_
      rw [show p.ord.getD d 0 = p.o d from rfl]
      refine rc (power_ok (p := p) (i := 0) (x := y) (k := p.o d) (Nat.zero_le _) rfl (by omega)) (next := fun v6 w6 h6 => ?_)
      obtain ⟨he6, hf6⟩ := h6
      have hE6 := hE4.trans he6
      have hm : 0 ≤ (K : Int) * p.o d ∧ (K : Int) * p.o d ≤ 117649 * 7 := ⟨Int.mul_nonneg (by omega) (by omega), Int.mul_le_mul (by omega) ho.2 (by omega) (by omega)⟩
      have hmb : -9223372036854775808 ≤ (K : Int) * p.o d ∧ (K : Int) * p.o d ≤ 9223372036854775807 := ⟨by omega, by omega⟩
      have hco : ((K * (p.o d).toNat : Nat) : Int) = (K : Int) * p.o d := by rw [Int.natCast_mul, Int.toNat_of_nonneg (by omega)]
      refine go ?_
      rw [show p.ord.getD d 0 = p.o d from rfl]
      refine ra (h := rd_mul (by ((try simp only [ev_tmp, ev_const, ev_func, get_put, get_args, get_putL, get_putL_nil, Nat.reduceEqDiff, reduceIte, List.getD_cons_zero, List.getD_cons_succ, List.getD_nil]); first | done | with_reducible rfl)) (by ((try simp only [ev_tmp, ev_const, ev_func, get_put, get_args, get_putL, get_putL_nil, Nat.reduceEqDiff, reduceIte, List.getD_cons_zero, List.getD_cons_succ, List.getD_nil]); first | done | with_reducible rfl)) hmb) (next := ?_)
      rw [← hco]
      refine go ?_
      refine forQ_normal (by omega) ⟨_, _, v6, ?_, hE6, hf6.ints.wide, hI.step hdn h5⟩
      exact hasP
    · refine go ?_
      refine forQ_normal (by omega) ⟨K, y, vn, ?_, hE4, hy5, hI.skip (Decidable.not_not.1 h5)⟩
      exact hasP
  · have hb : b4 = true := by simpa using e4
    refine go ?_
    exact ret1 ⟨K, rfl, hI.done hd (hb4.1 hb), hE4⟩
set_option maxHeartbeats 1000000 in
theorem powersCode_ok {p : Pr} {k : Int} {w : World} {vp : Value} {lo hi : Nat} [hp : PresP lo hi w vp p] (hl : p.ord.length ≤ 2000000) :
    Calls Try.prog 75 #[vp, .int .i64 k] w (Ret fun v w' => ∃ e : Int, v = .int .i64 e ∧ PcV p k e ∧ Ext w w') := by
  obtain ⟨g, vo, vpw, vc, ps, cs, css, rfl, hg1, hg2, hc0, hc1, hc2, h1, h2, h3⟩ := hp.ex
  have hpv := PresP.val (b := g) h1 h2 h3
  refine enter (args := [.pointer (some ⟨g, 0, none⟩), .int .i64 k]) (l := [.tmp 4]) Try.func75 rfl rfl Try.ntmps75 (by simp) ?_
  refine go ?_
  refine rc (impl_IsConsistent_ok (p := p) hl) (next := fun v5 w5 h5 => ?_)
  obtain ⟨b5, rfl, hb5, he5⟩ := h5
  refine go ?_
  refine c_b (fun e5 => ?_) (fun e5 => ?_)
  · refine go ?_
    refine ret1 ⟨1, rfl, .inl ⟨fun h => ?_, rfl⟩, he5⟩
    rw [hb5.2 h] at e5; cases e5
  have hG := hb5.1 (by simpa using e5)
  haveI : ConAll p := ⟨hG.con⟩
  obtain ⟨hoe, ho1, ho2⟩ := ordN_rng p
  refine go ?_
  refine rc inside_ok (next := fun v6 w6 h6 => ?_)
  obtain ⟨b6, rfl, hb6, he6⟩ := h6
  have hE6 := he5.trans he6
  refine go ?_
  refine c_b (fun e6 => ?_) (fun e6 => ?_)
  · refine go ?_
    refine ret1 ⟨2, rfl, .inr ⟨hG, .inl ⟨fun h => ?_, rfl⟩⟩, hE6⟩
    rw [hb6.2 h] at e6; cases e6
  have hk := hb6.1 (by simpa using e6)
  refine go ?_
  refine rc (orderOf_ok (p := p) hG.valid) (next := fun v7 w7 h7 => ?_)
  obtain ⟨rfl, he7⟩ := h7
  rw [hoe]
  have hE7 := hE6.trans he7
  refine go ?_
  refine c_if (fun h8 => ?_) (fun h8 => ?_)
  · refine go ?_
    exact ret1 ⟨3, rfl, .inr ⟨hG, .inr ⟨hk, .inl ⟨by omega, rfl⟩⟩⟩, hE7⟩
  · refine go ?_
    exact ret1 ⟨0, rfl, .inr ⟨hG, .inr ⟨hk, .inr ⟨by omega, rfl⟩⟩⟩, hE7⟩
set_option maxHeartbeats 4000000 in
theorem impl_PowerSubgroup_ok {p : Pr} {k : Int} {w : World} {vp : Value} {lo hi : Nat} [hp : Pres lo hi w vp p] (hl : p.ord.length ≤ 2000000) :
    Calls Try.prog 37 #[vp, .int .i64 k] w (Ret fun v w' => ∃ (u : Value) (r : List (List Int)) (e : Int), v = .tuple #[u, .int .i64 e] ∧ Ans (IsGrp p) (PsV p k (PowC p k)) [] r e ∧ Ext w w' ∧ ∃ rs, r = rs.map (·.2) ∧ MatO w.heap.size w'.heap.size w' u rs) := by
  obtain ⟨vo, vpw, vc, ps, cs, css, rfl, h1, h2, h3⟩ := hp.ex
  refine enter (args := [.agg #[vo, vpw, vc], .int .i64 k]) (l := [.tmp 4, .tmp 5]) Try.func37 rfl rfl Try.ntmps37 (by simp) ?_
  refine go ?_
  refine st_box3 (by ((try simp only [ev_tmp, ev_const, ev_func, get_put, get_args, get_putL, get_putL_nil, Nat.reduceEqDiff, reduceIte, List.getD_cons_zero, List.getD_cons_succ, List.getD_nil]); first | done | with_reducible rfl)) (by first | exact True.intro | exact ⟨_, rfl, by ((try simp only [ev_tmp, ev_const, ev_func, get_put, get_args, get_putL, get_putL_nil, Nat.reduceEqDiff, reduceIte, List.getD_cons_zero, List.getD_cons_succ, List.getD_nil, Bool.not_true, Bool.not_false]); first | done | with_reducible rfl)⟩) fun w1 b he1 hb1 hs1 hc0 hc1 hc2 => ?_
  have hpp := hp.boxed he1 hc0 hc1 hc2
  refine go ?_
  refine rc (powersCode_ok (p := p) hl) (next := fun v5 w5 h5 => ?_)
  obtain ⟨e5, rfl, hcode, he5⟩ := h5
  have hE5 := he1.trans he5
  refine go ?_
  refine c_if (fun h6 => ?_) (fun h6 => ?_)
  · refine go ?_
    exact ret2 ⟨nilv, [], e5, rfl, PsV.err hcode h6, hE5, [], rfl, MatO.nilR _ _ _⟩
  obtain rfl : e5 = 0 := Decidable.not_not.1 h6
  obtain ⟨hG, hk, hN⟩ := hcode.zero
  haveI : ConAll p := ⟨hG.con⟩
  have hn6 := hG.valid.n6
  obtain ⟨hoe, ho1, ho2⟩ := ordN_rng p
  have hpp5 : PresP 0 w5.heap.size w5 (.pointer (some ⟨b, 0, none⟩)) p := PresP.wide inferInstance
  refine go ?_
  refine rc (newSequence_ok (p := p) hn6) (next := fun v7 w7 h7 => ?_)
  obtain ⟨st, vt, rfl, he7, hd0, hd1, hst, hvt, ho⟩ := h7
  have hz7 := he7.size
  have hq : SeqAt st w5.heap.size w5.heap.size (fun _ => False) w7 (.pointer (some ⟨b, 0, none⟩)) vt (fun _ => none : Tab p) := by
    refine ⟨hd0, hd1, by omega, hvt, List.replicate p.n nilv, ?_, fun d hd _ => ?_⟩
    · rw [tabL_none]
      exact Lst.ofNils ho (Nat.le_refl _) (fun h => h) (fun g h => h.elim)
    · rw [List.getD_eq_getElem?_getD, List.getElem?_replicate]; split <;> rfl
  have hap : Apart 0 w5.heap.size w5.heap.size := ⟨.inr (Nat.le_refl _)⟩
  have hz11 : w5.heap.size + 1 ≤ w7.heap.size := by have := ho.lt; omega
  clear hd0 hd1 ho
  refine go ?_
  refine rc (allElements_ok (p := p)) (next := fun v2 w2 h2 => ?_)
  obtain ⟨he2, rs2, hrs2, hM2⟩ := h2
  have hR2 := hM2.rows
  rw [← hrs2] at hR2
  have hE2 := he7.trans he2
  have hz2 := he2.size
  have hvl : (vecs ((List.range (ordN p)).map (allE p))).length = ordN p := by simp
  have hq2 := hq.ext he2
  clear hq
  refine go ?_
  refine r_for (ordN p) (fun j ρ w' => ∃ (t : Tab p) (S : El p → Prop), Has ρ [(1, .int .i64 k), (2, .pointer (some ⟨b, 0, none⟩)), (7, .pointer (some ⟨st, 0, none⟩)), (16, v2), (17, .int .i64 (ordN p)), (18, .int .i64 j)] ∧ Chg w5.heap.size w2 w' ∧ SeqAt st w5.heap.size w5.heap.size (fun _ => False) w' (.pointer (some ⟨b, 0, none⟩)) vt t ∧ Wk S t (fun _ => False) ∧ ∀ a, S a ↔ a ∈ (List.range j).map fun i => Grp.pwz (allE p i) k) ?_ ?_
  · refine ⟨fun _ => none, fun _ => False, ?_, Chg.refl _ _, hq2, Wk.none, fun a => by simp⟩
    exact hasP
  clear hq2
  rintro j ρ w3 hj ⟨t, S, hH, hch3, hq3, hW3, hS3⟩
  refine rwp_has hH fun ρ0 => ?_
  have hE3 : Ext w5 w3 := hch3.ext hE2 (Nat.le_refl _)
  have hz3 := hch3.size
  have hR3 : Pc.Rows w7.heap.size w2.heap.size w3 v2 _ _ := hR2.same (hch3.same (.inl (by omega)))
  refine go ?_
  refine c_if (fun h4 => ?_) (fun h4 => ?_)
  · have hjn : j < ordN p := by omega
    have hxk : (vecs ((List.range (ordN p)).map (allE p))).getD j [] = (allE p j).v := by
      rw [vecs_getD _ (by simpa using hjn)]; simp
    have hxi : Ints w7.heap.size w2.heap.size w3 (Pc.rowAt v2 (rs2.map fun x : Value × List Int => x.1) j) (allE p j).v := by rw [← hxk]; exact hR3.vals.at_ j
    refine go ?_
    refine rc (orderOfElement_ok (p := p) (x := allE p j) rfl) (next := fun v6 w6 h6 => ?_)
    obtain ⟨K, rfl, hK, he6⟩ := h6
    have hK1 := hK.1
    have hK2 := hK.2.1
    have hmod : 0 ≤ k % (K : Int) ∧ k % (K : Int) < K := ⟨Int.emod_nonneg _ (by omega), Int.emod_lt_of_pos _ (by omega)⟩
    have hpw : Grp.pw (allE p j) (k % (K : Int)).toNat = Grp.pwz (allE p j) k := by
      obtain ⟨m, rfl⟩ : ∃ m : Nat, k = m := ⟨k.toNat, by omega⟩
      rw [Grp.pwz_nat, ← hK.mod m, ← Int.natCast_emod, Int.toNat_natCast]
    have hxi6 : Ints w7.heap.size w2.heap.size w6 (Pc.rowAt v2 (rs2.map fun x : Value × List Int => x.1) j) (allE p j).v := hxi.same (he6.same _ _)
    refine go ?_
    refine rc (power_ok (p := p) (i := 0) (x := allE p j) (k := k % (K : Int)) (Nat.zero_le _) rfl (by omega)) (next := fun v8 w8 h8 => ?_)
    obtain ⟨he8, hf8⟩ := h8
    rw [hpw] at hf8
    have he68 := he6.trans he8
    have hq8 := hq3.ext he68
    have hch8 := hch3.grow he68
    clear hq3 hch3
    have hi8 := hf8.ints
    refine go ?_
    refine st_slice1 (u := v8) (by ((try simp only [ev_tmp, ev_const, ev_func, get_put, get_args, get_putL, get_putL_nil, Nat.reduceEqDiff, reduceIte, List.getD_cons_zero, List.getD_cons_succ, List.getD_nil]); first | done | with_reducible rfl)) hi8.sl.cells rfl (by first | exact True.intro | exact ⟨_, rfl, by ((try simp only [ev_tmp, ev_const, ev_func, get_put, get_args, get_putL, get_putL_nil, Nat.reduceEqDiff, reduceIte, List.getD_cons_zero, List.getD_cons_succ, List.getD_nil, Bool.not_true, Bool.not_false]); first | done | with_reducible rfl)⟩) fun w9 v9 he9 hs9 hsl9 => ?_
    have hq9 := hq8.ext he9
    have hch9 := hch8.grow he9
    have hz68 := he68.size
    have hz6 := he6.size
    have hi9 : Ints w6.heap.size w8.heap.size w9 v8 (Grp.pwz (allE p j) k).v := hi8.same (he9.same _ _)
    have hz9 := he9.size
    have hr9 : RowsAp (fun g => g = w5.heap.size) w9 [v8] (vecs [Grp.pwz (allE p j) k]) := by
      refine ⟨rfl, fun i => ?_⟩
      cases i with
      | zero => exact ⟨w6.heap.size, w8.heap.size, hi9, by omega, fun g hg => .inl (by omega)⟩
      | succ i => exact IntsAp.nil _ _
    refine go ?_
    refine rc (add_ok (p := p) (S := S) (by omega) hq9 hW3 hr9 (by simp)) (next := fun v10 w10 h10 => ?_)
    obtain ⟨bg10, t10, rfl, hch10, hq10, hW10, _⟩ := h10
    refine go ?_
    refine forQ_normal (by omega) ⟨t10, _, ?_, hch9.trans hch10, hq10, hW10, fun a => ?_⟩
    · exact hasP
    · rw [List.range_succ, List.map_append, List.mem_append, hS3]; simp
  · obtain rfl : j = ordN p := by omega
    have hgen := hW3.gen (fun _ h => h)
    have hfull := hW3.full (fun _ h => h)
    have hSP : S = fun a => ∃ x : El p, a = Grp.pwz x k := by
      have h := pow_all (p := p) k
      funext a
      exact propext ((hS3 a).trans (by rw [← congrFun h a]))
    refine go ?_
    refine rc (canonicalM_ok (p := p) hfull hq3) (next := fun v9 w9 h9 => ?_)
    obtain ⟨he9, rs9, hrs9, hM9⟩ := h9
    rw [hgen, hSP] at hrs9
    refine go ?_
    exact ret2 ⟨v9, _, 0, rfl, .inl ⟨hG, .inr ⟨hk, .inr ⟨hN, ⟨inferInstance, rfl⟩, rfl⟩⟩⟩, (hE5.trans hE3).trans he9, rs9, hrs9, hM9.lower (hE5.trans hE3).size⟩
set_option maxHeartbeats 4000000 in
theorem impl_OrderSubgroup_ok {p : Pr} {k : Int} {w : World} {vp : Value} {lo hi : Nat} [hp : Pres lo hi w vp p] (hl : p.ord.length ≤ 2000000) :
    Calls Try.prog 39 #[vp, .int .i64 k] w (Ret fun v w' => ∃ (u : Value) (r : List (List Int)) (e : Int), v = .tuple #[u, .int .i64 e] ∧ Ans (IsGrp p) (PsV p k (OrdC p k)) [] r e ∧ Ext w w' ∧ ∃ rs, r = rs.map (·.2) ∧ MatO w.heap.size w'.heap.size w' u rs) := by
  obtain ⟨vo, vpw, vc, ps, cs, css, rfl, h1, h2, h3⟩ := hp.ex
  refine enter (args := [.agg #[vo, vpw, vc], .int .i64 k]) (l := [.tmp 4, .tmp 5]) Try.func39 rfl rfl Try.ntmps39 (by simp) ?_
  refine go ?_
  refine st_box3 (by ((try simp only [ev_tmp, ev_const, ev_func, get_put, get_args, get_putL, get_putL_nil, Nat.reduceEqDiff, reduceIte, List.getD_cons_zero, List.getD_cons_succ, List.getD_nil]); first | done | with_reducible rfl)) (by first | exact True.intro | exact ⟨_, rfl, by ((try simp only [ev_tmp, ev_const, ev_func, get_put, get_args, get_putL, get_putL_nil, Nat.reduceEqDiff, reduceIte, List.getD_cons_zero, List.getD_cons_succ, List.getD_nil, Bool.not_true, Bool.not_false]); first | done | with_reducible rfl)⟩) fun w1 b he1 hb1 hs1 hc0 hc1 hc2 => ?_
  have hpp := hp.boxed he1 hc0 hc1 hc2
  refine go ?_
  refine rc (powersCode_ok (p := p) hl) (next := fun v5 w5 h5 => ?_)
  obtain ⟨e5, rfl, hcode, he5⟩ := h5
  have hE5 := he1.trans he5
  refine go ?_
  refine c_if (fun h6 => ?_) (fun h6 => ?_)
  · refine go ?_
    exact ret2 ⟨nilv, [], e5, rfl, PsV.err hcode h6, hE5, [], rfl, MatO.nilR _ _ _⟩
  obtain rfl : e5 = 0 := Decidable.not_not.1 h6
  obtain ⟨hG, hk, hN⟩ := hcode.zero
  haveI : ConAll p := ⟨hG.con⟩
  have hn6 := hG.valid.n6
  obtain ⟨hoe, ho1, ho2⟩ := ordN_rng p
  have hpp5 : PresP 0 w5.heap.size w5 (.pointer (some ⟨b, 0, none⟩)) p := PresP.wide inferInstance
  refine go ?_
  refine rc (newSequence_ok (p := p) hn6) (next := fun v7 w7 h7 => ?_)
  obtain ⟨st, vt, rfl, he7, hd0, hd1, hst, hvt, ho⟩ := h7
  have hz7 := he7.size
  have hq : SeqAt st w5.heap.size w5.heap.size (fun _ => False) w7 (.pointer (some ⟨b, 0, none⟩)) vt (fun _ => none : Tab p) := by
    refine ⟨hd0, hd1, by omega, hvt, List.replicate p.n nilv, ?_, fun d hd _ => ?_⟩
    · rw [tabL_none]
      exact Lst.ofNils ho (Nat.le_refl _) (fun h => h) (fun g h => h.elim)
    · rw [List.getD_eq_getElem?_getD, List.getElem?_replicate]; split <;> rfl
  have hap : Apart 0 w5.heap.size w5.heap.size := ⟨.inr (Nat.le_refl _)⟩
  have hz11 : w5.heap.size + 1 ≤ w7.heap.size := by have := ho.lt; omega
  clear hd0 hd1 ho
  refine go ?_
  refine rc (allElements_ok (p := p)) (next := fun v2 w2 h2 => ?_)
  obtain ⟨he2, rs2, hrs2, hM2⟩ := h2
  have hR2 := hM2.rows
  rw [← hrs2] at hR2
  have hE2 := he7.trans he2
  have hz2 := he2.size
  have hvl : (vecs ((List.range (ordN p)).map (allE p))).length = ordN p := by simp
  have hq2 := hq.ext he2
  clear hq
  refine go ?_
  refine r_for (ordN p) (fun j ρ w' => ∃ (t : Tab p) (S : El p → Prop), Has ρ [(1, .int .i64 k), (2, .pointer (some ⟨b, 0, none⟩)), (7, .pointer (some ⟨st, 0, none⟩)), (16, v2), (17, .int .i64 (ordN p)), (18, .int .i64 j)] ∧ Chg w5.heap.size w2 w' ∧ SeqAt st w5.heap.size w5.heap.size (fun _ => False) w' (.pointer (some ⟨b, 0, none⟩)) vt t ∧ Wk S t (fun _ => False) ∧ ∀ a, S a ↔ a ∈ selL (fun a : El p => Grp.pwz a k = 1) j) ?_ ?_
  · refine ⟨fun _ => none, fun _ => False, ?_, Chg.refl _ _, hq2, Wk.none, fun a => by simp [selL]⟩
    exact hasP
  clear hq2
  rintro j ρ w3 hj ⟨t, S, hH, hch3, hq3, hW3, hS3⟩
  refine rwp_has hH fun ρ0 => ?_
  have hE3 : Ext w5 w3 := hch3.ext hE2 (Nat.le_refl _)
  have hz3 := hch3.size
  have hR3 : Pc.Rows w7.heap.size w2.heap.size w3 v2 _ _ := hR2.same (hch3.same (.inl (by omega)))
  refine go ?_
  refine c_if (fun h4 => ?_) (fun h4 => ?_)
  · have hjn : j < ordN p := by omega
    have hxk : (vecs ((List.range (ordN p)).map (allE p))).getD j [] = (allE p j).v := by
      rw [vecs_getD _ (by simpa using hjn)]; simp
    have hxi : Ints w7.heap.size w2.heap.size w3 (Pc.rowAt v2 (rs2.map fun x : Value × List Int => x.1) j) (allE p j).v := by rw [← hxk]; exact hR3.vals.at_ j
    refine go ?_
    refine rc (orderOfElement_ok (p := p) (x := allE p j) rfl) (next := fun v6 w6 h6 => ?_)
    obtain ⟨K, rfl, hK, he6⟩ := h6
    have hK1 := hK.1
    have hK2 := hK.2.1
    have hmod : 0 ≤ k % (K : Int) ∧ k % (K : Int) < K := ⟨Int.emod_nonneg _ (by omega), Int.emod_lt_of_pos _ (by omega)⟩
    have hpw : k % (K : Int) = 0 ↔ Grp.pwz (allE p j) k = 1 := by
      obtain ⟨m, rfl⟩ : ∃ m : Nat, k = m := ⟨k.toNat, by omega⟩
      rw [Grp.pwz_nat, ← hK.mod_zero m]; omega
    have hq6 := hq3.ext he6
    have hch6 := hch3.grow he6
    have hz6 := he6.size
    have hxi6 : Ints w7.heap.size w2.heap.size w6 (Pc.rowAt v2 (rs2.map fun x : Value × List Int => x.1) j) (allE p j).v := hxi.same (he6.same _ _)
    clear hq3 hch3
    refine go ?_
    refine c_if (fun h8 => ?_) (fun h8 => ?_)
    · refine go ?_
      refine st_slice1 (u := Pc.rowAt v2 (rs2.map fun x : Value × List Int => x.1) j) (by ((try simp only [ev_tmp, ev_const, ev_func, get_put, get_args, get_putL, get_putL_nil, Nat.reduceEqDiff, reduceIte, List.getD_cons_zero, List.getD_cons_succ, List.getD_nil]); first | done | with_reducible rfl)) hxi6.sl.cells rfl (by first | exact True.intro | exact ⟨_, rfl, by ((try simp only [ev_tmp, ev_const, ev_func, get_put, get_args, get_putL, get_putL_nil, Nat.reduceEqDiff, reduceIte, List.getD_cons_zero, List.getD_cons_succ, List.getD_nil, Bool.not_true, Bool.not_false]); first | done | with_reducible rfl)⟩) fun w9 v9 he9 hs9 hsl9 => ?_
      have hq9 := hq6.ext he9
      have hch9 := hch6.grow he9
      have hz9 := he9.size
      have hxi9 : Ints w7.heap.size w2.heap.size w9 (Pc.rowAt v2 (rs2.map fun x : Value × List Int => x.1) j) (allE p j).v := hxi6.same (he9.same _ _)
      have hr9 : RowsAp (fun g => g = w5.heap.size) w9 [Pc.rowAt v2 (rs2.map fun x : Value × List Int => x.1) j] (vecs [allE p j]) := by
        refine ⟨rfl, fun i => ?_⟩
        cases i with
        | zero => exact ⟨w7.heap.size, w2.heap.size, hxi9, by omega, fun g hg => .inl (by omega)⟩
        | succ i => exact IntsAp.nil _ _
      refine go ?_
      refine rc (add_ok (p := p) (S := S) (by omega) hq9 hW3 hr9 (by simp)) (next := fun v10 w10 h10 => ?_)
      obtain ⟨bg10, t10, rfl, hch10, hq10, hW10, _⟩ := h10
      refine go ?_
      refine forQ_normal (by omega) ⟨t10, _, ?_, hch9.trans hch10, hq10, hW10, fun a => ?_⟩
      · exact hasP
      · rw [selL_yes (P := fun a : El p => Grp.pwz a k = 1) (hpw.1 h8), List.mem_append, hS3]
    · refine go ?_
      refine forQ_normal (by omega) ⟨t, S, ?_, hch6, hq6, hW3, fun a => ?_⟩
      · exact hasP
      · rw [selL_no (P := fun a : El p => Grp.pwz a k = 1) (fun h => h8 (hpw.2 h)), hS3]
  · obtain rfl : j = ordN p := by omega
    have hgen := hW3.gen (fun _ h => h)
    have hfull := hW3.full (fun _ h => h)
    have hSP : S = fun a : El p => Grp.pwz a k = 1 := by
      have h := selL_all (fun a : El p => Grp.pwz a k = 1)
      funext a
      exact propext ((hS3 a).trans (by rw [← congrFun h a]))
    refine go ?_
    refine rc (canonicalM_ok (p := p) hfull hq3) (next := fun v9 w9 h9 => ?_)
    obtain ⟨he9, rs9, hrs9, hM9⟩ := h9
    rw [hgen, hSP] at hrs9
    refine go ?_
    exact ret2 ⟨v9, _, 0, rfl, .inl ⟨hG, .inr ⟨hk, .inr ⟨hN, ⟨inferInstance, rfl⟩, rfl⟩⟩⟩, (hE5.trans hE3).trans he9, rs9, hrs9, hM9.lower (hE5.trans hE3).size⟩
end Go.Proofs.Ytcohfmglfmomcaa
