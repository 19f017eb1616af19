/-
  Texts of one proof, put together by program: L04, L05, L06, Open, Hall, W28, I28.
  Conditions: those told at each part.
-/
import Derived.Test.YtgomfjhhfmhlgaaB5
import Derived.Deep.Slices
set_option linter.unusedVariables false
set_option linter.unusedSimpArgs false
set_option linter.unusedSectionVars false
set_option linter.constructorNameAsVariable false
set_option linter.unnecessarySimpa false
set_option linter.deprecated false
/-
  Walks: copies that are the call's own (toInt64SSS, toPresentation), marks of presentations (markInt64SSS, markPresentation).
  Conditions: stated at each theorem.
-/
namespace Go.Proofs.Ytgomfjhhfmhlgaa
open Go Go.Pc
theorem toInt64SSM_ok {w : World} {v : Value} {us : List Value} {xss : List (List Int)} {lo hi : Nat} [hx : Pc.Rows lo hi w v us xss] (hl : xss.length ≤ 2000000) (hr : ∀ i, (xss.getD i []).length ≤ 2000000) :
    Calls Try.prog 37 #[v] w (Ret fun v' w' => Ext w w' ∧ ∃ rs, xss = rs.map (·.2) ∧ MatO w.heap.size w'.heap.size w' v' rs) :=
  Pc.Calls.ret_mono (toInt64SSO_ok hl hr) fun _ _ ⟨h1, rs, h2, h3, h4⟩ => by subst h3; exact ⟨h1, rs, rfl, MatO.ofLst h2 h4 h2.newRows⟩
theorem getD_nils {α : Type} (l : List α) (z : α) (m i : Nat) : (l ++ List.replicate m z).getD i z = l.getD i z := by
  by_cases h : i < l.length
  · simp [List.getElem?_append_left h, h]
  · rw [List.getD_eq_getElem?_getD, List.getElem?_append_right (by omega), List.getElem?_replicate]
    rw [List.getD_eq_getElem?_getD, List.getElem?_eq_none (by omega)]
    split <;> rfl
theorem rowss_of_cub {A : Nat → Prop} {s : Nat} {w : World} {v : Value} {gs : List (Value × List (Value × List Int))} {lo hi : Nat} (hs : Sl lo hi w v (gs.map (·.1))) (hlo : lo ≤ hi) (h : ∀ q, q ∈ gs → Pc.Rows lo hi w q.1 (q.2.map (·.1)) (q.2.map (·.2))) :
    Rowss lo hi w v (gs.map (·.1)) (gs.map fun q => q.2.map (·.1)) (gs.map fun q => q.2.map (·.2)) := by
  refine ⟨hs, by simp, by simp, fun i => ?_⟩
  by_cases hi' : i < gs.length
  · have := h gs[i] (List.getElem_mem hi')
    simpa [hi'] using this
  · have e1 : (gs.map (·.1)).getD i nilv = nilv := by rw [List.getD_eq_getElem?_getD, List.getElem?_eq_none (by simp; omega)]; rfl
    have e2 : (gs.map fun q => q.2.map (·.1)).getD i [] = [] := by rw [List.getD_eq_getElem?_getD, List.getElem?_eq_none (by simp; omega)]; rfl
    have e3 : (gs.map fun q => q.2.map (·.2)).getD i [] = [] := by rw [List.getD_eq_getElem?_getD, List.getElem?_eq_none (by simp; omega)]; rfl
    rw [e1, e2, e3]
    exact ⟨⟨⟨none, 0, rfl, Nat.le_refl _, by omega, fun k u hu => by simp at hu⟩⟩, rfl, fun i => ⟨⟨none, 0, by simp, by simp, by omega, fun k u hu => by simp at hu⟩⟩⟩
set_option maxHeartbeats 2000000 in
theorem toInt64SSSO_ok {w : World} {v : Value} {us : List Value} {uss : List (List Value)} {xsss : List (List (List Int))} {lo hi : Nat} [hx : Rowss lo hi w v us uss xsss] (hl : xsss.length ≤ 2000000) (hr : ∀ i, (xsss.getD i []).length ≤ 2000000 ∧ ∀ j, ((xsss.getD i []).getD j []).length ≤ 2000000) :
    Calls Try.prog 54 #[v] w (Ret fun v' w' => Ext w w' ∧ ∃ gs, xsss = gs.map (fun q => q.2.map (·.2)) ∧ RowsO w.heap.size w' (flat gs) ∧ CubO (fun b => BlkOf (flat gs) b ∨ b < w.heap.size) w' v' gs ∧ Rowss w.heap.size w'.heap.size w' v' (gs.map (·.1)) (gs.map fun q => q.2.map (·.1)) xsss) := by
  refine enter (args := [v]) (l := [.tmp 2]) Try.func54 rfl rfl Try.ntmps54 (by simp) ?_
  refine go ?_
  refine st_make_nil (by ((try simp only [ev_tmp, ev_const, ev_func, get_put, get_args, get_putL, get_putL_nil, Nat.reduceEqDiff, reduceIte, List.getD_cons_zero, List.getD_cons_succ, List.getD_nil]); first | done | with_reducible rfl)) (by ((try simp only [ev_tmp, ev_const, ev_func, get_put, get_args, get_putL, get_putL_nil, Nat.reduceEqDiff, reduceIte, List.getD_cons_zero, List.getD_cons_succ, List.getD_nil]); first | done | with_reducible rfl)) (by omega) (by omega) (by first | exact True.intro | exact ⟨_, rfl, by ((try simp only [ev_tmp, ev_const, ev_func, get_put, get_args, get_putL, get_putL_nil, Nat.reduceEqDiff, reduceIte, List.getD_cons_zero, List.getD_cons_succ, List.getD_nil, Bool.not_true, Bool.not_false]); first | done | with_reducible rfl)⟩) fun w1 v1 he1 hs1 ho1 => ?_
  refine go ?_
  refine r_for xsss.length (fun k ρ w' => ∃ gs : List (Value × List (Value × List Int)), Has ρ [(0, v), (3, v1), (4, .int .i64 k)] ∧ Ext w w' ∧ w.heap.size + 1 ≤ w'.heap.size ∧ Own 23 w.heap.size w' v1 (gs.map (·.1) ++ List.replicate (xsss.length - k) nilv) ∧ gs.length = k ∧ gs.map (fun q => q.2.map (·.2)) = xsss.take k ∧
    RowsO (w.heap.size + 1) w' (flat gs) ∧ (∀ q, q ∈ gs → SpA (fun b => BlkOf (flat gs) b ∨ b < w.heap.size + 1) w' q.1 (q.2.map (·.1))) ∧ ∀ q, q ∈ gs → Pc.Rows (w.heap.size + 1) w'.heap.size w' q.1 (q.2.map (·.1)) (q.2.map (·.2))) ?_ ?_
  · refine ⟨[], ?_, he1, by omega, by simpa using ho1, rfl, by simp, RowsO.nil _ _, fun q hq => (by cases hq), fun q hq => (by cases hq)⟩
    exact hasP
  clear ho1
  rintro k ρ w2 hk ⟨gs, hH, he2, hz2, ho2, hgl, hI, hO2, hS2, hR2⟩
  refine rwp_has hH fun ρ0 => ?_
  have hsl := ho2.toSl
  have hul : (gs.map (·.1) ++ List.replicate (xsss.length - k) nilv).length = xsss.length := by simp; omega
  refine go ?_
  refine c_if (fun h4 => ?_) (fun h4 => ?_)
  · have hkn : k < xsss.length := by omega
    refine go ?_
    refine rc (toInt64SSM_ok (xss := xsss.getD k []) (hr k).1 (hr k).2) (next := fun v3 w3 h3 => ?_)
    obtain ⟨he3, rs, hrs, hM3⟩ := h3
    have ho3 : Own 23 w.heap.size w3 v1 _ := Own.ext (h := ho2)
    have hsl3 := ho3.toSl
    have hlen3 := hsl3.toLen
    have hz3 := he3.size
    have hol := ho2.lt
    refine go ?_
    refine st_store_val (h := ho3) (by ((try simp only [ev_tmp, ev_const, ev_func, get_put, get_args, get_putL, get_putL_nil, Nat.reduceEqDiff, reduceIte, List.getD_cons_zero, List.getD_cons_succ, List.getD_nil]); first | done | with_reducible rfl)) (by ((try simp only [ev_tmp, ev_const, ev_func, get_put, get_args, get_putL, get_putL_nil, Nat.reduceEqDiff, reduceIte, List.getD_cons_zero, List.getD_cons_succ, List.getD_nil]); first | done | with_reducible rfl)) ?_ ?_ (by first | exact True.intro | exact ⟨_, rfl, by ((try simp only [ev_tmp, ev_const, ev_func, get_put, get_args, get_putL, get_putL_nil, Nat.reduceEqDiff, reduceIte, List.getD_cons_zero, List.getD_cons_succ, List.getD_nil, Bool.not_true, Bool.not_false]); first | done | with_reducible rfl)⟩) fun w4 hc4 hs4 ho4 => ?_
    · exact hM3.rows.sl.one
    · omega
    refine go ?_
    have e0 : xsss.length - k = (xsss.length - (k + 1)) + 1 := by omega
    have e1 := set_nils (gs.map (·.1)) nilv v3 (xsss.length - (k + 1))
    rw [List.length_map, hgl, ← e0] at e1
    rw [e1] at ho4
    have hW4 : Wrt (fun b => b = w.heap.size) w3 w4 := .one rfl hc4
    have hM4 := hM3.wr hW4 (fun b hb => .inl (by omega))
    have hf : flat (gs ++ [(v3, rs)]) = flat gs ++ rs := by rw [flat_append, flat_one]
    have hO3 := hO2.append he3 (by omega) hM3.own
    have hO4 := hO3.wr hW4 (fun b hb e => by have := (hO3.blk hb).1; omega)
    refine forQ_normal (by omega) ⟨gs ++ [(v3, rs)], ?_, hc4.ext (he2.trans he3) (Nat.le_refl _), by omega, by simpa using ho4, by simp [hgl], ?_, ?_, fun q hq => ?_, fun q hq => ?_⟩
    · exact hasP
    · rw [List.take_succ_eq_append_getElem hkn, List.map_append, hI]
      simp only [List.map_cons, List.map_nil, ← hrs]
      simp [hkn]
    · rw [hf]; exact hO4
    · rw [hf]
      rcases List.mem_append.1 hq with hq | hq
      · have h5 := (hS2 q hq).grow he3 (A' := fun b => BlkOf (flat gs ++ rs) b ∨ b < w.heap.size + 1) (fun b hb => by
          rcases hb with hb | hb
          · rcases blkOf_append'.1 hb with hb | hb
            · exact .inl (.inl hb)
            · exact .inr (hM3.own.blk hb).1
          · exact .inl (.inr hb))
        exact h5.wr hW4 (fun b hb => .inr (by omega))
      · obtain rfl := List.mem_singleton.1 hq
        refine SpA.weak hM4.sp fun b hb => ?_
        rcases hb with hb | hb
        · rcases blkOf_append'.1 hb with hb | hb
          · exact .inr (hO2.blk hb).2
          · exact .inl hb
        · exact .inr (by omega)
    · rcases List.mem_append.1 hq with hq | hq
      · exact (((hR2 q hq).same (he3.same _ _)).same (hc4.same (.inl (by omega)))).mono (Nat.le_refl _) (by omega)
      · obtain rfl := List.mem_singleton.1 hq
        exact hM4.rows.mono (by omega) (by omega)
  · refine go ?_
    obtain rfl : k = xsss.length := by omega
    rw [List.take_length] at hI
    rw [Nat.sub_self, List.replicate_zero, List.append_nil] at ho2
    have hol := ho2.lt
    refine ret1 ⟨he2, gs, hI.symm, hO2.mono (by omega), ⟨⟨_, _, ho2.toSl, fun b hb => ?_⟩, fun q hq => (hS2 q hq).weak fun b hb => hb.imp id (by omega)⟩, ?_⟩
    · rcases hb with hb | hb
      · have := (hO2.blk hb).1; omega
      · omega
    · rw [← hI]
      exact rowss_of_cub (A := fun _ => True) (s := 0) (ho2.toSl.mono (Nat.le_refl _) (by omega)) (by omega) fun q hq => (hR2 q hq).mono (by omega) (Nat.le_refl _)
theorem flat_blk {gs : List (Value × List (Value × List Int))} {q : Value × List (Value × List Int)} (hq : q ∈ gs) {b : Nat} (h : BlkOf q.2 b) : BlkOf (flat gs) b := by
  obtain ⟨r, hr, h1, h2⟩ := h
  refine ⟨r, ?_, h1, h2⟩
  unfold flat
  rw [List.mem_flatten]
  exact ⟨q.2, List.mem_map.2 ⟨q, hq, rfl⟩, hr⟩
theorem flat_tot (gs : List (Value × List (Value × List Int))) : (flat gs).map (·.2) = (gs.map fun q => q.2.map (·.2)).flatten := by
  unfold flat
  rw [List.map_flatten, List.map_map]; rfl
set_option maxHeartbeats 2000000 in
theorem markInt64SSS_ok {A : Nat → Prop} {s : Nat} {w : World} {v : Value} {k : Int} {gs : List (Value × List (Value × List Int))} {pre post : List (Value × List Int)} (hO : RowsO s w (pre ++ flat gs ++ post)) (hS : CubO A w v gs) (hA : ∀ b, BlkOf (flat gs) b → A b) (hk : 0 ≤ k) (hb : k + tot ((flat gs).map (·.2)) ≤ 9000000000000000000) :
    Calls Try.prog 21 #[v, .int .i64 k] w (Ret fun v' w' => v' = .int .i64 (k + tot ((flat gs).map (·.2))) ∧ RowsO s w' (pre ++ mkR k (flat gs) ++ post) ∧ Wrt (BlkOf (flat gs)) w w') := by
  have hm := sl_len hS.sp0.sl
  simp only [List.length_map] at hm
  have hsl := hS.sp0.sl
  have hlen := hsl.toLen
  refine enter (args := [v, .int .i64 k]) (l := [.tmp 4]) Try.func21 rfl rfl Try.ntmps21 (by simp) ?_
  refine go ?_
  refine r_for gs.length (fun i ρ w' => Has ρ [(0, v), (1, .int .i64 (k + tot ((flat (gs.take i)).map (·.2)))), (5, .int .i64 i)] ∧ RowsO s w' (pre ++ (mkR k (flat (gs.take i)) ++ flat (gs.drop i)) ++ post) ∧ Wrt (BlkOf (flat gs)) w w') ?_ ?_
  · refine ⟨?_, by simpa [mkR, flat] using hO, .refl _⟩
    have e : ((flat (gs.take 0)).map (·.2)) = [] := rfl
    rw [e]
    simp only [tot]
    exact hasP
  clear hO hsl hlen
  rintro i ρ w2 hi ⟨hH, hO2, hW2⟩
  refine rwp_has hH fun ρ0 => ?_
  have hS2 := hS.wr hW2 hA
  have hsl2 := hS2.sp0.sl
  have hlen2 := hsl2.toLen
  have hll : (gs.map (·.1)).length = gs.length := by simp
  have ht0 : ∀ j, tot ((flat (gs.take j)).map (·.2)) ≤ tot ((flat gs).map (·.2)) := fun j => by
    have e : flat gs = flat (gs.take j) ++ flat (gs.drop j) := by rw [← flat_append, List.take_append_drop]
    rw [e, List.map_append, tot_append]; omega
  have ht := ht0 i
  refine go ?_
  refine c_if (fun h4 => ?_) (fun h4 => ?_)
  · have hin : i < gs.length := by simp at h4; omega
    have e1 : Pc.rowAt v (gs.map (·.1)) i = gs[i].1 := by simp [Pc.rowAt, hin]
    have e2 : flat (gs.drop i) = gs[i].2 ++ flat (gs.drop (i + 1)) := by
      have e : gs.drop i = [gs[i]] ++ gs.drop (i + 1) := (List.getElem_cons_drop (h := hin)).symm
      rw [e, flat_append, flat_one]
    have e3 : flat (gs.take (i + 1)) = flat (gs.take i) ++ gs[i].2 := by rw [List.take_succ_eq_append_getElem hin, flat_append, flat_one]
    have hts : tot ((flat (gs.take (i + 1))).map (·.2)) = tot ((flat (gs.take i)).map (·.2)) + tot ((gs[i]).2.map (·.2)) := by rw [e3, List.map_append, tot_append]
    have ht2 := ht0 (i + 1)
    have hmem := List.getElem_mem hin
    have hO3 : RowsO s w2 ((pre ++ mkR k (flat (gs.take i))) ++ gs[i].2 ++ (flat (gs.drop (i + 1)) ++ post)) := by
      rw [e2] at hO2
      simpa only [List.append_assoc] using hO2
    refine go ?_
    refine ra (v := Pc.rowAt v (gs.map fun x : Value × List (Value × List Int) => x.1) i) (h := rd_load_sl (us := gs.map fun x : Value × List (Value × List Int) => x.1) (by ((try simp only [ev_tmp, ev_const, ev_func, get_put, get_args, get_putL, get_putL_nil, Nat.reduceEqDiff, reduceIte, List.getD_cons_zero, List.getD_cons_succ, List.getD_nil]); first | done | with_reducible rfl)) (by omega)) (next := ?_)
    rw [e1]
    refine go ?_
    refine rc (markInt64SS_ok hO3 (hS2.sp _ hmem) (fun b hb => hA b (flat_blk hmem hb)) ?_ ?_) (next := fun v3 w3 h3 => ?_)
    · omega
    · omega
    obtain ⟨rfl, hO4, hW3⟩ := h3
    refine go ?_
    refine forQ_normal (by omega) ⟨?_, ?_, hW2.trans (hW3.mono fun b hb => flat_blk hmem hb)⟩
    · exact hasP
    · rw [e3, mkR_append]
      simpa only [List.append_assoc] using hO4
  · refine go ?_
    obtain rfl : i = gs.length := by simp at h4; omega
    rw [List.take_length] at hO2 ⊢
    exact ret1 ⟨rfl, by simpa [flat] using hO2, hW2⟩
set_option maxHeartbeats 1000000 in
/-- Marks on a presentation that is the call's own. -/
theorem markPresentation_ok {s t : Nat} {w : World} {v : Value} {p : Pr} {k : Int} (hP : PresO s t w v p) (hk : 0 ≤ k) (hb : k + totP p ≤ 9000000000000000000) :
    Calls Try.prog 20 #[v, .int .i64 k] w (Ret fun v' w' => v' = .int .i64 (k + totP p) ∧ Wrt (fun b => s ≤ b ∧ b < t) w w') := by
  obtain ⟨vo, vp, vc, rp, gs, rfl, hO, hlt, hsp, hcub, hpow, hcnj, _, _, _⟩ := hP.ex
  have hA : ∀ b, BlkOf ((vo, p.ord) :: (rp ++ flat gs)) b → s ≤ b ∧ b < t := fun b hb => ⟨(hO.blk hb).1, hlt b hb⟩
  have e1 : totP p = p.ord.length + (tot (rp.map (·.2)) + tot ((flat gs).map (·.2))) := by rw [flat_tot, ← hpow, ← hcnj]; rfl
  refine enter (args := [.agg #[vo, vp, vc], .int .i64 k]) (l := [.tmp 4]) Try.func20 rfl rfl Try.ntmps20 (by simp) ?_
  refine go ?_
  refine st_box3 (by ((try simp only [ev_tmp, ev_const, ev_func, get_put, get_args, get_putL, get_putL_nil, Nat.reduceEqDiff, reduceIte, List.getD_cons_zero, List.getD_cons_succ, List.getD_nil]); first | done | with_reducible rfl)) (by first | exact True.intro | exact ⟨_, rfl, by ((try simp only [ev_tmp, ev_const, ev_func, get_put, get_args, get_putL, get_putL_nil, Nat.reduceEqDiff, reduceIte, List.getD_cons_zero, List.getD_cons_succ, List.getD_nil, Bool.not_true, Bool.not_false]); first | done | with_reducible rfl)⟩) fun w1 b he1 hb1 hs1 hc0 hc1 hc2 => ?_
  have hO1 := hO.ext he1
  have hB1 : ∀ g, BlkOf ((vo, p.ord) :: (rp ++ flat gs)) g → g ≠ b := fun g hg e => by have := (hO.blk hg).2; omega
  have hcell : ∀ {w2 : World} {j : Nat} {u : Value}, Cell w1 b j u → Wrt (BlkOf ((vo, p.ord) :: (rp ++ flat gs))) w1 w2 → Cell w2 b j u := fun h k => h.same (k.same fun g hg => by have := hB1 g hg; omega) k.size
  have hfr : Fr s w1 vo p.ord := hO1.fr _ List.mem_cons_self
  refine go ?_
  refine rc (markInt64S_ok hfr hk ?_) (next := fun v2 w2 h2 => ?_)
  · omega
  obtain ⟨rfl, hf2, hW2⟩ := h2
  have hW2' : Wrt (BlkOf ((vo, p.ord) :: (rp ++ flat gs))) w1 w2 := hW2.mono fun g ⟨hn, e⟩ => ⟨_, List.mem_cons_self, hn, e⟩
  have hO2 : RowsO s w2 ([] ++ (vo, marks k p.ord.length) :: (rp ++ flat gs)) := RowsO.upd (pre := []) (by simpa using hO1) hW2 hf2 marks_ne.1
  have hc0' := hcell hc0 hW2'
  have hc1' := hcell hc1 hW2'
  have hc2' := hcell hc2 hW2'
  have hO2' : RowsO s w2 (([(vo, marks k p.ord.length)]) ++ rp ++ flat gs) := by simpa using hO2
  have hsp2 := (SpA.grow hsp he1 (fun g hg => .inl hg)).wr hW2' (fun g hg => hg)
  refine go ?_
  refine rc (markInt64SS_ok hO2' hsp2 (fun g hg => ?_) ?_ ?_) (next := fun v3 w3 h3 => ?_)
  · obtain ⟨r, h1, h2⟩ := hg
    exact ⟨r, List.mem_cons_of_mem _ (List.mem_append_left _ h1), h2⟩
  · omega
  · omega
  obtain ⟨rfl, hO3, hW3⟩ := h3
  have hW3' : Wrt (BlkOf ((vo, p.ord) :: (rp ++ flat gs))) w2 w3 := hW3.mono fun g ⟨r, h1, h2⟩ => ⟨r, List.mem_cons_of_mem _ (List.mem_append_left _ h1), h2⟩
  have hc2'' := hcell hc2 (hW2'.trans hW3')
  have hO3' : RowsO s w3 (([(vo, marks k p.ord.length)] ++ mkR (k + p.ord.length) rp) ++ flat gs ++ []) := by simpa using hO3
  have hcub3 : CubO (BlkOf ((vo, p.ord) :: (rp ++ flat gs))) w3 vc gs := CubO.wr ⟨(SpA.grow hcub.sp0 he1 (fun g hg => .inl hg)).wr hW2' (fun g hg => hg), fun q hq => (SpA.grow (hcub.sp q hq) he1 (fun g hg => .inl hg)).wr hW2' (fun g hg => hg)⟩ hW3' (fun g hg => hg)
  clear hc0' hc1' hc2'
  refine go ?_
  refine rc (markInt64SSS_ok hO3' hcub3 (fun g hg => ?_) ?_ ?_) (next := fun v4 w4 h4 => ?_)
  · obtain ⟨r, h1, h2⟩ := hg
    exact ⟨r, List.mem_cons_of_mem _ (List.mem_append_right _ h1), h2⟩
  · omega
  · omega
  obtain ⟨rfl, hO4, hW4⟩ := h4
  refine go ?_
  refine ret1 ⟨?_, ?_⟩
  · rw [e1]
    exact int_congr (by omega)
  · refine (Wrt.ofExt he1).trans ((hW2'.mono hA).trans ((hW3'.mono hA).trans (hW4.mono fun g hg => hA g ?_)))
    obtain ⟨r, h1, h2⟩ := hg
    exact ⟨r, List.mem_cons_of_mem _ (List.mem_append_right _ h1), h2⟩
end Go.Proofs.Ytgomfjhhfmhlgaa

/-
  Walk: a copy of a presentation that is the call's own (toPresentation).
  Conditions: stated at the theorem.
-/
namespace Go.Proofs.Ytgomfjhhfmhlgaa
open Go Go.Pc
theorem rd_neqb {ρ : Env} {w : World} {ty tt : TypeId} {x y : Operand} {a b : Bool} (h : ev ρ x = .bool a) (k : ev ρ y = .bool b) : Rd Try.prog (.binOp .neq 4 x y tt) ty ρ w (.bool (!(a == b))) := by
  constructor; intro _ _ _ _
  simp [execOp, h, k, eqGuard, binOp, run_equal_bool w 4 a b Try.underlying4]
theorem rd_neqb_same {ρ : Env} {w : World} {ty tt : TypeId} {x y : Operand} {a : Bool} (h : ev ρ x = .bool a) (k : ev ρ y = .bool a) : Rd Try.prog (.binOp .neq 4 x y tt) ty ρ w (.bool false) := by
  have := rd_neqb (w := w) (ty := ty) (tt := tt) h k
  simpa using this
set_option maxHeartbeats 2000000 in
theorem toPresentationO_ok {w : World} {v : Value} {p : Pr} {lo hi : Nat} [hp : Pres lo hi w v p] (hs : SizeP p 2000000) :
    Calls Try.prog 14 #[v] w (Ret fun v w' => Ext w w' ∧ PresO w.heap.size w'.heap.size w' v p) := by
  have hs1 := hs.ord
  have hs2 := hs.pow
  have hs3 := hs.cnj
  obtain ⟨vo, vpw, vc, ps, cs, css, rfl, h1, h2, h3⟩ := hp.ex
  refine enter (args := [.agg #[vo, vpw, vc]]) (l := [.cell 2 30]) Try.func14 rfl rfl Try.ntmps14 (by simp) ?_
  refine go ?_
  refine st_box3 (by ((try simp only [ev_tmp, ev_const, ev_func, get_put, get_args, get_putL, get_putL_nil, Nat.reduceEqDiff, reduceIte, List.getD_cons_zero, List.getD_cons_succ, List.getD_nil]); first | done | with_reducible rfl)) (by first | exact True.intro | exact ⟨_, rfl, by ((try simp only [ev_tmp, ev_const, ev_func, get_put, get_args, get_putL, get_putL_nil, Nat.reduceEqDiff, reduceIte, List.getD_cons_zero, List.getD_cons_succ, List.getD_nil, Bool.not_true, Bool.not_false]); first | done | with_reducible rfl)⟩) fun w1 b he1 hb1 hsz1 hc0 hc1 hc2 => ?_
  refine go ?_
  refine st_alloc (by first | exact True.intro | exact ⟨_, rfl, by ((try simp only [ev_tmp, ev_const, ev_func, get_put, get_args, get_putL, get_putL_nil, Nat.reduceEqDiff, reduceIte, List.getD_cons_zero, List.getD_cons_succ, List.getD_nil, Bool.not_true, Bool.not_false]); first | done | with_reducible rfl)⟩) fun w2 br he2 hbr hsz2 hbk2 => ?_
  refine go ?_
  refine st_alloc (by first | exact True.intro | exact ⟨_, rfl, by ((try simp only [ev_tmp, ev_const, ev_func, get_put, get_args, get_putL, get_putL_nil, Nat.reduceEqDiff, reduceIte, List.getD_cons_zero, List.getD_cons_succ, List.getD_nil, Bool.not_true, Bool.not_false]); first | done | with_reducible rfl)⟩) fun w3 bo he3 hbo hsz3 hbk3 => ?_
  have hE3 := (he1.trans he2).trans he3
  refine go ?_
  refine rc (toInt64S_ok (xs := p.ord) (by omega)) (next := fun v4 w4 h4 => ?_)
  obtain ⟨he4, hf4⟩ := h4
  have hb4 : Blk w4 bo _ := Blk.ext (h := hbk3)
  have hz4 := he4.size
  refine go ?_
  refine st_store_fld (h := hb4) (by ((try simp only [ev_tmp, ev_const, ev_func, get_put, get_args, get_putL, get_putL_nil, Nat.reduceEqDiff, reduceIte, List.getD_cons_zero, List.getD_cons_succ, List.getD_nil]); first | done | with_reducible rfl)) (by ((try simp only [ev_tmp, ev_const, ev_func, get_put, get_args, get_putL, get_putL_nil, Nat.reduceEqDiff, reduceIte, List.getD_cons_zero, List.getD_cons_succ, List.getD_nil]); first | done | with_reducible rfl)) ?_ ?_ (by first | exact True.intro | exact ⟨_, rfl, by ((try simp only [ev_tmp, ev_const, ev_func, get_put, get_args, get_putL, get_putL_nil, Nat.reduceEqDiff, reduceIte, List.getD_cons_zero, List.getD_cons_succ, List.getD_nil, Bool.not_true, Bool.not_false]); first | done | with_reducible rfl)⟩) fun w5 hc5 hs5 hb5 => ?_
  · exact hf4.ints.sl.one
  · simp
  have hE15 : Ext w1 w5 := hc5.ext ((he2.trans he3).trans he4) (by have := he2.size; omega)
  have hz15 := hE15.size
  have hz2 := he2.size
  have hi5 : Ints w3.heap.size w4.heap.size w5 v4 p.ord := hf4.ints.same (hc5.same (.inl (by omega)))
  have hr5 : Blk w5 br _ := (Blk.ext (x := he3.trans he4) (h := hbk2)).chg' hc5 (by omega)
  have hO4 : RowsO w3.heap.size w4 [(v4, p.ord)] := (RowsO.nil w3.heap.size w3).push he4 (Nat.le_refl _) hf4
  have hO5 : RowsO w3.heap.size w5 [(v4, p.ord)] := hO4.wr (.one (B := fun g => g = bo) rfl hc5) (fun g hg e => by have := (hO4.blk hg).1; omega)
  refine go ?_
  refine rc (toInt64SSM_ok (xss := p.pow) (by omega) (fun i => by have := hs.powi i; omega)) (next := fun v6 w6 h6 => ?_)
  obtain ⟨he6, rp, hrp, hM6⟩ := h6
  have hN6 := hM6.rows
  have hb6 : Blk w6 bo _ := Blk.ext (h := hb5)
  have hz6 := he6.size
  refine go ?_
  refine st_store_fld (h := hb6) (by ((try simp only [ev_tmp, ev_const, ev_func, get_put, get_args, get_putL, get_putL_nil, Nat.reduceEqDiff, reduceIte, List.getD_cons_zero, List.getD_cons_succ, List.getD_nil]); first | done | with_reducible rfl)) (by ((try simp only [ev_tmp, ev_const, ev_func, get_put, get_args, get_putL, get_putL_nil, Nat.reduceEqDiff, reduceIte, List.getD_cons_zero, List.getD_cons_succ, List.getD_nil]); first | done | with_reducible rfl)) ?_ ?_ (by first | exact True.intro | exact ⟨_, rfl, by ((try simp only [ev_tmp, ev_const, ev_func, get_put, get_args, get_putL, get_putL_nil, Nat.reduceEqDiff, reduceIte, List.getD_cons_zero, List.getD_cons_succ, List.getD_nil, Bool.not_true, Bool.not_false]); first | done | with_reducible rfl)⟩) fun w7 hc7 hs7 hb7 => ?_
  · exact hN6.sl.one
  · simp
  have hE17 : Ext w1 w7 := hc7.ext (hE15.trans he6) (by omega)
  have hi7 : Ints w3.heap.size w4.heap.size w7 v4 p.ord := (hi5.same (he6.same _ _)).same (hc7.same (.inl (by omega)))
  have hM7 := hM6.wr (.one (B := fun g => g = bo) rfl hc7) (fun g hg => .inl (by omega))
  have hp7 := hM7.rows
  have hr7 : Blk w7 br _ := (Blk.ext (x := he6) (h := hr5)).chg' hc7 (by omega)
  have hO6 := hO5.append he6 (by omega) hM6.own
  have hO7 := hO6.wr (.one (B := fun g => g = bo) rfl hc7) (fun g hg e => by have := (hO6.blk hg).1; omega)
  refine go ?_
  refine rc (toInt64SSSO_ok (xsss := p.cnj) (by omega) (fun i => ⟨by have := hs.cnji i; omega, fun j => by have := hs.cnjij i j; omega⟩)) (next := fun v8 w8 h8 => ?_)
  obtain ⟨he8, gs, hgs, hOg, hCu, hR8⟩ := h8
  have hb8 : Blk w8 bo _ := Blk.ext (h := hb7)
  have hz8 := he8.size
  have hO8 := hO7.append he8 (by omega) hOg
  have hAll : ∀ g, BlkOf ([(v4, p.ord)] ++ rp ++ flat gs) g → (w3.heap.size ≤ g ∧ g < w5.heap.size) ∨ BlkOf rp g ∨ w7.heap.size ≤ g := fun g hg => by
    rcases blkOf_append'.1 hg with hg | hg
    · rcases blkOf_append'.1 hg with hg | hg
      · exact .inl (hO5.blk hg)
      · exact .inr (.inl hg)
    · exact .inr (.inr (hOg.blk hg).1)
  have hsp8 : SpA (fun g => BlkOf ([(v4, p.ord)] ++ rp ++ flat gs) g ∨ g < w3.heap.size) w8 v6 (rp.map (·.1)) := hM7.sp.grow he8 fun g hg => by
    rcases hg with hg | hg
    · rcases hAll g hg with h | h | h
      · exact .inl (.inr h.2)
      · exact .inl (.inl h)
      · exact .inr h
    · exact .inl (.inr (by omega))
  have hcu8 : CubO (fun g => BlkOf ([(v4, p.ord)] ++ rp ++ flat gs) g ∨ g < w3.heap.size) w8 v8 gs := by
    have hA : ∀ g, (BlkOf ([(v4, p.ord)] ++ rp ++ flat gs) g ∨ g < w3.heap.size) → BlkOf (flat gs) g ∨ g < w7.heap.size := fun g hg => by
      rcases hg with hg | hg
      · rcases blkOf_append'.1 hg with hg | hg
        · have := (hO7.blk hg).2; exact .inr this
        · exact .inl hg
      · exact .inr (by omega)
    exact ⟨hCu.sp0.weak hA, fun q hq => (hCu.sp q hq).weak hA⟩
  refine go ?_
  refine st_store_fld (h := hb8) (by ((try simp only [ev_tmp, ev_const, ev_func, get_put, get_args, get_putL, get_putL_nil, Nat.reduceEqDiff, reduceIte, List.getD_cons_zero, List.getD_cons_succ, List.getD_nil]); first | done | with_reducible rfl)) (by ((try simp only [ev_tmp, ev_const, ev_func, get_put, get_args, get_putL, get_putL_nil, Nat.reduceEqDiff, reduceIte, List.getD_cons_zero, List.getD_cons_succ, List.getD_nil]); first | done | with_reducible rfl)) ?_ ?_ (by first | exact True.intro | exact ⟨_, rfl, by ((try simp only [ev_tmp, ev_const, ev_func, get_put, get_args, get_putL, get_putL_nil, Nat.reduceEqDiff, reduceIte, List.getD_cons_zero, List.getD_cons_succ, List.getD_nil, Bool.not_true, Bool.not_false]); first | done | with_reducible rfl)⟩) fun w9 hc9 hs9 hb9 => ?_
  · exact hR8.sl.one
  · simp
  have hE19 : Ext w1 w9 := hc9.ext (hE17.trans he8) (by omega)
  have hi9 : Ints w3.heap.size w4.heap.size w9 v4 p.ord := (hi7.same (he8.same _ _)).same (hc9.same (.inl (by omega)))
  have hp9 := (hp7.same (he8.same _ _)).same (hc9.same (.inl (by omega)))
  have hq9 := hR8.same (hc9.same (.inl (by omega)))
  have hr9 : Blk w9 br _ := (Blk.ext (x := he8) (h := hr7)).chg' hc9 (by omega)
  refine go ?_
  have hb9' : Blk w9 bo [v4, v6, v8] := hb9
  refine ra (v := .agg #[v4, v6, v8]) (h := rd_load_blk (hb := hb9') (by ((try simp only [ev_tmp, ev_const, ev_func, get_put, get_args, get_putL, get_putL_nil, Nat.reduceEqDiff, reduceIte, List.getD_cons_zero, List.getD_cons_succ, List.getD_nil]); first | done | with_reducible rfl)) rfl) (next := ?_)
  refine st_store_agg (vs := [v4, v6, v8]) (cs := _) (hb := hr9) (by ((try simp only [ev_tmp, ev_const, ev_func, get_put, get_args, get_putL, get_putL_nil, Nat.reduceEqDiff, reduceIte, List.getD_cons_zero, List.getD_cons_succ, List.getD_nil]); first | done | with_reducible rfl)) (by ((try simp only [ev_tmp, ev_const, ev_func, get_put, get_args, get_putL, get_putL_nil, Nat.reduceEqDiff, reduceIte, List.getD_cons_zero, List.getD_cons_succ, List.getD_nil]); first | done | with_reducible rfl)) rfl ?_ ?_ (by first | exact True.intro | exact ⟨_, rfl, by ((try simp only [ev_tmp, ev_const, ev_func, get_put, get_args, get_putL, get_putL_nil, Nat.reduceEqDiff, reduceIte, List.getD_cons_zero, List.getD_cons_succ, List.getD_nil, Bool.not_true, Bool.not_false]); first | done | with_reducible rfl)⟩) fun w10 hc10 hs10 hb10 => ?_
  · rfl
  · have e1 := hi9.sl.one
    have e2 := hp9.sl.one
    have e3 := hq9.sl.one
    simp [e1, e2, e3]
  have hW10 : Wrt (fun g => g = bo ∨ g = br) w8 w10 := (Wrt.one (.inl rfl) hc9).trans (.one (.inr rfl) hc10)
  have hO10 := hO8.wr hW10 (fun g hg e => by have := (hO8.blk hg).1; omega)
  have hlow : ∀ g, (g = bo ∨ g = br) → BlkOf ([(v4, p.ord)] ++ rp ++ flat gs) g ∨ g < w3.heap.size := fun g hg => .inr (by omega)
  refine go ?_
  refine retc (b := br) (hb := hb10) ⟨hc10.ext (he1.trans hE19) (by omega), ?_⟩ rfl
  have hi10 := (hi9.same (hc10.same (.inl (by omega)))).mono (lo' := w.heap.size) (hi' := w10.heap.size) (by omega) (by omega)
  have hp10 := (hp9.same (hc10.same (.inl (by omega)))).mono (lo' := w.heap.size) (hi' := w10.heap.size) (by omega) (by omega)
  have hq10 := rowss_mono (lo' := w.heap.size) (hi' := w10.heap.size) (hq9.same (hc10.same (.inl (by omega)))) (by omega) (by omega)
  have e : (v4, p.ord) :: (rp ++ flat gs) = [(v4, p.ord)] ++ rp ++ flat gs := by simp
  rw [hgs] at hq10
  refine ⟨v4, v6, v8, rp, gs, rfl, ?_, ?_, ?_, ?_, hrp, hgs, hi10, hp10, hq10⟩ <;> rw [e]
  · exact hO10.mono (by omega)
  · exact fun g hg => (hO10.blk hg).2
  · exact (hsp8.wr hW10 hlow).weak fun g hg => .inl hg
  · exact ⟨(hcu8.sp0.wr hW10 hlow).weak fun g hg => .inl hg, fun q hq => ((hcu8.sp q hq).wr hW10 hlow).weak fun g hg => .inl hg⟩
/-- The number of integers of a presentation of bounded sizes. -/
theorem totP_le {p : Pr} (hs : SizeP p 1048576) : totP p ≤ 1048576 + (1048576 * 1048576 + 1048576 * (1048576 * 1048576)) := by
  have h1 := hs.ord
  have h2 := hs.pow
  have h3 := hs.cnj
  have e2 : tot p.pow ≤ p.pow.length * 1048576 := tot_le _ fun x hx => by
    obtain ⟨i, hi, rfl⟩ := List.getElem_of_mem hx
    have := hs.powi i
    simp only [List.getD_eq_getElem?_getD, List.getElem?_eq_getElem hi, Option.getD_some] at this
    omega
  have e3 : tot p.cnj.flatten ≤ p.cnj.length * (1048576 * 1048576) := tot_flatten _ fun x hx => by
    obtain ⟨i, hi, rfl⟩ := List.getElem_of_mem hx
    have h4 := hs.cnji i
    simp only [List.getD_eq_getElem?_getD, List.getElem?_eq_getElem hi, Option.getD_some] at h4
    refine ⟨by omega, fun y hy => ?_⟩
    obtain ⟨j, hj, rfl⟩ := List.getElem_of_mem hy
    have h5 := hs.cnjij i j
    simp only [List.getD_eq_getElem?_getD, List.getElem?_eq_getElem hi, Option.getD_some, List.getElem?_eq_getElem hj] at h5
    omega
  unfold totP
  omega
theorem SizeP.mono {p : Pr} {k j : Int} (h : SizeP p k) (hkj : k ≤ j) : SizeP p j :=
  ⟨by have := h.ord; omega, by have := h.pow; omega, fun i => by have := h.powi i; omega, by have := h.cnj; omega, fun i => by have := h.cnji i; omega, fun i j => by have := h.cnjij i j; omega⟩
theorem tot_rows_le {xss : List (List Int)} {n : Nat} (hl : xss.length ≤ n) (hr : ∀ i, (xss.getD i []).length ≤ n) : tot xss ≤ n * n :=
  Nat.le_trans (tot_le xss fun x hx => by
    obtain ⟨i, hi, rfl⟩ := List.getElem_of_mem hx
    have := hr i
    simpa [hi] using this) (Nat.mul_le_mul_right _ hl)
end Go.Proofs.Ytgomfjhhfmhlgaa

/-
  Walks: the check of marks on lists of lists of lists (heldInt64SSS); sizes of series.
  Conditions: stated at each theorem.
-/
namespace Go.Proofs.Ytgomfjhhfmhlgaa
open Go Go.Pc
def markC (k : Int) : List (List (List Int)) → List (List (List Int))
  | [] => []
  | x :: l => markL k x :: markC (k + tot x) l
def mkC (k : Int) : List (Value × List (Value × List Int)) → List (Value × List (Value × List Int))
  | [] => []
  | q :: l => (q.1, mkR k q.2) :: mkC (k + tot (q.2.map (·.2))) l
theorem mkC_fst : ∀ (gs : List (Value × List (Value × List Int))) (k : Int), (mkC k gs).map (·.1) = gs.map (·.1)
  | [], _ => rfl
  | q :: l, k => by simp [mkC, mkC_fst l]
theorem mkC_mid : ∀ (gs : List (Value × List (Value × List Int))) (k : Int), ((mkC k gs).map fun q => q.2.map (·.1)) = gs.map fun q => q.2.map (·.1)
  | [], _ => rfl
  | q :: l, k => by
    show (mkR k q.2).map (·.1) :: ((mkC (k + tot (q.2.map (·.2))) l).map fun q => q.2.map (·.1)) = _
    rw [mkR_fst, mkC_mid l]; rfl
theorem mkC_snd : ∀ (gs : List (Value × List (Value × List Int))) (k : Int), ((mkC k gs).map fun q => q.2.map (·.2)) = markC k (gs.map fun q => q.2.map (·.2))
  | [], _ => rfl
  | q :: l, k => by
    show (mkR k q.2).map (·.2) :: ((mkC (k + tot (q.2.map (·.2))) l).map fun q => q.2.map (·.2)) = _
    rw [mkR_snd, mkC_snd l]; rfl
theorem flat_cons (q : Value × List (Value × List Int)) (l : List (Value × List (Value × List Int))) : flat (q :: l) = q.2 ++ flat l := by simp [flat]
theorem flat_mkC : ∀ (gs : List (Value × List (Value × List Int))) (k : Int), flat (mkC k gs) = mkR k (flat gs)
  | [], _ => rfl
  | q :: l, k => by
    rw [flat_cons, mkR_append, ← flat_mkC l]
    show flat ((q.1, mkR k q.2) :: mkC (k + tot (q.2.map (·.2))) l) = _
    rw [flat_cons]
theorem markC_len : ∀ (l : List (List (List Int))) (k : Int), (markC k l).length = l.length
  | [], _ => rfl
  | x :: l, k => by simp [markC, markC_len l]
theorem markC_getD : ∀ (l : List (List (List Int))) (k : Int) (i : Nat), i < l.length → (markC k l).getD i [] = markL (k + tot (l.take i).flatten) (l.getD i [])
  | [], _, _, h => by simp at h
  | x :: l, k, 0, _ => by simp [markC, tot]
  | x :: l, k, i + 1, h => by
    have := markC_getD l (k + tot x) i (by simpa using h)
    simp only [markC, List.getD_cons_succ, this, List.take_succ_cons, List.flatten_cons, tot_append]
    rw [Int.add_assoc]; simp
theorem tot_takeF_le (l : List (List (List Int))) (k : Nat) : tot (l.take k).flatten ≤ tot l.flatten := by
  have e : l.flatten = (l.take k).flatten ++ (l.drop k).flatten := by rw [← List.flatten_append, List.take_append_drop]
  rw [e, tot_append]; omega
theorem tot_takeF_succ (l : List (List (List Int))) {k : Nat} (hk : k < l.length) : tot (l.take (k + 1)).flatten = tot (l.take k).flatten + tot (l.getD k []) := by
  rw [List.take_succ_eq_append_getElem hk, List.flatten_append, tot_append]
  simp [hk]
theorem mkC_mem {gs : List (Value × List (Value × List Int))} {k : Int} {q : Value × List (Value × List Int)} (hq : q ∈ mkC k gs) : ∃ q', q' ∈ gs ∧ q.1 = q'.1 ∧ q.2.map (·.1) = q'.2.map (·.1) := by
  induction gs generalizing k with
  | nil => cases hq
  | cons g l ih =>
    rcases List.mem_cons.1 hq with rfl | hq
    · exact ⟨g, List.mem_cons_self, rfl, mkR_fst _ _⟩
    · obtain ⟨q', h1, h2⟩ := ih hq
      exact ⟨q', List.mem_cons_of_mem _ h1, h2⟩
theorem RowsO.ofFlat {s : Nat} {w : World} {gs : List (Value × List (Value × List Int))} (h : RowsO s w (flat gs)) {q : Value × List (Value × List Int)} (hq : q ∈ gs) : RowsO s w q.2 := by
  have hs : List.Sublist q.2 (flat gs) := List.sublist_flatten_of_mem (List.mem_map.2 ⟨q, hq, rfl⟩)
  exact ⟨fun r hr => h.fr r (hs.subset hr), h.sep.sublist hs⟩
theorem matC_mk {s t : Nat} {w w' : World} {v : Value} {k : Int} {gs : List (Value × List (Value × List Int))} (h : MatC s t w v gs) (hO : RowsO s w' (mkR k (flat gs))) (hW : Wrt (BlkOf (flat gs)) w w') :
    Rowss 0 w'.heap.size w' v (gs.map (·.1)) (gs.map fun q => q.2.map (·.1)) (markC k (gs.map fun q => q.2.map (·.2))) := by
  have hC := h.cub.wr hW (fun b hb => .inl hb)
  rw [← flat_mkC] at hO
  rw [← mkC_fst gs k, ← mkC_mid gs k, ← mkC_snd gs k]
  refine rowss_of_cub (A := fun _ => True) (s := 0) ?_ (Nat.zero_le _) fun q hq => ?_
  · rw [mkC_fst]; exact hC.sp0.sl
  · obtain ⟨q', h1, h2, h3⟩ := mkC_mem hq
    refine (RowsO.ofFlat hO hq).rows (v := q.1) ?_
    rw [h2, h3]
    exact (hC.sp _ h1).sl
set_option maxHeartbeats 1000000 in
theorem heldInt64SSS_ok {w : World} {v : Value} {k : Int} {lo hi : Nat} {us : List Value} {uss : List (List Value)} {xsss ysss : List (List (List Int))} [hx : Rowss lo hi w v us uss xsss] (hxs : xsss = markC k ysss) (hk : 0 ≤ k) (hb : k + tot ysss.flatten ≤ 9000000000000000000) :
    Calls Try.prog 22 #[v, .int .i64 k] w (Ret fun v' w' => v' = .int .i64 (k + tot ysss.flatten) ∧ Ext w w') := by
  have hl : xsss.length = ysss.length := by rw [hxs, markC_len]
  have hul := hx.vals.len
  have hm := sl_len hx.sl
  have hg : ∀ i, i < ysss.length → xsss.getD i [] = markL (k + tot (ysss.take i).flatten) (ysss.getD i []) := fun i hi => by rw [hxs, markC_getD _ _ _ hi]
  refine enter (args := [v, .int .i64 k]) (l := [.tmp 4]) Try.func22 rfl rfl Try.ntmps22 (by simp) ?_
  refine go ?_
  refine r_for ysss.length (fun i ρ w' => Has ρ [(0, v), (1, .int .i64 (k + tot (ysss.take i).flatten)), (5, .int .i64 i)] ∧ Ext w w') ?_ ?_
  · refine ⟨?_, Ext.refl _⟩
    simp only [List.take_zero, List.flatten_nil, tot]
    exact hasP
  rintro i ρ w2 hi ⟨hH, he2⟩
  refine rwp_has hH fun ρ0 => ?_
  have ht := tot_takeF_le ysss i
  refine go ?_
  refine c_if (fun h4 => ?_) (fun h4 => ?_)
  · have hin : i < ysss.length := by omega
    have hts := tot_takeF_succ ysss hin
    have ht2 := tot_takeF_le ysss (i + 1)
    refine go ?_
    refine rc (heldInt64SS_ok (xss := xsss.getD i []) (yss := ysss.getD i []) (hg i hin) ?_ ?_) (next := fun v3 w3 h3 => ?_)
    · omega
    · omega
    obtain ⟨rfl, he3⟩ := h3
    refine go ?_
    refine c_if (fun h5 => ?_) (fun h5 => ?_)
    · omega
    · refine go ?_
      refine forQ_normal (by omega) ⟨?_, he2.trans he3⟩
      exact hasP
  · refine go ?_
    obtain rfl : i = ysss.length := by omega
    refine ret1 ⟨?_, he2⟩
    rw [List.take_length]
/-- Sizes of a series. -/
theorem sz3 {r : List (List (List Int))} (h : r.length ≤ 7) (h2 : ∀ x, x ∈ r → x.length ≤ 6 ∧ ∀ y, y ∈ x → y.length ≤ 6) : r.length ≤ 2000000 ∧ (∀ i, (r.getD i []).length ≤ 2000000 ∧ ∀ j, ((r.getD i []).getD j []).length ≤ 2000000) ∧ tot r.flatten ≤ 4000000000000 := by
  refine ⟨by omega, fun i => ?_, ?_⟩
  · by_cases hi : i < r.length
    · have e : r.getD i [] = r[i] := by simp [hi]
      have h3 := h2 _ (List.getElem_mem hi)
      rw [e]
      refine ⟨by omega, fun j => ?_⟩
      by_cases hj : j < (r[i]).length
      · have e2 : (r[i]).getD j [] = (r[i])[j] := by simp [hj]
        have := h3.2 _ (List.getElem_mem hj)
        rw [e2]; omega
      · rw [List.getD_eq_getElem?_getD, List.getElem?_eq_none (by omega)]; simp
    · have e : r.getD i [] = [] := by rw [List.getD_eq_getElem?_getD, List.getElem?_eq_none (by omega)]; rfl
      rw [e]; simp
  · have h3 := tot_flatten (n := 6) r fun x hx => h2 x hx
    have : r.length * (6 * 6) ≤ 7 * (6 * 6) := Nat.mul_le_mul_right _ h
    omega
theorem SrV.sz {p : Pr} {C : ConAll p → (List (El p) → List (El p)) × List (El p)} {r : List (List (List Int))} {e : Int} (h : SrV p C r e) (hS : ∀ c : ConAll p, SerOk (C c).1 (C c).2) : r.length ≤ 2000000 ∧ (∀ i, (r.getD i []).length ≤ 2000000 ∧ ∀ j, ((r.getD i []).getD j []).length ≤ 2000000) ∧ tot r.flatten ≤ 4000000000000 := by
  obtain ⟨c, K, hK, rfl, _⟩ := h
  have hn := c.valid.n6
  have hb := (hS c).bd K hK.2
  refine sz3 (by simp; omega) fun x hx => ?_
  obtain ⟨j, _, rfl⟩ := List.mem_map.1 hx
  have hl := ((hS c).seq j).len
  refine ⟨by simp; omega, fun y hy => ?_⟩
  obtain ⟨a, _, rfl⟩ := List.mem_map.1 hy
  rw [a.inr.len]; omega
theorem nil_sz3 : ([] : List (List (List Int))).length ≤ 2000000 ∧ (∀ i, (([] : List (List (List Int))).getD i []).length ≤ 2000000 ∧ ∀ j, ((([] : List (List (List Int))).getD i []).getD j []).length ≤ 2000000) ∧ tot ([] : List (List (List Int))).flatten ≤ 4000000000000 := sz3 (by simp) (by simp)
theorem DerivedSeries_sz0 {p : Pr} {r : List (List (List Int))} {e : Int} (_ : p.ord.length ≤ 2000000) (h : Ans (IsGrp p) (SrV p (DerC p)) [] r e) : r.length ≤ 2000000 ∧ (∀ i, (r.getD i []).length ≤ 2000000 ∧ ∀ j, ((r.getD i []).getD j []).length ≤ 2000000) ∧ tot r.flatten ≤ 4000000000000 := by
  rcases h with ⟨_, h⟩ | ⟨_, rfl, _⟩
  · exact h.sz fun c => serOk_der
  · exact nil_sz3
theorem LowerCentralSeries_sz0 {p : Pr} {r : List (List (List Int))} {e : Int} (_ : p.ord.length ≤ 2000000) (h : Ans (IsGrp p) (SrV p (LowC p)) [] r e) : r.length ≤ 2000000 ∧ (∀ i, (r.getD i []).length ≤ 2000000 ∧ ∀ j, ((r.getD i []).getD j []).length ≤ 2000000) ∧ tot r.flatten ≤ 4000000000000 := by
  rcases h with ⟨_, h⟩ | ⟨_, rfl, _⟩
  · exact h.sz fun c => serOk_low
  · exact nil_sz3
theorem UpperCentralSeries_sz0 {p : Pr} {r : List (List (List Int))} {e : Int} (_ : p.ord.length ≤ 2000000) (h : Ans (IsGrp p) (SrV p (UpC p)) [] r e) : r.length ≤ 2000000 ∧ (∀ i, (r.getD i []).length ≤ 2000000 ∧ ∀ j, ((r.getD i []).getD j []).length ≤ 2000000) ∧ tot r.flatten ≤ 4000000000000 := by
  rcases h with ⟨_, h⟩ | ⟨_, rfl, _⟩
  · exact h.sz fun c => serOk_up
  · exact nil_sz3
theorem LowerExponentSeries_sz0 {p : Pr} {q : Int} {r : List (List (List Int))} {e : Int} (_ : p.ord.length ≤ 2000000) (h : Ans (IsGrp p) (ExV p q) [] r e) : r.length ≤ 2000000 ∧ (∀ i, (r.getD i []).length ≤ 2000000 ∧ ∀ j, ((r.getD i []).getD j []).length ≤ 2000000) ∧ tot r.flatten ≤ 4000000000000 := by
  rcases h with ⟨_, ⟨_, rfl, _⟩ | ⟨hq, h⟩⟩ | ⟨_, rfl, _⟩
  · exact nil_sz3
  · exact h.sz fun c => serOk_exp (by rcases hq with e | e | e | e <;> omega)
  · exact nil_sz3
end Go.Proofs.Ytgomfjhhfmhlgaa

/-
  Arguments that read as slices of integers, slices of slices, slices of slices of slices: what the calculus knows of them.
  Conditions: none; nothing of the program stands here.
-/
namespace Go.Pc
open Go Go.RowKit Go.Deep Go.ChangeShapes Go.WideShapes
section
variable {H : Type} {enc : TypeId × Value → H} {P : Program} {w : World} {base : Nat} {held : Bool} {fuel : Nat} {v : Value} {x : DataW H × List MemPlace}
theorem ints_of_trod {t e : TypeId} (ht : P.underlying t = some (.slice e)) (he : P.underlying e = some (.int .i64)) (hc : P.cellsOf e = 1) (h : DataW.trod enc P w base (fun _ => true) held fuel t [v] = some x) : ∃ xs, Ints 0 w.heap.size w v xs := by
  rcases open_ints ht he hc h with ⟨hcs, _⟩ | ⟨a, len, cap, zs, hcs, _, hl, hm, hz, _, hcell, _⟩
  · have : v = nilv := by simpa using hcs
    subst this
    exact ⟨[], (Ints.nil_ w).mono (Nat.le_refl 0) (Nat.zero_le _)⟩
  · have : v = .slice (some a) len cap := by simpa using hcs
    subst this
    simp only [if_true] at hz
    have hlen : (zs.take len).length = len := by rw [List.length_take]; omega
    refine ⟨zs.take len, ⟨⟨some a, cap, by rw [List.length_map, hlen], by rw [List.length_map, hlen]; omega, by simp only [maxLen] at hm; omega, fun k u hu => ?_⟩⟩⟩
    rw [List.getElem?_map, List.getElem?_take] at hu
    split at hu
    · have hk : k < zs.length := by omega
      have hck := hcell k hk
      rw [List.getElem?_eq_getElem hk] at hu
      simp only [Option.map_some, Option.some.injEq] at hu
      have e : zs.getD k 0 = zs[k] := by simp [hk]
      rw [e, hu] at hck
      exact ⟨a, rfl, Nat.zero_le _, by have := block_lt hck; rwa [add_block] at this, hck⟩
    · cases hu
theorem sl_of {a : Addr} {len cap m : Nat} {V : Nat → Value} (hl : len ≤ cap) (hm : cap ≤ maxLen) (hlm : len ≤ m) (hx : ∀ i, i < m → w.cell? (a.add i) = some (V i)) : Sl 0 w.heap.size w (.slice (some a) len cap) ((List.range len).map V) := by
  refine ⟨⟨some a, cap, by simp, by simpa using hl, by simp only [maxLen] at hm; omega, fun k u hu => ?_⟩⟩
  rw [List.getElem?_map] at hu
  by_cases hk : k < len
  · rw [List.getElem?_range hk] at hu
    simp only [Option.map_some, Option.some.injEq] at hu
    have hck := hx k (by omega)
    rw [hu] at hck
    exact ⟨a, rfl, Nat.zero_le _, by have := block_lt hck; rwa [add_block] at this, hck⟩
  · rw [List.getElem?_eq_none (by simp; omega)] at hu; cases hu
theorem getD_map_range {α : Type} {n i : Nat} {f : Nat → α} {d : α} (h : i < n) : ((List.range n).map f).getD i d = f i := by simp [h]
theorem getD_map_range' {α : Type} {n i : Nat} {f : Nat → α} {d : α} (h : ¬ i < n) : ((List.range n).map f).getD i d = d := by
  rw [List.getD_eq_getElem?_getD, List.getElem?_eq_none (by simp; omega)]; rfl
theorem Rows.nil_ (w : World) : Rows 0 w.heap.size w nilv [] [] :=
  ⟨⟨⟨none, 0, rfl, Nat.le_refl _, by omega, fun k u hu => by simp at hu⟩⟩, rfl, fun i => by simpa using (Ints.nil_ w).mono (Nat.le_refl 0) (Nat.zero_le _)⟩
theorem rows_of_trod {t e q : TypeId} (ht : P.underlying t = some (.slice e)) (he : P.underlying e = some (.slice q)) (hq : P.underlying q = some (.int .i64)) (ce : P.cellsOf e = 1) (cq : P.cellsOf q = 1)
    (h : DataW.trod enc P w base (fun _ => true) held fuel t [v] = some x) : ∃ us xss, Rows 0 w.heap.size w v us xss := by
  rcases open_slice1 ht ce h with ⟨hcs, _⟩ | ⟨a, len, cap, m, n, V, D, Pl, hcs, _, hl, hm, hmm, _, hx⟩
  · have : v = nilv := by simpa using hcs
    subst this
    exact ⟨[], [], Rows.nil_ w⟩
  · have : v = .slice (some a) len cap := by simpa using hcs
    subst this
    simp only [if_true] at hmm
    have hlm : len ≤ m := by omega
    obtain ⟨X, hX⟩ := choose_lt (α := List Int) (n := len) (p := fun i xs => Ints 0 w.heap.size w (V i) xs) fun i hi => ints_of_trod he hq cq (hx i (by omega)).2
    refine ⟨(List.range len).map V, (List.range len).map X, sl_of hl hm hlm fun i hi => (hx i hi).1, by simp, fun i => ?_⟩
    by_cases hi : i < len
    · rw [getD_map_range hi, getD_map_range hi]; exact hX i hi
    · rw [getD_map_range' hi, getD_map_range' hi]; exact (Ints.nil_ w).mono (Nat.le_refl 0) (Nat.zero_le _)
theorem rowss_of_trod {t e q r : TypeId} (ht : P.underlying t = some (.slice e)) (he : P.underlying e = some (.slice q)) (hq : P.underlying q = some (.slice r)) (hr : P.underlying r = some (.int .i64)) (ce : P.cellsOf e = 1) (cq : P.cellsOf q = 1) (cr : P.cellsOf r = 1)
    (h : DataW.trod enc P w base (fun _ => true) held fuel t [v] = some x) : ∃ us uss xsss, Rowss 0 w.heap.size w v us uss xsss := by
  rcases open_slice1 ht ce h with ⟨hcs, _⟩ | ⟨a, len, cap, m, n, V, D, Pl, hcs, _, hl, hm, hmm, _, hx⟩
  · have : v = nilv := by simpa using hcs
    subst this
    exact ⟨[], [], [], ⟨⟨none, 0, rfl, Nat.le_refl _, by omega, fun k u hu => by simp at hu⟩⟩, rfl, rfl, fun i => by simpa using Rows.nil_ w⟩
  · have : v = .slice (some a) len cap := by simpa using hcs
    subst this
    simp only [if_true] at hmm
    have hlm : len ≤ m := by omega
    obtain ⟨X, hX⟩ := choose_lt (α := List Value × List (List Int)) (n := len) (p := fun i y => Rows 0 w.heap.size w (V i) y.1 y.2) fun i hi => by
      obtain ⟨us, xss, hR⟩ := rows_of_trod he hq hr cq cr (hx i (by omega)).2
      exact ⟨(us, xss), hR⟩
    refine ⟨(List.range len).map V, (List.range len).map fun i => (X i).1, (List.range len).map fun i => (X i).2, sl_of hl hm hlm fun i hi => (hx i hi).1, by simp, by simp, fun i => ?_⟩
    by_cases hi : i < len
    · rw [getD_map_range hi, getD_map_range hi, getD_map_range hi]; exact hX i hi
    · rw [getD_map_range' hi, getD_map_range' hi, getD_map_range' hi]; exact Rows.nil_ w
end
end Go.Pc

/-
  Orders of Hall subgroups: the part of a product for a set of primes.
  Conditions: none.
-/
namespace Go.Proofs.Ytgomfjhhfmhlgaa
open Go Go.Pc
theorem ints_len {lo hi : Nat} {w : World} {v : Value} {xs : List Int} (h : Ints lo hi w v xs) : xs.length ≤ 9223372036854775807 := by
  obtain ⟨A, c, _, h1, h2, _⟩ := h.sl.ex
  simp only [List.length_map] at h1
  omega
def Pm (q : Int) : Prop := q = 2 ∨ q = 3 ∨ q = 5 ∨ q = 7
/-- How often a number stands in a list. -/
def cnt (q : Int) : List Int → Nat
  | [] => 0
  | o :: l => cnt q l + if o = q then 1 else 0
def ipow (q : Int) : Nat → Int
  | 0 => 1
  | k + 1 => ipow q k * q
def prodI : List Int → Int
  | [] => 1
  | o :: l => prodI l * o
/-- The product of the powers of the primes qs in the product of l. -/
def hallP (l : List Int) : List Int → Int
  | [] => 1
  | q :: qs => hallP l qs * ipow q (cnt q l)
theorem ipow_pos {q : Int} (hq : 1 ≤ q) : ∀ k, 1 ≤ ipow q k
  | 0 => Int.le_refl _
  | k + 1 => by
    have h := ipow_pos hq k
    have : 1 * 1 ≤ ipow q k * q := Int.mul_le_mul h hq (by omega) (by omega)
    simpa [ipow] using this
theorem cnt_append (q : Int) : ∀ (l m : List Int), cnt q (l ++ m) = cnt q l + cnt q m
  | [], m => by simp [cnt]
  | o :: l, m => by simp only [List.cons_append, cnt, cnt_append q l]; omega
theorem prodI_append : ∀ (l m : List Int), prodI (l ++ m) = prodI l * prodI m
  | [], m => by simp [prodI]
  | o :: l, m => by
    simp only [List.cons_append, prodI, prodI_append l]
    rw [Int.mul_assoc, Int.mul_comm (prodI m), ← Int.mul_assoc]
/-- A product of primes, with the part of one of them split off. -/
theorem prod_split {q : Int} (hq : Pm q) : ∀ l : List Int, (∀ o, o ∈ l → Pm o) → ∃ m : Int, prodI l = ipow q (cnt q l) * m ∧ 1 ≤ m ∧ m % q ≠ 0
  | [], _ => ⟨1, by simp [prodI, cnt, ipow], Int.le_refl _, by rcases hq with rfl | rfl | rfl | rfl <;> decide⟩
  | o :: l, h => by
    obtain ⟨m, h1, h2, h3⟩ := prod_split hq l fun x hx => h x (List.mem_cons_of_mem _ hx)
    have ho := h o List.mem_cons_self
    by_cases e : o = q
    · refine ⟨m, ?_, h2, h3⟩
      show prodI l * o = ipow q (cnt q l + if o = q then 1 else 0) * m
      rw [if_pos e, h1, e]
      show _ = ipow q (cnt q l) * q * m
      rw [Int.mul_assoc, Int.mul_comm m, ← Int.mul_assoc]
    · refine ⟨m * o, ?_, ?_, ?_⟩
      · simp only [prodI, cnt, if_neg e, Nat.add_zero, h1]
        rw [Int.mul_assoc]
      · have : 1 * 1 ≤ m * o := Int.mul_le_mul h2 (by rcases ho with rfl | rfl | rfl | rfl <;> omega) (by omega) (by omega)
        omega
      · rcases hq with rfl | rfl | rfl | rfl <;> rcases ho with rfl | rfl | rfl | rfl <;> first | exact absurd rfl e | omega
/-- Strictly ascending. -/
def IncP (qs : List Int) : Prop := ∀ i, i + 1 < qs.length → qs.getD i 0 < qs.getD (i + 1) 0
def PmSet (qs : List Int) : Prop := (∀ i, i < qs.length → Pm (qs.getD i 0)) ∧ IncP qs
theorem IncP.lt {qs : List Int} (h : IncP qs) {i : Nat} : ∀ j : Nat, i < j → j < qs.length → qs.getD i 0 < qs.getD j 0
  | 0, h1, _ => by omega
  | j + 1, h1, h2 => by
    have h3 := h j h2
    by_cases e : i = j
    · subst e; exact h3
    · have h4 := IncP.lt h (i := i) j (by omega) (by omega)
      exact Int.lt_trans h4 h3
theorem IncP.nodup {qs : List Int} (h : IncP qs) : qs.Nodup := by
  refine List.pairwise_iff_getElem.2 fun i j hi hj hij e => ?_
  have h1 := h.lt j hij hj
  have e1 : qs.getD i 0 = qs[i] := by simp [hi]
  have e2 : qs.getD j 0 = qs[j] := by simp [hj]
  rw [e1, e2] at h1
  omega
theorem cnt_snoc (q o : Int) (l : List Int) : cnt q (l ++ [o]) = cnt q l + if o = q then 1 else 0 := by
  rw [cnt_append]; simp [cnt]
theorem hallP_miss {l : List Int} {o : Int} : ∀ qs : List Int, o ∉ qs → hallP (l ++ [o]) qs = hallP l qs
  | [], _ => rfl
  | q :: qs, h => by
    have h1 : o ≠ q := fun e => h (by rw [e]; exact List.mem_cons_self)
    simp only [hallP, hallP_miss qs fun e => h (List.mem_cons_of_mem _ e), cnt_snoc, if_neg h1, Nat.add_zero]
theorem hallP_hit {l : List Int} {o : Int} : ∀ qs : List Int, qs.Nodup → o ∈ qs → hallP (l ++ [o]) qs = hallP l qs * o
  | [], _, h => by cases h
  | q :: qs, hn, h => by
    rw [List.nodup_cons] at hn
    by_cases e : o = q
    · subst e
      show hallP (l ++ [o]) qs * ipow o (cnt o (l ++ [o])) = hallP l qs * ipow o (cnt o l) * o
      rw [hallP_miss qs hn.1, cnt_snoc, if_pos rfl]
      show hallP l qs * (ipow o (cnt o l) * o) = _
      rw [Int.mul_assoc]
    · have h1 : o ∈ qs := (List.mem_cons.1 h).resolve_left e
      simp only [hallP, hallP_hit qs hn.2 h1, cnt_snoc, if_neg e, Nat.add_zero]
      rw [Int.mul_assoc, Int.mul_comm o, ← Int.mul_assoc]
theorem hallP_nil : ∀ qs : List Int, hallP [] qs = 1
  | [] => rfl
  | q :: qs => by simp [hallP, hallP_nil qs, cnt, ipow]
open Classical in
theorem hallP_step {l : List Int} {o : Int} {qs : List Int} (hn : qs.Nodup) : hallP (l ++ [o]) qs = if o ∈ qs then hallP l qs * o else hallP l qs := by
  split
  · rename_i h; exact hallP_hit qs hn h
  · rename_i h; exact hallP_miss qs h
theorem hallP_rng {qs : List Int} (hn : qs.Nodup) {l : List Int} (hl : ∀ i, i < l.length → Pm (l.getD i 0)) : ∀ k, k ≤ l.length → 1 ≤ hallP (l.take k) qs ∧ hallP (l.take k) qs ≤ ipow 7 k
  | 0, _ => by rw [List.take_zero, hallP_nil]; simp [ipow]
  | k + 1, h => by
    have ih := hallP_rng hn hl k (by omega)
    have hk : k < l.length := by omega
    have ho := hl k hk
    have e1 : l.getD k 0 = l[k] := by simp [hk]
    rw [e1] at ho
    rw [List.take_succ_eq_append_getElem hk]
    have hb : 1 ≤ l[k] ∧ l[k] ≤ 7 := by rcases ho with e | e | e | e <;> omega
    have h1 : 1 * 1 ≤ hallP (l.take k) qs * l[k] := Int.mul_le_mul ih.1 hb.1 (by omega) (by omega)
    have h2 : hallP (l.take k) qs * l[k] ≤ ipow 7 k * 7 := Int.mul_le_mul ih.2 hb.2 (by omega) (by omega)
    have h3 : ipow 7 (k + 1) = ipow 7 k * 7 := rfl
    by_cases e : l[k] ∈ qs
    · rw [hallP_hit qs hn e, h3]; omega
    · rw [hallP_miss qs e, h3]; omega
theorem ipow7_le : ∀ k, k ≤ 6 → ipow 7 k ≤ 117649
  | 0, _ => by decide
  | 1, _ => by decide
  | 2, _ => by decide
  | 3, _ => by decide
  | 4, _ => by decide
  | 5, _ => by decide
  | 6, _ => by decide
  | k + 7, h => by omega
theorem hallP_full {qs : List Int} (hn : qs.Nodup) {l : List Int} (hl : ∀ i, i < l.length → Pm (l.getD i 0)) (h6 : l.length ≤ 6) : 1 ≤ hallP l qs ∧ hallP l qs ≤ 117649 := by
  have h := hallP_rng hn hl l.length (Nat.le_refl _)
  rw [List.take_length] at h
  exact ⟨h.1, Int.le_trans h.2 (ipow7_le _ h6)⟩
theorem hallP_snoc {l : List Int} {q : Int} : ∀ qs : List Int, hallP l (qs ++ [q]) = hallP l qs * ipow q (cnt q l)
  | [] => by simp [hallP]
  | r :: qs => by
    simp only [List.cons_append, hallP, hallP_snoc qs]
    rw [Int.mul_assoc, Int.mul_comm (ipow q _), ← Int.mul_assoc]
theorem prodI_ord {p : Pr} : ∀ k, k ≤ p.n → ordL p ((List.range p.n).take k) = prodI ((p.ord).take k).reverse
  | 0, _ => by simp [ordL, prodI]
  | k + 1, h => by
    have hk : k < (List.range p.n).length := by rw [List.length_range]; omega
    have hk2 : k < p.ord.length := h
    rw [ordL_take _ hk, prodI_ord k (by omega), List.take_succ_eq_append_getElem hk2, List.reverse_append]
    show _ = prodI (p.ord[k] :: (p.ord.take k).reverse)
    show _ = prodI ((p.ord.take k).reverse) * p.ord[k]
    congr 1
    have hkn : k < p.n := h
    have e : (List.range p.n).getD k 0 = k := by simp [List.getD_eq_getElem?_getD, hkn]
    rw [e]
    show p.ord.getD k 0 = p.ord[k]
    rw [List.getD_eq_getElem?_getD, List.getElem?_eq_getElem hk2]
    rfl
theorem cnt_reverse (q : Int) : ∀ l : List Int, cnt q l.reverse = cnt q l
  | [] => rfl
  | o :: l => by rw [List.reverse_cons, cnt_append, cnt_reverse q l]; simp [cnt]
/-- The order of a group, with the part of one prime split off. -/
theorem ord_part {p : Pr} (hp : ∀ i, i < p.n → Pm (p.o i)) {q : Int} (hq : Pm q) : ∃ m : Int, ordL p (List.range p.n) = ipow q (cnt q p.ord) * m ∧ 1 ≤ m ∧ m % q ≠ 0 := by
  have h := prodI_ord (p := p) p.n (Nat.le_refl _)
  rw [List.take_of_length_le (by simp)] at h
  have e : p.ord.take p.n = p.ord := List.take_length
  rw [e] at h
  rw [h, ← cnt_reverse q p.ord]
  refine prod_split hq _ fun o ho => ?_
  obtain ⟨i, hi, rfl⟩ := List.getElem_of_mem (List.mem_reverse.1 ho)
  have h1 := hp i hi
  have e1 : p.o i = p.ord[i] := by show p.ord.getD i 0 = _; simp [hi]
  rwa [e1] at h1
theorem cnt_le (q : Int) : ∀ l : List Int, cnt q l ≤ l.length
  | [] => Nat.le_refl _
  | o :: l => by
    have := cnt_le q l
    simp only [cnt, List.length_cons]
    split <;> omega
/-- The answer of IsHallSubgroup. -/
def HsV (p : Pr) (xss : List (List Int)) (qs : List Int) (b : Bool) (e : Int) : Prop := (¬ PmSet qs ∧ b = false ∧ e = 2) ∨ (PmSet qs ∧ (∃ (_ : ConAll p) (ys : List (El p)), xss = vecs ys ∧ (b = true ↔ ordOf p ys = hallP p.ord qs)) ∧ e = 0)
theorem HsV.uniq {p : Pr} {xss : List (List Int)} {qs : List Int} (a b : Bool) (c d : Int) (h : HsV p xss qs a c) (k : HsV p xss qs b d) : a = b ∧ c = d := by
  rcases h with ⟨h1, rfl, rfl⟩ | ⟨h1, ⟨hc, ys, h2, h3⟩, rfl⟩ <;> rcases k with ⟨k1, rfl, rfl⟩ | ⟨k1, ⟨kc, zs, k2, k3⟩, rfl⟩
  · exact ⟨rfl, rfl⟩
  · exact absurd k1 h1
  · exact absurd h1 k1
  · obtain rfl := vecs_inj (h2.symm.trans k2)
    exact ⟨bool_eq h3 k3, rfl⟩
end Go.Proofs.Ytgomfjhhfmhlgaa

/-
  Walks: the reference's IsHallSubgroup.
  Conditions: stated at each theorem.
-/
namespace Go.Proofs.Ytgomfjhhfmhlgaa
open Go Go.Pc
theorem ipow_add (q : Int) (a : Nat) : ∀ b, ipow q (a + b) = ipow q a * ipow q b
  | 0 => by simp [ipow]
  | b + 1 => by
    show ipow q (a + b) * q = ipow q a * (ipow q b * q)
    rw [ipow_add q a b, Int.mul_assoc]
set_option maxHeartbeats 1000000 in
theorem l01Part_ok {n q m : Int} {c : Nat} {w : World} (hn : n = ipow q c * m) (hm : 1 ≤ m) (hq : 2 ≤ q ∧ q ≤ 7) (hmq : m % q ≠ 0) (hN : n ≤ 1000000) :
    Calls Try.prog 121 #[.int .i64 n, .int .i64 q] w (Ret fun v w' => v = .int .i64 (ipow q c) ∧ Ext w w') := by
  refine enter (args := [.int .i64 n, .int .i64 q]) (l := [.tmp 4]) Try.func121 rfl rfl Try.ntmps121 (by simp) ?_
  refine go ?_
  refine r_for c (fun k ρ w' => ∃ nk out : Int, Has ρ [(0, .int .i64 nk), (1, .int .i64 q), (5, .int .i64 out)] ∧ w' = w ∧ nk = ipow q (c - k) * m ∧ out = ipow q k) ?_ ?_
  · refine ⟨n, 1, ?_, rfl, by simpa using hn, rfl⟩
    exact hasP
  rintro k ρ w2 hk ⟨nk, out, hH, rfl, hnk, hout⟩
  refine rwp_has hH fun ρ0 => ?_
  have hq1 : 1 ≤ ipow q (c - k) := ipow_pos (by omega) _
  have hnk1 : 1 ≤ nk := by
    have : 1 * 1 ≤ ipow q (c - k) * m := Int.mul_le_mul hq1 hm (by omega) (by omega)
    omega
  have hout1 : 1 ≤ out := by rw [hout]; exact ipow_pos (by omega) _
  have hprod : out * nk = n := by
    rw [hnk, hout, hn, ← Int.mul_assoc, ← ipow_add, show k + (c - k) = c by omega]
  have hob : out ≤ n := by
    have := Int.mul_le_mul_of_nonneg_left hnk1 (show 0 ≤ out by omega)
    rw [hprod] at this; omega
  have hnb : nk ≤ n := by
    have := Int.mul_le_mul_of_nonneg_right hout1 (show 0 ≤ nk by omega)
    rw [hprod] at this; omega
  have hoq : out * q ≤ 7000000 ∧ 0 ≤ out * q := by
    have h1 := Int.mul_le_mul_of_nonneg_left hq.2 (show 0 ≤ out by omega)
    have h2 : 0 ≤ out * q := Int.mul_nonneg (by omega) (by omega)
    omega
  have hstep : k < c → nk = ipow q (c - (k + 1)) * m * q := fun h => by
    rw [hnk, show c - k = (c - (k + 1)) + 1 by omega]
    show ipow q (c - (k + 1)) * q * m = _
    rw [Int.mul_assoc, Int.mul_comm q, ← Int.mul_assoc]
  refine go ?_
  refine c_if (fun h4 => ?_) (fun h4 => ?_)
  · have hkc : k < c := by
      by_cases e : k < c
      · exact e
      · exfalso
        have e2 : c - k = 0 := by omega
        rw [hnk, e2] at h4
        exact hmq (by simpa [ipow] using h4)
    have hs := hstep hkc
    have hdv : nk / q = ipow q (c - (k + 1)) * m := by rw [hs]; exact Int.mul_ediv_cancel _ (by omega)
    refine go ?_
    refine ra (h := rd_mul (by ((try simp only [ev_tmp, ev_const, ev_func, get_put, get_args, get_putL, get_putL_nil, Nat.reduceEqDiff, reduceIte, List.getD_cons_zero, List.getD_cons_succ, List.getD_nil]); first | done | with_reducible rfl)) (by ((try simp only [ev_tmp, ev_const, ev_func, get_put, get_args, get_putL, get_putL_nil, Nat.reduceEqDiff, reduceIte, List.getD_cons_zero, List.getD_cons_succ, List.getD_nil]); first | done | with_reducible rfl)) (by omega)) (next := ?_)
    refine go ?_
    refine forQ_normal (by omega) ⟨nk / q, out * q, ?_, rfl, hdv, by rw [hout]; rfl⟩
    exact hasP
  · have hkc : k = c := by
      by_cases e : k < c
      · exact absurd (by rw [hstep e]; exact Int.mul_emod_left _ _) h4
      · omega
    refine go ?_
    subst hkc
    refine ret1 (v := .int .i64 out) ⟨by rw [hout], Ext.refl _⟩
set_option maxHeartbeats 2000000 in
theorem l20Primes_ok {qs : List Int} {w : World} {vx : Value} {lo hi : Nat} [hx : Ints lo hi w vx qs] :
    Calls Try.prog 78 #[vx] w (Ret fun v w' => ∃ b, v = .bool b ∧ (b = true ↔ PmSet qs) ∧ Ext w w') := by
  replace hx := hx.wide
  have hsl := ints_len hx
  refine enter (args := [vx]) (l := [.tmp 2]) Try.func78 rfl rfl Try.ntmps78 (by simp) ?_
  refine go ?_
  refine r_for qs.length (fun k ρ w' => Has ρ [(0, vx), (3, .int .i64 k)] ∧ Ext w w' ∧ (∀ j, j < k → Pm (qs.getD j 0)) ∧ ∀ j, j + 1 < k → qs.getD j 0 < qs.getD (j + 1) 0) ?_ ?_
  · refine ⟨?_, Ext.refl _, fun j hj => by omega, fun j hj => by omega⟩
    exact hasP
  rintro k ρ w2 hk ⟨hH, he2, hI, hJ⟩
  refine rwp_has hH fun ρ0 => ?_
  refine go ?_
  refine c_if (fun h4 => ?_) (fun h4 => ?_)
  · have hkn : k < qs.length := by omega
    refine go ?_
    refine d_region fun w3 he3 _ => ?_
    refine dgo ?_
    refine dce l01Prime_ok (next := fun v5 w5 h5 => ?_)
    obtain ⟨b5, rfl, hb5, he5⟩ := h5
    have hE := (he2.trans he3).trans he5
    refine da (next := ?_)
    refine da (next := ?_)
    refine dsp (fun h6 => ?_) (fun h6 => ?_)
    · refine dgo ?_
      refine d_end (h := ?_)
      refine go ?_
      refine ret1 ⟨false, rfl, ⟨fun h => (by cases h), fun h => ?_⟩, hE⟩
      rw [hb5.2 (h.1 k hkn)] at h6; cases h6
    · have hp : Pm (qs.getD k 0) := hb5.1 (by simpa using h6)
      have hI' : ∀ j, j < k + 1 → Pm (qs.getD j 0) := fun j hj => by
        by_cases e : j = k
        · subst e; exact hp
        · exact hI j (by omega)
      refine dgo ?_
      refine dspd (fun h7 => ?_) (fun h7 => ?_)
      · refine dgo ?_
        refine d_end (h := ?_)
        refine go ?_
        refine c_if (fun h8 => ?_) (fun h8 => ?_)
        · refine go ?_
          refine ret1 ⟨false, rfl, ⟨fun h => (by cases h), fun h => ?_⟩, hE⟩
          have h9 := h.2 (k - 1) (by omega)
          rw [show k - 1 + 1 = k by omega] at h9
          omega
        · refine go ?_
          refine forQ_normal (by omega) ⟨?_, hE, hI', fun j hj => ?_⟩
          · exact hasP
          · by_cases e : j + 1 = k
            · rw [e, show j = k - 1 by omega]; omega
            · exact hJ j (by omega)
      · refine dgo ?_
        refine d_end (h := ?_)
        refine go ?_
        refine forQ_normal (by omega) ⟨?_, hE, hI', fun j hj => by omega⟩
        exact hasP
  · refine go ?_
    exact ret1 ⟨true, rfl, ⟨fun _ => ⟨fun j hj => hI j (by omega), fun j hj => hJ j (by omega)⟩, fun _ => rfl⟩, he2⟩
set_option maxHeartbeats 1000000 in
theorem l20Part_ok {p : Pr} (hp : ∀ i, i < p.n → Pm (p.o i)) (h6 : p.n ≤ 6) (hN : ordL p (List.range p.n) ≤ 117649) {qs : List Int} (hs : PmSet qs) {w : World} {vx : Value} {lo hi : Nat} [hx : Ints lo hi w vx qs] :
    Calls Try.prog 80 #[.int .i64 (ordL p (List.range p.n)), vx] w (Ret fun v w' => v = .int .i64 (hallP p.ord qs) ∧ Ext w w') := by
  replace hx := hx.wide
  have hsl := ints_len hx
  have hnd := hs.2.nodup
  refine enter (args := [.int .i64 (ordL p (List.range p.n)), vx]) (l := [.tmp 4]) Try.func80 rfl rfl Try.ntmps80 (by simp) ?_
  refine go ?_
  refine r_for qs.length (fun k ρ w' => Has ρ [(0, .int .i64 (ordL p (List.range p.n))), (1, vx), (5, .int .i64 (hallP p.ord (qs.take k))), (6, .int .i64 k)] ∧ Ext w w') ?_ ?_
  · refine ⟨?_, Ext.refl _⟩
    rw [List.take_zero]
    simp only [hallP]
    exact hasP
  rintro k ρ w2 hk ⟨hH, he2⟩
  refine rwp_has hH fun ρ0 => ?_
  have hb : ∀ j, 1 ≤ hallP p.ord (qs.take j) ∧ hallP p.ord (qs.take j) ≤ 117649 := fun j => hallP_full (hnd.sublist (List.take_sublist _ _)) hp h6
  have hbk := hb k
  refine go ?_
  refine c_if (fun h4 => ?_) (fun h4 => ?_)
  · have hkn : k < qs.length := by omega
    have hq := hs.1 k hkn
    have hq7 : 2 ≤ qs.getD k 0 ∧ qs.getD k 0 ≤ 7 := by rcases hq with e | e | e | e <;> omega
    obtain ⟨m, hm1, hm2, hm3⟩ := ord_part hp hq
    have hst : hallP p.ord (qs.take (k + 1)) = hallP p.ord (qs.take k) * ipow (qs.getD k 0) (cnt (qs.getD k 0) p.ord) := by
      rw [List.take_succ_eq_append_getElem hkn, hallP_snoc]
      have e : qs.getD k 0 = qs[k] := by simp [hkn]
      rw [e]
    have hbk1 := hb (k + 1)
    rw [hst] at hbk1
    refine go ?_
    refine rc (l01Part_ok hm1 hm2 hq7 hm3 (by omega)) (next := fun v5 w5 h5 => ?_)
    obtain ⟨rfl, he5⟩ := h5
    refine go ?_
    refine ra (h := rd_mul (by ((try simp only [ev_tmp, ev_const, ev_func, get_put, get_args, get_putL, get_putL_nil, Nat.reduceEqDiff, reduceIte, List.getD_cons_zero, List.getD_cons_succ, List.getD_nil]); first | done | with_reducible rfl)) (by ((try simp only [ev_tmp, ev_const, ev_func, get_put, get_args, get_putL, get_putL_nil, Nat.reduceEqDiff, reduceIte, List.getD_cons_zero, List.getD_cons_succ, List.getD_nil]); first | done | with_reducible rfl)) (by omega)) (next := ?_)
    refine go ?_
    refine forQ_normal (by omega) ⟨?_, he2.trans he5⟩
    rw [hst]
    exact hasP
  · refine go ?_
    obtain rfl : k = qs.length := by omega
    refine ret1 ⟨?_, he2⟩
    rw [List.take_length]
set_option maxHeartbeats 2000000 in
theorem spec_IsHallSubgroup_ok {p : Pr} {w : World} {vp vu vx : Value} {us : List Value} {xss : List (List Int)} {xs : List Int} {lo hi lo1 hi1 lo2 hi2 : Nat} [hp : Pres lo hi w vp p] [hu : Pc.Rows lo1 hi1 w vu us xss] [hx : Ints lo2 hi2 w vx xs] (hl : p.ord.length ≤ 2000000) (hxl : xs.length ≤ 2000000) :
    Calls Try.prog 41 #[vp, vu, vx] w (Ret fun v w' => ∃ (k : Bool) (e : Int), v = .tuple #[.bool k, .int .i64 e] ∧ Ans (IsSubP p xss) (HsV p xss xs) false k e ∧ Ext w w') := by
  replace hu := hu.wide
  replace hx := hx.wide
  obtain ⟨vo, vpw, vc, ps, cs, css, rfl, h1, h2, h3⟩ := hp.ex
  refine enter (args := [.agg #[vo, vpw, vc], vu, vx]) (l := [.tmp 6, .tmp 7]) Try.func41 rfl rfl Try.ntmps41 (by simp) ?_
  refine go ?_
  refine st_box3 (by ((try simp only [ev_tmp, ev_const, ev_func, get_put, get_args, get_putL, get_putL_nil, Nat.reduceEqDiff, reduceIte, List.getD_cons_zero, List.getD_cons_succ, List.getD_nil]); first | done | with_reducible rfl)) (by first | exact True.intro | exact ⟨_, rfl, by ((try simp only [ev_tmp, ev_const, ev_func, get_put, get_args, get_putL, get_putL_nil, Nat.reduceEqDiff, reduceIte, List.getD_cons_zero, List.getD_cons_succ, List.getD_nil, Bool.not_true, Bool.not_false]); first | done | with_reducible rfl)⟩) fun w1 b he1 hb1 hs1 hc0 hc1 hc2 => ?_
  refine go ?_
  refine rc (spec_IsSubgroup_ok (p := p) (xss := xss) hl) (next := fun v5 w5 h5 => ?_)
  obtain ⟨b5, rfl, hb5, he5⟩ := h5
  have hE5 := he1.trans he5
  refine go ?_
  refine c_b (fun e5 => ?_) (fun e5 => ?_)
  · refine go ?_
    refine ret2 ⟨false, 1, rfl, .inr ⟨fun h => ?_, rfl, rfl⟩, hE5⟩
    rw [hb5.2 h] at e5; cases e5
  have hS := hb5.1 (by simpa using e5)
  obtain ⟨hG, hq⟩ := hS
  haveI : ConAll p := ⟨hG.con⟩
  have hv := hG.valid
  have hn6 := hv.n6
  obtain ⟨ys, hys, hse⟩ := isSeq_iff.1 hq
  have hyl := hse.len
  have hoy := ordOf_pos hse
  obtain ⟨hoe, ho1, ho2⟩ := ordN_rng p
  refine go ?_
  refine rc (l20Primes_ok (qs := xs)) (next := fun v6 w6 h6 => ?_)
  obtain ⟨b6, rfl, hb6, he6⟩ := h6
  have hE6 := hE5.trans he6
  refine go ?_
  refine c_b (fun e6 => ?_) (fun e6 => ?_)
  · refine go ?_
    refine ret2 ⟨false, 2, rfl, .inl ⟨⟨hG, hq⟩, .inl ⟨fun h => ?_, rfl, rfl⟩⟩, hE6⟩
    rw [hb6.2 h] at e6; cases e6
  have hP := hb6.1 (by simpa using e6)
  refine go ?_
  refine d_order [0, 1, 3, 5, 2, 4, 6, 7, 8, 9] (h := fun w7 he7 _ => ?_)
  refine dgo ?_
  refine dce (l12Order_ok (p := p) hse hys) (next := fun v8 w8 h8 => ?_)
  obtain ⟨rfl, he8⟩ := h8
  refine dce (l10Order_ok (p := p) hv) (next := fun v9 w9 h9 => ?_)
  obtain ⟨rfl, he9⟩ := h9
  refine dce (l20Part_ok (p := p) (fun i hi => hv.prime i hi) hn6 (by omega) hP) (next := fun v10 w10 h10 => ?_)
  obtain ⟨rfl, he10⟩ := h10
  refine dgo ?_
  refine d_end (h := ?_)
  refine go ?_
  exact ret2 ⟨_, 0, rfl, .inl ⟨⟨hG, hq⟩, .inr ⟨hP, ⟨inferInstance, ys, hys, decide_eq_true_iff⟩, rfl⟩⟩, hE6.trans (((he7.trans he8).trans he9).trans he10)⟩
end Go.Proofs.Ytgomfjhhfmhlgaa

/-
  Walks: the program's IsHallSubgroup.
  Conditions: stated at each theorem.
-/
namespace Go.Proofs.Ytgomfjhhfmhlgaa
open Go Go.Pc
set_option maxHeartbeats 400000 in
theorem sliceIndex64_ok {w : World} {v : Value} {xs : List Int} {k : Int} {lo hi : Nat} [hx : Ints lo hi w v xs] (hl : xs.length ≤ 2000000) :
    Calls Try.prog 164 #[v, .int .i64 k] w (Ret fun v w' => ∃ j : Int, v = .int .i64 j ∧ (0 ≤ j ↔ k ∈ xs) ∧ Ext w w') := by
  refine enter (args := [v, .int .i64 k]) (l := [.tmp 4]) Try.func164 rfl rfl Try.ntmps164 (by simp) ?_
  refine go ?_
  refine r_for xs.length (fun i ρ w' => Has ρ [(0, v), (1, .int .i64 k), (7, .int .i64 xs.length), (8, .int .i64 i)] ∧ Ext w w' ∧ ∀ j, j < i → xs.getD j 0 ≠ k) ?_ ?_
  · refine ⟨?_, Ext.refl _, fun j hj => by omega⟩
    exact hasP
  rintro i ρ w2 hi ⟨hH, he2, hI⟩
  refine rwp_has hH fun ρ0 => ?_
  refine go ?_
  refine c_if (fun h4 => ?_) (fun h4 => ?_)
  · have hin : i < xs.length := by omega
    refine go ?_
    refine c_if (fun h5 => ?_) (fun h5 => ?_)
    · refine go ?_
      refine ret1 ⟨i, rfl, ?_, he2⟩
      refine ⟨fun _ => ?_, fun _ => by omega⟩
      rw [h5]
      simp [hin]
    · refine go ?_
      refine forQ_normal (by omega) ⟨?_, he2, fun j hj => ?_⟩
      · exact hasP
      · by_cases e : j = i
        · subst e; exact fun e => h5 e.symm
        · exact hI j (by omega)
  · refine go ?_
    refine ret1 ⟨-1, rfl, ?_, he2⟩
    refine ⟨fun h => by omega, fun h => ?_⟩
    obtain ⟨j, hj, e⟩ := List.getElem_of_mem h
    exact absurd (by simp [hj, e]) (hI j (by omega))
theorem sliceContains64_ok {w : World} {v : Value} {xs : List Int} {k : Int} {lo hi : Nat} [hx : Ints lo hi w v xs] (hl : xs.length ≤ 2000000) :
    Calls Try.prog 122 #[v, .int .i64 k] w (Ret fun v w' => ∃ b, v = .bool b ∧ (b = true ↔ k ∈ xs) ∧ Ext w w') := by
  refine enter (args := [v, .int .i64 k]) (l := [.tmp 4]) Try.func122 rfl rfl Try.ntmps122 (by simp) ?_
  refine go ?_
  refine rc (sliceIndex64_ok (xs := xs) (k := k) hl) (next := fun v1 w1 h1 => ?_)
  obtain ⟨j, rfl, hj, he1⟩ := h1
  refine go ?_
  refine ret1 ⟨_, rfl, ?_, he1⟩
  rw [decide_eq_true_iff]; exact hj
set_option maxHeartbeats 2000000 in
theorem isPrimeSet_ok {qs : List Int} {w : World} {vx : Value} {lo hi : Nat} [hx : Ints lo hi w vx qs] :
    Calls Try.prog 82 #[vx] w (Ret fun v w' => ∃ b, v = .bool b ∧ (b = true ↔ PmSet qs) ∧ Ext w w') := by
  replace hx := hx.wide
  have hsl := ints_len hx
  refine enter (args := [vx]) (l := [.tmp 2]) Try.func82 rfl rfl Try.ntmps82 (by simp) ?_
  refine go ?_
  refine r_for qs.length (fun k ρ w' => Has ρ [(0, vx), (5, vx), (6, .int .i64 qs.length), (7, .int .i64 k)] ∧ Ext w w' ∧ (∀ j, j < k → Pm (qs.getD j 0)) ∧ ∀ j, j + 1 < k → qs.getD j 0 < qs.getD (j + 1) 0) ?_ ?_
  · refine ⟨?_, Ext.refl _, fun j hj => by omega, fun j hj => by omega⟩
    exact hasP
  rintro k ρ w2 hk ⟨hH, he2, hI, hJ⟩
  refine rwp_has hH fun ρ0 => ?_
  refine go ?_
  refine c_if (fun h4 => ?_) (fun h4 => ?_)
  · have hkn : k < qs.length := by omega
    refine go ?_
    refine rc IsGroupPrime_ok (next := fun v5 w5 h5 => ?_)
    obtain ⟨b5, rfl, hb5, he5⟩ := h5
    have hE := he2.trans he5
    refine ra (next := ?_)
    refine ra (next := ?_)
    refine sp (fun h6 => ?_) (fun h6 => ?_)
    · have hb6 : b5 = false := by simpa using h6
      refine go ?_
      refine ret1 ⟨false, rfl, ⟨fun h => (by cases h), fun h => ?_⟩, hE⟩
      rw [hb5.2 (h.1 k hkn)] at hb6; cases hb6
    · have hp : Pm (qs.getD k 0) := hb5.1 (by simpa using h6)
      have hI' : ∀ j, j < k + 1 → Pm (qs.getD j 0) := fun j hj => by
        by_cases e : j = k
        · subst e; exact hp
        · exact hI j (by omega)
      refine go ?_
      refine spd (fun h7 => ?_) (fun h7 => ?_)
      · refine go ?_
        refine c_if (fun h8 => ?_) (fun h8 => ?_)
        · refine go ?_
          refine ret1 ⟨false, rfl, ⟨fun h => (by cases h), fun h => ?_⟩, hE⟩
          have h9 := h.2 (k - 1) (by omega)
          rw [show k - 1 + 1 = k by omega] at h9
          omega
        · refine go ?_
          refine forQ_normal (by omega) ⟨?_, hE, hI', fun j hj => ?_⟩
          · exact hasP
          · by_cases e : j + 1 = k
            · rw [e, show j = k - 1 by omega]; omega
            · exact hJ j (by omega)
      · refine go ?_
        refine forQ_normal (by omega) ⟨?_, hE, hI', fun j hj => by omega⟩
        exact hasP
  · refine go ?_
    exact ret1 ⟨true, rfl, ⟨fun _ => ⟨fun j hj => hI j (by omega), fun j hj => hJ j (by omega)⟩, fun _ => rfl⟩, he2⟩
set_option maxHeartbeats 2000000 in
theorem hallOrder_ok {p : Pr} (hv : Valid p) {qs : List Int} (hs : PmSet qs) (hq : qs.length ≤ 2000000) {w : World} {vp vx : Value} {lo hi lo1 hi1 : Nat} [hp : PresP lo hi w vp p] [hx : Ints lo1 hi1 w vx qs] :
    Calls Try.prog 83 #[vp, vx] w (Ret fun v w' => v = .int .i64 (hallP p.ord qs) ∧ Ext w w') := by
  have hn6 := hv.n6
  have hol : p.ord.length = p.n := rfl
  have hnd := hs.2.nodup
  obtain ⟨g, vo, vpw, vc, ps, cs, css, rfl, hg1, hg2, hc0, hc1, hc2, h1, h2, h3⟩ := hp.ex
  refine enter (args := [.pointer (some ⟨g, 0, none⟩), vx]) (l := [.tmp 4]) Try.func83 rfl rfl Try.ntmps83 (by simp) ?_
  refine go ?_
  refine r_for p.n (fun k ρ w' => Has ρ [(1, vx), (5, .int .i64 (hallP (p.ord.take k) qs)), (11, vo), (12, .int .i64 p.n), (13, .int .i64 k)] ∧ Ext w w') ?_ ?_
  · refine ⟨?_, Ext.refl _⟩
    rw [List.take_zero, hallP_nil]
    exact hasP
  rintro k ρ w2 hk ⟨hH, he2⟩
  refine rwp_has hH fun ρ0 => ?_
  have hb : ∀ j, j ≤ p.n → 1 ≤ hallP (p.ord.take j) qs ∧ hallP (p.ord.take j) qs ≤ 117649 := fun j hj => by
    have h := hallP_rng hnd (fun i hi => hv.prime i hi) j hj
    exact ⟨h.1, Int.le_trans h.2 (ipow7_le _ (by omega))⟩
  refine go ?_
  refine c_if (fun h4 => ?_) (fun h4 => ?_)
  · have hkn : k < p.n := by omega
    have hbk := hb k (by omega)
    have ho := hv.opos hkn
    have hok : p.o k = p.ord.getD k 0 := rfl
    have hok2 : p.ord.getD k 0 = p.ord[k]'(by omega) := by simp [show k < p.ord.length by omega]
    have hst : hallP (p.ord.take (k + 1)) qs = hallP (p.ord.take k ++ [p.ord.getD k 0]) qs := by
      rw [List.take_succ_eq_append_getElem (show k < p.ord.length by omega), hok2]
    have hm1 := Int.mul_le_mul_of_nonneg_left (show p.ord.getD k 0 ≤ 7 by omega) (show 0 ≤ hallP (p.ord.take k) qs by omega)
    have hm0 : 0 ≤ hallP (p.ord.take k) qs * p.ord.getD k 0 := Int.mul_nonneg (by omega) (by omega)
    refine go ?_
    refine rc (sliceContains64_ok (xs := qs) (k := p.ord.getD k 0) hq) (next := fun v5 w5 h5 => ?_)
    obtain ⟨b5, rfl, hb5, he5⟩ := h5
    refine go ?_
    refine c_b (fun h6 => ?_) (fun h6 => ?_)
    · rw [hallP_hit qs hnd (hb5.1 h6)] at hst
      refine go ?_
      refine ra (h := rd_mul (by ((try simp only [ev_tmp, ev_const, ev_func, get_put, get_args, get_putL, get_putL_nil, Nat.reduceEqDiff, reduceIte, List.getD_cons_zero, List.getD_cons_succ, List.getD_nil]); first | done | with_reducible rfl)) (by ((try simp only [ev_tmp, ev_const, ev_func, get_put, get_args, get_putL, get_putL_nil, Nat.reduceEqDiff, reduceIte, List.getD_cons_zero, List.getD_cons_succ, List.getD_nil]); first | done | with_reducible rfl)) (by omega)) (next := ?_)
      refine go ?_
      refine forQ_normal (by omega) ⟨?_, he2.trans he5⟩
      rw [hst]
      exact hasP
    · rw [hallP_miss qs (fun h => by rw [hb5.2 h] at h6; cases h6)] at hst
      refine go ?_
      refine forQ_normal (by omega) ⟨?_, he2.trans he5⟩
      rw [hst]
      exact hasP
  · refine go ?_
    obtain rfl : k = p.n := by omega
    refine ret1 ⟨?_, he2⟩
    rw [show p.ord.take p.n = p.ord from List.take_length]
set_option maxHeartbeats 2000000 in
theorem impl_IsHallSubgroup_ok {p : Pr} {w : World} {vp vu vx : Value} {us : List Value} {xss : List (List Int)} {xs : List Int} {lo hi lo1 hi1 lo2 hi2 : Nat} [hp : Pres lo hi w vp p] [hu : Pc.Rows lo1 hi1 w vu us xss] [hx : Ints lo2 hi2 w vx xs] (hl : p.ord.length ≤ 2000000) (hxl : xs.length ≤ 2000000) :
    Calls Try.prog 42 #[vp, vu, vx] w (Ret fun v w' => ∃ (k : Bool) (e : Int), v = .tuple #[.bool k, .int .i64 e] ∧ Ans (IsSubP p xss) (HsV p xss xs) false k e ∧ Ext w w') := by
  replace hu := hu.wide
  replace hx := hx.wide
  obtain ⟨vo, vpw, vc, ps, cs, css, rfl, h1, h2, h3⟩ := hp.ex
  refine enter (args := [.agg #[vo, vpw, vc], vu, vx]) (l := [.tmp 6, .tmp 7]) Try.func42 rfl rfl Try.ntmps42 (by simp) ?_
  refine go ?_
  refine st_box3 (by ((try simp only [ev_tmp, ev_const, ev_func, get_put, get_args, get_putL, get_putL_nil, Nat.reduceEqDiff, reduceIte, List.getD_cons_zero, List.getD_cons_succ, List.getD_nil]); first | done | with_reducible rfl)) (by first | exact True.intro | exact ⟨_, rfl, by ((try simp only [ev_tmp, ev_const, ev_func, get_put, get_args, get_putL, get_putL_nil, Nat.reduceEqDiff, reduceIte, List.getD_cons_zero, List.getD_cons_succ, List.getD_nil, Bool.not_true, Bool.not_false]); first | done | with_reducible rfl)⟩) fun w1 b he1 hb1 hs1 hc0 hc1 hc2 => ?_
  have hpp := hp.boxed he1 hc0 hc1 hc2
  refine go ?_
  refine st_slice1 (u := vu) (by ((try simp only [ev_tmp, ev_const, ev_func, get_put, get_args, get_putL, get_putL_nil, Nat.reduceEqDiff, reduceIte, List.getD_cons_zero, List.getD_cons_succ, List.getD_nil]); first | done | with_reducible rfl)) ?_ ?_ (by first | exact True.intro | exact ⟨_, rfl, by ((try simp only [ev_tmp, ev_const, ev_func, get_put, get_args, get_putL, get_putL_nil, Nat.reduceEqDiff, reduceIte, List.getD_cons_zero, List.getD_cons_succ, List.getD_nil, Bool.not_true, Bool.not_false]); first | done | with_reducible rfl)⟩) fun w2 v2 he2 hs2 ho2 => ?_
  · exact hu.sl.cells
  · rfl
  have hE2 := he1.trans he2
  have hR := rowss_one (xss := xss) ho2 inferInstance
  refine go ?_
  refine rc (areSubgroups_ok (p := p) (xsss := [xss]) hl (by simp)) (next := fun v5 w5 h5 => ?_)
  obtain ⟨b5, rfl, hb5, he5⟩ := h5
  rw [areSub1] at hb5
  have hE5 := hE2.trans he5
  refine go ?_
  refine c_b (fun e5 => ?_) (fun e5 => ?_)
  · refine go ?_
    refine ret2 ⟨false, 1, rfl, .inr ⟨fun h => ?_, rfl, rfl⟩, hE5⟩
    rw [hb5.2 h] at e5; cases e5
  have hS := hb5.1 (by simpa using e5)
  obtain ⟨hG, hq⟩ := hS
  haveI : ConAll p := ⟨hG.con⟩
  have hv := hG.valid
  have hn6 := hv.n6
  obtain ⟨ys, hys, hse⟩ := isSeq_iff.1 hq
  have hyl := hse.len
  have hE6 := hE5
  have hoy := ordOf_pos' hse
  refine go ?_
  refine rc (isPrimeSet_ok (qs := xs)) (next := fun v6 w6 h6 => ?_)
  obtain ⟨b6, rfl, hb6, he6⟩ := h6
  have hE7 := hE6.trans he6
  refine go ?_
  refine c_b (fun e6 => ?_) (fun e6 => ?_)
  · refine go ?_
    refine ret2 ⟨false, 2, rfl, .inl ⟨⟨hG, hq⟩, .inl ⟨fun h => ?_, rfl, rfl⟩⟩, hE7⟩
    rw [hb6.2 h] at e6; cases e6
  have hP := hb6.1 (by simpa using e6)
  refine go ?_
  refine rc (sizeOf_ok (p := p) hse hys) (next := fun v8 w8 h8 => ?_)
  obtain ⟨rfl, he8⟩ := h8
  refine go ?_
  refine rc (hallOrder_ok (p := p) hv hP hxl) (next := fun v9 w9 h9 => ?_)
  obtain ⟨rfl, he9⟩ := h9
  refine go ?_
  exact ret2 ⟨_, 0, rfl, .inl ⟨⟨hG, hq⟩, .inr ⟨hP, ⟨inferInstance, ys, hys, decide_eq_true_iff⟩, rfl⟩⟩, (hE7.trans he8).trans he9⟩
end Go.Proofs.Ytgomfjhhfmhlgaa
