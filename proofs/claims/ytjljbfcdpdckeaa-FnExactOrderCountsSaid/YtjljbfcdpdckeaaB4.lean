/-
  Texts of one proof, put together by program: L02, L03, L04, L05, SpqS, Hoa, Ser2, L06, Stk, Hms, Tup, Hmi, Srt, Cls3, W14, W15, W16b, W17, W18, W20, W23, W27, W48, W50, Fun, Cat, I03, I08d, I08e, I12e, I14, I16, I19, I15, I13, I17, I18, I20, I23, I24, Map, Cnt, Shl2, I53, Open.
  Conditions: those told at each part.
-/
import Derived.Test.YtjljbfcdpdckeaaB3
import Derived.Shelf.SlSortCmp.Whole1
import Derived.Lib.AppendZeros
import Derived.Maps.OwnSet
import Derived.Lib.SlKeysI
import Derived.Test.YtjljbfcdpdckeaaProg
import Derived.Shelf.SlIterI.Sorted
import Derived.Shelf.SortM.Plain
import Derived.Shelf.SortM.SortNone
import Derived.Deep.Slices
set_option linter.unusedVariables false
set_option linter.unusedSimpArgs false
set_option linter.unusedSectionVars false
set_option linter.constructorNameAsVariable false
set_option linter.unnecessarySimpa false
set_option linter.deprecated false
/-
  Walks: the statement's own helpers on presentations: sizes, copies, comparisons (toInt64SSS, szPresentation, toPresentation, eqInt64SSS, eqPresentation).
  Conditions: stated at each theorem.
-/
namespace Go.Proofs.Ytjljbfcdpdckeaa
open Go Go.Pc
set_option maxHeartbeats 1000000 in
theorem toInt64SSS_ok {w : World} {v : Value} {us : List Value} {uss : List (List Value)} {xsss : List (List (List Int))} {lo hi : Nat} [hx : Rowss lo hi w v us uss xsss] (hl : xsss.length ≤ 2000000) (hr : ∀ i, (xsss.getD i []).length ≤ 2000000 ∧ ∀ j, ((xsss.getD i []).getD j []).length ≤ 2000000) :
    Calls Try.prog 64 #[v] w (Ret fun v' w' => Ext w w' ∧ ∃ us' uss', Rowss w.heap.size w'.heap.size w' v' us' uss' xsss) := by
  refine enter (args := [v]) (l := [.tmp 2]) Try.func64 rfl rfl Try.ntmps64 (by simp) ?_
  refine go ?_
  refine st_make_nil (by ((try simp only [ev_tmp, ev_const, ev_func, get_put, get_args, get_putL, get_putL_nil, Nat.reduceEqDiff, reduceIte, List.getD_cons_zero, List.getD_cons_succ, List.getD_nil]); first | done | with_reducible rfl)) (by ((try simp only [ev_tmp, ev_const, ev_func, get_put, get_args, get_putL, get_putL_nil, Nat.reduceEqDiff, reduceIte, List.getD_cons_zero, List.getD_cons_succ, List.getD_nil]); first | done | with_reducible rfl)) (by omega) (by omega) (by first | exact True.intro | exact ⟨_, rfl, by ((try simp only [ev_tmp, ev_const, ev_func, get_put, get_args, get_putL, get_putL_nil, Nat.reduceEqDiff, reduceIte, List.getD_cons_zero, List.getD_cons_succ, List.getD_nil, Bool.not_true, Bool.not_false]); first | done | with_reducible rfl)⟩) fun w1 v1 he1 hs1 ho1 => ?_
  refine go ?_
  refine r_for xsss.length (fun k ρ w' => ∃ (us' : List Value) (uss' : List (List Value)) (ysss : List (List (List Int))), Has ρ [(0, v), (3, v1), (4, .int .i64 k)] ∧ Ext w w' ∧ Own 23 w.heap.size w' v1 us' ∧ us'.length = xsss.length ∧ uss'.length = xsss.length ∧ ysss.length = xsss.length ∧
    (∀ i, Pc.Rows (w.heap.size + 1) w'.heap.size w' (us'.getD i nilv) (uss'.getD i []) (ysss.getD i [])) ∧ ∀ i, i < k → ysss.getD i [] = xsss.getD i []) ?_ ?_
  · refine ⟨_, List.replicate xsss.length [], List.replicate xsss.length [], ?_, he1, ho1, by simp, by simp, by simp, fun i => ?_, fun i hi => by omega⟩
    · exact hasP
    · have e1 : (List.replicate xsss.length nilv).getD i nilv = nilv := by
        rw [List.getD_eq_getElem?_getD, List.getElem?_replicate]; split <;> rfl
      have e2 : (List.replicate xsss.length ([] : List Value)).getD i [] = [] := by
        rw [List.getD_eq_getElem?_getD, List.getElem?_replicate]; split <;> rfl
      have e3 : (List.replicate xsss.length ([] : List (List Int))).getD i [] = [] := by
        rw [List.getD_eq_getElem?_getD, List.getElem?_replicate]; split <;> rfl
      rw [e1, e2, e3]
      refine ⟨⟨⟨none, 0, rfl, Nat.le_refl _, by omega, fun k u hu => by simp at hu⟩⟩, rfl, fun i => ?_⟩
      exact ⟨⟨none, 0, by simp, by simp, by omega, fun k u hu => by simp at hu⟩⟩
  clear ho1
  rintro k ρ w2 hk ⟨us', uss', ysss, hH, he2, ho2, hl1, hl2, hl3, hR, hI⟩
  refine rwp_has hH fun ρ0 => ?_
  have hsl := ho2.toSl
  refine go ?_
  refine c_if (fun h4 => ?_) (fun h4 => ?_)
  · refine go ?_
    refine rc (toInt64SS_ok (xss := xsss.getD k []) (hr k).1 (hr k).2) (next := fun v3 w3 h3 => ?_)
    obtain ⟨he3, us3, hL3⟩ := h3
    have hN3 := hL3.newRows
    have ho3 : Own 23 w.heap.size w3 v1 us' := Own.ext (h := ho2)
    have hsl3 := ho3.toSl
    have hlen3 := hsl3.toLen
    have hz2 := he2.size
    have hz3 := he3.size
    have hol := ho2.lt
    refine go ?_
    refine st_store_val (h := ho3) (by ((try simp only [ev_tmp, ev_const, ev_func, get_put, get_args, get_putL, get_putL_nil, Nat.reduceEqDiff, reduceIte, List.getD_cons_zero, List.getD_cons_succ, List.getD_nil]); first | done | with_reducible rfl)) (by ((try simp only [ev_tmp, ev_const, ev_func, get_put, get_args, get_putL, get_putL_nil, Nat.reduceEqDiff, reduceIte, List.getD_cons_zero, List.getD_cons_succ, List.getD_nil]); first | done | with_reducible rfl)) ?_ ?_ (by first | exact True.intro | exact ⟨_, rfl, by ((try simp only [ev_tmp, ev_const, ev_func, get_put, get_args, get_putL, get_putL_nil, Nat.reduceEqDiff, reduceIte, List.getD_cons_zero, List.getD_cons_succ, List.getD_nil, Bool.not_true, Bool.not_false]); first | done | with_reducible rfl)⟩) fun w4 hc4 hs4 ho4 => ?_
    · exact hN3.sl.one
    · omega
    refine go ?_
    refine forQ_normal (by omega) ⟨us'.set k v3, uss'.set k us3, ysss.set k (xsss.getD k []), ?_, hc4.ext (he2.trans he3) (Nat.le_refl _), ho4, by simp [hl1], by simp [hl2], by simp [hl3], fun i => ?_, fun i hi => ?_⟩
    · exact hasP
    · by_cases e : k = i
      · subst e
        have e1 : (us'.set k v3).getD k nilv = v3 := by simp [show k < us'.length by omega]
        have e2 : (uss'.set k us3).getD k [] = us3 := by simp [show k < uss'.length by omega]
        have e3 : (ysss.set k (xsss.getD k [])).getD k [] = xsss.getD k [] := by simp [show k < ysss.length by omega]
        rw [e1, e2, e3]
        exact (hN3.same (hc4.same (.inl (by omega)))).mono (by omega) (by omega)
      · have e1 : (us'.set k v3).getD i nilv = us'.getD i nilv := by simp [List.getElem?_set_ne e]
        have e2 : (uss'.set k us3).getD i [] = uss'.getD i [] := by simp [List.getElem?_set_ne e]
        have e3 : (ysss.set k (xsss.getD k [])).getD i [] = ysss.getD i [] := by simp [List.getElem?_set_ne e]
        rw [e1, e2, e3]
        exact (((hR i).same (he3.same _ _)).same (hc4.same (.inl (by omega)))).mono (Nat.le_refl _) (by omega)
    · by_cases e : k = i
      · subst e; simp [show k < ysss.length by omega]
      · have : (ysss.set k (xsss.getD k [])).getD i [] = ysss.getD i [] := by simp [List.getElem?_set_ne e]
        rw [this]; exact hI i (by omega)
  · refine go ?_
    refine ret1 ⟨he2, us', uss', ?_⟩
    have hy : ysss = xsss := by
      apply List.ext_getElem hl3
      intro i h1 h2
      have := hI i (by omega)
      simpa [h1, h2] using this
    subst hy
    exact ⟨hsl.mono (Nat.le_refl _) (by have := ho2.lt; omega), hl1, hl2, fun i => (hR i).mono (by omega) (Nat.le_refl _)⟩
theorem rowss_mono {lo hi lo' hi' : Nat} {w : World} {v : Value} {us : List Value} {uss : List (List Value)} {xsss : List (List (List Int))} (h : Rowss lo hi w v us uss xsss) (h1 : lo' ≤ lo) (h2 : hi ≤ hi') : Rowss lo' hi' w v us uss xsss :=
  ⟨h.sl.mono h1 h2, h.vals.len, h.vals.len', fun i => (h.vals.at_ i).mono h1 h2⟩
/-- The sizes of a presentation, none above k. -/
structure SizeP (p : Pr) (k : Int) : Prop where
  ord : (p.ord.length : Int) ≤ k
  pow : (p.pow.length : Int) ≤ k
  powi : ∀ i, ((p.pow.getD i []).length : Int) ≤ k
  cnj : (p.cnj.length : Int) ≤ k
  cnji : ∀ i, ((p.cnj.getD i []).length : Int) ≤ k
  cnjij : ∀ i j, (((p.cnj.getD i []).getD j []).length : Int) ≤ k
set_option maxHeartbeats 1000000 in
theorem szPresentation_ok {w : World} {v : Value} {p : Pr} {k : Int} {lo hi : Nat} [hp : Pres lo hi w v p] (hk : 0 ≤ k ∧ k ≤ 2000000) :
    Calls Try.prog 11 #[v, .int .i64 k] w (Ret fun v w' => ∃ j : Int, v = .int .i64 j ∧ (j < 0 ∨ 0 ≤ j ∧ j ≤ k ∧ SizeP p k) ∧ Ext w w') := by
  obtain ⟨vo, vpw, vc, ps, cs, css, rfl, h1, h2, h3⟩ := hp.ex
  refine enter (args := [.agg #[vo, vpw, vc], .int .i64 k]) (l := [.tmp 4]) Try.func11 rfl rfl Try.ntmps11 (by simp) ?_
  refine go ?_
  refine st_box3 (by ((try simp only [ev_tmp, ev_const, ev_func, get_put, get_args, get_putL, get_putL_nil, Nat.reduceEqDiff, reduceIte, List.getD_cons_zero, List.getD_cons_succ, List.getD_nil]); first | done | with_reducible rfl)) (by first | exact True.intro | exact ⟨_, rfl, by ((try simp only [ev_tmp, ev_const, ev_func, get_put, get_args, get_putL, get_putL_nil, Nat.reduceEqDiff, reduceIte, List.getD_cons_zero, List.getD_cons_succ, List.getD_nil, Bool.not_true, Bool.not_false]); first | done | with_reducible rfl)⟩) fun w1 b he1 hb1 hs1 hc0 hc1 hc2 => ?_
  refine go ?_
  refine rc (szInt64S_ok (xs := p.ord) hk) (next := fun v2 w2 h4 => ?_)
  obtain ⟨j2, rfl, hj2, he2⟩ := h4
  refine go ?_
  refine c_if (fun h5 => ?_) (fun h5 => ?_)
  · refine go ?_
    exact ret1 ⟨-1, rfl, .inl (by omega), he1.trans he2⟩
  have h6 : 0 ≤ j2 ∧ j2 ≤ k ∧ (p.ord.length : Int) ≤ k := by
    rcases hj2 with h | h
    · omega
    · exact h
  refine go ?_
  refine rc (szInt64SS_ok (xss := p.pow) (k := j2) ?_) (next := fun v3 w3 h7 => ?_)
  · omega
  obtain ⟨j3, rfl, hj3, he3⟩ := h7
  refine go ?_
  refine c_if (fun h8 => ?_) (fun h8 => ?_)
  · refine go ?_
    exact ret1 ⟨-1, rfl, .inl (by omega), (he1.trans he2).trans he3⟩
  have h9 : 0 ≤ j3 ∧ j3 ≤ j2 ∧ (p.pow.length : Int) ≤ j2 ∧ ∀ i, ((p.pow.getD i []).length : Int) ≤ j2 := by
    rcases hj3 with h | h
    · omega
    · exact h
  refine go ?_
  refine rc (szInt64SSS_ok (xsss := p.cnj) (k := j3) ?_) (next := fun v4 w4 h10 => ?_)
  · omega
  obtain ⟨j4, rfl, hj4, he4⟩ := h10
  refine go ?_
  refine c_if (fun h11 => ?_) (fun h11 => ?_)
  · refine go ?_
    exact ret1 ⟨-1, rfl, .inl (by omega), ((he1.trans he2).trans he3).trans he4⟩
  have h12 : 0 ≤ j4 ∧ j4 ≤ j3 ∧ (p.cnj.length : Int) ≤ j3 ∧ ∀ i, ((p.cnj.getD i []).length : Int) ≤ j3 ∧ ∀ h, (((p.cnj.getD i []).getD h []).length : Int) ≤ j3 := by
    rcases hj4 with h | h
    · omega
    · exact h
  refine go ?_
  refine ret1 ⟨j4, rfl, .inr ⟨h12.1, by omega, ⟨h6.2.2, by omega, fun i => by have := h9.2.2.2 i; omega, by omega, fun i => by have := (h12.2.2.2 i).1; omega, fun i j => by have := (h12.2.2.2 i).2 j; omega⟩⟩, ((he1.trans he2).trans he3).trans he4⟩
set_option maxHeartbeats 1000000 in
theorem toPresentation_ok {w : World} {v : Value} {p : Pr} {lo hi : Nat} [hp : Pres lo hi w v p] (hs : SizeP p 2000000) :
    Calls Try.prog 13 #[v] w (Ret fun v w' => Ext w w' ∧ Pres w.heap.size w'.heap.size w' v p) := by
  have hs1 := hs.ord
  have hs2 := hs.pow
  have hs3 := hs.cnj
  obtain ⟨vo, vpw, vc, ps, cs, css, rfl, h1, h2, h3⟩ := hp.ex
  refine enter (args := [.agg #[vo, vpw, vc]]) (l := [.cell 2 30]) Try.func13 rfl rfl Try.ntmps13 (by simp) ?_
  refine go ?_
  refine st_box3 (by ((try simp only [ev_tmp, ev_const, ev_func, get_put, get_args, get_putL, get_putL_nil, Nat.reduceEqDiff, reduceIte, List.getD_cons_zero, List.getD_cons_succ, List.getD_nil]); first | done | with_reducible rfl)) (by first | exact True.intro | exact ⟨_, rfl, by ((try simp only [ev_tmp, ev_const, ev_func, get_put, get_args, get_putL, get_putL_nil, Nat.reduceEqDiff, reduceIte, List.getD_cons_zero, List.getD_cons_succ, List.getD_nil, Bool.not_true, Bool.not_false]); first | done | with_reducible rfl)⟩) fun w1 b he1 hb1 hsz1 hc0 hc1 hc2 => ?_
  refine go ?_
  refine st_alloc (by first | exact True.intro | exact ⟨_, rfl, by ((try simp only [ev_tmp, ev_const, ev_func, get_put, get_args, get_putL, get_putL_nil, Nat.reduceEqDiff, reduceIte, List.getD_cons_zero, List.getD_cons_succ, List.getD_nil, Bool.not_true, Bool.not_false]); first | done | with_reducible rfl)⟩) fun w2 br he2 hbr hsz2 hbk2 => ?_
  refine go ?_
  refine st_alloc (by first | exact True.intro | exact ⟨_, rfl, by ((try simp only [ev_tmp, ev_const, ev_func, get_put, get_args, get_putL, get_putL_nil, Nat.reduceEqDiff, reduceIte, List.getD_cons_zero, List.getD_cons_succ, List.getD_nil, Bool.not_true, Bool.not_false]); first | done | with_reducible rfl)⟩) fun w3 bo he3 hbo hsz3 hbk3 => ?_
  have hE3 := (he1.trans he2).trans he3
  refine go ?_
  refine rc (toInt64S_ok (xs := p.ord) (by omega)) (next := fun v4 w4 h4 => ?_)
  obtain ⟨he4, hf4⟩ := h4
  have hb4 : Blk w4 bo _ := Blk.ext (h := hbk3)
  have hz4 := he4.size
  refine go ?_
  refine st_store_fld (h := hb4) (by ((try simp only [ev_tmp, ev_const, ev_func, get_put, get_args, get_putL, get_putL_nil, Nat.reduceEqDiff, reduceIte, List.getD_cons_zero, List.getD_cons_succ, List.getD_nil]); first | done | with_reducible rfl)) (by ((try simp only [ev_tmp, ev_const, ev_func, get_put, get_args, get_putL, get_putL_nil, Nat.reduceEqDiff, reduceIte, List.getD_cons_zero, List.getD_cons_succ, List.getD_nil]); first | done | with_reducible rfl)) ?_ ?_ (by first | exact True.intro | exact ⟨_, rfl, by ((try simp only [ev_tmp, ev_const, ev_func, get_put, get_args, get_putL, get_putL_nil, Nat.reduceEqDiff, reduceIte, List.getD_cons_zero, List.getD_cons_succ, List.getD_nil, Bool.not_true, Bool.not_false]); first | done | with_reducible rfl)⟩) fun w5 hc5 hs5 hb5 => ?_
  · exact hf4.ints.sl.one
  · simp
  have hE15 : Ext w1 w5 := hc5.ext ((he2.trans he3).trans he4) (by have := he2.size; omega)
  have hz15 := hE15.size
  have hz2 := he2.size
  have hi5 : Ints w3.heap.size w4.heap.size w5 v4 p.ord := hf4.ints.same (hc5.same (.inl (by omega)))
  have hr5 : Blk w5 br _ := (Blk.ext (x := he3.trans he4) (h := hbk2)).chg' hc5 (by omega)
  refine go ?_
  refine rc (toInt64SS_ok (xss := p.pow) (by omega) (fun i => by have := hs.powi i; omega)) (next := fun v6 w6 h6 => ?_)
  obtain ⟨he6, us6, hL6⟩ := h6
  have hN6 := hL6.newRows
  have hb6 : Blk w6 bo _ := Blk.ext (h := hb5)
  have hz6 := he6.size
  refine go ?_
  refine st_store_fld (h := hb6) (by ((try simp only [ev_tmp, ev_const, ev_func, get_put, get_args, get_putL, get_putL_nil, Nat.reduceEqDiff, reduceIte, List.getD_cons_zero, List.getD_cons_succ, List.getD_nil]); first | done | with_reducible rfl)) (by ((try simp only [ev_tmp, ev_const, ev_func, get_put, get_args, get_putL, get_putL_nil, Nat.reduceEqDiff, reduceIte, List.getD_cons_zero, List.getD_cons_succ, List.getD_nil]); first | done | with_reducible rfl)) ?_ ?_ (by first | exact True.intro | exact ⟨_, rfl, by ((try simp only [ev_tmp, ev_const, ev_func, get_put, get_args, get_putL, get_putL_nil, Nat.reduceEqDiff, reduceIte, List.getD_cons_zero, List.getD_cons_succ, List.getD_nil, Bool.not_true, Bool.not_false]); first | done | with_reducible rfl)⟩) fun w7 hc7 hs7 hb7 => ?_
  · exact hN6.sl.one
  · simp
  have hE17 : Ext w1 w7 := hc7.ext (hE15.trans he6) (by omega)
  have hi7 : Ints w3.heap.size w4.heap.size w7 v4 p.ord := (hi5.same (he6.same _ _)).same (hc7.same (.inl (by omega)))
  have hp7 : Pc.Rows w5.heap.size w6.heap.size w7 v6 us6 p.pow := hN6.same (hc7.same (.inl (by omega)))
  have hr7 : Blk w7 br _ := (Blk.ext (x := he6) (h := hr5)).chg' hc7 (by omega)
  refine go ?_
  refine rc (toInt64SSS_ok (xsss := p.cnj) (by omega) (fun i => ⟨by have := hs.cnji i; omega, fun j => by have := hs.cnjij i j; omega⟩)) (next := fun v8 w8 h8 => ?_)
  obtain ⟨he8, us8, uss8, hR8⟩ := h8
  have hb8 : Blk w8 bo _ := Blk.ext (h := hb7)
  have hz8 := he8.size
  refine go ?_
  refine st_store_fld (h := hb8) (by ((try simp only [ev_tmp, ev_const, ev_func, get_put, get_args, get_putL, get_putL_nil, Nat.reduceEqDiff, reduceIte, List.getD_cons_zero, List.getD_cons_succ, List.getD_nil]); first | done | with_reducible rfl)) (by ((try simp only [ev_tmp, ev_const, ev_func, get_put, get_args, get_putL, get_putL_nil, Nat.reduceEqDiff, reduceIte, List.getD_cons_zero, List.getD_cons_succ, List.getD_nil]); first | done | with_reducible rfl)) ?_ ?_ (by first | exact True.intro | exact ⟨_, rfl, by ((try simp only [ev_tmp, ev_const, ev_func, get_put, get_args, get_putL, get_putL_nil, Nat.reduceEqDiff, reduceIte, List.getD_cons_zero, List.getD_cons_succ, List.getD_nil, Bool.not_true, Bool.not_false]); first | done | with_reducible rfl)⟩) fun w9 hc9 hs9 hb9 => ?_
  · exact hR8.sl.one
  · simp
  have hE19 : Ext w1 w9 := hc9.ext (hE17.trans he8) (by omega)
  have hi9 : Ints w3.heap.size w4.heap.size w9 v4 p.ord := (hi7.same (he8.same _ _)).same (hc9.same (.inl (by omega)))
  have hp9 : Pc.Rows w5.heap.size w6.heap.size w9 v6 us6 p.pow := (hp7.same (he8.same _ _)).same (hc9.same (.inl (by omega)))
  have hq9 : Rowss w7.heap.size w8.heap.size w9 v8 us8 uss8 p.cnj := hR8.same (hc9.same (.inl (by omega)))
  have hr9 : Blk w9 br _ := (Blk.ext (x := he8) (h := hr7)).chg' hc9 (by omega)
  refine go ?_
  have hb9' : Blk w9 bo [v4, v6, v8] := hb9
  refine ra (v := .agg #[v4, v6, v8]) (h := rd_load_blk (hb := hb9') (by ((try simp only [ev_tmp, ev_const, ev_func, get_put, get_args, get_putL, get_putL_nil, Nat.reduceEqDiff, reduceIte, List.getD_cons_zero, List.getD_cons_succ, List.getD_nil]); first | done | with_reducible rfl)) rfl) (next := ?_)
  refine st_store_agg (vs := [v4, v6, v8]) (cs := _) (hb := hr9) (by ((try simp only [ev_tmp, ev_const, ev_func, get_put, get_args, get_putL, get_putL_nil, Nat.reduceEqDiff, reduceIte, List.getD_cons_zero, List.getD_cons_succ, List.getD_nil]); first | done | with_reducible rfl)) (by ((try simp only [ev_tmp, ev_const, ev_func, get_put, get_args, get_putL, get_putL_nil, Nat.reduceEqDiff, reduceIte, List.getD_cons_zero, List.getD_cons_succ, List.getD_nil]); first | done | with_reducible rfl)) rfl ?_ ?_ (by first | exact True.intro | exact ⟨_, rfl, by ((try simp only [ev_tmp, ev_const, ev_func, get_put, get_args, get_putL, get_putL_nil, Nat.reduceEqDiff, reduceIte, List.getD_cons_zero, List.getD_cons_succ, List.getD_nil, Bool.not_true, Bool.not_false]); first | done | with_reducible rfl)⟩) fun w10 hc10 hs10 hb10 => ?_
  · rfl
  · have e1 := hi9.sl.one
    have e2 := hp9.sl.one
    have e3 := hq9.sl.one
    simp [e1, e2, e3]
  refine go ?_
  refine retc (b := br) (hb := hb10) ⟨hc10.ext (he1.trans hE19) (by omega), ?_⟩ rfl
  have hi10 := (hi9.same (hc10.same (.inl (by omega)))).mono (lo' := w.heap.size) (hi' := w10.heap.size) (by omega) (by omega)
  have hp10 := (hp9.same (hc10.same (.inl (by omega)))).mono (lo' := w.heap.size) (hi' := w10.heap.size) (by omega) (by omega)
  have hq10 := rowss_mono (lo' := w.heap.size) (hi' := w10.heap.size) (hq9.same (hc10.same (.inl (by omega)))) (by omega) (by omega)
  exact ⟨⟨v4, v6, v8, us6, us8, uss8, rfl, hi10, hp10, hq10⟩⟩
set_option maxHeartbeats 1000000 in
theorem eqInt64SSS_ok {w : World} {va vb : Value} {us vs : List Value} {uss vss : List (List Value)} {xsss ysss : List (List (List Int))} {lo hi lo1 hi1 : Nat} [hx : Rowss lo hi w va us uss xsss] [hy : Rowss lo1 hi1 w vb vs vss ysss] (hm : ∀ i, (xsss.getD i []).length ≤ 2000000 ∧ ∀ j, ((xsss.getD i []).getD j []).length ≤ 2000000) (hl : xsss.length ≤ 10000000) :
    Calls Try.prog 68 #[va, vb] w (Ret fun v w' => ∃ b, v = .bool b ∧ (b = true ↔ xsss = ysss) ∧ Ext w w') := by
  have hul := hx.vals.len
  have hvl := hy.vals.len
  refine enter (args := [va, vb]) (l := [.tmp 4]) Try.func68 rfl rfl Try.ntmps68 (by simp) ?_
  refine go ?_
  refine c_if (fun h1 => ?_) (fun h1 => ?_)
  · refine go ?_
    refine ret1 ⟨_, rfl, ?_, Ext.refl _⟩
    simp only [Bool.false_eq_true, false_iff]
    rintro rfl
    omega
  · have hxy : xsss.length = ysss.length := by omega
    refine go ?_
    refine r_for xsss.length (fun k ρ w' => Has ρ [(0, va), (1, vb), (5, .int .i64 k)] ∧ Ext w w' ∧ ∀ i, i < k → xsss.getD i [] = ysss.getD i []) ?_ ?_
    · refine ⟨?_, Ext.refl _, fun i hi => by omega⟩
      exact hasP
    rintro k ρ w1 hk ⟨hH, he1, hI⟩
    refine rwp_has hH fun ρ0 => ?_
    refine go ?_
    refine c_if (fun h4 => ?_) (fun h4 => ?_)
    · refine go ?_
      refine d_region fun w2 he2 _ => ?_
      refine dgo ?_
      refine dce (eqInt64SS_ok (xss := xsss.getD k []) (yss := ysss.getD k []) (hm k).2 (by have := (hm k).1; omega)) (next := fun v3 w3 h3 => ?_)
      obtain ⟨b3, rfl, hb3, he3⟩ := h3
      refine dgo ?_
      refine d_end (h := ?_)
      refine go ?_
      refine c_b (fun h5 => ?_) (fun h5 => ?_)
      · refine go ?_
        refine ret1 ⟨_, rfl, ?_, (he1.trans he2).trans he3⟩
        simp only [Bool.false_eq_true, false_iff]
        rintro rfl
        have := hb3.2 rfl
        rw [this] at h5; cases h5
      · have h6 := hb3.1 (by simpa using h5)
        refine go ?_
        refine forQ_normal (by omega) ⟨?_, (he1.trans he2).trans he3, fun i hi => ?_⟩
        · exact hasP
        · by_cases e : i = k
          · subst e; exact h6
          · exact hI i (by omega)
    · refine go ?_
      refine ret1 ⟨_, rfl, ?_, he1⟩
      simp only [true_iff]
      apply List.ext_getElem hxy
      intro i h1 h2
      have := hI i (by omega)
      simpa [h1, h2] using this
theorem pr_ext {p q : Pr} (h1 : p.ord = q.ord) (h2 : p.pow = q.pow) (h3 : p.cnj = q.cnj) : p = q := by cases p; cases q; simp_all
set_option maxHeartbeats 1000000 in
theorem eqPresentation_ok {w : World} {va vb : Value} {p q : Pr} {lo hi lo1 hi1 : Nat} [hp : Pres lo hi w va p] [hq : Pres lo1 hi1 w vb q] (hs : SizeP p 2000000) :
    Calls Try.prog 16 #[va, vb] w (Ret fun v w' => ∃ b, v = .bool b ∧ (b = true ↔ p = q) ∧ Ext w w') := by
  have hs1 := hs.ord
  have hs2 := hs.pow
  have hs3 := hs.cnj
  obtain ⟨vo, vpw, vc, ps, cs, css, rfl, h1, h2, h3⟩ := hp.ex
  obtain ⟨vo', vpw', vc', ps', cs', css', rfl, h1', h2', h3'⟩ := hq.ex
  refine enter (args := [.agg #[vo, vpw, vc], .agg #[vo', vpw', vc']]) (l := [.tmp 4]) Try.func16 rfl rfl Try.ntmps16 (by simp) ?_
  refine go ?_
  refine st_box3 (by ((try simp only [ev_tmp, ev_const, ev_func, get_put, get_args, get_putL, get_putL_nil, Nat.reduceEqDiff, reduceIte, List.getD_cons_zero, List.getD_cons_succ, List.getD_nil]); first | done | with_reducible rfl)) (by first | exact True.intro | exact ⟨_, rfl, by ((try simp only [ev_tmp, ev_const, ev_func, get_put, get_args, get_putL, get_putL_nil, Nat.reduceEqDiff, reduceIte, List.getD_cons_zero, List.getD_cons_succ, List.getD_nil, Bool.not_true, Bool.not_false]); first | done | with_reducible rfl)⟩) fun w1 b he1 hb1 hsz1 hc0 hc1 hc2 => ?_
  refine go ?_
  refine st_box3 (by ((try simp only [ev_tmp, ev_const, ev_func, get_put, get_args, get_putL, get_putL_nil, Nat.reduceEqDiff, reduceIte, List.getD_cons_zero, List.getD_cons_succ, List.getD_nil]); first | done | with_reducible rfl)) (by first | exact True.intro | exact ⟨_, rfl, by ((try simp only [ev_tmp, ev_const, ev_func, get_put, get_args, get_putL, get_putL_nil, Nat.reduceEqDiff, reduceIte, List.getD_cons_zero, List.getD_cons_succ, List.getD_nil, Bool.not_true, Bool.not_false]); first | done | with_reducible rfl)⟩) fun w2 b' he2 hb2 hsz2 hc0' hc1' hc2' => ?_
  have hE2 := he1.trans he2
  have no : ∀ {w' : World}, p ≠ q → Ext w w' → ∃ b, Value.bool false = .bool b ∧ (b = true ↔ p = q) ∧ Ext w w' := fun h he => ⟨_, rfl, by simp [h], he⟩
  refine go ?_
  refine rc (eqInt64S_ok (xs := p.ord) (ys := q.ord) (by omega)) (next := fun v3 w3 h4 => ?_)
  obtain ⟨b3, rfl, hb3, he3⟩ := h4
  refine go ?_
  refine c_b (fun h5 => ?_) (fun h5 => ?_)
  · refine go ?_
    refine ret1 (no (fun e => ?_) (hE2.trans he3))
    rw [hb3.2 (by rw [e])] at h5; cases h5
  have e1 := hb3.1 (by simpa using h5)
  refine go ?_
  refine rc (eqInt64SS_ok (xss := p.pow) (yss := q.pow) (fun i => by have := hs.powi i; omega) (by omega)) (next := fun v4 w4 h6 => ?_)
  obtain ⟨b4, rfl, hb4, he4⟩ := h6
  refine go ?_
  refine c_b (fun h7 => ?_) (fun h7 => ?_)
  · refine go ?_
    refine ret1 (no (fun e => ?_) ((hE2.trans he3).trans he4))
    rw [hb4.2 (by rw [e])] at h7; cases h7
  have e2 := hb4.1 (by simpa using h7)
  refine go ?_
  refine rc (eqInt64SSS_ok (xsss := p.cnj) (ysss := q.cnj) (fun i => ⟨by have := hs.cnji i; omega, fun j => by have := hs.cnjij i j; omega⟩) (by omega)) (next := fun v5 w5 h8 => ?_)
  obtain ⟨b5, rfl, hb5, he5⟩ := h8
  refine go ?_
  refine c_b (fun h9 => ?_) (fun h9 => ?_)
  · refine go ?_
    refine ret1 (no (fun e => ?_) (((hE2.trans he3).trans he4).trans he5))
    rw [hb5.2 (by rw [e])] at h9; cases h9
  have e3 := hb5.1 (by simpa using h9)
  refine go ?_
  exact ret1 ⟨_, rfl, ⟨fun _ => pr_ext e1 e2 e3, fun _ => rfl⟩, ((hE2.trans he3).trans he4).trans he5⟩
end Go.Proofs.Ytjljbfcdpdckeaa

/-
  Walks: the statement's own helpers that mark memory and read the marks (markInt64S, markInt64SS, heldInt64S, heldInt64SS).
  Conditions: stated at each theorem.
-/
namespace Go.Proofs.Ytjljbfcdpdckeaa
open Go Go.Pc
set_option maxHeartbeats 1000000 in
theorem markInt64S_ok {s : Nat} {w : World} {v : Value} {xs : List Int} {k : Int} (hf : Fr s w v xs) (hk : 0 ≤ k) (hb : k + xs.length ≤ 9000000000000000000) :
    Calls Try.prog 43 #[v, .int .i64 k] w (Ret fun v' w' => v' = .int .i64 (k + xs.length) ∧ Fr s w' v (marks k xs.length) ∧ Wrt (fun b => xs ≠ [] ∧ v.ownBlock = some b) w w') := by
  by_cases hn : xs = []
  · subst hn
    have hx := hf.ints
    refine enter (args := [v, .int .i64 k]) (l := [.tmp 4]) Try.func43 rfl rfl Try.ntmps43 (by simp) ?_
    refine go ?_
    refine r_for 0 (fun i ρ w' => Has ρ [(0, v), (1, .int .i64 k), (5, .int .i64 i)] ∧ w' = w) ?_ ?_
    · refine ⟨?_, rfl⟩
      exact hasP
    rintro i ρ w2 hi ⟨hH, rfl⟩
    refine rwp_has hH fun ρ0 => ?_
    refine go ?_
    refine c_if (fun h4 => ?_) (fun h4 => ?_)
    · simp at h4; omega
    · refine go ?_
      exact ret1 (v := .int .i64 k) ⟨by simp, hf, .refl _⟩
  obtain ⟨e, b, hsb, ho⟩ := hf.own hn
  have hl := sl_len ho.own.toSl
  simp only [List.length_map] at hl
  refine enter (args := [v, .int .i64 k]) (l := [.tmp 4]) Try.func43 rfl rfl Try.ntmps43 (by simp) ?_
  refine go ?_
  refine r_for xs.length (fun i ρ w' => ∃ ys, Has ρ [(0, v), (1, .int .i64 (k + i)), (5, .int .i64 i)] ∧ Chg b w w' ∧ OwnI e b w' v ys ∧ ys.length = xs.length ∧ ∀ j : Nat, j < i → ys.getD j 0 = k + j) ?_ ?_
  · refine ⟨xs, ?_, Chg.refl _ _, ho, rfl, fun j hj => by omega⟩
    exact hasP
  have hblk := ho.block
  clear ho hf
  rintro i ρ w2 hi ⟨ys, hH, hc2, ho2, hl2, hI⟩
  refine rwp_has hH fun ρ0 => ?_
  refine go ?_
  refine c_if (fun h4 => ?_) (fun h4 => ?_)
  · refine go ?_
    refine st_store_int (by ((try simp only [ev_tmp, ev_const, ev_func, get_put, get_args, get_putL, get_putL_nil, Nat.reduceEqDiff, reduceIte, List.getD_cons_zero, List.getD_cons_succ, List.getD_nil]); first | done | with_reducible rfl)) (by ((try simp only [ev_tmp, ev_const, ev_func, get_put, get_args, get_putL, get_putL_nil, Nat.reduceEqDiff, reduceIte, List.getD_cons_zero, List.getD_cons_succ, List.getD_nil]); first | done | with_reducible rfl)) ?_ (by first | exact True.intro | exact ⟨_, rfl, by ((try simp only [ev_tmp, ev_const, ev_func, get_put, get_args, get_putL, get_putL_nil, Nat.reduceEqDiff, reduceIte, List.getD_cons_zero, List.getD_cons_succ, List.getD_nil, Bool.not_true, Bool.not_false]); first | done | with_reducible rfl)⟩) fun w3 hc3 hs3 ho3 => ?_
    · omega
    refine go ?_
    refine forQ_normal (by omega) ⟨_, ?_, hc2.trans hc3, ho3, by simp [hl2], fun j hj => ?_⟩
    · exact hasP
    · by_cases ee : i = j
      · subst ee; rw [Pc.getD_set_eq _ _ _ (by omega)]
      · rw [Pc.getD_set_ne _ _ _ _ ee]; exact hI j (by omega)
  · refine go ?_
    obtain rfl : i = xs.length := by omega
    have hy : ys = marks k xs.length := list_ext0 (by rw [marks_len]; exact hl2) fun j hj => by rw [hI j (by omega), marks_getD _ (by omega)]
    refine ret1 ⟨rfl, ?_, .one ⟨hn, hblk⟩ hc2⟩
    rw [← hy]
    exact ho2.toFr hsb
set_option maxHeartbeats 1000000 in
theorem heldInt64S_ok {w : World} {v : Value} {k : Int} {n lo hi : Nat} {xs : List Int} [hx : Ints lo hi w v xs] (hxs : xs = marks k n) (hk : 0 ≤ k) (hb : k + n ≤ 9000000000000000000) :
    Calls Try.prog 44 #[v, .int .i64 k] w (Ret fun v' w' => v' = .int .i64 (k + n) ∧ Ext w w') := by
  have hl : xs.length = n := by rw [hxs, marks_len]
  have hg : ∀ i, i < n → xs.getD i 0 = k + i := fun i hi => by rw [hxs, marks_getD _ hi]
  have hm : n ≤ 9223372036854775807 := by have := sl_len hx.sl; simp at this; omega
  refine enter (args := [v, .int .i64 k]) (l := [.tmp 4]) Try.func44 rfl rfl Try.ntmps44 (by simp) ?_
  refine go ?_
  refine r_for n (fun i ρ w' => Has ρ [(0, v), (1, .int .i64 (k + i)), (5, .int .i64 i)] ∧ Ext w w') ?_ ?_
  · refine ⟨?_, Ext.refl _⟩
    exact hasP
  rintro i ρ w2 hi ⟨hH, he2⟩
  refine rwp_has hH fun ρ0 => ?_
  refine go ?_
  refine c_if (fun h4 => ?_) (fun h4 => ?_)
  · have hgi := hg i (by omega)
    refine go ?_
    refine c_if (fun h5 => ?_) (fun h5 => ?_)
    · exact absurd hgi h5
    · refine go ?_
      refine forQ_normal (by omega) ⟨?_, he2⟩
      exact hasP
  · refine go ?_
    obtain rfl : i = n := by omega
    exact ret1 ⟨rfl, he2⟩
set_option maxHeartbeats 2000000 in
theorem markInt64SS_ok {A : Nat → Prop} {s : Nat} {w : World} {v : Value} {k : Int} {pre rs post : List (Value × List Int)} (hO : RowsO s w (pre ++ rs ++ post)) (hS : SpA A w v (rs.map (·.1))) (hA : ∀ b, BlkOf rs b → A b) (hk : 0 ≤ k) (hb : k + tot (rs.map (·.2)) ≤ 9000000000000000000) :
    Calls Try.prog 55 #[v, .int .i64 k] w (Ret fun v' w' => v' = .int .i64 (k + tot (rs.map (·.2))) ∧ RowsO s w' (pre ++ mkR k rs ++ post) ∧ Wrt (BlkOf rs) w w') := by
  have hm := sl_len hS.sl
  simp only [List.length_map] at hm
  have hsl := hS.sl
  have hlen := hsl.toLen
  refine enter (args := [v, .int .i64 k]) (l := [.tmp 4]) Try.func55 rfl rfl Try.ntmps55 (by simp) ?_
  refine go ?_
  refine r_for rs.length (fun i ρ w' => Has ρ [(0, v), (1, .int .i64 (k + tot ((rs.take i).map (·.2)))), (5, .int .i64 i)] ∧ RowsO s w' (pre ++ (mkR k (rs.take i) ++ rs.drop i) ++ post) ∧ Wrt (BlkOf rs) w w') ?_ ?_
  · refine ⟨?_, by simpa [mkR] using hO, .refl _⟩
    simp only [List.take_zero, List.map_nil, tot]
    exact hasP
  clear hO hsl hlen
  rintro i ρ w2 hi ⟨hH, hO2, hW2⟩
  refine rwp_has hH fun ρ0 => ?_
  have hS2 := hS.wr hW2 hA
  have hsl2 := hS2.sl
  have hlen2 := hsl2.toLen
  have hll : (rs.map (·.1)).length = rs.length := by simp
  have ht : tot ((rs.take i).map (·.2)) ≤ tot (rs.map (·.2)) := by rw [List.map_take]; exact tot_take_le _ _
  refine go ?_
  refine c_if (fun h4 => ?_) (fun h4 => ?_)
  · have hin : i < rs.length := by simp at h4; omega
    have e1 : Pc.rowAt v (rs.map (·.1)) i = rs[i].1 := by simp [Pc.rowAt, hin]
    have e2 : rs.drop i = rs[i] :: rs.drop (i + 1) := (List.getElem_cons_drop (h := hin)).symm
    have e3 : rs.take (i + 1) = rs.take i ++ [rs[i]] := List.take_succ_eq_append_getElem hin
    have hts : tot ((rs.take (i + 1)).map (·.2)) = tot ((rs.take i).map (·.2)) + (rs[i]).2.length := by rw [e3, List.map_append, tot_append]; simp [tot]
    have ht2 : tot ((rs.take (i + 1)).map (·.2)) ≤ tot (rs.map (·.2)) := by rw [List.map_take]; exact tot_take_le _ _
    have hO3 : RowsO s w2 ((pre ++ mkR k (rs.take i)) ++ rs[i] :: (rs.drop (i + 1) ++ post)) := by
      rw [e2] at hO2
      simpa only [List.append_assoc, List.cons_append] using hO2
    have hfr := hO3.fr rs[i] (by simp)
    refine go ?_
    refine ra (v := Pc.rowAt v (rs.map fun x : Value × List Int => x.1) i) (h := rd_load_sl (us := rs.map fun x : Value × List Int => x.1) (by ((try simp only [ev_tmp, ev_const, ev_func, get_put, get_args, get_putL, get_putL_nil, Nat.reduceEqDiff, reduceIte, List.getD_cons_zero, List.getD_cons_succ, List.getD_nil]); first | done | with_reducible rfl)) (by omega)) (next := ?_)
    rw [e1]
    refine go ?_
    refine rc (markInt64S_ok hfr ?_ ?_) (next := fun v3 w3 h3 => ?_)
    · omega
    · omega
    obtain ⟨rfl, hf3, hW3⟩ := h3
    have hO4 := hO3.upd hW3 hf3 marks_ne.1
    refine go ?_
    refine forQ_normal (by omega) ⟨?_, ?_, hW2.trans (hW3.mono fun b ⟨hn, e⟩ => ⟨_, List.getElem_mem hin, hn, e⟩)⟩
    · exact hasP
    · rw [e3, mkR_append]
      simpa only [mkR, List.append_assoc, List.cons_append, List.nil_append] using hO4
  · refine go ?_
    obtain rfl : i = rs.length := by simp at h4; omega
    rw [List.take_length] at hO2 ⊢
    exact ret1 ⟨rfl, by simpa using hO2, hW2⟩
end Go.Proofs.Ytjljbfcdpdckeaa

/-
  Walks: copies that are the call's own (toInt64SSS, toPresentation), marks of presentations (markInt64SSS, markPresentation).
  Conditions: stated at each theorem.
-/
namespace Go.Proofs.Ytjljbfcdpdckeaa
open Go Go.Pc
theorem toInt64SSM_ok {w : World} {v : Value} {us : List Value} {xss : List (List Int)} {lo hi : Nat} [hx : Pc.Rows lo hi w v us xss] (hl : xss.length ≤ 2000000) (hr : ∀ i, (xss.getD i []).length ≤ 2000000) :
    Calls Try.prog 63 #[v] w (Ret fun v' w' => Ext w w' ∧ ∃ rs, xss = rs.map (·.2) ∧ MatO w.heap.size w'.heap.size w' v' rs) :=
  Pc.Calls.ret_mono (toInt64SSO_ok hl hr) fun _ _ ⟨h1, rs, h2, h3, h4⟩ => by subst h3; exact ⟨h1, rs, rfl, MatO.ofLst h2 h4 h2.newRows⟩
theorem rowss_of_cub {A : Nat → Prop} {s : Nat} {w : World} {v : Value} {gs : List (Value × List (Value × List Int))} {lo hi : Nat} (hs : Sl lo hi w v (gs.map (·.1))) (hlo : lo ≤ hi) (h : ∀ q, q ∈ gs → Pc.Rows lo hi w q.1 (q.2.map (·.1)) (q.2.map (·.2))) :
    Rowss lo hi w v (gs.map (·.1)) (gs.map fun q => q.2.map (·.1)) (gs.map fun q => q.2.map (·.2)) := by
  refine ⟨hs, by simp, by simp, fun i => ?_⟩
  by_cases hi' : i < gs.length
  · have := h gs[i] (List.getElem_mem hi')
    simpa [hi'] using this
  · have e1 : (gs.map (·.1)).getD i nilv = nilv := by rw [List.getD_eq_getElem?_getD, List.getElem?_eq_none (by simp; omega)]; rfl
    have e2 : (gs.map fun q => q.2.map (·.1)).getD i [] = [] := by rw [List.getD_eq_getElem?_getD, List.getElem?_eq_none (by simp; omega)]; rfl
    have e3 : (gs.map fun q => q.2.map (·.2)).getD i [] = [] := by rw [List.getD_eq_getElem?_getD, List.getElem?_eq_none (by simp; omega)]; rfl
    rw [e1, e2, e3]
    exact ⟨⟨⟨none, 0, rfl, Nat.le_refl _, by omega, fun k u hu => by simp at hu⟩⟩, rfl, fun i => ⟨⟨none, 0, by simp, by simp, by omega, fun k u hu => by simp at hu⟩⟩⟩
set_option maxHeartbeats 2000000 in
theorem toInt64SSSO_ok {w : World} {v : Value} {us : List Value} {uss : List (List Value)} {xsss : List (List (List Int))} {lo hi : Nat} [hx : Rowss lo hi w v us uss xsss] (hl : xsss.length ≤ 2000000) (hr : ∀ i, (xsss.getD i []).length ≤ 2000000 ∧ ∀ j, ((xsss.getD i []).getD j []).length ≤ 2000000) :
    Calls Try.prog 64 #[v] w (Ret fun v' w' => Ext w w' ∧ ∃ gs, xsss = gs.map (fun q => q.2.map (·.2)) ∧ RowsO w.heap.size w' (flat gs) ∧ CubO (fun b => BlkOf (flat gs) b ∨ b < w.heap.size) w' v' gs ∧ Rowss w.heap.size w'.heap.size w' v' (gs.map (·.1)) (gs.map fun q => q.2.map (·.1)) xsss) := by
  refine enter (args := [v]) (l := [.tmp 2]) Try.func64 rfl rfl Try.ntmps64 (by simp) ?_
  refine go ?_
  refine st_make_nil (by ((try simp only [ev_tmp, ev_const, ev_func, get_put, get_args, get_putL, get_putL_nil, Nat.reduceEqDiff, reduceIte, List.getD_cons_zero, List.getD_cons_succ, List.getD_nil]); first | done | with_reducible rfl)) (by ((try simp only [ev_tmp, ev_const, ev_func, get_put, get_args, get_putL, get_putL_nil, Nat.reduceEqDiff, reduceIte, List.getD_cons_zero, List.getD_cons_succ, List.getD_nil]); first | done | with_reducible rfl)) (by omega) (by omega) (by first | exact True.intro | exact ⟨_, rfl, by ((try simp only [ev_tmp, ev_const, ev_func, get_put, get_args, get_putL, get_putL_nil, Nat.reduceEqDiff, reduceIte, List.getD_cons_zero, List.getD_cons_succ, List.getD_nil, Bool.not_true, Bool.not_false]); first | done | with_reducible rfl)⟩) fun w1 v1 he1 hs1 ho1 => ?_
  refine go ?_
  refine r_for xsss.length (fun k ρ w' => ∃ gs : List (Value × List (Value × List Int)), Has ρ [(0, v), (3, v1), (4, .int .i64 k)] ∧ Ext w w' ∧ w.heap.size + 1 ≤ w'.heap.size ∧ Own 23 w.heap.size w' v1 (gs.map (·.1) ++ List.replicate (xsss.length - k) nilv) ∧ gs.length = k ∧ gs.map (fun q => q.2.map (·.2)) = xsss.take k ∧
    RowsO (w.heap.size + 1) w' (flat gs) ∧ (∀ q, q ∈ gs → SpA (fun b => BlkOf (flat gs) b ∨ b < w.heap.size + 1) w' q.1 (q.2.map (·.1))) ∧ ∀ q, q ∈ gs → Pc.Rows (w.heap.size + 1) w'.heap.size w' q.1 (q.2.map (·.1)) (q.2.map (·.2))) ?_ ?_
  · refine ⟨[], ?_, he1, by omega, by simpa using ho1, rfl, by simp, RowsO.nil _ _, fun q hq => (by cases hq), fun q hq => (by cases hq)⟩
    exact hasP
  clear ho1
  rintro k ρ w2 hk ⟨gs, hH, he2, hz2, ho2, hgl, hI, hO2, hS2, hR2⟩
  refine rwp_has hH fun ρ0 => ?_
  have hsl := ho2.toSl
  have hul : (gs.map (·.1) ++ List.replicate (xsss.length - k) nilv).length = xsss.length := by simp; omega
  refine go ?_
  refine c_if (fun h4 => ?_) (fun h4 => ?_)
  · have hkn : k < xsss.length := by omega
    refine go ?_
    refine rc (toInt64SSM_ok (xss := xsss.getD k []) (hr k).1 (hr k).2) (next := fun v3 w3 h3 => ?_)
    obtain ⟨he3, rs, hrs, hM3⟩ := h3
    have ho3 : Own 23 w.heap.size w3 v1 _ := Own.ext (h := ho2)
    have hsl3 := ho3.toSl
    have hlen3 := hsl3.toLen
    have hz3 := he3.size
    have hol := ho2.lt
    refine go ?_
    refine st_store_val (h := ho3) (by ((try simp only [ev_tmp, ev_const, ev_func, get_put, get_args, get_putL, get_putL_nil, Nat.reduceEqDiff, reduceIte, List.getD_cons_zero, List.getD_cons_succ, List.getD_nil]); first | done | with_reducible rfl)) (by ((try simp only [ev_tmp, ev_const, ev_func, get_put, get_args, get_putL, get_putL_nil, Nat.reduceEqDiff, reduceIte, List.getD_cons_zero, List.getD_cons_succ, List.getD_nil]); first | done | with_reducible rfl)) ?_ ?_ (by first | exact True.intro | exact ⟨_, rfl, by ((try simp only [ev_tmp, ev_const, ev_func, get_put, get_args, get_putL, get_putL_nil, Nat.reduceEqDiff, reduceIte, List.getD_cons_zero, List.getD_cons_succ, List.getD_nil, Bool.not_true, Bool.not_false]); first | done | with_reducible rfl)⟩) fun w4 hc4 hs4 ho4 => ?_
    · exact hM3.rows.sl.one
    · omega
    refine go ?_
    have e0 : xsss.length - k = (xsss.length - (k + 1)) + 1 := by omega
    have e1 := set_nils (gs.map (·.1)) nilv v3 (xsss.length - (k + 1))
    rw [List.length_map, hgl, ← e0] at e1
    rw [e1] at ho4
    have hW4 : Wrt (fun b => b = w.heap.size) w3 w4 := .one rfl hc4
    have hM4 := hM3.wr hW4 (fun b hb => .inl (by omega))
    have hf : flat (gs ++ [(v3, rs)]) = flat gs ++ rs := by rw [flat_append, flat_one]
    have hO3 := hO2.append he3 (by omega) hM3.own
    have hO4 := hO3.wr hW4 (fun b hb e => by have := (hO3.blk hb).1; omega)
    refine forQ_normal (by omega) ⟨gs ++ [(v3, rs)], ?_, hc4.ext (he2.trans he3) (Nat.le_refl _), by omega, by simpa using ho4, by simp [hgl], ?_, ?_, fun q hq => ?_, fun q hq => ?_⟩
    · exact hasP
    · rw [List.take_succ_eq_append_getElem hkn, List.map_append, hI]
      simp only [List.map_cons, List.map_nil, ← hrs]
      simp [hkn]
    · rw [hf]; exact hO4
    · rw [hf]
      rcases List.mem_append.1 hq with hq | hq
      · have h5 := (hS2 q hq).grow he3 (A' := fun b => BlkOf (flat gs ++ rs) b ∨ b < w.heap.size + 1) (fun b hb => by
          rcases hb with hb | hb
          · rcases blkOf_append'.1 hb with hb | hb
            · exact .inl (.inl hb)
            · exact .inr (hM3.own.blk hb).1
          · exact .inl (.inr hb))
        exact h5.wr hW4 (fun b hb => .inr (by omega))
      · obtain rfl := List.mem_singleton.1 hq
        refine SpA.weak hM4.sp fun b hb => ?_
        rcases hb with hb | hb
        · rcases blkOf_append'.1 hb with hb | hb
          · exact .inr (hO2.blk hb).2
          · exact .inl hb
        · exact .inr (by omega)
    · rcases List.mem_append.1 hq with hq | hq
      · exact (((hR2 q hq).same (he3.same _ _)).same (hc4.same (.inl (by omega)))).mono (Nat.le_refl _) (by omega)
      · obtain rfl := List.mem_singleton.1 hq
        exact hM4.rows.mono (by omega) (by omega)
  · refine go ?_
    obtain rfl : k = xsss.length := by omega
    rw [List.take_length] at hI
    rw [Nat.sub_self, List.replicate_zero, List.append_nil] at ho2
    have hol := ho2.lt
    refine ret1 ⟨he2, gs, hI.symm, hO2.mono (by omega), ⟨⟨_, _, ho2.toSl, fun b hb => ?_⟩, fun q hq => (hS2 q hq).weak fun b hb => hb.imp id (by omega)⟩, ?_⟩
    · rcases hb with hb | hb
      · have := (hO2.blk hb).1; omega
      · omega
    · rw [← hI]
      exact rowss_of_cub (A := fun _ => True) (s := 0) (ho2.toSl.mono (Nat.le_refl _) (by omega)) (by omega) fun q hq => (hR2 q hq).mono (by omega) (Nat.le_refl _)
theorem flat_blk {gs : List (Value × List (Value × List Int))} {q : Value × List (Value × List Int)} (hq : q ∈ gs) {b : Nat} (h : BlkOf q.2 b) : BlkOf (flat gs) b := by
  obtain ⟨r, hr, h1, h2⟩ := h
  refine ⟨r, ?_, h1, h2⟩
  unfold flat
  rw [List.mem_flatten]
  exact ⟨q.2, List.mem_map.2 ⟨q, hq, rfl⟩, hr⟩
theorem flat_tot (gs : List (Value × List (Value × List Int))) : (flat gs).map (·.2) = (gs.map fun q => q.2.map (·.2)).flatten := by
  unfold flat
  rw [List.map_flatten, List.map_map]; rfl
set_option maxHeartbeats 2000000 in
theorem markInt64SSS_ok {A : Nat → Prop} {s : Nat} {w : World} {v : Value} {k : Int} {gs : List (Value × List (Value × List Int))} {pre post : List (Value × List Int)} (hO : RowsO s w (pre ++ flat gs ++ post)) (hS : CubO A w v gs) (hA : ∀ b, BlkOf (flat gs) b → A b) (hk : 0 ≤ k) (hb : k + tot ((flat gs).map (·.2)) ≤ 9000000000000000000) :
    Calls Try.prog 104 #[v, .int .i64 k] w (Ret fun v' w' => v' = .int .i64 (k + tot ((flat gs).map (·.2))) ∧ RowsO s w' (pre ++ mkR k (flat gs) ++ post) ∧ Wrt (BlkOf (flat gs)) w w') := by
  have hm := sl_len hS.sp0.sl
  simp only [List.length_map] at hm
  have hsl := hS.sp0.sl
  have hlen := hsl.toLen
  refine enter (args := [v, .int .i64 k]) (l := [.tmp 4]) Try.func104 rfl rfl Try.ntmps104 (by simp) ?_
  refine go ?_
  refine r_for gs.length (fun i ρ w' => Has ρ [(0, v), (1, .int .i64 (k + tot ((flat (gs.take i)).map (·.2)))), (5, .int .i64 i)] ∧ RowsO s w' (pre ++ (mkR k (flat (gs.take i)) ++ flat (gs.drop i)) ++ post) ∧ Wrt (BlkOf (flat gs)) w w') ?_ ?_
  · refine ⟨?_, by simpa [mkR, flat] using hO, .refl _⟩
    have e : ((flat (gs.take 0)).map (·.2)) = [] := rfl
    rw [e]
    simp only [tot]
    exact hasP
  clear hO hsl hlen
  rintro i ρ w2 hi ⟨hH, hO2, hW2⟩
  refine rwp_has hH fun ρ0 => ?_
  have hS2 := hS.wr hW2 hA
  have hsl2 := hS2.sp0.sl
  have hlen2 := hsl2.toLen
  have hll : (gs.map (·.1)).length = gs.length := by simp
  have ht0 : ∀ j, tot ((flat (gs.take j)).map (·.2)) ≤ tot ((flat gs).map (·.2)) := fun j => by
    have e : flat gs = flat (gs.take j) ++ flat (gs.drop j) := by rw [← flat_append, List.take_append_drop]
    rw [e, List.map_append, tot_append]; omega
  have ht := ht0 i
  refine go ?_
  refine c_if (fun h4 => ?_) (fun h4 => ?_)
  · have hin : i < gs.length := by simp at h4; omega
    have e1 : Pc.rowAt v (gs.map (·.1)) i = gs[i].1 := by simp [Pc.rowAt, hin]
    have e2 : flat (gs.drop i) = gs[i].2 ++ flat (gs.drop (i + 1)) := by
      have e : gs.drop i = [gs[i]] ++ gs.drop (i + 1) := (List.getElem_cons_drop (h := hin)).symm
      rw [e, flat_append, flat_one]
    have e3 : flat (gs.take (i + 1)) = flat (gs.take i) ++ gs[i].2 := by rw [List.take_succ_eq_append_getElem hin, flat_append, flat_one]
    have hts : tot ((flat (gs.take (i + 1))).map (·.2)) = tot ((flat (gs.take i)).map (·.2)) + tot ((gs[i]).2.map (·.2)) := by rw [e3, List.map_append, tot_append]
    have ht2 := ht0 (i + 1)
    have hmem := List.getElem_mem hin
    have hO3 : RowsO s w2 ((pre ++ mkR k (flat (gs.take i))) ++ gs[i].2 ++ (flat (gs.drop (i + 1)) ++ post)) := by
      rw [e2] at hO2
      simpa only [List.append_assoc] using hO2
    refine go ?_
    refine ra (v := Pc.rowAt v (gs.map fun x : Value × List (Value × List Int) => x.1) i) (h := rd_load_sl (us := gs.map fun x : Value × List (Value × List Int) => x.1) (by ((try simp only [ev_tmp, ev_const, ev_func, get_put, get_args, get_putL, get_putL_nil, Nat.reduceEqDiff, reduceIte, List.getD_cons_zero, List.getD_cons_succ, List.getD_nil]); first | done | with_reducible rfl)) (by omega)) (next := ?_)
    rw [e1]
    refine go ?_
    refine rc (markInt64SS_ok hO3 (hS2.sp _ hmem) (fun b hb => hA b (flat_blk hmem hb)) ?_ ?_) (next := fun v3 w3 h3 => ?_)
    · omega
    · omega
    obtain ⟨rfl, hO4, hW3⟩ := h3
    refine go ?_
    refine forQ_normal (by omega) ⟨?_, ?_, hW2.trans (hW3.mono fun b hb => flat_blk hmem hb)⟩
    · exact hasP
    · rw [e3, mkR_append]
      simpa only [List.append_assoc] using hO4
  · refine go ?_
    obtain rfl : i = gs.length := by simp at h4; omega
    rw [List.take_length] at hO2 ⊢
    exact ret1 ⟨rfl, by simpa [flat] using hO2, hW2⟩
set_option maxHeartbeats 1000000 in
/-- Marks on a presentation that is the call's own. -/
theorem markPresentation_ok {s t : Nat} {w : World} {v : Value} {p : Pr} {k : Int} (hP : PresO s t w v p) (hk : 0 ≤ k) (hb : k + totP p ≤ 9000000000000000000) :
    Calls Try.prog 42 #[v, .int .i64 k] w (Ret fun v' w' => v' = .int .i64 (k + totP p) ∧ Wrt (fun b => s ≤ b ∧ b < t) w w') := by
  obtain ⟨vo, vp, vc, rp, gs, rfl, hO, hlt, hsp, hcub, hpow, hcnj, _, _, _⟩ := hP.ex
  have hA : ∀ b, BlkOf ((vo, p.ord) :: (rp ++ flat gs)) b → s ≤ b ∧ b < t := fun b hb => ⟨(hO.blk hb).1, hlt b hb⟩
  have e1 : totP p = p.ord.length + (tot (rp.map (·.2)) + tot ((flat gs).map (·.2))) := by rw [flat_tot, ← hpow, ← hcnj]; rfl
  refine enter (args := [.agg #[vo, vp, vc], .int .i64 k]) (l := [.tmp 4]) Try.func42 rfl rfl Try.ntmps42 (by simp) ?_
  refine go ?_
  refine st_box3 (by ((try simp only [ev_tmp, ev_const, ev_func, get_put, get_args, get_putL, get_putL_nil, Nat.reduceEqDiff, reduceIte, List.getD_cons_zero, List.getD_cons_succ, List.getD_nil]); first | done | with_reducible rfl)) (by first | exact True.intro | exact ⟨_, rfl, by ((try simp only [ev_tmp, ev_const, ev_func, get_put, get_args, get_putL, get_putL_nil, Nat.reduceEqDiff, reduceIte, List.getD_cons_zero, List.getD_cons_succ, List.getD_nil, Bool.not_true, Bool.not_false]); first | done | with_reducible rfl)⟩) fun w1 b he1 hb1 hs1 hc0 hc1 hc2 => ?_
  have hO1 := hO.ext he1
  have hB1 : ∀ g, BlkOf ((vo, p.ord) :: (rp ++ flat gs)) g → g ≠ b := fun g hg e => by have := (hO.blk hg).2; omega
  have hcell : ∀ {w2 : World} {j : Nat} {u : Value}, Cell w1 b j u → Wrt (BlkOf ((vo, p.ord) :: (rp ++ flat gs))) w1 w2 → Cell w2 b j u := fun h k => h.same (k.same fun g hg => by have := hB1 g hg; omega) k.size
  have hfr : Fr s w1 vo p.ord := hO1.fr _ List.mem_cons_self
  refine go ?_
  refine rc (markInt64S_ok hfr hk ?_) (next := fun v2 w2 h2 => ?_)
  · omega
  obtain ⟨rfl, hf2, hW2⟩ := h2
  have hW2' : Wrt (BlkOf ((vo, p.ord) :: (rp ++ flat gs))) w1 w2 := hW2.mono fun g ⟨hn, e⟩ => ⟨_, List.mem_cons_self, hn, e⟩
  have hO2 : RowsO s w2 ([] ++ (vo, marks k p.ord.length) :: (rp ++ flat gs)) := RowsO.upd (pre := []) (by simpa using hO1) hW2 hf2 marks_ne.1
  have hc0' := hcell hc0 hW2'
  have hc1' := hcell hc1 hW2'
  have hc2' := hcell hc2 hW2'
  have hO2' : RowsO s w2 (([(vo, marks k p.ord.length)]) ++ rp ++ flat gs) := by simpa using hO2
  have hsp2 := (SpA.grow hsp he1 (fun g hg => .inl hg)).wr hW2' (fun g hg => hg)
  refine go ?_
  refine rc (markInt64SS_ok hO2' hsp2 (fun g hg => ?_) ?_ ?_) (next := fun v3 w3 h3 => ?_)
  · obtain ⟨r, h1, h2⟩ := hg
    exact ⟨r, List.mem_cons_of_mem _ (List.mem_append_left _ h1), h2⟩
  · omega
  · omega
  obtain ⟨rfl, hO3, hW3⟩ := h3
  have hW3' : Wrt (BlkOf ((vo, p.ord) :: (rp ++ flat gs))) w2 w3 := hW3.mono fun g ⟨r, h1, h2⟩ => ⟨r, List.mem_cons_of_mem _ (List.mem_append_left _ h1), h2⟩
  have hc2'' := hcell hc2 (hW2'.trans hW3')
  have hO3' : RowsO s w3 (([(vo, marks k p.ord.length)] ++ mkR (k + p.ord.length) rp) ++ flat gs ++ []) := by simpa using hO3
  have hcub3 : CubO (BlkOf ((vo, p.ord) :: (rp ++ flat gs))) w3 vc gs := CubO.wr ⟨(SpA.grow hcub.sp0 he1 (fun g hg => .inl hg)).wr hW2' (fun g hg => hg), fun q hq => (SpA.grow (hcub.sp q hq) he1 (fun g hg => .inl hg)).wr hW2' (fun g hg => hg)⟩ hW3' (fun g hg => hg)
  clear hc0' hc1' hc2'
  refine go ?_
  refine rc (markInt64SSS_ok hO3' hcub3 (fun g hg => ?_) ?_ ?_) (next := fun v4 w4 h4 => ?_)
  · obtain ⟨r, h1, h2⟩ := hg
    exact ⟨r, List.mem_cons_of_mem _ (List.mem_append_right _ h1), h2⟩
  · omega
  · omega
  obtain ⟨rfl, hO4, hW4⟩ := h4
  refine go ?_
  refine ret1 ⟨?_, ?_⟩
  · rw [e1]
    exact int_congr (by omega)
  · refine (Wrt.ofExt he1).trans ((hW2'.mono hA).trans ((hW3'.mono hA).trans (hW4.mono fun g hg => hA g ?_)))
    obtain ⟨r, h1, h2⟩ := hg
    exact ⟨r, List.mem_cons_of_mem _ (List.mem_append_right _ h1), h2⟩
end Go.Proofs.Ytjljbfcdpdckeaa

/-
  Walk: a copy of a presentation that is the call's own (toPresentation).
  Conditions: stated at the theorem.
-/
namespace Go.Proofs.Ytjljbfcdpdckeaa
open Go Go.Pc
set_option maxHeartbeats 2000000 in
theorem toPresentationO_ok {w : World} {v : Value} {p : Pr} {lo hi : Nat} [hp : Pres lo hi w v p] (hs : SizeP p 2000000) :
    Calls Try.prog 13 #[v] w (Ret fun v w' => Ext w w' ∧ PresO w.heap.size w'.heap.size w' v p) := by
  have hs1 := hs.ord
  have hs2 := hs.pow
  have hs3 := hs.cnj
  obtain ⟨vo, vpw, vc, ps, cs, css, rfl, h1, h2, h3⟩ := hp.ex
  refine enter (args := [.agg #[vo, vpw, vc]]) (l := [.cell 2 30]) Try.func13 rfl rfl Try.ntmps13 (by simp) ?_
  refine go ?_
  refine st_box3 (by ((try simp only [ev_tmp, ev_const, ev_func, get_put, get_args, get_putL, get_putL_nil, Nat.reduceEqDiff, reduceIte, List.getD_cons_zero, List.getD_cons_succ, List.getD_nil]); first | done | with_reducible rfl)) (by first | exact True.intro | exact ⟨_, rfl, by ((try simp only [ev_tmp, ev_const, ev_func, get_put, get_args, get_putL, get_putL_nil, Nat.reduceEqDiff, reduceIte, List.getD_cons_zero, List.getD_cons_succ, List.getD_nil, Bool.not_true, Bool.not_false]); first | done | with_reducible rfl)⟩) fun w1 b he1 hb1 hsz1 hc0 hc1 hc2 => ?_
  refine go ?_
  refine st_alloc (by first | exact True.intro | exact ⟨_, rfl, by ((try simp only [ev_tmp, ev_const, ev_func, get_put, get_args, get_putL, get_putL_nil, Nat.reduceEqDiff, reduceIte, List.getD_cons_zero, List.getD_cons_succ, List.getD_nil, Bool.not_true, Bool.not_false]); first | done | with_reducible rfl)⟩) fun w2 br he2 hbr hsz2 hbk2 => ?_
  refine go ?_
  refine st_alloc (by first | exact True.intro | exact ⟨_, rfl, by ((try simp only [ev_tmp, ev_const, ev_func, get_put, get_args, get_putL, get_putL_nil, Nat.reduceEqDiff, reduceIte, List.getD_cons_zero, List.getD_cons_succ, List.getD_nil, Bool.not_true, Bool.not_false]); first | done | with_reducible rfl)⟩) fun w3 bo he3 hbo hsz3 hbk3 => ?_
  have hE3 := (he1.trans he2).trans he3
  refine go ?_
  refine rc (toInt64S_ok (xs := p.ord) (by omega)) (next := fun v4 w4 h4 => ?_)
  obtain ⟨he4, hf4⟩ := h4
  have hb4 : Blk w4 bo _ := Blk.ext (h := hbk3)
  have hz4 := he4.size
  refine go ?_
  refine st_store_fld (h := hb4) (by ((try simp only [ev_tmp, ev_const, ev_func, get_put, get_args, get_putL, get_putL_nil, Nat.reduceEqDiff, reduceIte, List.getD_cons_zero, List.getD_cons_succ, List.getD_nil]); first | done | with_reducible rfl)) (by ((try simp only [ev_tmp, ev_const, ev_func, get_put, get_args, get_putL, get_putL_nil, Nat.reduceEqDiff, reduceIte, List.getD_cons_zero, List.getD_cons_succ, List.getD_nil]); first | done | with_reducible rfl)) ?_ ?_ (by first | exact True.intro | exact ⟨_, rfl, by ((try simp only [ev_tmp, ev_const, ev_func, get_put, get_args, get_putL, get_putL_nil, Nat.reduceEqDiff, reduceIte, List.getD_cons_zero, List.getD_cons_succ, List.getD_nil, Bool.not_true, Bool.not_false]); first | done | with_reducible rfl)⟩) fun w5 hc5 hs5 hb5 => ?_
  · exact hf4.ints.sl.one
  · simp
  have hE15 : Ext w1 w5 := hc5.ext ((he2.trans he3).trans he4) (by have := he2.size; omega)
  have hz15 := hE15.size
  have hz2 := he2.size
  have hi5 : Ints w3.heap.size w4.heap.size w5 v4 p.ord := hf4.ints.same (hc5.same (.inl (by omega)))
  have hr5 : Blk w5 br _ := (Blk.ext (x := he3.trans he4) (h := hbk2)).chg' hc5 (by omega)
  have hO4 : RowsO w3.heap.size w4 [(v4, p.ord)] := (RowsO.nil w3.heap.size w3).push he4 (Nat.le_refl _) hf4
  have hO5 : RowsO w3.heap.size w5 [(v4, p.ord)] := hO4.wr (.one (B := fun g => g = bo) rfl hc5) (fun g hg e => by have := (hO4.blk hg).1; omega)
  refine go ?_
  refine rc (toInt64SSM_ok (xss := p.pow) (by omega) (fun i => by have := hs.powi i; omega)) (next := fun v6 w6 h6 => ?_)
  obtain ⟨he6, rp, hrp, hM6⟩ := h6
  have hN6 := hM6.rows
  have hb6 : Blk w6 bo _ := Blk.ext (h := hb5)
  have hz6 := he6.size
  refine go ?_
  refine st_store_fld (h := hb6) (by ((try simp only [ev_tmp, ev_const, ev_func, get_put, get_args, get_putL, get_putL_nil, Nat.reduceEqDiff, reduceIte, List.getD_cons_zero, List.getD_cons_succ, List.getD_nil]); first | done | with_reducible rfl)) (by ((try simp only [ev_tmp, ev_const, ev_func, get_put, get_args, get_putL, get_putL_nil, Nat.reduceEqDiff, reduceIte, List.getD_cons_zero, List.getD_cons_succ, List.getD_nil]); first | done | with_reducible rfl)) ?_ ?_ (by first | exact True.intro | exact ⟨_, rfl, by ((try simp only [ev_tmp, ev_const, ev_func, get_put, get_args, get_putL, get_putL_nil, Nat.reduceEqDiff, reduceIte, List.getD_cons_zero, List.getD_cons_succ, List.getD_nil, Bool.not_true, Bool.not_false]); first | done | with_reducible rfl)⟩) fun w7 hc7 hs7 hb7 => ?_
  · exact hN6.sl.one
  · simp
  have hE17 : Ext w1 w7 := hc7.ext (hE15.trans he6) (by omega)
  have hi7 : Ints w3.heap.size w4.heap.size w7 v4 p.ord := (hi5.same (he6.same _ _)).same (hc7.same (.inl (by omega)))
  have hM7 := hM6.wr (.one (B := fun g => g = bo) rfl hc7) (fun g hg => .inl (by omega))
  have hp7 := hM7.rows
  have hr7 : Blk w7 br _ := (Blk.ext (x := he6) (h := hr5)).chg' hc7 (by omega)
  have hO6 := hO5.append he6 (by omega) hM6.own
  have hO7 := hO6.wr (.one (B := fun g => g = bo) rfl hc7) (fun g hg e => by have := (hO6.blk hg).1; omega)
  refine go ?_
  refine rc (toInt64SSSO_ok (xsss := p.cnj) (by omega) (fun i => ⟨by have := hs.cnji i; omega, fun j => by have := hs.cnjij i j; omega⟩)) (next := fun v8 w8 h8 => ?_)
  obtain ⟨he8, gs, hgs, hOg, hCu, hR8⟩ := h8
  have hb8 : Blk w8 bo _ := Blk.ext (h := hb7)
  have hz8 := he8.size
  have hO8 := hO7.append he8 (by omega) hOg
  have hAll : ∀ g, BlkOf ([(v4, p.ord)] ++ rp ++ flat gs) g → (w3.heap.size ≤ g ∧ g < w5.heap.size) ∨ BlkOf rp g ∨ w7.heap.size ≤ g := fun g hg => by
    rcases blkOf_append'.1 hg with hg | hg
    · rcases blkOf_append'.1 hg with hg | hg
      · exact .inl (hO5.blk hg)
      · exact .inr (.inl hg)
    · exact .inr (.inr (hOg.blk hg).1)
  have hsp8 : SpA (fun g => BlkOf ([(v4, p.ord)] ++ rp ++ flat gs) g ∨ g < w3.heap.size) w8 v6 (rp.map (·.1)) := hM7.sp.grow he8 fun g hg => by
    rcases hg with hg | hg
    · rcases hAll g hg with h | h | h
      · exact .inl (.inr h.2)
      · exact .inl (.inl h)
      · exact .inr h
    · exact .inl (.inr (by omega))
  have hcu8 : CubO (fun g => BlkOf ([(v4, p.ord)] ++ rp ++ flat gs) g ∨ g < w3.heap.size) w8 v8 gs := by
    have hA : ∀ g, (BlkOf ([(v4, p.ord)] ++ rp ++ flat gs) g ∨ g < w3.heap.size) → BlkOf (flat gs) g ∨ g < w7.heap.size := fun g hg => by
      rcases hg with hg | hg
      · rcases blkOf_append'.1 hg with hg | hg
        · have := (hO7.blk hg).2; exact .inr this
        · exact .inl hg
      · exact .inr (by omega)
    exact ⟨hCu.sp0.weak hA, fun q hq => (hCu.sp q hq).weak hA⟩
  refine go ?_
  refine st_store_fld (h := hb8) (by ((try simp only [ev_tmp, ev_const, ev_func, get_put, get_args, get_putL, get_putL_nil, Nat.reduceEqDiff, reduceIte, List.getD_cons_zero, List.getD_cons_succ, List.getD_nil]); first | done | with_reducible rfl)) (by ((try simp only [ev_tmp, ev_const, ev_func, get_put, get_args, get_putL, get_putL_nil, Nat.reduceEqDiff, reduceIte, List.getD_cons_zero, List.getD_cons_succ, List.getD_nil]); first | done | with_reducible rfl)) ?_ ?_ (by first | exact True.intro | exact ⟨_, rfl, by ((try simp only [ev_tmp, ev_const, ev_func, get_put, get_args, get_putL, get_putL_nil, Nat.reduceEqDiff, reduceIte, List.getD_cons_zero, List.getD_cons_succ, List.getD_nil, Bool.not_true, Bool.not_false]); first | done | with_reducible rfl)⟩) fun w9 hc9 hs9 hb9 => ?_
  · exact hR8.sl.one
  · simp
  have hE19 : Ext w1 w9 := hc9.ext (hE17.trans he8) (by omega)
  have hi9 : Ints w3.heap.size w4.heap.size w9 v4 p.ord := (hi7.same (he8.same _ _)).same (hc9.same (.inl (by omega)))
  have hp9 := (hp7.same (he8.same _ _)).same (hc9.same (.inl (by omega)))
  have hq9 := hR8.same (hc9.same (.inl (by omega)))
  have hr9 : Blk w9 br _ := (Blk.ext (x := he8) (h := hr7)).chg' hc9 (by omega)
  refine go ?_
  have hb9' : Blk w9 bo [v4, v6, v8] := hb9
  refine ra (v := .agg #[v4, v6, v8]) (h := rd_load_blk (hb := hb9') (by ((try simp only [ev_tmp, ev_const, ev_func, get_put, get_args, get_putL, get_putL_nil, Nat.reduceEqDiff, reduceIte, List.getD_cons_zero, List.getD_cons_succ, List.getD_nil]); first | done | with_reducible rfl)) rfl) (next := ?_)
  refine st_store_agg (vs := [v4, v6, v8]) (cs := _) (hb := hr9) (by ((try simp only [ev_tmp, ev_const, ev_func, get_put, get_args, get_putL, get_putL_nil, Nat.reduceEqDiff, reduceIte, List.getD_cons_zero, List.getD_cons_succ, List.getD_nil]); first | done | with_reducible rfl)) (by ((try simp only [ev_tmp, ev_const, ev_func, get_put, get_args, get_putL, get_putL_nil, Nat.reduceEqDiff, reduceIte, List.getD_cons_zero, List.getD_cons_succ, List.getD_nil]); first | done | with_reducible rfl)) rfl ?_ ?_ (by first | exact True.intro | exact ⟨_, rfl, by ((try simp only [ev_tmp, ev_const, ev_func, get_put, get_args, get_putL, get_putL_nil, Nat.reduceEqDiff, reduceIte, List.getD_cons_zero, List.getD_cons_succ, List.getD_nil, Bool.not_true, Bool.not_false]); first | done | with_reducible rfl)⟩) fun w10 hc10 hs10 hb10 => ?_
  · rfl
  · have e1 := hi9.sl.one
    have e2 := hp9.sl.one
    have e3 := hq9.sl.one
    simp [e1, e2, e3]
  have hW10 : Wrt (fun g => g = bo ∨ g = br) w8 w10 := (Wrt.one (.inl rfl) hc9).trans (.one (.inr rfl) hc10)
  have hO10 := hO8.wr hW10 (fun g hg e => by have := (hO8.blk hg).1; omega)
  have hlow : ∀ g, (g = bo ∨ g = br) → BlkOf ([(v4, p.ord)] ++ rp ++ flat gs) g ∨ g < w3.heap.size := fun g hg => .inr (by omega)
  refine go ?_
  refine retc (b := br) (hb := hb10) ⟨hc10.ext (he1.trans hE19) (by omega), ?_⟩ rfl
  have hi10 := (hi9.same (hc10.same (.inl (by omega)))).mono (lo' := w.heap.size) (hi' := w10.heap.size) (by omega) (by omega)
  have hp10 := (hp9.same (hc10.same (.inl (by omega)))).mono (lo' := w.heap.size) (hi' := w10.heap.size) (by omega) (by omega)
  have hq10 := rowss_mono (lo' := w.heap.size) (hi' := w10.heap.size) (hq9.same (hc10.same (.inl (by omega)))) (by omega) (by omega)
  have e : (v4, p.ord) :: (rp ++ flat gs) = [(v4, p.ord)] ++ rp ++ flat gs := by simp
  rw [hgs] at hq10
  refine ⟨v4, v6, v8, rp, gs, rfl, ?_, ?_, ?_, ?_, hrp, hgs, hi10, hp10, hq10⟩ <;> rw [e]
  · exact hO10.mono (by omega)
  · exact fun g hg => (hO10.blk hg).2
  · exact (hsp8.wr hW10 hlow).weak fun g hg => .inl hg
  · exact ⟨(hcu8.sp0.wr hW10 hlow).weak fun g hg => .inl hg, fun q hq => ((hcu8.sp q hq).wr hW10 hlow).weak fun g hg => .inl hg⟩
/-- The number of integers of a presentation of bounded sizes. -/
theorem totP_le {p : Pr} (hs : SizeP p 1048576) : totP p ≤ 1048576 + (1048576 * 1048576 + 1048576 * (1048576 * 1048576)) := by
  have h1 := hs.ord
  have h2 := hs.pow
  have h3 := hs.cnj
  have e2 : tot p.pow ≤ p.pow.length * 1048576 := tot_le _ fun x hx => by
    obtain ⟨i, hi, rfl⟩ := List.getElem_of_mem hx
    have := hs.powi i
    simp only [List.getD_eq_getElem?_getD, List.getElem?_eq_getElem hi, Option.getD_some] at this
    omega
  have e3 : tot p.cnj.flatten ≤ p.cnj.length * (1048576 * 1048576) := tot_flatten _ fun x hx => by
    obtain ⟨i, hi, rfl⟩ := List.getElem_of_mem hx
    have h4 := hs.cnji i
    simp only [List.getD_eq_getElem?_getD, List.getElem?_eq_getElem hi, Option.getD_some] at h4
    refine ⟨by omega, fun y hy => ?_⟩
    obtain ⟨j, hj, rfl⟩ := List.getElem_of_mem hy
    have h5 := hs.cnjij i j
    simp only [List.getD_eq_getElem?_getD, List.getElem?_eq_getElem hi, Option.getD_some, List.getElem?_eq_getElem hj] at h5
    omega
  unfold totP
  omega
theorem SizeP.mono {p : Pr} {k j : Int} (h : SizeP p k) (hkj : k ≤ j) : SizeP p j :=
  ⟨by have := h.ord; omega, by have := h.pow; omega, fun i => by have := h.powi i; omega, by have := h.cnj; omega, fun i => by have := h.cnji i; omega, fun i j => by have := h.cnjij i j; omega⟩
end Go.Proofs.Ytjljbfcdpdckeaa

/-
  The sizes of the presentations of subgroups and quotients.
  Conditions: none.
-/
namespace Go.Proofs.Ytjljbfcdpdckeaa
open Go Go.Pc
end Go.Proofs.Ytjljbfcdpdckeaa

/-
  What InclusionHom, NaturalHom and ComposeHoms answer.
  Conditions: none.
-/
namespace Go.Proofs.Ytjljbfcdpdckeaa
open Go Go.Pc
end Go.Proofs.Ytjljbfcdpdckeaa

/-
  The upper central series and the lower exponent series.
  Conditions: the tails at all levels are groups.
-/
namespace Go.Proofs.Ytjljbfcdpdckeaa
open Go Go.Pc
section
variable {p : Pr} [hc : ConAll p]
end
end Go.Proofs.Ytjljbfcdpdckeaa

/-
  Walks: the check of marks on lists of lists of lists (heldInt64SSS); sizes of series.
  Conditions: stated at each theorem.
-/
namespace Go.Proofs.Ytjljbfcdpdckeaa
open Go Go.Pc
def mkC (k : Int) : List (Value × List (Value × List Int)) → List (Value × List (Value × List Int))
  | [] => []
  | q :: l => (q.1, mkR k q.2) :: mkC (k + tot (q.2.map (·.2))) l
theorem mkC_fst : ∀ (gs : List (Value × List (Value × List Int))) (k : Int), (mkC k gs).map (·.1) = gs.map (·.1)
  | [], _ => rfl
  | q :: l, k => by simp [mkC, mkC_fst l]
theorem flat_cons (q : Value × List (Value × List Int)) (l : List (Value × List (Value × List Int))) : flat (q :: l) = q.2 ++ flat l := by simp [flat]
theorem mkC_mem {gs : List (Value × List (Value × List Int))} {k : Int} {q : Value × List (Value × List Int)} (hq : q ∈ mkC k gs) : ∃ q', q' ∈ gs ∧ q.1 = q'.1 ∧ q.2.map (·.1) = q'.2.map (·.1) := by
  induction gs generalizing k with
  | nil => cases hq
  | cons g l ih =>
    rcases List.mem_cons.1 hq with rfl | hq
    · exact ⟨g, List.mem_cons_self, rfl, mkR_fst _ _⟩
    · obtain ⟨q', h1, h2⟩ := ih hq
      exact ⟨q', List.mem_cons_of_mem _ h1, h2⟩
theorem RowsO.ofFlat {s : Nat} {w : World} {gs : List (Value × List (Value × List Int))} (h : RowsO s w (flat gs)) {q : Value × List (Value × List Int)} (hq : q ∈ gs) : RowsO s w q.2 := by
  have hs : List.Sublist q.2 (flat gs) := List.sublist_flatten_of_mem (List.mem_map.2 ⟨q, hq, rfl⟩)
  exact ⟨fun r hr => h.fr r (hs.subset hr), h.sep.sublist hs⟩
/-- Sizes of a series. -/
theorem sz3 {r : List (List (List Int))} (h : r.length ≤ 7) (h2 : ∀ x, x ∈ r → x.length ≤ 6 ∧ ∀ y, y ∈ x → y.length ≤ 6) : r.length ≤ 2000000 ∧ (∀ i, (r.getD i []).length ≤ 2000000 ∧ ∀ j, ((r.getD i []).getD j []).length ≤ 2000000) ∧ tot r.flatten ≤ 4000000000000 := by
  refine ⟨by omega, fun i => ?_, ?_⟩
  · by_cases hi : i < r.length
    · have e : r.getD i [] = r[i] := by simp [hi]
      have h3 := h2 _ (List.getElem_mem hi)
      rw [e]
      refine ⟨by omega, fun j => ?_⟩
      by_cases hj : j < (r[i]).length
      · have e2 : (r[i]).getD j [] = (r[i])[j] := by simp [hj]
        have := h3.2 _ (List.getElem_mem hj)
        rw [e2]; omega
      · rw [List.getD_eq_getElem?_getD, List.getElem?_eq_none (by omega)]; simp
    · have e : r.getD i [] = [] := by rw [List.getD_eq_getElem?_getD, List.getElem?_eq_none (by omega)]; rfl
      rw [e]; simp
  · have h3 := tot_flatten (n := 6) r fun x hx => h2 x hx
    have : r.length * (6 * 6) ≤ 7 * (6 * 6) := Nat.mul_le_mul_right _ h
    omega
theorem SrV.sz {p : Pr} {C : ConAll p → (List (El p) → List (El p)) × List (El p)} {r : List (List (List Int))} {e : Int} (h : SrV p C r e) (hS : ∀ c : ConAll p, SerOk (C c).1 (C c).2) : r.length ≤ 2000000 ∧ (∀ i, (r.getD i []).length ≤ 2000000 ∧ ∀ j, ((r.getD i []).getD j []).length ≤ 2000000) ∧ tot r.flatten ≤ 4000000000000 := by
  obtain ⟨c, K, hK, rfl, _⟩ := h
  have hn := c.valid.n6
  have hb := (hS c).bd K hK.2
  refine sz3 (by simp; omega) fun x hx => ?_
  obtain ⟨j, _, rfl⟩ := List.mem_map.1 hx
  have hl := ((hS c).seq j).len
  refine ⟨by simp; omega, fun y hy => ?_⟩
  obtain ⟨a, _, rfl⟩ := List.mem_map.1 hy
  rw [a.inr.len]; omega
end Go.Proofs.Ytjljbfcdpdckeaa

/-
  Lists of structs of seven cells: what an append does, what is read of them.
  Conditions: none; nothing of the program stands here.
-/
namespace Go.Pc
open Go Go.RowKit
/-- A list of structs of seven cells of the call's own. -/
structure OwnS (e s : Nat) (w : World) (v : Value) (n : Nat) (us : List Value) : Prop where
  own : w.ownsRow s e 7 v n us
/-- A list of structs of seven cells that is read. -/
class SlS (lo hi : outParam Nat) (w : World) (v : Value) (n : outParam Nat) (us : outParam (List Value)) : Prop where
  ex : ∃ A c, v = .slice A n c ∧ us.length = n * 7 ∧ n ≤ c ∧ c ≤ 9223372036854775807 ∧ (0 < n → ∃ g, A = some ⟨g, 0, none⟩ ∧ lo ≤ g ∧ g < hi ∧ ∀ j, j < n * 7 → Cell w g j (us.getD j nilv))
section
variable {B : Nat → Prop} {e s lo hi lo' hi' n : Nat} {w w' : World} {v : Value} {us : List Value}
theorem OwnS.nil (e s : Nat) (w : World) : OwnS e s w nilv 0 [] := ⟨World.ownsRow_nil w s e 7⟩
theorem OwnS.lt (h : OwnS e s w v n us) : ∀ k, v.ownBlock = some k → s ≤ k ∧ k < w.heap.size := h.own.lt
theorem OwnS.ext (h : OwnS e s w v n us) (x : Ext w w') : OwnS e s w' v n us :=
  ⟨h.own.kept (row := none) ⟨x.below.os, x.below.tape, x.below.output, x.below.size, fun k hk _ => x.below.block k hk⟩ (by cases hv : v.ownBlock <;> simp)⟩
theorem OwnS.other {b : Nat} (h : OwnS e s w v n us) (c : Chg b w w') (hb : v.ownBlock ≠ some b) : OwnS e s w' v n us := ⟨h.own.kept c.by_ (.inr hb)⟩
theorem OwnS.wr (h : OwnS e s w v n us) (k : Wrt B w w') (hb : ∀ b, v.ownBlock = some b → ¬ B b) : OwnS e s w' v n us := by
  induction k with
  | refl => exact h
  | step _ hB c ih => exact ih.other c (fun e => hb _ e hB)
  | grow _ x ih => exact ih.ext x
theorem OwnS.len (h : OwnS e s w v n us) : us.length = n * 7 := h.own.1
theorem SlS.toLen (h : SlS lo hi w v n us) : Len w v n := by
  obtain ⟨A, c, rfl, hl, hc, hm, hA⟩ := h.ex
  exact ⟨A, c, rfl, hc, hm, fun hp => by obtain ⟨g, h, _⟩ := hA hp; exact ⟨_, h⟩⟩
theorem SlS.same (h : SlS lo hi w v n us) (k : Same lo hi w w') (hs : w.heap.size ≤ w'.heap.size) : SlS lo hi w' v n us := by
  obtain ⟨A, c, rfl, hl, hc, hm, hA⟩ := h.ex
  refine ⟨⟨A, c, rfl, hl, hc, hm, fun hp => ?_⟩⟩
  obtain ⟨g, rfl, h1, h2, h3⟩ := hA hp
  exact ⟨g, rfl, h1, h2, fun j hj => (h3 j hj).same (fun b k1 k2 k3 => k b (by omega) (by omega) k3) hs⟩
theorem SlS.mono (h : SlS lo hi w v n us) (h1 : lo' ≤ lo) (h2 : hi ≤ hi') : SlS lo' hi' w v n us := by
  obtain ⟨A, c, rfl, hl, hc, hm, hA⟩ := h.ex
  refine ⟨⟨A, c, rfl, hl, hc, hm, fun hp => ?_⟩⟩
  obtain ⟨g, rfl, k1, k2, k3⟩ := hA hp
  exact ⟨g, rfl, by omega, by omega, k3⟩
theorem SlS.wide (h : SlS lo hi w v n us) : SlS 0 w.heap.size w v n us := by
  obtain ⟨A, c, rfl, hl, hc, hm, hA⟩ := h.ex
  refine ⟨⟨A, c, rfl, hl, hc, hm, fun hp => ?_⟩⟩
  obtain ⟨g, rfl, k1, k2, k3⟩ := hA hp
  exact ⟨g, rfl, Nat.zero_le _, (k3 0 (by omega)).lt, k3⟩
end
section
variable {P : Program} {N lo hi n : Nat} {ops : Array Oper} {K : Env → World → Prop} {l : List Oper} {ρ : Env} {w w1 : World} {d d2 : Nat} {v : Value} {us : List Value} {ty ty2 : TypeId} {pos pos2 : String} {after after2 : Array Edge} {g g2 : Option (Nat × Bool)}
theorem SlS.own (h : SlS lo hi w v n us) (hn : 0 < n) : ∃ gb, v.ownBlock = some gb := by
  obtain ⟨A, c, rfl, _, _, _, hA⟩ := h.ex
  obtain ⟨g, rfl, _⟩ := hA hn
  exact ⟨g, rfl⟩
theorem SlS.cells (h : SlS lo hi w v n us) {gb : Nat} (hb : v.ownBlock = some gb) {j : Nat} (hj : j < n * 7) : Cell w gb j (us.getD j nilv) := by
  obtain ⟨A, c, rfl, _, _, _, hA⟩ := h.ex
  obtain ⟨g, rfl, _, _, h3⟩ := hA (by omega)
  injection hb with hb
  subst hb
  exact h3 j hj
end
end Go.Pc

/-
  Lists of homomorphisms: of the call's own, and as they read; marks on all their numbers.
  Conditions: none; nothing of the program stands here.
-/
namespace Go.Proofs.Ytjljbfcdpdckeaa
open Go Go.Pc
/-- One homomorphism's lists, as they lie. -/
structure HE where
  vo : Value
  od : List Int
  vp : Value
  rp : List (Value × List Int)
  vc : Value
  gs : List (Value × List (Value × List Int))
  uo : Value
  oe : List Int
  up : Value
  rq : List (Value × List Int)
  uc : Value
  hs : List (Value × List (Value × List Int))
  vi : Value
  ri : List (Value × List Int)
namespace HE
def cells (h : HE) : List Value := [h.vo, h.vp, h.vc, h.uo, h.up, h.uc, h.vi]
def rows (h : HE) : List (Value × List Int) := (h.vo, h.od) :: (h.rp ++ (flat h.gs ++ ((h.uo, h.oe) :: (h.rq ++ (flat h.hs ++ h.ri)))))
def p (h : HE) : Pr := ⟨h.od, h.rp.map (·.2), h.gs.map fun q => q.2.map (·.2)⟩
def q (h : HE) : Pr := ⟨h.oe, h.rq.map (·.2), h.hs.map fun q => q.2.map (·.2)⟩
def x (h : HE) : List (List Int) := h.ri.map (·.2)
def val (h : HE) : Pr × Pr × List (List Int) := (h.p, h.q, h.x)
def mark (k : Int) (h : HE) : HE :=
  { h with
    od := marks k h.od.length
    rp := mkR (k + h.od.length) h.rp
    gs := mkC (k + h.od.length + tot (h.rp.map (·.2))) h.gs
    oe := marks (k + h.od.length + tot (h.rp.map (·.2)) + tot ((flat h.gs).map (·.2))) h.oe.length
    rq := mkR (k + h.od.length + tot (h.rp.map (·.2)) + tot ((flat h.gs).map (·.2)) + h.oe.length) h.rq
    hs := mkC (k + h.od.length + tot (h.rp.map (·.2)) + tot ((flat h.gs).map (·.2)) + h.oe.length + tot (h.rq.map (·.2))) h.hs
    ri := mkR (k + h.od.length + tot (h.rp.map (·.2)) + tot ((flat h.gs).map (·.2)) + h.oe.length + tot (h.rq.map (·.2)) + tot ((flat h.hs).map (·.2))) h.ri }
structure Ok (A : Nat → Prop) (w : World) (h : HE) : Prop where
  p : SpA A w h.vp (h.rp.map (·.1))
  c : CubO A w h.vc h.gs
  q : SpA A w h.up (h.rq.map (·.1))
  d : CubO A w h.uc h.hs
  i : SpA A w h.vi (h.ri.map (·.1))
variable {A A' B : Nat → Prop} {w w' : World} {h : HE}
theorem Ok.wr (o : Ok A w h) (k : Wrt B w w') (hb : ∀ b, B b → A b) : Ok A w' h := ⟨o.p.wr k hb, o.c.wr k hb, o.q.wr k hb, o.d.wr k hb, o.i.wr k hb⟩
theorem Ok.weak (o : Ok A w h) (hb : ∀ b, A' b → A b) : Ok A' w h := ⟨o.p.weak hb, ⟨o.c.sp0.weak hb, fun q hq => (o.c.sp q hq).weak hb⟩, o.q.weak hb, ⟨o.d.sp0.weak hb, fun q hq => (o.d.sp q hq).weak hb⟩, o.i.weak hb⟩
theorem cub_mk {v : Value} {k : Int} {gs : List (Value × List (Value × List Int))} (o : CubO A w v gs) : CubO A w v (mkC k gs) :=
  ⟨by rw [mkC_fst]; exact o.sp0, fun q hq => by
    obtain ⟨q', h1, h2, h3⟩ := mkC_mem hq
    rw [h2, h3]
    exact o.sp _ h1⟩
theorem Ok.mark (o : Ok A w h) (k : Int) : Ok A w (h.mark k) :=
  ⟨by rw [show (h.mark k).rp.map (·.1) = h.rp.map (·.1) from mkR_fst _ _]; exact o.p, cub_mk o.c, by rw [show (h.mark k).rq.map (·.1) = h.rq.map (·.1) from mkR_fst _ _]; exact o.q, cub_mk o.d, by rw [show (h.mark k).ri.map (·.1) = h.ri.map (·.1) from mkR_fst _ _]; exact o.i⟩
end HE
def allR (es : List HE) : List (Value × List Int) := es.flatMap HE.rows
def allC (es : List HE) : List Value := es.flatMap HE.cells
theorem allR_append (es fs : List HE) : allR (es ++ fs) = allR es ++ allR fs := by simp [allR]
/-- A list of homomorphisms of the call's own. -/
structure HomsO (e s t : Nat) (w : World) (v : Value) (es : List HE) : Prop where
  own : OwnS e s w v es.length (allC es)
  vt : ∀ b, v.ownBlock = some b → b < t ∧ ¬ BlkOf (allR es) b
  rows : RowsO s w (allR es)
  lt : ∀ b, BlkOf (allR es) b → b < t
  ok : ∀ h, h ∈ es → HE.Ok (fun b => BlkOf (allR es) b ∨ b < s ∨ t ≤ b) w h
/-- A list of homomorphisms that is read. -/
class HomsV (lo hi : outParam Nat) (w : World) (v : Value) (ks : outParam (List (Pr × Pr × List (List Int)))) : Prop where
  ex : ∃ us, SlS lo hi w v ks.length us ∧ ∀ i (hi' : i < ks.length), HomV lo hi w (.agg #[us.getD (i * 7 + 0) nilv, us.getD (i * 7 + 1) nilv, us.getD (i * 7 + 2) nilv, us.getD (i * 7 + 3) nilv, us.getD (i * 7 + 4) nilv, us.getD (i * 7 + 5) nilv, us.getD (i * 7 + 6) nilv]) ks[i].1 ks[i].2.1 ks[i].2.2
section
variable {B : Nat → Prop} {e s t lo hi lo' hi' : Nat} {w w' : World} {v : Value} {es : List HE} {ks : List (Pr × Pr × List (List Int))}
theorem HomsO.wr (h : HomsO e s t w v es) (k : Wrt B w w') (hb : ∀ b, B b → b < s ∨ t ≤ b) : HomsO e s t w' v es :=
  ⟨h.own.wr k fun b e1 hB => by
    have h1 := h.own.lt b e1
    have h2 := (h.vt b e1).1
    have := hb b hB; omega, h.vt, h.rows.wr k fun b e1 hB => by
    have h1 := (h.rows.blk e1).1
    have h2 := h.lt b e1
    have := hb b hB; omega, h.lt, fun x hx => (h.ok x hx).wr k fun b hB => .inr (hb b hB)⟩
theorem RowsO.part {s : Nat} {w : World} {rs L : List (Value × List Int)} (h : RowsO s w L) (hs : rs.Sublist L) : RowsO s w rs := ⟨fun r hr => h.fr r (hs.mem hr), h.sep.sublist hs⟩
theorem HE.parts (h : HE) : [(h.vo, h.od)].Sublist h.rows ∧ h.rp.Sublist h.rows ∧ (flat h.gs).Sublist h.rows ∧ [(h.uo, h.oe)].Sublist h.rows ∧ h.rq.Sublist h.rows ∧ (flat h.hs).Sublist h.rows ∧ h.ri.Sublist h.rows := by
  have k1 : (h.rp ++ (flat h.gs ++ ((h.uo, h.oe) :: (h.rq ++ (flat h.hs ++ h.ri))))).Sublist h.rows := List.sublist_cons_self _ _
  have k2 : (flat h.gs ++ ((h.uo, h.oe) :: (h.rq ++ (flat h.hs ++ h.ri)))).Sublist h.rows := (List.sublist_append_right _ _).trans k1
  have k3 : ((h.uo, h.oe) :: (h.rq ++ (flat h.hs ++ h.ri))).Sublist h.rows := (List.sublist_append_right _ _).trans k2
  have k4 : (h.rq ++ (flat h.hs ++ h.ri)).Sublist h.rows := (List.sublist_cons_self _ _).trans k3
  have k5 : (flat h.hs ++ h.ri).Sublist h.rows := (List.sublist_append_right _ _).trans k4
  exact ⟨List.singleton_sublist.2 List.mem_cons_self, (List.sublist_append_left _ _).trans k1, (List.sublist_append_left _ _).trans k2, (List.singleton_sublist.2 List.mem_cons_self).trans k3, (List.sublist_append_left _ _).trans k4, (List.sublist_append_left _ _).trans k5, (List.sublist_append_right _ _).trans k5⟩
/-- What one homomorphism of the list reads as. -/
theorem HE.reads {A : Nat → Prop} {h : HE} (hR : RowsO s w h.rows) (o : HE.Ok A w h) : Ints 0 w.heap.size w h.vo h.od ∧ Pc.Rows 0 w.heap.size w h.vp (h.rp.map (·.1)) (h.rp.map (·.2)) ∧ Rowss 0 w.heap.size w h.vc (h.gs.map (·.1)) (h.gs.map fun q => q.2.map (·.1)) (h.gs.map fun q => q.2.map (·.2)) ∧
    Ints 0 w.heap.size w h.uo h.oe ∧ Pc.Rows 0 w.heap.size w h.up (h.rq.map (·.1)) (h.rq.map (·.2)) ∧ Rowss 0 w.heap.size w h.uc (h.hs.map (·.1)) (h.hs.map fun q => q.2.map (·.1)) (h.hs.map fun q => q.2.map (·.2)) ∧ Pc.Rows 0 w.heap.size w h.vi (h.ri.map (·.1)) (h.ri.map (·.2)) := by
  obtain ⟨s1, s2, s3, s4, s5, s6, s7⟩ := h.parts
  exact ⟨((RowsO.part hR s1).fr _ List.mem_cons_self).ints.wide, (RowsO.part hR s2).rows o.p.sl, rowss_of_cub (A := fun _ => True) (s := 0) o.c.sp0.sl (Nat.zero_le _) fun q hq => (RowsO.ofFlat (RowsO.part hR s3) hq).rows (o.c.sp q hq).sl,
    ((RowsO.part hR s4).fr _ List.mem_cons_self).ints.wide, (RowsO.part hR s5).rows o.q.sl, rowss_of_cub (A := fun _ => True) (s := 0) o.d.sp0.sl (Nat.zero_le _) fun q hq => (RowsO.ofFlat (RowsO.part hR s6) hq).rows (o.d.sp q hq).sl, (RowsO.part hR s7).rows o.i.sl⟩
theorem HomsV.same (h : HomsV lo hi w v ks) (k : Same lo hi w w') (hs : w.heap.size ≤ w'.heap.size) : HomsV lo hi w' v ks := by
  obtain ⟨us, h1, h2⟩ := h.ex
  exact ⟨us, h1.same k hs, fun i hi => (h2 i hi).same k⟩
theorem HomsV.wide (h : HomsV lo hi w v ks) : HomsV 0 w.heap.size w v ks := by
  obtain ⟨us, h1, h2⟩ := h.ex
  exact ⟨us, h1.wide, fun i hi => (h2 i hi).wide⟩
instance (priority := low) HomsV.ext [x : Ext w w'] [h : HomsV lo hi w v ks] : HomsV lo hi w' v ks := h.same (x.same _ _) x.size
theorem HomsV.toLen (h : HomsV lo hi w v ks) : Len w v ks.length := by
  obtain ⟨us, h1, _⟩ := h.ex
  exact h1.toLen
end
end Go.Proofs.Ytjljbfcdpdckeaa

/-
  Lists of elements by their numbers; how many of them are images of a homomorphism.
  Conditions: none.
-/
namespace Go.Proofs.Ytjljbfcdpdckeaa
open Go Go.Pc
section
variable {q : Pr} [hc : ConAll q]
end
end Go.Proofs.Ytjljbfcdpdckeaa

/-
  Lists of homomorphisms while they grow, with the lists of images that are still to be used; the answer of AllHoms.
  Conditions: none; nothing of the program stands here.
-/
namespace Go.Proofs.Ytjljbfcdpdckeaa
open Go Go.Pc
section
variable {A B : Nat → Prop} {e s t a b c lo hi : Nat} {w w' w0 w1 w2 w3 : World} {v v' u : Value} {us : List Value} {xs : List Int} {rs qs : List (Value × List Int)} {p q : Pr}
theorem RowsO.perm (h : RowsO s w rs) (k : rs.Perm qs) : RowsO s w qs :=
  ⟨fun r hr => h.fr r (k.mem_iff.2 hr), (k.pairwise_iff (fun h => fun h1 h2 e => h h2 h1 e.symm)).1 h.sep⟩
theorem RowsO.join (h : RowsO s w rs) (k : RowsO s w qs) (hd : ∀ b, BlkOf rs b → ¬ BlkOf qs b) : RowsO s w (rs ++ qs) :=
  ⟨fun r hr => (List.mem_append.1 hr).elim (h.fr r) (k.fr r), List.pairwise_append.2 ⟨h.sep, k.sep, fun r hr q hq h1 h2 e => by
    obtain ⟨b, e1, _⟩ := (h.fr r hr).block h1
    exact hd b ⟨r, hr, h1, e1⟩ ⟨q, hq, h2, by rw [← e]; exact e1⟩⟩⟩
theorem BlkOf.perm {b : Nat} (h : BlkOf rs b) (k : rs.Perm qs) : BlkOf qs b := by
  obtain ⟨r, h1, h2, h3⟩ := h
  exact ⟨r, k.mem_iff.1 h1, h2, h3⟩
theorem RowsO.set {i : Nat} (h : RowsO s w rs) (hi : i < rs.length) (x : Ext w w') (hs : s ≤ w.heap.size) (hu : Fr w.heap.size w' u xs) : RowsO s w' (rs.set i (u, xs)) := by
  have h1 : RowsO s w (rs.take i ++ rs.drop (i + 1)) := RowsO.part h (by rw [← List.eraseIdx_eq_take_drop_succ]; exact List.eraseIdx_sublist _ _)
  refine RowsO.perm (h1.cons x hs hu) ?_
  rw [List.set_eq_take_append_cons_drop, if_pos hi]
  exact List.perm_middle.symm
theorem RowsO.nils (s : Nat) (w : World) (n : Nat) : RowsO s w (List.replicate n (nilv, [])) := by
  refine ⟨fun r hr => ?_, List.pairwise_of_forall_mem_list fun a ha b _ h => ?_⟩
  · rw [(List.mem_replicate.1 hr).2]; exact Fr.nilR _ _
  · rw [(List.mem_replicate.1 ha).2] at h; exact absurd rfl h
theorem SpA.inn (h : SpA A w v us) (hs : Sl s t w v us) : SpA (fun b => A b ∨ b < s ∨ t ≤ b) w v us := by
  obtain ⟨lo, hi, h1, h2⟩ := h
  obtain ⟨X, c, rfl, hc, hm, hcell⟩ := h1.ex
  obtain ⟨X', c', hv, _, _, hcell'⟩ := hs.ex
  refine ⟨max lo s, min hi t, ⟨⟨X, c, rfl, hc, hm, fun i u hu => ?_⟩⟩, fun b hb => ?_⟩
  · obtain ⟨a, hA, e1, e2, e3⟩ := hcell i u hu
    obtain ⟨a', hA', g1, g2, g3⟩ := hcell' i u hu
    injection hv with hv _ _
    rw [hA, hA'] at hv; injection hv with hv; subst hv
    exact ⟨a, hA, by omega, by omega, e3⟩
  · rcases hb with hb | hb
    · have := h2 b hb; omega
    · omega
theorem HomV.mono {lo' hi' : Nat} {xss : List (List Int)} (h : HomV lo hi w v p q xss) (h1 : lo' ≤ lo) (h2 : hi ≤ hi') : HomV lo' hi' w v p q xss := by
  obtain ⟨a0, a1, a2, a3, a4, a5, a6, us, rfl, hp, hq, hx⟩ := h.ex
  exact ⟨⟨a0, a1, a2, a3, a4, a5, a6, us, rfl, hp.mono h1 h2, hq.mono h1 h2, hx.mono h1 h2⟩⟩
/-- What the spines of a growing list of homomorphisms lie apart from. -/
def Av (s : Nat) (w : World) (v : Value) (R : List (Value × List Int)) (b : Nat) : Prop := BlkOf R b ∨ v.ownBlock = some b ∨ b < s ∨ w.heap.size ≤ b
/-- A list of homomorphisms that grows; lists of images that are still to be used. -/
structure InvA (e s : Nat) (w : World) (v : Value) (es : List HE) (gs : List (Value × List (Value × List Int))) : Prop where
  own : OwnS e s w v es.length (allC es)
  rows : RowsO s w (allR es ++ flat gs)
  off : ∀ b, v.ownBlock = some b → ¬ BlkOf (allR es ++ flat gs) b
  ok : ∀ h, h ∈ es → HE.Ok (Av s w v (allR es ++ flat gs)) w h
  sp : ∀ q, q ∈ gs → SpA (Av s w v (allR es ++ flat gs)) w q.1 (q.2.map (·.1))
theorem InvA.start {eo ei : Nat} {vg : Value} {gs : List (Value × List (Value × List Int))} (h : GrC eo ei t w vg gs) (hs : s ≤ t) : InvA e s w nilv [] gs :=
  ⟨OwnS.nil _ _ _, by simpa [allR] using h.rows.mono hs, fun b hb => (by cases hb), fun h hh => (by cases hh), fun q hq => (h.inn q hq).spA fun b hb hA => by
    have h1 := (h.inn q hq).lt b hb
    rcases hA with hA | hA | hA
    · exact h.offi q hq b hb (by simpa [allR] using hA)
    · cases hA
    · omega⟩
theorem InvA.done {es : List HE} (h : InvA e s w v es []) : HomsO e s w.heap.size w v es := by
  have e0 : allR es ++ flat [] = allR es := by simp [flat]
  have hR := h.rows
  have hok := h.ok
  have hoff := h.off
  rw [e0] at hR hok hoff
  exact ⟨h.own, fun b hb => ⟨(h.own.lt b hb).2, hoff b hb⟩, hR, fun b hb => (hR.blk hb).2, fun x hx => (hok x hx).weak fun b hb => by
    rcases hb with hb | hb
    · exact .inl hb
    · exact .inr (.inr hb)⟩
theorem InvA.ext {es : List HE} {gs : List (Value × List (Value × List Int))} (h : InvA e s w v es gs) (x : Ext w w') : InvA e s w' v es gs := by
  have z := x.size
  have hA : ∀ b, Av s w' v (allR es ++ flat gs) b → Av s w v (allR es ++ flat gs) b := fun b hb => by
    rcases hb with hb | hb | hb | hb
    · exact .inl hb
    · exact .inr (.inl hb)
    · exact .inr (.inr (.inl hb))
    · exact .inr (.inr (.inr (by omega)))
  exact ⟨h.own.ext x, h.rows.ext x, h.off, fun y hy => ((h.ok y hy).wr (.ofExt (B := fun _ => False) x) fun b hb => hb.elim).weak hA, fun q hq => ((h.sp q hq).wr (.ofExt (B := fun _ => False) x) fun b hb => hb.elim).weak hA⟩
theorem HE.Ok.grow {A' : Nat → Prop} {h : HE} (o : HE.Ok A w h) (x : Ext w w') (hA : ∀ b, A' b → A b ∨ w.heap.size ≤ b) : HE.Ok A' w' h :=
  ⟨SpA.grow o.p x hA, ⟨SpA.grow o.c.sp0 x hA, fun q hq => SpA.grow (o.c.sp q hq) x hA⟩, SpA.grow o.q x hA, ⟨SpA.grow o.d.sp0 x hA, fun q hq => SpA.grow (o.d.sp q hq) x hA⟩, SpA.grow o.i x hA⟩
theorem presO_parts {y0 y1 y2 : Value} (h : PresO a b w (.agg #[y0, y1, y2]) p) : ∃ rp gs, RowsO a w ((y0, p.ord) :: (rp ++ flat gs)) ∧ (∀ g, BlkOf ((y0, p.ord) :: (rp ++ flat gs)) g → g < b) ∧
    SpA (fun g => BlkOf ((y0, p.ord) :: (rp ++ flat gs)) g ∨ g < a ∨ b ≤ g) w y1 (rp.map (·.1)) ∧ CubO (fun g => BlkOf ((y0, p.ord) :: (rp ++ flat gs)) g ∨ g < a ∨ b ≤ g) w y2 gs ∧ p = ⟨p.ord, rp.map (·.2), gs.map fun q => q.2.map (·.2)⟩ := by
  obtain ⟨vo, vp, vc, rp, gs, e, hO, hl, hs, hc, h1, h2, h3, h4, h5⟩ := h.ex
  injection e with e
  have f : ∀ i, (#[y0, y1, y2] : Array Value).getD i undef = (#[vo, vp, vc] : Array Value).getD i undef := fun i => by rw [e]
  obtain rfl : y0 = vo := by simpa using f 0
  obtain rfl : y1 = vp := by simpa using f 1
  obtain rfl : y2 = vc := by simpa using f 2
  refine ⟨rp, gs, hO, hl, SpA.inn hs h4.sl, ⟨SpA.inn hc.sp0 h5.sl, fun q hq => ?_⟩, by rw [← h1, ← h2]⟩
  obtain ⟨i, hi, rfl⟩ := List.getElem_of_mem hq
  have h6 := (h5.vals.at_ i).sl
  have e1 : (gs.map (·.1)).getD i nilv = gs[i].1 := by simp [hi]
  have e2 : (gs.map fun q => q.2.map (·.1)).getD i [] = gs[i].2.map (·.1) := by simp [hi]
  rw [e1, e2] at h6
  exact SpA.inn (hc.sp _ hq) h6
set_option maxHeartbeats 1000000 in
/-- One more homomorphism, with the next list of images. -/
theorem InvA.push {b' : Nat} {es : List HE} {gs : List (Value × List (Value × List Int))} {g : Value × List (Value × List Int)} {y0 y1 y2 y3 y4 y5 : Value} {n : Nat} {cs : List Value} (I : InvA e s w0 v es (g :: gs)) (x : Ext w0 w2) (hs : s ≤ w0.heap.size)
    (hP : PresO a b w2 (.agg #[y0, y1, y2]) p) (hQ : PresO b' c w2 (.agg #[y3, y4, y5]) q) (ha : w0.heap.size ≤ a) (hb : b ≤ b') (hc : c ≤ w2.heap.size) (hab : a ≤ b) (hbc : b' ≤ c)
    (ho : OwnS e s w3 v' n cs) (hn : n = es.length + 1) (hcs : cs = allC es ++ [y0, y1, y2, y3, y4, y5, g.1]) (hst : Pc.GStep w2 w3 v v') : ∃ h : HE, h.val = (p, q, g.2.map (·.2)) ∧ InvA e s w3 v' (es ++ [h]) gs := by
  obtain ⟨rp, gP, hO1, hl1, hs1, hc1, ep⟩ := presO_parts hP
  obtain ⟨rq, gQ, hO2, hl2, hs2, hc2, eq⟩ := presO_parts hQ
  subst hn hcs
  have zx := x.size
  have hW := hst.wrt
  have z3 := hW.size
  refine ⟨⟨y0, p.ord, y1, rp, y2, gP, y3, q.ord, y4, rq, y5, gQ, g.1, g.2⟩, ?_, ?_⟩
  · unfold HE.val HE.p HE.q HE.x
    exact Prod.ext ep.symm (Prod.ext eq.symm rfl)
  generalize hR1 : (y0, p.ord) :: (rp ++ flat gP) = R1 at *
  generalize hR2 : (y3, q.ord) :: (rq ++ flat gQ) = R2 at *
  have hrow : HE.rows ⟨y0, p.ord, y1, rp, y2, gP, y3, q.ord, y4, rq, y5, gQ, g.1, g.2⟩ = R1 ++ (R2 ++ g.2) := by
    rw [← hR1, ← hR2]
    simp only [HE.rows, List.append_assoc, List.cons_append]
  have hB1 : ∀ k, BlkOf R1 k → a ≤ k ∧ k < b := fun k hk => ⟨(hO1.blk hk).1, hl1 k hk⟩
  have hB2 : ∀ k, BlkOf R2 k → b' ≤ k ∧ k < c := fun k hk => ⟨(hO2.blk hk).1, hl2 k hk⟩
  have h12 : RowsO w0.heap.size w2 (R1 ++ R2) := RowsO.join (hO1.mono ha) (hO2.mono (by omega)) fun k h1 h2 => by
    have := hB1 k h1; have := hB2 k h2; omega
  have hR := I.rows.append x hs h12
  have hfl : flat (g :: gs) = g.2 ++ flat gs := flat_cons _ _
  have hperm : ((allR es ++ flat (g :: gs)) ++ (R1 ++ R2)).Perm (allR (es ++ [⟨y0, p.ord, y1, rp, y2, gP, y3, q.ord, y4, rq, y5, gQ, g.1, g.2⟩]) ++ flat gs) := by
    rw [allR_append, show allR [(⟨y0, p.ord, y1, rp, y2, gP, y3, q.ord, y4, rq, y5, gQ, g.1, g.2⟩ : HE)] = R1 ++ (R2 ++ g.2) by rw [← hrow]; simp [allR], hfl]
    simp only [List.append_assoc]
    refine List.Perm.append_left _ ?_
    have h1 := List.perm_append_comm (l₁ := g.2 ++ flat gs) (l₂ := R1 ++ R2)
    simpa only [List.append_assoc] using h1
  have hR' := RowsO.perm hR hperm
  have hblk : ∀ k, BlkOf (allR (es ++ [⟨y0, p.ord, y1, rp, y2, gP, y3, q.ord, y4, rq, y5, gQ, g.1, g.2⟩]) ++ flat gs) k → BlkOf (allR es ++ flat (g :: gs)) k ∨ BlkOf R1 k ∨ BlkOf R2 k := fun k hk => by
    have := BlkOf.perm hk hperm.symm
    rcases blkOf_append'.1 this with h | h
    · exact .inl h
    · exact .inr (blkOf_append'.1 h)
  generalize hnew : allR (es ++ [⟨y0, p.ord, y1, rp, y2, gP, y3, q.ord, y4, rq, y5, gQ, g.1, g.2⟩]) ++ flat gs = RN at *
  have hold : ∀ k, BlkOf (allR es ++ flat (g :: gs)) k → s ≤ k ∧ k < w0.heap.size := fun k hk => I.rows.blk hk
  have hv0 : ∀ k, v.ownBlock = some k → k < w0.heap.size := fun k hk => (I.own.lt k hk).2
  have hoffN : ∀ k, v.ownBlock = some k → ¬ BlkOf RN k := fun k hk hB => by
    have h0 := hv0 k hk
    rcases hblk k hB with h | h | h
    · exact I.off k hk h
    · have := hB1 k h; omega
    · have := hB2 k h; omega
  have hA2 : ∀ k, (Av s w3 v' RN k ∨ v.ownBlock = some k) → (BlkOf (allR es ++ flat (g :: gs)) k ∨ v.ownBlock = some k ∨ k < s) ∨ BlkOf R1 k ∨ BlkOf R2 k ∨ w2.heap.size ≤ k := fun k hk => by
    rcases hk with (hk | hk | hk | hk) | hk
    · rcases hblk k hk with h | h | h
      · exact .inl (.inl h)
      · exact .inr (.inl h)
      · exact .inr (.inr (.inl h))
    · rcases hst.new hk with h | h
      · exact .inl (.inr (.inl h))
      · exact .inr (.inr (.inr h))
    · exact .inl (.inr (.inr hk))
    · exact .inr (.inr (.inr (by omega)))
    · exact .inl (.inr (.inl hk))
  have hA0 : ∀ k, (Av s w3 v' RN k ∨ v.ownBlock = some k) → Av s w0 v (allR es ++ flat (g :: gs)) k ∨ w0.heap.size ≤ k := fun k hk => by
    rcases hA2 k hk with (h | h | h) | h | h | h
    · exact .inl (.inl h)
    · exact .inl (.inr (.inl h))
    · exact .inl (.inr (.inr (.inl h)))
    · have := hB1 k h; exact .inr (by omega)
    · have := hB2 k h; exact .inr (by omega)
    · exact .inr (by omega)
  have hAP : ∀ k, (Av s w3 v' RN k ∨ v.ownBlock = some k) → BlkOf R1 k ∨ k < a ∨ b ≤ k := fun k hk => by
    rcases hA2 k hk with (h | h | h) | h | h | h
    · have := hold k h; exact .inr (.inl (by omega))
    · have := hv0 k h; exact .inr (.inl (by omega))
    · exact .inr (.inl (by omega))
    · exact .inl h
    · have := hB2 k h; exact .inr (.inr (by omega))
    · exact .inr (.inr (by omega))
  have hAQ : ∀ k, (Av s w3 v' RN k ∨ v.ownBlock = some k) → BlkOf R2 k ∨ k < b' ∨ c ≤ k := fun k hk => by
    rcases hA2 k hk with (h | h | h) | h | h | h
    · have := hold k h; exact .inr (.inl (by omega))
    · have := hv0 k h; exact .inr (.inl (by omega))
    · exact .inr (.inl (by omega))
    · have := hB1 k h; exact .inr (.inl (by omega))
    · exact .inl h
    · exact .inr (.inr (by omega))
  refine ⟨by simpa [allC, HE.cells] using ho, ?_, fun k hk hB => ?_, fun h hh => ?_, fun r hr => ?_⟩
  · rw [hnew]; exact hR'.wr hW fun k hk hB => hoffN k hB hk
  · rw [hnew] at hB
    rcases hst.new hk with h | h
    · exact hoffN k h hB
    · rcases hblk k hB with h1 | h1 | h1
      · have := hold k h1; omega
      · have := hB1 k h1; omega
      · have := hB2 k h1; omega
  · rw [hnew]
    rcases List.mem_append.1 hh with hh | hh
    · exact (((I.ok h hh).grow x hA0).wr hW fun k hk => .inr hk).weak fun k hk => .inl hk
    · obtain rfl := List.mem_singleton.1 hh
      exact ⟨((hs1.weak hAP).wr hW fun k hk => .inr hk).weak fun k hk => .inl hk,
        ⟨((hc1.sp0.weak hAP).wr hW fun k hk => .inr hk).weak fun k hk => .inl hk, fun q hq => (((hc1.sp q hq).weak hAP).wr hW fun k hk => .inr hk).weak fun k hk => .inl hk⟩,
        ((hs2.weak hAQ).wr hW fun k hk => .inr hk).weak fun k hk => .inl hk,
        ⟨((hc2.sp0.weak hAQ).wr hW fun k hk => .inr hk).weak fun k hk => .inl hk, fun q hq => (((hc2.sp q hq).weak hAQ).wr hW fun k hk => .inr hk).weak fun k hk => .inl hk⟩,
        ((SpA.grow (I.sp g List.mem_cons_self) x hA0).wr hW fun k hk => .inr hk).weak fun k hk => .inl hk⟩
  · rw [hnew]
    exact ((SpA.grow (I.sp r (List.mem_cons_of_mem _ hr)) x hA0).wr hW fun k hk => .inr hk).weak fun k hk => .inl hk
/-- A list of homomorphisms that grows and is only read. -/
structure InvS (e s : Nat) (w : World) (v : Value) (ks : List (Pr × Pr × List (List Int))) : Prop where
  ex : ∃ us, OwnS e s w v ks.length us ∧ ∀ i (hi : i < ks.length), ∃ lo hi, s ≤ lo ∧ hi ≤ w.heap.size ∧ (∀ b, v.ownBlock = some b → b < lo ∨ hi ≤ b) ∧ HomV lo hi w (.agg #[us.getD (i * 7 + 0) nilv, us.getD (i * 7 + 1) nilv, us.getD (i * 7 + 2) nilv, us.getD (i * 7 + 3) nilv, us.getD (i * 7 + 4) nilv, us.getD (i * 7 + 5) nilv, us.getD (i * 7 + 6) nilv]) ks[i].1 ks[i].2.1 ks[i].2.2
theorem InvS.nil (e s : Nat) (w : World) : InvS e s w nilv [] := ⟨[], OwnS.nil _ _ _, fun i hi => absurd hi (by simp)⟩
theorem InvS.ext {ks : List (Pr × Pr × List (List Int))} (h : InvS e s w v ks) (x : Ext w w') : InvS e s w' v ks := by
  obtain ⟨us, h1, h2⟩ := h.ex
  refine ⟨us, h1.ext x, fun i hi => ?_⟩
  obtain ⟨lo, hi', k1, k2, k3, k4⟩ := h2 i hi
  exact ⟨lo, hi', k1, Nat.le_trans k2 x.size, k3, k4.same (x.same _ _)⟩
theorem InvS.push {ks : List (Pr × Pr × List (List Int))} {us cs : List Value} {n : Nat} {u0 u1 u2 u3 u4 u5 u6 : Value} {xss : List (List Int)} (h1 : OwnS e s w0 v ks.length us) (h2 : ∀ i (hi : i < ks.length), ∃ lo hi, s ≤ lo ∧ hi ≤ w0.heap.size ∧ (∀ b, v.ownBlock = some b → b < lo ∨ hi ≤ b) ∧ HomV lo hi w0 (.agg #[us.getD (i * 7 + 0) nilv, us.getD (i * 7 + 1) nilv, us.getD (i * 7 + 2) nilv, us.getD (i * 7 + 3) nilv, us.getD (i * 7 + 4) nilv, us.getD (i * 7 + 5) nilv, us.getD (i * 7 + 6) nilv]) ks[i].1 ks[i].2.1 ks[i].2.2)
    (x : Ext w0 w2) (hs : s ≤ w0.heap.size) (hV : HomV w0.heap.size w2.heap.size w2 (.agg #[u0, u1, u2, u3, u4, u5, u6]) p q xss)
    (ho : OwnS e s w3 v' n cs) (hn : n = ks.length + 1) (hcs : cs = us ++ [u0, u1, u2, u3, u4, u5, u6]) (hst : Pc.GStep w2 w3 v v') : InvS e s w3 v' (ks ++ [(p, q, xss)]) := by
  subst hn hcs
  have hW := hst.wrt
  have z3 := hW.size
  have zx := x.size
  have hl := h1.len
  refine ⟨us ++ [u0, u1, u2, u3, u4, u5, u6], by simpa using ho, fun i hi => ?_⟩
  by_cases hin : i < ks.length
  · obtain ⟨lo, hi', k1, k2, k3, k4⟩ := h2 i hin
    have e1 : ∀ f, f < 7 → (us ++ [u0, u1, u2, u3, u4, u5, u6]).getD (i * 7 + f) nilv = us.getD (i * 7 + f) nilv := fun f hf => by
      rw [List.getD_eq_getElem?_getD, List.getD_eq_getElem?_getD, List.getElem?_append_left (by omega)]
    refine ⟨lo, hi', k1, by omega, fun b hb => ?_, ?_⟩
    · rcases hst.new hb with h | h
      · exact k3 b h
      · exact .inr (by omega)
    · rw [e1 0 (by omega), e1 1 (by omega), e1 2 (by omega), e1 3 (by omega), e1 4 (by omega), e1 5 (by omega), e1 6 (by omega), List.getElem_append_left hin]
      exact (k4.same (x.same _ _)).same (hW.same fun b hb => k3 b hb)
  · have hi2 : i = ks.length := by simp at hi; omega
    have e1 : ∀ f, f < 7 → (us ++ [u0, u1, u2, u3, u4, u5, u6]).getD (i * 7 + f) nilv = [u0, u1, u2, u3, u4, u5, u6].getD f nilv := fun f hf => by
      rw [List.getD_eq_getElem?_getD, List.getD_eq_getElem?_getD, List.getElem?_append_right (by omega), show i * 7 + f - us.length = f by omega]
    refine ⟨w0.heap.size, w2.heap.size, hs, by omega, fun b hb => ?_, ?_⟩
    · rcases hst.new hb with h | h
      · exact .inl (h1.lt b h).2
      · exact .inr h
    · rw [e1 0 (by omega), e1 1 (by omega), e1 2 (by omega), e1 3 (by omega), e1 4 (by omega), e1 5 (by omega), e1 6 (by omega)]
      subst hi2
      rw [List.getElem_append_right (Nat.le_refl _)]
      simp only [Nat.sub_self, List.getElem_cons_zero]
      exact hV.same (hW.same fun b hb => .inl (h1.lt b hb).2)
end
theorem HomsV.mono {lo hi lo' hi' : Nat} {w : World} {v : Value} {ks : List (Pr × Pr × List (List Int))} (h : HomsV lo hi w v ks) (h1 : lo' ≤ lo) (h2 : hi ≤ hi') : HomsV lo' hi' w v ks := by
  obtain ⟨us, k1, k2⟩ := h.ex
  exact ⟨us, k1.mono h1 h2, fun i hi => HomV.mono (k2 i hi) h1 h2⟩
/-! ### the answer -/
section
variable {p q : Pr} [hc : ConAll q]
end
end Go.Proofs.Ytjljbfcdpdckeaa

/-
  slices.SortFunc over the kit's contract, for lists of elements in a list of the call's own.
  Conditions: the sort is laid in the program; what its comparison gives.
-/
namespace Go.Proofs.Ytjljbfcdpdckeaa
open Go Go.Pc Go.Sort
section
variable {P : Program} {ρ : Go.Shelf.Ren} {p : Pr} [hc : ConAll p]
end
end Go.Proofs.Ytjljbfcdpdckeaa

/-
  Marks on a class and the classes' indices, as the reference writes them.
  Conditions: the tails at all levels are groups.
-/
namespace Go.Proofs.Ytjljbfcdpdckeaa
open Go Go.Pc
section
variable {p : Pr} [hc : ConAll p]
end
/-! ### rows that have been sorted -/
section
variable {p : Pr} [hc : ConAll p]
end
end Go.Proofs.Ytjljbfcdpdckeaa

/-
  Walks: the reference's IsMember and IsSubset.
  Conditions: what the arguments read as.
-/
namespace Go.Proofs.Ytjljbfcdpdckeaa
open Go Go.Pc
end Go.Proofs.Ytjljbfcdpdckeaa

/-
  Walks: the reference's CosetRepresentative.
  Conditions: what the arguments read as.
-/
namespace Go.Proofs.Ytjljbfcdpdckeaa
open Go Go.Pc
end Go.Proofs.Ytjljbfcdpdckeaa

/-
  Walks: the reference's closure under conjugation, its test of normality (l13Stable, l13Normal).
  Conditions: the tails at all levels are groups; the lists are those told.
-/
namespace Go.Proofs.Ytjljbfcdpdckeaa
open Go Go.Pc
/-- One round: the elements, and their conjugates. -/
structure Rnd {p : Pr} [ConAll p] (os bs ls : List (El p)) (i j : Nat) : Prop where
  mem : ∀ a, a ∈ ls → a ∈ os ∨ ∃ o, o ∈ os ∧ ∃ b, b ∈ bs ∧ a = Grp.cj o b
  old : ∀ o, o ∈ os → o ∈ ls
  rows : ∀ i' (h : i' < bs.length), i' < i → ∀ o, o ∈ os → Grp.cj o bs[i'] ∈ ls
  part : ∀ (h : i < bs.length) j' (h' : j' < os.length), j' < j → Grp.cj os[j'] bs[i] ∈ ls
  len : ls.length ≤ 6 + i * 6 + j
theorem Rnd.step {p : Pr} [ConAll p] {os bs ls : List (El p)} {i j : Nat} (h : Rnd os bs ls i j) (hi : i < bs.length) (hj : j < os.length) : Rnd os bs (ls ++ [Grp.cj os[j] bs[i]]) i (j + 1) where
  mem a ha := by
    rcases List.mem_append.1 ha with ha | ha
    · exact h.mem a ha
    · exact .inr ⟨_, List.getElem_mem hj, _, List.getElem_mem hi, List.mem_singleton.1 ha⟩
  old o ho := List.mem_append_left _ (h.old o ho)
  rows i' h1 h2 o ho := List.mem_append_left _ (h.rows i' h1 h2 o ho)
  part h1 j' h2 h3 := by
    by_cases e : j' = j
    · subst e; simp
    · exact List.mem_append_left _ (h.part h1 j' h2 (by omega))
  len := by have := h.len; simp only [List.length_append, List.length_singleton]; omega
theorem Rnd.next {p : Pr} [ConAll p] {os bs ls : List (El p)} {i : Nat} (h : Rnd os bs ls i os.length) (hi : i < bs.length) (h6 : os.length ≤ 6) : Rnd os bs ls (i + 1) 0 where
  mem := h.mem
  old := h.old
  rows i' h1 h2 o ho := by
    by_cases e : i' = i
    · subst e
      obtain ⟨j, hj, rfl⟩ := List.getElem_of_mem ho
      exact h.part h1 j hj hj
    · exact h.rows i' h1 (by omega) o ho
  part h1 j' h2 h3 := absurd h3 (Nat.not_lt_zero _)
  len := by have := h.len; omega
end Go.Proofs.Ytjljbfcdpdckeaa

/-
  Walks: the reference's GeneratedSubgroup, ConjugateSubgroup, IsNormalSubgroup, SubgroupIndex, SubgroupDepths.
  Conditions: what the arguments read as.
-/
namespace Go.Proofs.Ytjljbfcdpdckeaa
open Go Go.Pc
end Go.Proofs.Ytjljbfcdpdckeaa

/-
  Walks: the reference's CosetNumber, MemberElement, MemberExponents.
  Conditions: what the arguments read as.
-/
namespace Go.Proofs.Ytjljbfcdpdckeaa
open Go Go.Pc
theorem l10One_ok {p : Pr} [hc : ConAll p] {w : World} {vp : Value} {lo hi : Nat} [hp : Pres lo hi w vp p] :
    Calls Try.prog 144 #[vp] w (Ret fun v w' => Ext w w' ∧ Fr w.heap.size w' v (1 : El p).v) := by
  have hn6 := hc.valid.n6
  have hol : p.ord.length = p.n := rfl
  obtain ⟨vo, vpw, vc, ps, cs, css, rfl, h1, h2, h3⟩ := hp.ex
  refine enter (args := [.agg #[vo, vpw, vc]]) (l := [.tmp 2]) Try.func144 rfl rfl Try.ntmps144 (by simp) ?_
  refine go ?_
  refine st_box3 (by ((try simp only [ev_tmp, ev_const, ev_func, get_put, get_args, get_putL, get_putL_nil, Nat.reduceEqDiff, reduceIte, List.getD_cons_zero, List.getD_cons_succ, List.getD_nil]); first | done | with_reducible rfl)) (by first | exact True.intro | exact ⟨_, rfl, by ((try simp only [ev_tmp, ev_const, ev_func, get_put, get_args, get_putL, get_putL_nil, Nat.reduceEqDiff, reduceIte, List.getD_cons_zero, List.getD_cons_succ, List.getD_nil, Bool.not_true, Bool.not_false]); first | done | with_reducible rfl)⟩) fun w1 b he1 hb1 hs1 hc0 hc1 hc2 => ?_
  refine go ?_
  refine st_make_int (by ((try simp only [ev_tmp, ev_const, ev_func, get_put, get_args, get_putL, get_putL_nil, Nat.reduceEqDiff, reduceIte, List.getD_cons_zero, List.getD_cons_succ, List.getD_nil]); first | done | with_reducible rfl)) (by ((try simp only [ev_tmp, ev_const, ev_func, get_put, get_args, get_putL, get_putL_nil, Nat.reduceEqDiff, reduceIte, List.getD_cons_zero, List.getD_cons_succ, List.getD_nil]); first | done | with_reducible rfl)) (by omega) (by omega) (by first | exact True.intro | exact ⟨_, rfl, by ((try simp only [ev_tmp, ev_const, ev_func, get_put, get_args, get_putL, get_putL_nil, Nat.reduceEqDiff, reduceIte, List.getD_cons_zero, List.getD_cons_succ, List.getD_nil, Bool.not_true, Bool.not_false]); first | done | with_reducible rfl)⟩) fun w2 v2 he2 hs2 ho2 => ?_
  refine go ?_
  exact ret1 ⟨he1.trans he2, (ho2.toFr (lo := w1.heap.size) (Nat.le_refl _)).mono he1.size⟩
end Go.Proofs.Ytjljbfcdpdckeaa

/-
  Walks: the reference's order, index, transversal elements; Transversal.
  Conditions: stated at each theorem.
-/
namespace Go.Proofs.Ytjljbfcdpdckeaa
open Go Go.Pc
set_option maxHeartbeats 1000000 in
theorem l10Order_ok {p : Pr} (hv : Valid p) {w : World} {vp : Value} {lo hi : Nat} [hp : Pres lo hi w vp p] :
    Calls Try.prog 97 #[vp] w (Ret fun v w' => v = .int .i64 (ordL p (List.range p.n)) ∧ Ext w w') := by
  have hn6 := hv.n6
  have hol : p.ord.length = p.n := rfl
  have hrl : (List.range p.n).length = p.n := by simp
  obtain ⟨vo, vpw, vc, ps, cs, css, rfl, h1, h2, h3⟩ := hp.ex
  refine enter (args := [.agg #[vo, vpw, vc]]) (l := [.tmp 2]) Try.func97 rfl rfl Try.ntmps97 (by simp) ?_
  refine go ?_
  refine st_box3 (by ((try simp only [ev_tmp, ev_const, ev_func, get_put, get_args, get_putL, get_putL_nil, Nat.reduceEqDiff, reduceIte, List.getD_cons_zero, List.getD_cons_succ, List.getD_nil]); first | done | with_reducible rfl)) (by first | exact True.intro | exact ⟨_, rfl, by ((try simp only [ev_tmp, ev_const, ev_func, get_put, get_args, get_putL, get_putL_nil, Nat.reduceEqDiff, reduceIte, List.getD_cons_zero, List.getD_cons_succ, List.getD_nil, Bool.not_true, Bool.not_false]); first | done | with_reducible rfl)⟩) fun w1 b he1 hb1 hs1 hc0 hc1 hc2 => ?_
  refine go ?_
  refine r_for p.n (fun k ρ w' => Has ρ [(1, .pointer (some ⟨b, 0, none⟩)), (3, .int .i64 (ordL p ((List.range p.n).take k))), (4, .int .i64 k)] ∧ Ext w1 w') ?_ ?_
  · refine ⟨?_, Ext.refl _⟩
    exact hasP
  rintro k ρ w2 hk ⟨hH, he2⟩
  refine rwp_has hH fun ρ0 => ?_
  refine go ?_
  refine c_if (fun h4 => ?_) (fun h4 => ?_)
  · have hkn : k < p.n := by omega
    have hod := hv.opos hkn
    have hr := ordL_rng hv (l := List.range p.n) (fun d hd => List.mem_range.1 hd) (by omega) (k := k) (by omega)
    have hm : 0 ≤ ordL p ((List.range p.n).take k) * p.o k ∧ ordL p ((List.range p.n).take k) * p.o k ≤ 117649 * 7 := ⟨Int.mul_nonneg (by omega) (by omega), Int.mul_le_mul hr.2 hod.2 (by omega) (by omega)⟩
    have hmb : -9223372036854775808 ≤ ordL p ((List.range p.n).take k) * p.o k ∧ ordL p ((List.range p.n).take k) * p.o k ≤ 9223372036854775807 := ⟨by omega, by omega⟩
    have hst := ordL_take (p := p) (List.range p.n) (show k < (List.range p.n).length by omega)
    rw [show (List.range p.n).getD k 0 = k by simp [hkn]] at hst
    refine go ?_
    rw [show p.ord.getD k 0 = p.o k from rfl]
    refine ra (h := rd_mul (by ((try simp only [ev_tmp, ev_const, ev_func, get_put, get_args, get_putL, get_putL_nil, Nat.reduceEqDiff, reduceIte, List.getD_cons_zero, List.getD_cons_succ, List.getD_nil]); first | done | with_reducible rfl)) (by ((try simp only [ev_tmp, ev_const, ev_func, get_put, get_args, get_putL, get_putL_nil, Nat.reduceEqDiff, reduceIte, List.getD_cons_zero, List.getD_cons_succ, List.getD_nil]); first | done | with_reducible rfl)) hmb) (next := ?_)
    refine go ?_
    refine forQ_normal (by omega) ⟨?_, he2⟩
    rw [hst]
    exact hasP
  · refine go ?_
    have e : (List.range p.n).take k = List.range p.n := by rw [show k = p.n by omega, List.take_of_length_le (by omega)]
    rw [e]
    exact ret1 ⟨rfl, he1.trans he2⟩
end Go.Proofs.Ytjljbfcdpdckeaa

/-
  Walks: the reference's element with a number, the elements above a subgroup; Center.
  Conditions: stated at each theorem.
-/
namespace Go.Proofs.Ytjljbfcdpdckeaa
open Go Go.Pc
set_option maxHeartbeats 2000000 in
theorem l10At_ok {p : Pr} [hc : ConAll p] {t : Nat} (ht : t ≤ 1000000) {w : World} {vp : Value} {lo hi : Nat} [hp : Pres lo hi w vp p] :
    Calls Try.prog 98 #[vp, .int .i64 t] w (Ret fun v w' => Ext w w' ∧ Fr w.heap.size w' v (allE p t).v) := by
  have hv := hc.valid
  have hn6 := hv.n6
  have hol : p.ord.length = p.n := rfl
  rw [allE_val]
  obtain ⟨l, hl⟩ : ∃ l, List.range p.n = l := ⟨_, rfl⟩
  have hll : l.length = p.n := by rw [← hl]; simp
  have hlt : ∀ d, d ∈ l → d < p.n := fun d hd => by rw [← hl] at hd; exact List.mem_range.1 hd
  have hnd : l.Nodup := by rw [← hl]; exact List.nodup_range
  have hlg : ∀ i, i < p.n → l.getD i 0 = i := fun i hi => by rw [← hl]; simp [hi]
  rw [hl]
  replace hp := hp.wide
  obtain ⟨vo, vpw, vc, ps, cs, css, rfl, h1, h2, h3⟩ := hp.ex
  refine enter (args := [.agg #[vo, vpw, vc], .int .i64 t]) (l := [.tmp 4]) Try.func98 rfl rfl Try.ntmps98 (by simp) ?_
  refine go ?_
  refine st_box3 (by ((try simp only [ev_tmp, ev_const, ev_func, get_put, get_args, get_putL, get_putL_nil, Nat.reduceEqDiff, reduceIte, List.getD_cons_zero, List.getD_cons_succ, List.getD_nil]); first | done | with_reducible rfl)) (by first | exact True.intro | exact ⟨_, rfl, by ((try simp only [ev_tmp, ev_const, ev_func, get_put, get_args, get_putL, get_putL_nil, Nat.reduceEqDiff, reduceIte, List.getD_cons_zero, List.getD_cons_succ, List.getD_nil, Bool.not_true, Bool.not_false]); first | done | with_reducible rfl)⟩) fun w1 b he1 hb1 hs1 hc0 hc1 hc2 => ?_
  have hz1 := he1.size
  refine go ?_
  refine rc (l10One_ok (p := p)) (next := fun v2 w2 h4 => ?_)
  obtain ⟨he2, hf2⟩ := h4
  have hz2 := he2.size
  have hlen2 : Len w2 v2 p.n := by
    have h := hf2.ints
    have h5 : Len w2 v2 (1 : El p).v.length := inferInstance
    rwa [(1 : El p).inr.len] at h5
  by_cases hn0 : p.n = 0
  · refine go ?_
    refine r_for 0 (fun k ρ w' => Has ρ [(5, v2), (6, .int .i64 (-1))] ∧ w' = w2) ?_ ?_
    · refine ⟨?_, rfl⟩
      rw [hn0]
      exact hasP
    rintro k ρ w4 hk ⟨hH, rfl⟩
    refine rwp_has hH fun ρ0 => ?_
    refine go ?_
    refine c_if (fun h4 => ?_) (fun h4 => ?_)
    · omega
    refine go ?_
    refine ret1 ⟨he1.trans he2, ?_⟩
    have e : elTo p l l.length t = (1 : El p).v := list_ext0 (by rw [elTo_len, (1 : El p).inr.len]) fun d hd => by rw [elTo_len] at hd; omega
    rw [e]
    exact hf2.mono hz1
  obtain ⟨te, b2, hb2, ho2⟩ := hf2.own (by intro e; have := (1 : El p).inr.len; rw [e] at this; simp at this; omega)
  have hbl := ho2.lt
  have ho3 : OwnI te b2 w2 v2 (zeros p.n) := ho2
  have ap1 : Apart 0 w.heap.size b2 := ⟨.inr (by omega)⟩
  have ap2 : Apart b (b + 1) b2 := ⟨.inr (by omega)⟩
  have hE2 := he1.trans he2
  have hzl := zeros_len p.n
  clear hf2 ho2
  refine go ?_
  refine r_for p.n (fun k ρ w' => ∃ (tk : Int) (xs : List Int), Has ρ [(1, .int .i64 tk), (2, .pointer (some ⟨b, 0, none⟩)), (5, v2), (6, .int .i64 (p.n - 1 - k))] ∧ Chg b2 w2 w' ∧ OwnI te b2 w' v2 xs ∧ xs.length = p.n ∧ 0 ≤ tk ∧ tk ≤ 1000000 ∧ fillTo p l (p.n - k) tk xs = elTo p l l.length t) ?_ ?_
  · refine ⟨t, zeros p.n, ?_, Chg.refl _ _, ho3, hzl, by omega, by omega, ?_⟩
    · exact hasP
    · have := fill_eq hnd hlt (t : Int)
      rwa [hll] at this ⊢
  clear ho3
  rintro k ρ w4 hk ⟨tk, xs, hH, hch4, ho4, hxl, ht0, ht1, hfill⟩
  refine rwp_has hH fun ρ0 => ?_
  refine go ?_
  refine c_if (fun h4 => ?_) (fun h4 => ?_)
  · have hkn : k < p.n := by omega
    obtain ⟨i, hi⟩ : ∃ i, p.n - 1 - k = i := ⟨_, rfl⟩
    have hil : i < p.n := by omega
    have hcast : ((p.n : Int) - 1 - k) = (i : Int) := by omega
    have hod := hv.opos hil
    have hmod : 0 ≤ tk % p.o i ∧ tk % p.o i < p.o i := ⟨Int.emod_nonneg _ (by omega), Int.emod_lt_of_pos _ (by omega)⟩
    have hdiv : 0 ≤ tk / p.o i ∧ tk / p.o i ≤ 1000000 := ⟨Int.ediv_nonneg ht0 (by omega), Int.le_trans (Int.ediv_le_self _ ht0) ht1⟩
    have hstep : fillTo p l (p.n - (k + 1)) (tk / p.o i) (xs.set i (tk % p.o i)) = elTo p l l.length t := by
      rw [← hfill, show p.n - k = i + 1 by omega, show p.n - (k + 1) = i by omega]
      show _ = fillTo p l i (tk / p.o (l.getD i 0)) (xs.set (l.getD i 0) (tk % p.o (l.getD i 0)))
      rw [hlg i hil]
    rw [hcast]
    refine go ?_
    first
      | rw [show p.ord.getD i 0 = p.o i from rfl]
      | rw [show p.ord.getD ((i : Int).toNat) 0 = p.o i from rfl]
    refine go ?_
    refine st_store_int (h := ho4) (by ((try simp only [ev_tmp, ev_const, ev_func, get_put, get_args, get_putL, get_putL_nil, Nat.reduceEqDiff, reduceIte, List.getD_cons_zero, List.getD_cons_succ, List.getD_nil]); first | done | with_reducible rfl)) (by ((try simp only [ev_tmp, ev_const, ev_func, get_put, get_args, get_putL, get_putL_nil, Nat.reduceEqDiff, reduceIte, List.getD_cons_zero, List.getD_cons_succ, List.getD_nil]); first | done | with_reducible rfl)) ?_ (by first | exact True.intro | exact ⟨_, rfl, by ((try simp only [ev_tmp, ev_const, ev_func, get_put, get_args, get_putL, get_putL_nil, Nat.reduceEqDiff, reduceIte, List.getD_cons_zero, List.getD_cons_succ, List.getD_nil, Bool.not_true, Bool.not_false]); first | done | with_reducible rfl)⟩) fun w6 hc6 hs6 ho6 => ?_
    · omega
    have hch6 : Chg b2 w2 w6 := hch4.trans hc6
    clear hch4 hc6 ho4
    refine go ?_
    first
      | rw [show p.ord.getD i 0 = p.o i from rfl]
      | rw [show p.ord.getD ((i : Int).toNat) 0 = p.o i from rfl]
    refine go ?_
    refine forQ_normal (by omega) ⟨tk / p.o i, _, ?_, hch6, ho6, by simp [hxl], hdiv.1, hdiv.2, hstep⟩
    exact hasP
  · refine go ?_
    obtain rfl : k = p.n := by omega
    rw [Nat.sub_self] at hfill
    have hx : xs = elTo p l l.length t := hfill
    refine ret1 ⟨hch4.ext hE2 (by omega), ?_⟩
    rw [← hx]
    exact ho4.toFr (by omega)
end Go.Proofs.Ytjljbfcdpdckeaa

/-
  Walks: the reference's ElementCentralizer, SubgroupCentralizer, SubgroupNormalizer, SubgroupConjugator, CountInner.
  Conditions: stated at each theorem.
-/
namespace Go.Proofs.Ytjljbfcdpdckeaa
open Go Go.Pc
end Go.Proofs.Ytjljbfcdpdckeaa

/-
  Walks: the reference's l10Number, l18Marks, l18Classes, l18Code, l18Element, ConjugacyClass, ClassNumber, CommutingPairs.
  Conditions: stated at each theorem.
-/
namespace Go.Proofs.Ytjljbfcdpdckeaa
open Go Go.Pc
section
variable {P : Program} {N : Nat} {ops : Array Oper} {π : List Nat} {K : Env → World → Prop} {ρ : Env} {w w0 w1 : World} {l : List Oper}
variable {d : Nat} {ty : TypeId} {pos : String} {after : Array Edge} {g : Option (Nat × Bool)}
end
theorem l18Code_ok {p : Pr} {w : World} {vp : Value} {lo hi : Nat} [hp : Pres lo hi w vp p] (hl : p.ord.length ≤ 2000000) :
    Calls Try.prog 96 #[vp] w (Ret fun v w' => ∃ k : Int, v = .int .i64 k ∧ ((¬ IsGrp p ∧ k = 1) ∨ ∃ (_ : IsGrp p) (_ : ConAll p), (128 < ordN p ∧ k = 3) ∨ (ordN p ≤ 128 ∧ k = 0)) ∧ Ext w w') := by
  obtain ⟨vo, vpw, vc, ps, cs, css, rfl, h1, h2, h3⟩ := hp.ex
  refine enter (args := [.agg #[vo, vpw, vc]]) (l := [.tmp 2]) Try.func96 rfl rfl Try.ntmps96 (by simp) ?_
  refine go ?_
  refine st_box3 (by ((try simp only [ev_tmp, ev_const, ev_func, get_put, get_args, get_putL, get_putL_nil, Nat.reduceEqDiff, reduceIte, List.getD_cons_zero, List.getD_cons_succ, List.getD_nil]); first | done | with_reducible rfl)) (by first | exact True.intro | exact ⟨_, rfl, by ((try simp only [ev_tmp, ev_const, ev_func, get_put, get_args, get_putL, get_putL_nil, Nat.reduceEqDiff, reduceIte, List.getD_cons_zero, List.getD_cons_succ, List.getD_nil, Bool.not_true, Bool.not_false]); first | done | with_reducible rfl)⟩) fun w1 b he1 hb1 hs1 hc0 hc1 hc2 => ?_
  refine go ?_
  refine rc (l08Group_ok (p := p) hl) (next := fun v5 w5 h5 => ?_)
  obtain ⟨b5, rfl, hb5, he5⟩ := h5
  have hE5 := he1.trans he5
  refine go ?_
  refine c_b (fun e5 => ?_) (fun e5 => ?_)
  · refine go ?_
    refine ret1 ⟨1, rfl, .inl ⟨fun h => ?_, rfl⟩, hE5⟩
    rw [hb5.2 h] at e5; cases e5
  have hG := hb5.1 (by simpa using e5)
  haveI hcon : ConAll p := ⟨hG.con⟩
  obtain ⟨hoe, ho1, ho2⟩ := ordN_rng p
  refine go ?_
  refine rc (l10Order_ok (p := p) hG.valid) (next := fun v6 w6 h6 => ?_)
  obtain ⟨rfl, he6⟩ := h6
  rw [hoe]
  refine go ?_
  refine c_if (fun h7 => ?_) (fun h7 => ?_)
  · refine go ?_
    exact ret1 ⟨3, rfl, .inr ⟨hG, hcon, .inl ⟨by omega, rfl⟩⟩, hE5.trans he6⟩
  · refine go ?_
    exact ret1 ⟨0, rfl, .inr ⟨hG, hcon, .inr ⟨by omega, rfl⟩⟩, hE5.trans he6⟩
section
variable {p : Pr} [hc : ConAll p]
end
end Go.Proofs.Ytjljbfcdpdckeaa

/-
  Walks: the reference's l10Period, l26Counts, OrderCounts.
  Conditions: stated at each theorem.
-/
namespace Go.Proofs.Ytjljbfcdpdckeaa
open Go Go.Pc
theorem own_gstep {e s : Nat} {w w1 : World} {u v v' : Value} {us : List Value} (h : OwnN e s w u us) (k : Pc.GStep w w1 v v') (hn : ∀ b, v.ownBlock = some b → u.ownBlock ≠ some b) : OwnN e s w1 u us := by
  obtain ⟨w2, x, hg, _⟩ := k.ex
  exact (@OwnN.ext _ _ _ _ _ _ x h).wr (Wrt.grown hg) fun b hb hB => hn b hB hb
theorem gstep_apart {e s : Nat} {w w1 : World} {u v v' : Value} {us : List Value} (h : OwnN e s w u us) (k : Pc.GStep w w1 v v') (hn : ∀ b, v.ownBlock = some b → u.ownBlock ≠ some b) : ∀ b, v'.ownBlock = some b → u.ownBlock ≠ some b := fun b hb hB => by
  obtain ⟨w2, x, _, e | e⟩ := k.ex
  · exact hn b (e ▸ hb) hB
  · rw [e] at hb; injection hb with hb
    have := (h.lt b hB).2
    have := x.size
    omega
set_option maxHeartbeats 2000000 in
theorem l10Period_ok {p : Pr} [hc : ConAll p] {x : El p} {w : World} {vp vx : Value} {xs : List Int} {lo hi lo1 hi1 : Nat} [hp : Pres lo hi w vp p] [hx : Ints lo1 hi1 w vx xs] (hxe : xs = x.v) :
    Calls Try.prog 146 #[vp, vx] w (Ret fun v w' => v = .int .i64 ((perE x : Nat) : Int) ∧ Ext w w') := by
  subst hxe
  have hv := hc.valid
  have hn6 := hv.n6
  obtain ⟨hoe, ho1, ho2⟩ := ordN_rng p
  have hper := perE_per x
  have hpl := perE_le x
  have hpp := perE_pos x
  replace hp := hp.wide
  replace hx := hx.wide
  obtain ⟨vo, vpw, vc, ps, cs, css, rfl, h1, h2, h3⟩ := hp.ex
  refine enter (args := [.agg #[vo, vpw, vc], vx]) (l := [.tmp 4]) Try.func146 rfl rfl Try.ntmps146 (by simp) ?_
  refine go ?_
  refine st_box3 (by ((try simp only [ev_tmp, ev_const, ev_func, get_put, get_args, get_putL, get_putL_nil, Nat.reduceEqDiff, reduceIte, List.getD_cons_zero, List.getD_cons_succ, List.getD_nil]); first | done | with_reducible rfl)) (by first | exact True.intro | exact ⟨_, rfl, by ((try simp only [ev_tmp, ev_const, ev_func, get_put, get_args, get_putL, get_putL_nil, Nat.reduceEqDiff, reduceIte, List.getD_cons_zero, List.getD_cons_succ, List.getD_nil, Bool.not_true, Bool.not_false]); first | done | with_reducible rfl)⟩) fun w1 b he1 hb1 hs1 hc0 hc1 hc2 => ?_
  have hx1 : Ints 0 w.heap.size w1 vx x.v := hx.same (he1.same _ _)
  refine go ?_
  refine r_for (perE x) (fun j ρ w' => ∃ (vy : Value) (lo hi : Nat), Has ρ [(1, vx), (2, .pointer (some ⟨b, 0, none⟩)), (5, .int .i64 ((j : Int) + 1)), (6, vy)] ∧ Ext w1 w' ∧ Ints lo hi w' vy (Grp.pw x (j + 1)).v ∧ j + 1 ≤ perE x) ?_ ?_
  · refine ⟨vx, 0, w.heap.size, ?_, Ext.refl _, by rw [Nat.zero_add, Grp.pw_one]; exact hx1, hpp⟩
    exact hasP
  rintro j ρ w2 hj ⟨vy, lo2, hi2, hH, he2, hy, hjl⟩
  refine rwp_has hH fun ρ0 => ?_
  have hE2 := he1.trans he2
  have hyl := (Grp.pw x (j + 1)).inr.len
  refine go ?_
  refine rc (l01Zero_ok (xs := (Grp.pw x (j + 1)).v) (by omega)) (next := fun v3 w3 h3 => ?_)
  obtain ⟨b3, rfl, hb3, he3⟩ := h3
  have hb3' : b3 = true ↔ Grp.pw x (j + 1) = 1 := hb3.trans ⟨fun h => Tl.end_ (fun i hi => h i (by omega)), fun h i hi => by rw [h]; exact co_one i⟩
  have hE3 := hE2.trans he3
  refine ra (next := ?_)
  refine ra (next := ?_)
  refine sp (fun h9 => ?_) (fun h9 => ?_)
  · have hne : Grp.pw x (j + 1) ≠ 1 := fun h => by rw [hb3'.2 h] at h9; cases h9
    have hlt : j + 1 < perE x := Nat.lt_of_le_of_ne hjl fun e => hne (by rw [e]; exact hper.2.2.1)
    refine go ?_
    refine rc (l10Order_ok (p := p) hv) (next := fun v4 w4 h5 => ?_)
    obtain ⟨rfl, he4⟩ := h5
    rw [hoe]
    have hx4 : Ints 0 w.heap.size w4 vx x.v := hx.same ((hE3.trans he4).same _ _)
    have hy4 : Ints lo2 hi2 w4 vy (Grp.pw x (j + 1)).v := hy.same ((he3.trans he4).same _ _)
    refine go ?_
    refine c_if (fun h10 => ?_) (fun h10 => ?_)
    · refine go ?_
      refine rc (l08Mul_ok (p := p) (x := Grp.pw x (j + 1)) (y := x) rfl rfl) (next := fun v6 w6 h7 => ?_)
      obtain ⟨he6, hf6⟩ := h7
      have hi6 := hf6.ints
      rw [← Grp.pw_succ] at hi6
      refine go ?_
      refine forQ_normal (by omega) ⟨v6, _, _, ?_, he2.trans (he3.trans (he4.trans he6)), hi6, hlt⟩
      exact hasP
    · exact absurd (show ((j : Int) + 1) ≤ (ordN p : Int) by omega) h10
  · have heq := hb3'.1 (by simpa using h9)
    have hdv := Nat.le_of_dvd (by omega) (hper.2.2.2 _ heq)
    have hje : j + 1 = perE x := by omega
    refine go ?_
    exact ret1 (v := .int .i64 ((j : Int) + 1)) ⟨by rw [← hje]; rfl, hE3⟩
set_option maxHeartbeats 8000000 in
theorem l26Counts_ok {p : Pr} [hc : ConAll p] (hN : ordN p ≤ 128) {w : World} {vp : Value} {lo hi : Nat} [hp : Pres lo hi w vp p] :
    Calls Try.prog 102 #[vp] w (Ret fun v w' => ∃ u0 u1 : Value, v = .tuple #[u0, u1] ∧ Ext w w' ∧ Ints w.heap.size w'.heap.size w' u0 (ocK p (ordN p)) ∧ Ints w.heap.size w'.heap.size w' u1 (ocC p (ordN p))) := by
  have hv := hc.valid
  have hn6 := hv.n6
  obtain ⟨hoe, ho1, ho2⟩ := ordN_rng p
  replace hp := hp.wide
  obtain ⟨vo, vpw, vc, ps, cs, css, rfl, h1, h2, h3⟩ := hp.ex
  refine enter (args := [.agg #[vo, vpw, vc]]) (l := [.tmp 2, .tmp 3]) Try.func102 rfl rfl Try.ntmps102 (by simp) ?_
  refine go ?_
  refine st_box3 (by ((try simp only [ev_tmp, ev_const, ev_func, get_put, get_args, get_putL, get_putL_nil, Nat.reduceEqDiff, reduceIte, List.getD_cons_zero, List.getD_cons_succ, List.getD_nil]); first | done | with_reducible rfl)) (by first | exact True.intro | exact ⟨_, rfl, by ((try simp only [ev_tmp, ev_const, ev_func, get_put, get_args, get_putL, get_putL_nil, Nat.reduceEqDiff, reduceIte, List.getD_cons_zero, List.getD_cons_succ, List.getD_nil, Bool.not_true, Bool.not_false]); first | done | with_reducible rfl)⟩) fun w1 b he1 hb1 hs1 hc0 hc1 hc2 => ?_
  have hz1 := he1.size
  refine go ?_
  refine st_slice0 (by first | exact True.intro | exact ⟨_, rfl, by ((try simp only [ev_tmp, ev_const, ev_func, get_put, get_args, get_putL, get_putL_nil, Nat.reduceEqDiff, reduceIte, List.getD_cons_zero, List.getD_cons_succ, List.getD_nil, Bool.not_true, Bool.not_false]); first | done | with_reducible rfl)⟩) fun w2 v2 he2 hs2 ho2' => ?_
  have hg2 : GrowI 2 w1.heap.size w2 v2 [] := GrowI.start ho2' (Nat.le_refl _)
  clear ho2'
  refine go ?_
  refine r_for (ordN p) (fun t ρ w' => ∃ vl, Has ρ [(1, .pointer (some ⟨b, 0, none⟩)), (4, vl), (5, .int .i64 t)] ∧ Ext w1 w' ∧ GrowI 2 w1.heap.size w' vl ((List.range t).map fun i => ((perE (allE p i) : Nat) : Int))) ?_ ?_
  · refine ⟨v2, ?_, he2, hg2⟩
    exact hasP
  clear hg2 he2
  rintro t ρ w3 ht ⟨vl, hH, he3, hG3⟩
  refine rwp_has hH fun ρ0 => ?_
  have hz3 := he3.size
  refine go ?_
  refine rc (l10Order_ok (p := p) hv) (next := fun v4 w4 h5 => ?_)
  obtain ⟨rfl, he4⟩ := h5
  rw [hoe]
  have hG4 : GrowI 2 w1.heap.size w4 vl ((List.range t).map fun i => ((perE (allE p i) : Nat) : Int)) := @GrowI.ext _ _ _ _ _ _ he4 hG3
  have he14 := he3.trans he4
  have hz4 := he14.size
  clear hG3
  refine go ?_
  refine c_if (fun h6 => ?_) (fun h6 => ?_)
  · have htn : t < ordN p := by omega
    obtain ⟨b', hb', hvb'⟩ := own_some' vl w1.heap.size w4.heap.size (by omega) (fun g h => (hG4.own.lt g h).1)
    have ap1 : Apart 0 w.heap.size b' := ⟨.inr (by omega)⟩
    have ap2 : Apart b (b + 1) b' := ⟨.inr (by omega)⟩
    refine go ?_
    refine z_order b' (List.range 9) (h := fun w5 he5 _ => ?_)
    refine zgo ?_
    refine zc (l10At_ok (p := p) (t := t) (by omega)) (next := fun v6 w6 h7 => ?_)
    obtain ⟨he6, hf6⟩ := h7
    have hi6 := hf6.ints
    refine zc (l10Period_ok (p := p) (x := allE p t) rfl) (hR := fun _ _ ⟨_, h⟩ => h) (next := fun v7 w7 h8 => ?_)
    obtain ⟨rfl, he7⟩ := h8
    have hx7 := (he5.trans he6).trans he7
    refine z_growi (@GrowI.ext _ _ _ _ _ _ hx7 hG4) (by have := hx7.size; omega) (by simp; omega) hvb' (next := fun v8 v9 w9 hg9 hx9 hz9 hgs9 => ?_)
    refine zgo ?_
    refine z_end ?_
    refine go ?_
    refine forQ_normal (by omega) ⟨v9, ?_, hx9 w1 (he14.trans hx7) (Nat.le_refl _), by rw [List.range_succ, List.map_append]; exact hg9⟩
    exact hasP
  obtain rfl : t = ordN p := by omega
  obtain ⟨prs, hprs⟩ : ∃ prs, prs = (List.range (ordN p)).map fun i => ((perE (allE p i) : Nat) : Int) := ⟨_, rfl⟩
  rw [← hprs] at hG4
  have hprl : prs.length = ordN p := by rw [hprs]; simp
  have hiP := hG4.fr.ints
  have hE4 := he1.trans he14
  clear hG4
  refine go ?_
  refine st_slice0 (by first | exact True.intro | exact ⟨_, rfl, by ((try simp only [ev_tmp, ev_const, ev_func, get_put, get_args, get_putL, get_putL_nil, Nat.reduceEqDiff, reduceIte, List.getD_cons_zero, List.getD_cons_succ, List.getD_nil, Bool.not_true, Bool.not_false]); first | done | with_reducible rfl)⟩) fun w5 v5 he5 hs5 ho5 => ?_
  have hz5 := he5.size
  refine go ?_
  refine st_slice0 (by first | exact True.intro | exact ⟨_, rfl, by ((try simp only [ev_tmp, ev_const, ev_func, get_put, get_args, get_putL, get_putL_nil, Nat.reduceEqDiff, reduceIte, List.getD_cons_zero, List.getD_cons_succ, List.getD_nil, Bool.not_true, Bool.not_false]); first | done | with_reducible rfl)⟩) fun w6 v6 he6 hs6 ho6 => ?_
  have hz6 := he6.size
  have hA6 : OwnN 2 w4.heap.size w6 v5 (([] : List Int).map (Value.int .i64)) := @OwnN.ext _ _ _ _ _ _ he6 ho5.toN
  have hB6 : OwnN 2 w4.heap.size w6 v6 (([] : List Int).map (Value.int .i64)) := ho6.toN.mono (by omega)
  have hne6 : ∀ b, v5.ownBlock = some b → v6.ownBlock ≠ some b := fun b h1 h2 => by
    rw [ho5.toN_block] at h1; rw [ho6.toN_block] at h2
    injection h1 with h1; injection h2 with h2; omega
  clear ho5 ho6
  refine go ?_
  refine r_for (ordN p) (fun j ρ w' => ∃ va vb, Has ρ [(1, .pointer (some ⟨b, 0, none⟩)), (4, vl), (6, va), (7, vb), (8, .int .i64 ((j : Int) + 1))] ∧ Ext w4 w' ∧ OwnN 2 w4.heap.size w' va ((ocK p j).map (Value.int .i64)) ∧ OwnN 2 w4.heap.size w' vb (((ocK p j).map fun a => ((nPer p (ordN p) a : Nat) : Int)).map (Value.int .i64)) ∧ ∀ b, va.ownBlock = some b → vb.ownBlock ≠ some b) ?_ ?_
  · refine ⟨v5, v6, ?_, he5.trans he6, hA6, hB6, hne6⟩
    exact hasP
  clear hA6 hB6 hne6
  rintro j ρ w7 hj ⟨va, vb, hH7, he7, hA7, hB7, hne7⟩
  refine rwp_has hH7 fun ρ1 => ?_
  have hz7 := he7.size
  refine go ?_
  refine rc (l10Order_ok (p := p) hv) (next := fun v8 w8 h9 => ?_)
  obtain ⟨rfl, he8⟩ := h9
  rw [hoe]
  have he48 := he7.trans he8
  have hz8 := he48.size
  have hA8 := @OwnN.ext _ _ _ _ _ _ he8 hA7
  have hB8 := @OwnN.ext _ _ _ _ _ _ he8 hB7
  have hol := ocK_len (p := p) j
  clear hA7 hB7
  refine go ?_
  refine c_if (fun h10 => ?_) (fun h10 => ?_)
  · have hjn : j < ordN p := by omega
    have hiP8 := hiP.same (he48.same _ _)
    refine go ?_
    refine r_for (ordN p) (fun t ρ w' => Has ρ [(1, .pointer (some ⟨b, 0, none⟩)), (4, vl), (6, va), (7, vb), (8, .int .i64 ((j : Int) + 1)), (9, .int .i64 ((nPer p t ((j : Int) + 1) : Nat) : Int)), (10, .int .i64 t)] ∧ w' = w8) ?_ ?_
    · refine ⟨?_, rfl⟩
      rw [nPer_zero]
      exact hasP
    rintro t ρ w9 ht ⟨hH9, rfl⟩
    refine rwp_has hH9 fun ρ2 => ?_
    have hnl := nPer_le (p := p) t ((j : Int) + 1)
    refine go ?_
    refine c_if (fun h11 => ?_) (fun h11 => ?_)
    · have htn : t < ordN p := by omega
      have hgt : prs.getD t 0 = ((perE (allE p t) : Nat) : Int) := by rw [hprs]; simp [htn]
      refine go ?_
      rw [hgt]
      refine c_if (fun h12 => ?_) (fun h12 => ?_)
      · have hst := nPer_yes h12
        refine go ?_
        refine forQ_normal (by omega) ⟨?_, rfl⟩
        rw [hst]
        exact hasP
      · have hst := nPer_no h12
        refine go ?_
        refine forQ_normal (by omega) ⟨?_, rfl⟩
        rw [hst]
        exact hasP
    · obtain rfl : t = ordN p := by omega
      refine go ?_
      refine c_if (fun h12 => ?_) (fun h12 => ?_)
      · have hst := ocK_yes (p := p) (t := j) (by omega)
        have hgA : GrowI 2 w4.heap.size w9 va (ocK p j) := ⟨hA8⟩
        refine go ?_
        refine st_growi hgA hz8 (by omega) (next := fun v13 v14 w14 hg14 hx14 hz14 hgs14 => ?_)
        have hB14 := own_gstep hB8 hgs14 hne7
        have hne14 := gstep_apart hB8 hgs14 hne7
        have hgB : GrowI 2 w4.heap.size w14 vb ((ocK p j).map fun a => ((nPer p (ordN p) a : Nat) : Int)) := ⟨hB14⟩
        refine go ?_
        refine st_growi hgB (by omega) (by rw [List.length_map]; omega) (next := fun v15 v16 w16 hg16 hx16 hz16 hgs16 => ?_)
        have hA16 := own_gstep hg14.own hgs16 fun b h1 h2 => hne14 b h2 h1
        have hne16 := gstep_apart hg14.own hgs16 fun b h1 h2 => hne14 b h2 h1
        refine go ?_
        refine forQ_normal (by omega) ⟨v14, v16, ?_, hx16 w4 (hx14 w4 he48 (Nat.le_refl _)) (Nat.le_refl _), by rw [hst]; exact hA16, by rw [hst, List.map_append]; exact hg16.own, fun b h1 h2 => hne16 b h2 h1⟩
        exact hasP
      · have hst := ocK_no (p := p) (t := j) (by omega)
        refine go ?_
        refine forQ_normal (by omega) ⟨va, vb, ?_, he48, by rw [hst]; exact hA8, by rw [hst]; exact hB8, hne7⟩
        exact hasP
  · obtain rfl : j = ordN p := by omega
    have hgA : GrowI 2 w4.heap.size w8 va (ocK p (ordN p)) := ⟨hA8⟩
    have hgB : GrowI 2 w4.heap.size w8 vb (ocC p (ordN p)) := ⟨hB8⟩
    have hzz := hE4.size
    refine go ?_
    exact ret2 ⟨va, vb, rfl, hE4.trans he48, hgA.fr.ints.mono hzz (Nat.le_refl _), hgB.fr.ints.mono hzz (Nat.le_refl _)⟩
set_option maxHeartbeats 1000000 in
theorem spec_OrderCounts_ok {p : Pr} {w : World} {vp : Value} {lo hi : Nat} [hp : Pres lo hi w vp p] (hl : p.ord.length ≤ 2000000) :
    Calls Try.prog 40 #[vp] w (Ret fun v w' => ∃ (u0 u1 : Value) (r0 r1 : List Int) (e : Int), v = .tuple #[u0, u1, .int .i64 e] ∧ OcA p r0 r1 e ∧ Ext w w' ∧ Ints w.heap.size w'.heap.size w' u0 r0 ∧ Ints w.heap.size w'.heap.size w' u1 r1) := by
  obtain ⟨vo, vpw, vc, ps, cs, css, rfl, h1, h2, h3⟩ := hp.ex
  refine enter (args := [.agg #[vo, vpw, vc]]) (l := [.tmp 2, .tmp 3, .tmp 4]) Try.func40 rfl rfl Try.ntmps40 (by simp) ?_
  refine go ?_
  refine st_box3 (by ((try simp only [ev_tmp, ev_const, ev_func, get_put, get_args, get_putL, get_putL_nil, Nat.reduceEqDiff, reduceIte, List.getD_cons_zero, List.getD_cons_succ, List.getD_nil]); first | done | with_reducible rfl)) (by first | exact True.intro | exact ⟨_, rfl, by ((try simp only [ev_tmp, ev_const, ev_func, get_put, get_args, get_putL, get_putL_nil, Nat.reduceEqDiff, reduceIte, List.getD_cons_zero, List.getD_cons_succ, List.getD_nil, Bool.not_true, Bool.not_false]); first | done | with_reducible rfl)⟩) fun w1 b he1 hb1 hs1 hc0 hc1 hc2 => ?_
  refine go ?_
  refine rc (l18Code_ok (p := p) hl) (next := fun v5 w5 h5 => ?_)
  obtain ⟨c5, rfl, hc5, he5⟩ := h5
  have hE5 := he1.trans he5
  refine go ?_
  refine c_if (fun h6 => ?_) (fun h6 => ?_)
  · refine go ?_
    rcases hc5 with ⟨h7, rfl⟩ | ⟨hG, hcon, ⟨h7, rfl⟩ | ⟨h7, rfl⟩⟩
    · exact ret3 ⟨nilv, nilv, [], [], 1, rfl, .inr ⟨h7, rfl, rfl, rfl⟩, hE5, Ints.nilR _ _ _, Ints.nilR _ _ _⟩
    · exact ret3 ⟨nilv, nilv, [], [], 3, rfl, .inl ⟨hG, hcon, .inl ⟨h7, rfl, rfl, rfl⟩⟩, hE5, Ints.nilR _ _ _, Ints.nilR _ _ _⟩
    · exact absurd rfl h6
  obtain ⟨hG, hcon, h7⟩ : ∃ (_ : IsGrp p) (_ : ConAll p), ordN p ≤ 128 := by
    rcases hc5 with ⟨h7, rfl⟩ | ⟨hG, hcon, ⟨h7, rfl⟩ | ⟨h7, rfl⟩⟩
    · exact absurd (by decide) h6
    · exact absurd (by decide) h6
    · exact ⟨hG, hcon, h7⟩
  have hzz := hE5.size
  refine go ?_
  refine rc (l26Counts_ok (p := p) h7) (next := fun v8 w8 h8 => ?_)
  obtain ⟨u0, u1, rfl, he8, hi0, hi1⟩ := h8
  refine go ?_
  exact ret3 ⟨u0, u1, _, _, 0, rfl, .inl ⟨hG, hcon, .inr ⟨h7, rfl, rfl, rfl⟩⟩, hE5.trans he8, hi0.mono hzz (Nat.le_refl _), hi1.mono hzz (Nat.le_refl _)⟩
end Go.Proofs.Ytjljbfcdpdckeaa

/-
  More rules: function values that capture variables; variables of one cell.
  Conditions: none; nothing of the program stands here.
-/
namespace Go.Pc
open Go Go.RowKit
section
variable {P : Program} {N : Nat} {ops : Array Oper} {K : Env → World → Prop} {ρ : Env} {w : World} {l : List Oper}
variable {ty : TypeId} {pos : String} {after : Array Edge} {g : Option (Nat × Bool)} {d : Nat}
end
end Go.Pc

/-
  More rules: lists put together ('append(u, v...)', slices.Grow), in plain and in drawn regions.
  Conditions: none; nothing of the program stands here.
-/
namespace Go.Pc
open Go Go.RowKit
section
variable {av : Nat → Prop} {e base : Nat} {w w' : World} {v v' : Value} {us vs : List Value} {xss yss : List (List Int)}
theorem RowsAp.append (h : RowsAp av w us xss) (k : RowsAp av w vs yss) : RowsAp av w (us ++ vs) (xss ++ yss) := by
  refine ⟨by simp [h.len, k.len], fun i => ?_⟩
  by_cases hi : i < us.length
  · have e1 : (us ++ vs).getD i nilv = us.getD i nilv := by simp [List.getElem?_append_left hi]
    have e2 : (xss ++ yss).getD i [] = xss.getD i [] := by simp [List.getElem?_append_left (show i < xss.length by rw [← h.len]; exact hi)]
    rw [e1, e2]; exact h.at_ i
  · have e1 : (us ++ vs).getD i nilv = vs.getD (i - us.length) nilv := by simp [List.getElem?_append_right (Nat.le_of_not_lt hi)]
    have e2 : (xss ++ yss).getD i [] = yss.getD (i - us.length) [] := by rw [h.len]; simp [List.getElem?_append_right (show xss.length ≤ i by rw [← h.len]; omega)]
    rw [e1, e2]; exact k.at_ _
end
section
variable {P : Program} {N : Nat} {ops : Array Oper} {π : List Nat} {K : Env → World → Prop} {ρ : Env} {w w0 w1 : World} {l : List Oper}
variable {i : Nat} {ty : TypeId} {pos : String} {after : Array Edge} {g : Option (Nat × Bool)} {d : Nat}
end
end Go.Pc

/-
  Walk: the program's check of a presentation (IsPresentation).
  Conditions: stated at each theorem.
-/
namespace Go.Proofs.Ytjljbfcdpdckeaa
open Go Go.Pc
theorem foldl_mono : ∀ (l : List Int) (a : Int), (∀ o ∈ l, 1 ≤ o) → 1 ≤ a → a ≤ l.foldl (· * ·) a :=
  fun l a h ha => (capMul_foldl l a h ha).2.1
theorem prod_take {l : List Int} {k : Nat} (h : ∀ o ∈ l, 1 ≤ o) : 1 ≤ (l.take k).foldl (· * ·) 1 ∧ (l.take k).foldl (· * ·) 1 ≤ l.foldl (· * ·) 1 := by
  have h1 := foldl_mono (l.take k) 1 (fun o ho => h o (List.mem_of_mem_take ho)) (by omega)
  have h2 := foldl_mono (l.drop k) ((l.take k).foldl (· * ·) 1) (fun o ho => h o (List.mem_of_mem_drop ho)) h1
  rw [← List.foldl_append, List.take_append_drop] at h2
  exact ⟨h1, h2⟩
set_option maxHeartbeats 2000000 in
theorem impl_IsPresentation_ok {w : World} {v : Value} {p : Pr} {lo hi : Nat} [hp : Pres lo hi w v p] (hl : p.ord.length ≤ 2000000) :
    Calls Try.prog 31 #[v] w (Ret fun v' w' => ∃ b, v' = .bool b ∧ (b = true ↔ Valid p) ∧ Ext w w') := by
  have hol : p.ord.length = p.n := rfl
  obtain ⟨vo, vpw, vc, ps, cs, css, rfl, h1, h2, h3⟩ := hp.ex
  refine enter (args := [.agg #[vo, vpw, vc]]) (l := [.tmp 2]) Try.func31 rfl rfl Try.ntmps31 (by simp) ?_
  refine go ?_
  refine st_box3 (by ((try simp only [ev_tmp, ev_const, ev_func, get_put, get_args, get_putL, get_putL_nil, Nat.reduceEqDiff, reduceIte, List.getD_cons_zero, List.getD_cons_succ, List.getD_nil]); first | done | with_reducible rfl)) (by first | exact True.intro | exact ⟨_, rfl, by ((try simp only [ev_tmp, ev_const, ev_func, get_put, get_args, get_putL, get_putL_nil, Nat.reduceEqDiff, reduceIte, List.getD_cons_zero, List.getD_cons_succ, List.getD_nil, Bool.not_true, Bool.not_false]); first | done | with_reducible rfl)⟩) fun w1 b he1 hb1 hs1 hc0 hc1 hc2 => ?_
  have no : ∀ {w' : World}, ¬ Valid p → Ext w w' → ∃ b, Value.bool false = .bool b ∧ (b = true ↔ Valid p) ∧ Ext w w' := fun h he => ⟨_, rfl, by simp [h], he⟩
  have hpp := hp.boxed he1 hc0 hc1 hc2
  refine go ?_
  refine spd (fun hn => ?_) (fun hn => ?_)
  · refine go ?_
    exact ret1 (no (fun h => by have := h.n6; omega) he1)
  refine go ?_
  refine spd (fun hn2 => ?_) (fun hn2 => ?_)
  · refine go ?_
    exact ret1 (no (fun h => by have := h.lenw; omega) he1)
  refine go ?_
  refine c_if (fun hn3 => ?_) (fun hn3 => ?_)
  · refine go ?_
    exact ret1 (no (fun h => by have := h.lenc; omega) he1)
  refine go ?_
  refine r_for p.n (fun k ρ w' => Has ρ [(1, .pointer (some ⟨b, 0, none⟩)), (3, .int .i64 p.n), (4, .int .i64 ((p.ord.take k).foldl (· * ·) 1)), (30, vo), (31, .int .i64 p.n), (32, .int .i64 k)] ∧ Ext w1 w' ∧
    (p.ord.take k).foldl (· * ·) 1 ≤ 729 ∧ ∀ i, i < k → p.ord.getD i 0 = 2 ∨ p.ord.getD i 0 = 3 ∨ p.ord.getD i 0 = 5 ∨ p.ord.getD i 0 = 7) ?_ ?_
  · refine ⟨?_, Ext.refl _, by simp, fun i hi => by omega⟩
    exact hasP
  rintro k ρ w2 hk ⟨hH, he2, hpr, hpre⟩
  refine rwp_has hH fun ρ0 => ?_
  refine go ?_
  refine c_if (fun hk1 => ?_) (fun hk1 => ?_)
  · have hkn : k < p.n := by omega
    have hps : (p.ord.take (k + 1)).foldl (· * ·) 1 = (p.ord.take k).foldl (· * ·) 1 * p.ord.getD k 0 := foldl_take_succ _ _ _ _ _ hkn
    refine go ?_
    refine rc IsGroupPrime_ok (next := fun v3 w3 h3 => ?_)
    obtain ⟨b3, rfl, hb3, he3⟩ := h3
    refine go ?_
    refine sp (fun h4 => ?_) (fun h4 => ?_)
    · refine go ?_
      refine ret1 (no (fun h => ?_) ((he1.trans he2).trans he3))
      have := hb3.2 (h.prime k (by omega))
      rw [this] at h4; cases h4
    · have h5 := hb3.1 (by simpa using h4)
      have hone : 1 ≤ (p.ord.take k).foldl (· * ·) 1 := by
        refine foldl_mono _ 1 (fun o ho => ?_) (by omega)
        obtain ⟨i, hi, rfl⟩ := List.getElem_of_mem ho
        rw [List.length_take] at hi
        have := hpre i (by omega)
        simp only [List.getElem_take]
        have e : p.ord.getD i 0 = p.ord[i] := by simp [show i < p.ord.length by omega]
        rw [e] at this; omega
      have hm1 : 0 ≤ (p.ord.take k).foldl (· * ·) 1 * p.ord.getD k 0 := Int.mul_nonneg (by omega) (by omega)
      have hm2 : (p.ord.take k).foldl (· * ·) 1 * p.ord.getD k 0 ≤ 729 * 7 := Int.mul_le_mul hpr (by omega) (by omega) (by omega)
      have hmr : -9223372036854775808 ≤ (p.ord.take k).foldl (· * ·) 1 * p.ord.getD k 0 ∧ (p.ord.take k).foldl (· * ·) 1 * p.ord.getD k 0 ≤ 9223372036854775807 := by omega
      refine go ?_
      refine ra (h := rd_mul (by ((try simp only [ev_tmp, ev_const, ev_func, get_put, get_args, get_putL, get_putL_nil, Nat.reduceEqDiff, reduceIte, List.getD_cons_zero, List.getD_cons_succ, List.getD_nil]); first | done | with_reducible rfl)) (by ((try simp only [ev_tmp, ev_const, ev_func, get_put, get_args, get_putL, get_putL_nil, Nat.reduceEqDiff, reduceIte, List.getD_cons_zero, List.getD_cons_succ, List.getD_nil]); first | done | with_reducible rfl)) hmr) (next := ?_)
      refine go ?_
      refine c_if (fun h6 => ?_) (fun h6 => ?_)
      · refine go ?_
        refine ret1 (no (fun h => ?_) ((he1.trans he2).trans he3))
        have := (prod_take (k := k + 1) (fun o ho => (primes_bd h.prime o ho).1)).2
        have h8 := h.prod
        rw [hps] at this
        omega
      · refine go ?_
        refine ra (h := rd_mul (by ((try simp only [ev_tmp, ev_const, ev_func, get_put, get_args, get_putL, get_putL_nil, Nat.reduceEqDiff, reduceIte, List.getD_cons_zero, List.getD_cons_succ, List.getD_nil]); first | done | with_reducible rfl)) (by ((try simp only [ev_tmp, ev_const, ev_func, get_put, get_args, get_putL, get_putL_nil, Nat.reduceEqDiff, reduceIte, List.getD_cons_zero, List.getD_cons_succ, List.getD_nil]); first | done | with_reducible rfl)) hmr) (next := ?_)
        refine go ?_
        refine forQ_normal (by omega) ⟨?_, he2.trans he3, by rw [hps]; omega, fun i hi => ?_⟩
        · rw [hps]; exact hasP
        · by_cases e : i = k
          · subst e; exact h5
          · exact hpre i (by omega)
  · have hkn : k = p.n := by omega
    subst hkn
    have hprod : p.ord.foldl (· * ·) 1 ≤ 729 := by
      rw [← hol, List.take_length] at hpr; exact hpr
    have hbd : ∀ i, i < p.n → 2 ≤ p.o i ∧ p.o i ≤ 7 := fun i hi => by have := hpre i hi; unfold Pr.o; omega
    refine go ?_
    refine r_for p.n (fun k ρ w' => Has ρ [(1, .pointer (some ⟨b, 0, none⟩)), (3, .int .i64 p.n), (49, .int .i64 p.n), (50, .int .i64 k)] ∧ Ext w1 w' ∧ ∀ q, q < k → RowOk p q) ?_ ?_
    · refine ⟨?_, he2, fun i hi => by omega⟩
      exact hasP
    clear he2
    rintro k ρ w4 hk ⟨hH, he4, hrow⟩
    refine rwp_has hH fun ρ1 => ?_
    refine go ?_
    refine c_if (fun hk2 => ?_) (fun hk2 => ?_)
    · have hkn : k < p.n := by omega
      refine go ?_
      refine rc (tailVector_ok (p := p) (xs := p.pow.getD k []) rfl hkn hbd (by omega)) (next := fun v6 w6 h6 => ?_)
      obtain ⟨b6, rfl, hb6, he6⟩ := h6
      refine go ?_
      refine sp (fun h7 => ?_) (fun h7 => ?_)
      · refine go ?_
        refine ret1 (no (fun h => ?_) ((he1.trans he4).trans he6))
        have := hb6.2 ⟨h.w_in k hkn, h.w_zu k hkn⟩
        rw [this] at h7; cases h7
      · have h8 := exp_iff.2 (hb6.1 (by simpa using h7))
        refine go ?_
        refine c_if (fun h9 => ?_) (fun h9 => ?_)
        · refine go ?_
          refine ret1 (no (fun h => ?_) ((he1.trans he4).trans he6))
          have := ((valid_iff.1 h).2.2.2.2.2 k (by omega)).2.1
          omega
        · refine go ?_
          refine r_for (p.cnj.getD k []).length (fun m ρ w' => Has ρ [(1, .pointer (some ⟨b, 0, none⟩)), (3, .int .i64 p.n), (49, .int .i64 p.n), (50, .int .i64 k), (7, .int .i64 k), (78, Pc.rowAt vc cs k), (79, .int .i64 (p.cnj.getD k []).length), (80, .int .i64 m)] ∧ Ext w1 w' ∧ ∀ j, j < m → ExpP p.ord ((p.cnj.getD k []).getD j []) k) ?_ ?_
          · refine ⟨?_, he4.trans he6, fun i hi => by omega⟩
            exact hasP
          clear he4 he6
          rintro m ρ w7 hm ⟨hH, he7, hin⟩
          refine rwp_has hH fun ρ2 => ?_
          refine go ?_
          refine c_if (fun hm2 => ?_) (fun hm2 => ?_)
          · refine go ?_
            refine rc (tailVector_ok (p := p) (xs := (p.cnj.getD k []).getD m []) rfl hkn hbd (by omega)) (next := fun v9 w9 h9 => ?_)
            obtain ⟨b9, rfl, hb9, he9⟩ := h9
            refine go ?_
            refine c_b (fun h10 => ?_) (fun h10 => ?_)
            · refine go ?_
              refine ret1 (no (fun h => ?_) ((he1.trans he7).trans he9))
              have := hb9.2 (exp_iff.1 (((valid_iff.1 h).2.2.2.2.2 k (by omega)).2.2 m (by omega)))
              rw [this] at h10; cases h10
            · have h11 := exp_iff.2 (hb9.1 (by simpa using h10))
              refine go ?_
              refine forQ_normal (by omega) ⟨?_, he7.trans he9, fun j hj => ?_⟩
              · exact hasP
              · by_cases e : j = m
                · subst e; exact h11
                · exact hin j (by omega)
          · refine go ?_
            refine forQ_normal (by omega) ⟨?_, he7, fun q hq => ?_⟩
            · exact hasP
            · by_cases e : q = k
              · subst e
                exact ⟨h8, by omega, fun j hj => hin j (by omega)⟩
              · exact hrow q (by omega)
    · refine go ?_
      refine ret1 ⟨_, rfl, ?_, he1.trans he4⟩
      simp only [true_iff]
      exact valid_iff.2 ⟨by omega, by omega, by omega, hpre, hprod, fun q hq => hrow q (by omega)⟩
end Go.Proofs.Ytjljbfcdpdckeaa

/-
  Walks: the program's consistency (levelFault, consistentFrom, IsConsistent).
  Conditions: stated at each theorem.
-/
namespace Go.Proofs.Ytjljbfcdpdckeaa
open Go Go.Pc
def QC (p : Pr) (i : Nat) [h : Con p (i + 1)] (j k : Nat) : Prop := ∀ (hj : i < j ∧ j < p.n) (hk : i < k ∧ k < p.n), j < k → (Grp.cj (Tc h.valid hk) (Tc h.valid hj)).v = img p i (p.c j k)
def QI (p : Pr) (i : Nat) [h : Con p (i + 1)] (hi : i < p.n) (j : Nat) : Prop := ∀ (hj : i + 1 ≤ j ∧ j < p.n), rep (p.o i).toNat (img p i) (unitv p j 1) = (Grp.cj (gen h.valid (i + 1) j hj) (Tw h.valid hi)).v
theorem chk_iff2 {p : Pr} {i : Nat} [h : Con p (i + 1)] (hi : i < p.n) : Chk p i hi ↔ (∀ j, LP p i j) ∧ (∀ j k, QC p i j k) ∧ img p i (p.w i) = p.w i ∧ ∀ j, QI p i hi j := by
  constructor
  · intro hc
    refine ⟨fun j hj => congrArg T.v (hc.P j hj), fun j k hj hk hjk => congrArg T.v (hc.C j k hj hk hjk), congrArg T.v hc.F, fun j hj => ?_⟩
    have := congrArg T.v (hc.I j hj)
    rw [rep_Timg] at this
    exact this
  · rintro ⟨h1, h2, h3, h4⟩
    refine ⟨fun j hj => T.ext (h1 j hj), fun j k hj hk hjk => T.ext (h2 j k hj hk hjk), T.ext h3, fun j hj => T.ext ?_⟩
    rw [rep_Timg]
    exact h4 j hj
set_option maxHeartbeats 8000000 in
theorem levelFault_ok {p : Pr} {i : Nat} [hc : Con p (i + 1)] (hi : i < p.n) {w : World} {vp : Value} {ki : Int} {lo hi' : Nat} [hp : PresP lo hi' w vp p] (hki : ki = i) :
    Calls Try.prog 84 #[vp, .int .i64 ki] w (Ret fun v w' => ∃ k l f s : Int, v = faultV k l f s ∧ (k = 0 ↔ Chk p i hi) ∧ (k ≠ 0 → l = i) ∧ (k = 0 → l = 0 ∧ f = 0 ∧ s = 0) ∧ Ext w w') := by
  subst hki
  have hv := hc.valid
  have hn6 := hv.n6
  have hol : p.ord.length = p.n := rfl
  have hwl : p.pow.length = p.n := hv.lenw
  have hcl : p.cnj.length = p.n := hv.lenc
  have hci : (p.cnj.getD i []).length = p.n - 1 - i := hv.lenci i hi
  have hoi := hv.opos hi
  have hoe : p.o i = p.ord.getD i 0 := rfl
  obtain ⟨b, og, vo, vpw, vc, ps, cs, css, rfl, hb1, hb2, hc0, hc1, hc2, h1, h2, h3⟩ := hp.ex
  refine enter (args := [.pointer (some ⟨b, og, none⟩), .int .i64 i]) (l := [.cell 4 46]) Try.func84 rfl rfl Try.ntmps84 (by simp) ?_
  refine go ?_
  refine st_alloc (by first | exact True.intro | exact ⟨_, rfl, by ((try simp only [ev_tmp, ev_const, ev_func, get_put, get_args, get_putL, get_putL_nil, Nat.reduceEqDiff, reduceIte, List.getD_cons_zero, List.getD_cons_succ, List.getD_nil, Bool.not_true, Bool.not_false]); first | done | with_reducible rfl)⟩) fun w2 bf he2 hbf hs2 hbk => ?_
  have bad : ∀ {w3 : World} {k f s : Int}, Ext w w3 → k ≠ 0 → ¬ Chk p i hi → ∃ k' l' f' s' : Int, faultV k i f s = faultV k' l' f' s' ∧ (k' = 0 ↔ Chk p i hi) ∧ (k' ≠ 0 → l' = i) ∧ (k' = 0 → l' = 0 ∧ f' = 0 ∧ s' = 0) ∧ Ext w w3 :=
    fun he hk hn => ⟨_, _, _, _, rfl, ⟨fun h => absurd h hk, fun h => absurd h hn⟩, fun _ => rfl, fun h => absurd h hk, he⟩
  have hTcv : ∀ j (hj : i < j ∧ j < p.n), (p.cnj.getD i []).getD (j - i - 1) [] = (Tc hv hj).v := fun j hj => rfl
  refine go ?_
  refine r_for (p.n - (i + 1)) (fun k ρ w' => Has ρ [(0, .pointer (some ⟨b, og, none⟩)), (1, .int .i64 i), (4, .pointer (some ⟨bf, 0, none⟩)), (5, .int .i64 p.n), (6, .int .i64 i), (7, .int .i64 (i + 1 + k : Nat))] ∧ Ext w2 w' ∧ ∀ j, j < i + 1 + k → LP p i j) ?_ ?_
  · refine ⟨?_, Ext.refl _, fun j hj hj' => by omega⟩
    exact hasP
  rintro k ρ w3 hk ⟨hH, he3, hP⟩
  refine rwp_has hH fun ρ0 => ?_
  refine go ?_
  refine c_if (fun hj => ?_) (fun hj => ?_)
  · have hjn : i < i + 1 + k ∧ i + 1 + k < p.n := ⟨by omega, by omega⟩
    have hoj : 2 ≤ p.ord.getD (i + 1 + k) 0 ∧ p.ord.getD (i + 1 + k) 0 ≤ 7 := hv.opos hjn.2
    have hcv : (p.cnj.getD i []).getD (i + 1 + k - i - 1) [] = (Tc hv hjn).v := rfl
    refine go ?_
    refine d_order [0, 1, 2, 3, 4, 5, 6, 7, 8, 9, 10, 11, 12, 13, 14, 15, 16, 17, 18, 19, 20, 22, 23, 24, 25, 26, 27, 28, 29, 30, 21, 31, 32, 33] (h := fun w4 he4 _ => ?_)
    refine dgo ?_
    refine dce (power_ok (x := Tc hv hjn) (by omega) hcv ?_) (next := fun v5 w5 h5 => ?_)
    · omega
    obtain ⟨he5, hf5⟩ := h5
    refine dce (imageBy_ok hi (xs := p.w (i + 1 + k)) ?_ (hv.w_in _ hjn.2)) (next := fun v7 w7 h7 => ?_)
    · rfl
    obtain ⟨he7, hf7⟩ := h7
    have hlen := (Grp.pw (Tc hv hjn) (p.ord.getD (i + 1 + k) 0).toNat).inr.len
    refine dce (equalI_ok (xs := (Grp.pw (Tc hv hjn) (p.ord.getD (i + 1 + k) 0).toNat).v) (ys := img p i (p.w (i + 1 + k))) ?_) (next := fun v8 w8 h8 => ?_)
    · omega
    obtain ⟨b8, rfl, hb8, he8⟩ := h8
    have hE8 : Ext w2 w8 := (((he3.trans he4).trans he5).trans he7).trans he8
    refine dgo ?_
    refine d_end (h := ?_)
    refine go ?_
    refine c_b (fun h9 => ?_) (fun h9 => ?_)
    · refine go ?_
      refine ra (v := faultV 1 i (i + 1 + k : Nat) 0) (h := rd_build (by simp only [ev_tmp, ev_const, ev_func, get_put, get_args, get_putL, get_putL_nil, Nat.reduceEqDiff, reduceIte, List.getD_cons_zero, List.getD_cons_succ, List.getD_nil, List.map_toArray, List.map_cons, List.map_nil]; rfl) (fun _ => by kernel_rfl)) (next := ?_)
      refine st_store_agg (vs := [.int .i64 1, .int .i64 i, .int .i64 (i + 1 + k : Nat), .int .i64 0]) (cs := _) (by ((try simp only [ev_tmp, ev_const, ev_func, get_put, get_args, get_putL, get_putL_nil, Nat.reduceEqDiff, reduceIte, List.getD_cons_zero, List.getD_cons_succ, List.getD_nil]); first | done | with_reducible rfl)) (by ((try simp only [ev_tmp, ev_const, ev_func, get_put, get_args, get_putL, get_putL_nil, Nat.reduceEqDiff, reduceIte, List.getD_cons_zero, List.getD_cons_succ, List.getD_nil]); first | done | with_reducible rfl)) rfl ?_ rfl (by first | exact True.intro | exact ⟨_, rfl, by ((try simp only [ev_tmp, ev_const, ev_func, get_put, get_args, get_putL, get_putL_nil, Nat.reduceEqDiff, reduceIte, List.getD_cons_zero, List.getD_cons_succ, List.getD_nil, Bool.not_true, Bool.not_false]); first | done | with_reducible rfl)⟩) fun w9 hc9 hs9 hb9 => ?_
      · rfl
      refine go ?_
      refine retc (bad (k := 1) (f := (i + 1 + k : Nat)) (s := 0) (hc9.ext (he2.trans hE8) (by omega)) (by decide) fun h => ?_) rfl
      have := hb8.2 (((chk_iff2 hi).1 h).1 _ hjn)
      rw [this] at h9; cases h9
    · have h10 := hb8.1 (by simpa using h9)
      refine go ?_
      refine forQ_normal (by omega) ⟨?_, hE8, fun j hj => ?_⟩
      · exact hasP
      · by_cases e : j = i + 1 + k
        · subst e; exact fun _ => h10
        · exact hP j (by omega)
  refine go ?_
  have hP' : ∀ j, LP p i j := fun j => by
    by_cases e : j < i + 1 + k
    · exact hP j e
    · exact fun h => by omega
  clear hP hH hk hj
  refine r_for (p.n - (i + 1)) (fun k ρ w' => Has ρ [(0, .pointer (some ⟨b, og, none⟩)), (1, .int .i64 i), (4, .pointer (some ⟨bf, 0, none⟩)), (5, .int .i64 p.n), (6, .int .i64 i), (8, .int .i64 (i + 1 + k : Nat))] ∧ Ext w2 w' ∧ ∀ j k', j < i + 1 + k → QC p i j k') ?_ ?_
  · refine ⟨?_, he3, fun j k' hj hj' => by omega⟩
    exact hasP
  clear he3 ρ0 k
  rintro k ρ w4 hk ⟨hH, he4, hC⟩
  refine rwp_has hH fun ρ1 => ?_
  refine go ?_
  refine c_if (fun hj => ?_) (fun hj => ?_)
  · have hjn : i < i + 1 + k ∧ i + 1 + k < p.n := ⟨by omega, by omega⟩
    refine go ?_
    refine r_for (p.n - (i + 1 + k + 1)) (fun l ρ w' => Has ρ [(0, .pointer (some ⟨b, og, none⟩)), (1, .int .i64 i), (4, .pointer (some ⟨bf, 0, none⟩)), (5, .int .i64 p.n), (6, .int .i64 i), (8, .int .i64 (i + 1 + k : Nat)), (9, .int .i64 (i + 1 + k + 1 + l : Nat))] ∧ Ext w2 w' ∧ ∀ k', k' < i + 1 + k + 1 + l → QC p i (i + 1 + k) k') ?_ ?_
    · refine ⟨?_, he4, fun k' hk' h1 h2 h3 => by omega⟩
      exact hasP
    clear he4
    rintro l ρ w5 hl ⟨hH5, he5, hC5⟩
    refine rwp_has hH5 fun ρ2 => ?_
    refine go ?_
    refine c_if (fun hk2 => ?_) (fun hk2 => ?_)
    · have hkn : i < i + 1 + k + 1 + l ∧ i + 1 + k + 1 + l < p.n := ⟨by omega, by omega⟩
      have hjk : i + 1 + k < i + 1 + k + 1 + l := by omega
      have hcj := hv.lenci (i + 1 + k) hjn.2
      have hcv1 : (p.cnj.getD i []).getD (i + 1 + k - i - 1) [] = (Tc hv hjn).v := rfl
      have hcv2 : (p.cnj.getD i []).getD (i + 1 + k + 1 + l - i - 1) [] = (Tc hv hkn).v := rfl
      refine go ?_
      refine d_order [0, 1, 2, 3, 4, 5, 6, 7, 8, 9, 10, 11, 12, 13, 14, 15, 16, 17, 18, 19, 20, 21, 22, 23, 24, 25, 26, 28, 29, 30, 31, 32, 33, 34, 35, 36, 37, 38, 39, 40, 41, 42, 27, 43, 44, 45] (h := fun w6 he6 _ => ?_)
      refine dgo ?_
      refine dce (conjugate_ok (x := Tc hv hkn) (y := Tc hv hjn) (by omega) hcv2 hcv1) (next := fun v7 w7 h7 => ?_)
      obtain ⟨he7, hf7⟩ := h7
      refine dce (imageBy_ok hi (xs := p.c (i + 1 + k) (i + 1 + k + 1 + l)) ?_ (hv.c_in _ _ hjk hkn.2)) (next := fun v8 w8 h8 => ?_)
      · rfl
      obtain ⟨he8, hf8⟩ := h8
      have hlen := (Grp.cj (Tc hv hkn) (Tc hv hjn)).inr.len
      refine dce (equalI_ok (xs := (Grp.cj (Tc hv hkn) (Tc hv hjn)).v) (ys := img p i (p.c (i + 1 + k) (i + 1 + k + 1 + l))) ?_) (next := fun v9 w9 h9 => ?_)
      · omega
      obtain ⟨b9, rfl, hb9, he9⟩ := h9
      have hE9 : Ext w2 w9 := (((he5.trans he6).trans he7).trans he8).trans he9
      refine dgo ?_
      refine d_end (h := ?_)
      refine go ?_
      refine c_b (fun h10 => ?_) (fun h10 => ?_)
      · refine go ?_
        refine ra (v := faultV 2 i (i + 1 + k : Nat) (i + 1 + k + 1 + l : Nat)) (h := rd_build (by simp only [ev_tmp, ev_const, ev_func, get_put, get_args, get_putL, get_putL_nil, Nat.reduceEqDiff, reduceIte, List.getD_cons_zero, List.getD_cons_succ, List.getD_nil, List.map_toArray, List.map_cons, List.map_nil]; rfl) (fun _ => by kernel_rfl)) (next := ?_)
        refine st_store_agg (vs := [.int .i64 2, .int .i64 i, .int .i64 (i + 1 + k : Nat), .int .i64 (i + 1 + k + 1 + l : Nat)]) (cs := _) (by ((try simp only [ev_tmp, ev_const, ev_func, get_put, get_args, get_putL, get_putL_nil, Nat.reduceEqDiff, reduceIte, List.getD_cons_zero, List.getD_cons_succ, List.getD_nil]); first | done | with_reducible rfl)) (by ((try simp only [ev_tmp, ev_const, ev_func, get_put, get_args, get_putL, get_putL_nil, Nat.reduceEqDiff, reduceIte, List.getD_cons_zero, List.getD_cons_succ, List.getD_nil]); first | done | with_reducible rfl)) rfl ?_ rfl (by first | exact True.intro | exact ⟨_, rfl, by ((try simp only [ev_tmp, ev_const, ev_func, get_put, get_args, get_putL, get_putL_nil, Nat.reduceEqDiff, reduceIte, List.getD_cons_zero, List.getD_cons_succ, List.getD_nil, Bool.not_true, Bool.not_false]); first | done | with_reducible rfl)⟩) fun w10 hc10 hs10 hb10 => ?_
        · rfl
        refine go ?_
        refine retc (bad (k := 2) (f := (i + 1 + k : Nat)) (s := (i + 1 + k + 1 + l : Nat)) (hc10.ext (he2.trans hE9) (by omega)) (by decide) fun h => ?_) rfl
        have := hb9.2 (((chk_iff2 hi).1 h).2.1 _ _ hjn hkn hjk)
        rw [this] at h10; cases h10
      · have h11 := hb9.1 (by simpa using h10)
        refine go ?_
        refine forQ_normal (by omega) ⟨?_, hE9, fun k' hk' => ?_⟩
        · exact hasP
        · by_cases e : k' = i + 1 + k + 1 + l
          · subst e; exact fun _ _ _ => h11
          · exact hC5 k' (by omega)
    · refine go ?_
      refine forQ_normal (by omega) ⟨?_, he5, fun j k' hj2 => ?_⟩
      · exact hasP
      · by_cases e : j = i + 1 + k
        · subst e
          by_cases e2 : k' < i + 1 + k + 1 + l
          · exact hC5 k' e2
          · exact fun _ _ _ => by omega
        · exact hC j k' (by omega)
  refine go ?_
  have hC' : ∀ j k', QC p i j k' := fun j k' => by
    by_cases e : j < i + 1 + k
    · exact hC j k' e
    · exact fun h _ _ => by omega
  clear hC hH hk hj
  refine rc (imageBy_ok hi (xs := p.w i) ?_ (hv.w_in _ hi)) (next := fun v5 w5 h5 => ?_)
  · rfl
  obtain ⟨he5, hf5⟩ := h5
  have hlen := (img_in hv i (p.w i)).1.len
  refine go ?_
  refine rc (equalI_ok (xs := img p i (p.w i)) (ys := p.w i) ?_) (next := fun v6 w6 h6 => ?_)
  · omega
  obtain ⟨b6, rfl, hb6, he6⟩ := h6
  have hE6 : Ext w2 w6 := (he4.trans he5).trans he6
  clear he4 he5 he6 hf5
  refine go ?_
  refine c_b (fun h7 => ?_) (fun h7 => ?_)
  · refine go ?_
    refine ra (v := faultV 3 i 0 0) (h := rd_build (by simp only [ev_tmp, ev_const, ev_func, get_put, get_args, get_putL, get_putL_nil, Nat.reduceEqDiff, reduceIte, List.getD_cons_zero, List.getD_cons_succ, List.getD_nil, List.map_toArray, List.map_cons, List.map_nil]; rfl) (fun _ => by kernel_rfl)) (next := ?_)
    refine st_store_agg (vs := [.int .i64 3, .int .i64 i, .int .i64 0, .int .i64 0]) (cs := _) (by ((try simp only [ev_tmp, ev_const, ev_func, get_put, get_args, get_putL, get_putL_nil, Nat.reduceEqDiff, reduceIte, List.getD_cons_zero, List.getD_cons_succ, List.getD_nil]); first | done | with_reducible rfl)) (by ((try simp only [ev_tmp, ev_const, ev_func, get_put, get_args, get_putL, get_putL_nil, Nat.reduceEqDiff, reduceIte, List.getD_cons_zero, List.getD_cons_succ, List.getD_nil]); first | done | with_reducible rfl)) rfl ?_ rfl (by first | exact True.intro | exact ⟨_, rfl, by ((try simp only [ev_tmp, ev_const, ev_func, get_put, get_args, get_putL, get_putL_nil, Nat.reduceEqDiff, reduceIte, List.getD_cons_zero, List.getD_cons_succ, List.getD_nil, Bool.not_true, Bool.not_false]); first | done | with_reducible rfl)⟩) fun w9 hc9 hs9 hb9 => ?_
    · rfl
    refine go ?_
    refine retc (bad (k := 3) (f := 0) (s := 0) (hc9.ext (he2.trans hE6) (by omega)) (by decide) fun h => ?_) rfl
    have := hb6.2 ((chk_iff2 hi).1 h).2.2.1
    rw [this] at h7; cases h7
  have hF := hb6.1 (by simpa using h7)
  clear h7
  refine go ?_
  refine r_for (p.n - (i + 1)) (fun k ρ w' => Has ρ [(0, .pointer (some ⟨b, og, none⟩)), (1, .int .i64 i), (4, .pointer (some ⟨bf, 0, none⟩)), (5, .int .i64 p.n), (6, .int .i64 i), (10, Pc.rowAt vpw ps i), (11, .int .i64 (i + 1 + k : Nat))] ∧ Ext w2 w' ∧ ∀ j, j < i + 1 + k → QI p i hi j) ?_ ?_
  · refine ⟨?_, hE6, fun j hj h1 => by omega⟩
    exact hasP
  clear hE6
  rintro l ρ w8 hk ⟨hH, he8, hI⟩
  refine rwp_has hH fun ρ2 => ?_
  refine go ?_
  refine c_if (fun hj => ?_) (fun hj => ?_)
  · have hjn : i + 1 ≤ i + 1 + l ∧ i + 1 + l < p.n := ⟨by omega, by omega⟩
    refine go ?_
    refine rc (unitVector_ok (n := p.n) (i := i + 1 + l) rfl rfl ?_ hjn.2) (next := fun v9 w9 h9 => ?_)
    · omega
    obtain ⟨he9, hf9⟩ := h9
    have hg0 : (zeros p.n).set (i + 1 + l) 1 = unitv p (i + 1 + l) 1 := rfl
    rw [hg0] at hf9
    have hz8 := he8.size
    refine go ?_
    refine r_for (p.o i).toNat (fun q ρ w' => ∃ vx, Has ρ [(0, .pointer (some ⟨b, og, none⟩)), (1, .int .i64 i), (4, .pointer (some ⟨bf, 0, none⟩)), (5, .int .i64 p.n), (6, .int .i64 i), (10, Pc.rowAt vpw ps i), (11, .int .i64 (i + 1 + l : Nat)), (12, vx), (159, .int .i64 (p.ord.getD i 0)), (160, .int .i64 q)] ∧ Ext w8 w' ∧ Fr w8.heap.size w' vx (rep q (img p i) (unitv p (i + 1 + l) 1))) ?_ ?_
    · refine ⟨v9, ?_, he9, hf9⟩
      exact hasP
    clear he9 hf9
    rintro q ρ w10 hq ⟨vx, hH, he10, hf10⟩
    refine rwp_has hH fun ρ3 => ?_
    have hin : InR p (rep q (img p i) (unitv p (i + 1 + l) 1)) ∧ ZU (i + 1) (rep q (img p i) (unitv p (i + 1 + l) 1)) := by
      refine rep_inv (fun v => InR p v ∧ ZU (i + 1) v) (fun x _ => img_in hv i x) ⟨?_, unitv_zu p hjn.1 1⟩ q
      exact unitv_in hv (by omega) (fun h => by have := hv.opos h; omega)
    have hxi := hf10.ints
    refine go ?_
    refine c_if (fun hq2 => ?_) (fun hq2 => ?_)
    · refine go ?_
      refine rc (imageBy_ok hi (xs := rep q (img p i) (unitv p (i + 1 + l) 1)) ?_ hin.1) (next := fun v11 w11 h11 => ?_)
      · rfl
      obtain ⟨he11, hf11⟩ := h11
      refine go ?_
      refine forQ_normal (by omega) ⟨v11, ?_, he10.trans he11, hf11.mono he10.size⟩
      exact hasP
    · have hqe : q = (p.o i).toNat := by omega
      subst hqe
      refine go ?_
      refine rc (unitVector_ok (n := p.n) (i := i + 1 + l) rfl rfl ?_ hjn.2) (next := fun v11 w11 h11 => ?_)
      · omega
      obtain ⟨he11, hf11⟩ := h11
      refine go ?_
      refine rc (conjugate_ok (x := gen hv (i + 1) (i + 1 + l) hjn) (y := Tw hv hi) (xs := (zeros p.n).set (i + 1 + l) 1) (ys := p.w i) (by omega) rfl rfl) (next := fun v12 w12 h12 => ?_)
      obtain ⟨he12, hf12⟩ := h12
      have hlen2 := hin.1.len
      refine go ?_
      refine rc (equalI_ok (xs := rep (p.o i).toNat (img p i) (unitv p (i + 1 + l) 1)) (ys := (Grp.cj (gen hv (i + 1) (i + 1 + l) hjn) (Tw hv hi)).v) ?_) (next := fun v13 w13 h13 => ?_)
      · omega
      obtain ⟨b13, rfl, hb13, he13⟩ := h13
      have hE13 : Ext w2 w13 := (((he8.trans he10).trans he11).trans he12).trans he13
      refine go ?_
      refine c_b (fun h14 => ?_) (fun h14 => ?_)
      · refine go ?_
        refine ra (v := faultV 4 i (i + 1 + l : Nat) 0) (h := rd_build (by simp only [ev_tmp, ev_const, ev_func, get_put, get_args, get_putL, get_putL_nil, Nat.reduceEqDiff, reduceIte, List.getD_cons_zero, List.getD_cons_succ, List.getD_nil, List.map_toArray, List.map_cons, List.map_nil]; rfl) (fun _ => by kernel_rfl)) (next := ?_)
        refine st_store_agg (vs := [.int .i64 4, .int .i64 i, .int .i64 (i + 1 + l : Nat), .int .i64 0]) (cs := _) (by ((try simp only [ev_tmp, ev_const, ev_func, get_put, get_args, get_putL, get_putL_nil, Nat.reduceEqDiff, reduceIte, List.getD_cons_zero, List.getD_cons_succ, List.getD_nil]); first | done | with_reducible rfl)) (by ((try simp only [ev_tmp, ev_const, ev_func, get_put, get_args, get_putL, get_putL_nil, Nat.reduceEqDiff, reduceIte, List.getD_cons_zero, List.getD_cons_succ, List.getD_nil]); first | done | with_reducible rfl)) rfl ?_ rfl (by first | exact True.intro | exact ⟨_, rfl, by ((try simp only [ev_tmp, ev_const, ev_func, get_put, get_args, get_putL, get_putL_nil, Nat.reduceEqDiff, reduceIte, List.getD_cons_zero, List.getD_cons_succ, List.getD_nil, Bool.not_true, Bool.not_false]); first | done | with_reducible rfl)⟩) fun w15 hc15 hs15 hb15 => ?_
        · rfl
        refine go ?_
        refine retc (bad (k := 4) (f := (i + 1 + l : Nat)) (s := 0) (hc15.ext (he2.trans hE13) (by omega)) (by decide) fun h => ?_) rfl
        have := hb13.2 (((chk_iff2 hi).1 h).2.2.2 (i + 1 + l) hjn)
        rw [this] at h14; cases h14
      · have h15 := hb13.1 (by simpa using h14)
        refine go ?_
        refine forQ_normal (by omega) ⟨?_, hE13, fun j hj2 => ?_⟩
        · exact hasP
        · by_cases e : j = i + 1 + l
          · subst e; exact fun _ => h15
          · exact hI j (by omega)
  · refine go ?_
    refine ra (v := faultV 0 0 0 0) (h := rd_build (by rfl) (fun _ => by kernel_rfl)) (next := ?_)
    refine st_store_agg (vs := [.int .i64 0, .int .i64 0, .int .i64 0, .int .i64 0]) (cs := _) (by ((try simp only [ev_tmp, ev_const, ev_func, get_put, get_args, get_putL, get_putL_nil, Nat.reduceEqDiff, reduceIte, List.getD_cons_zero, List.getD_cons_succ, List.getD_nil]); first | done | with_reducible rfl)) (by ((try simp only [ev_tmp, ev_const, ev_func, get_put, get_args, get_putL, get_putL_nil, Nat.reduceEqDiff, reduceIte, List.getD_cons_zero, List.getD_cons_succ, List.getD_nil]); first | done | with_reducible rfl)) rfl ?_ rfl (by first | exact True.intro | exact ⟨_, rfl, by ((try simp only [ev_tmp, ev_const, ev_func, get_put, get_args, get_putL, get_putL_nil, Nat.reduceEqDiff, reduceIte, List.getD_cons_zero, List.getD_cons_succ, List.getD_nil, Bool.not_true, Bool.not_false]); first | done | with_reducible rfl)⟩) fun w15 hc15 hs15 hb15 => ?_
    · rfl
    refine go ?_
    exact retc ⟨0, 0, 0, 0, rfl, ⟨fun _ => (chk_iff2 hi).2 ⟨hP', hC', hF, fun j h1 => hI j (by omega) h1⟩, fun _ => rfl⟩, fun h => absurd rfl h, fun _ => ⟨rfl, rfl, rfl⟩, hc15.ext (he2.trans he8) (by omega)⟩ rfl
end Go.Proofs.Ytjljbfcdpdckeaa

/-
  Walks: the program's consistency of a presentation (consistentFrom, IsConsistent).
  Conditions: stated at each theorem.
-/
namespace Go.Proofs.Ytjljbfcdpdckeaa
open Go Go.Pc
theorem fault_guard : (Try.prog.eqGuardType Try.prog.depth 46) = false := by kernel_rfl
theorem fault_held : (Try.prog.stoodInHeld 46) = false := by kernel_rfl
theorem fault_fields : Try.prog.underlying 46 = some (.struct (Try.prog.fieldsOf 46)) := by simp [Program.fieldsOf, Try.underlying46]
theorem rd_eqFault {ρ : Env} {w : World} {ty : TypeId} {x y : Operand} {k l f s : Int} (h : ev ρ x = faultV k l f s) (h' : ev ρ y = faultV 0 0 0 0) :
    Rd Try.prog (.binOp .eql 46 x y 46) ty ρ w (.bool (decide (k = 0 ∧ l = 0 ∧ f = 0 ∧ s = 0))) := by
  constructor; intro _ _ _ _
  have h2 := fun d a b w => run_equalIn_int (P := Try.prog) w d 2 .i64 .i64 a b Try.underlying2
  simp [execOp, h, h', run_eqGuard_agg _ _ _ _ _ _ _ fault_guard, run_eql_struct, run_equalIn_agg _ _ _ _ _ fault_fields fault_held, Program.fieldsOf, Try.underlying46, Op.eqFields, h2, go_sem]
  by_cases hk : k = 0 <;> by_cases hl : l = 0 <;> by_cases hf : f = 0 <;> by_cases hs : s = 0 <;> simp [hk, hl, hf, hs]
set_option maxHeartbeats 1000000 in
theorem consistentFrom_ok {p : Pr} (hv : Valid p) {w : World} {vp : Value} {lo hi' : Nat} [hp : PresP lo hi' w vp p] :
    Calls Try.prog 83 #[vp] w (Ret fun v w' => ∃ i : Nat, v = .int .i64 i ∧ i ≤ p.n ∧ Levs p i ∧ (i ≠ 0 → ¬ Lev p (i - 1)) ∧ Ext w w') := by
  have hn6 := hv.n6
  have hol : p.ord.length = p.n := rfl
  obtain ⟨b, og, vo, vpw, vc, ps, cs, css, rfl, hb1, hb2, hc0, hc1, hc2, h1, h2, h3⟩ := hp.ex
  refine enter (args := [.pointer (some ⟨b, og, none⟩)]) (l := [.tmp 2]) Try.func83 rfl rfl Try.ntmps83 (by simp) ?_
  refine go ?_
  refine r_for p.n (fun k ρ w' => Has ρ [(0, .pointer (some ⟨b, og, none⟩)), (3, .int .i64 (p.n - k : Nat))] ∧ Ext w w' ∧ Levs p (p.n - k)) ?_ ?_
  · refine ⟨?_, Ext.refl _, fun j h h' => by omega⟩
    exact hasP
  rintro k ρ w3 hk ⟨hH, he3, hL⟩
  refine rwp_has hH fun ρ0 => ?_
  refine go ?_
  refine spd (fun h4 => ?_) (fun h4 => ?_)
  · obtain ⟨i, hie⟩ : ∃ i : Nat, p.n - k = i + 1 := ⟨p.n - k - 1, by omega⟩
    have hi : i < p.n := by omega
    rw [hie] at hL h4 ⊢
    have hc : Con p (i + 1) := Levs.con hv hL
    refine go ?_
    refine rc (levelFault_ok (p := p) (i := i) hi ?_) (next := fun v5 w5 h5 => ?_)
    · omega
    obtain ⟨k5, l5, f5, s5, rfl, hz, hl5, h05, he5⟩ := h5
    refine go ?_
    refine ra (v := faultV 0 0 0 0) (h := rd_build (by rfl) (fun _ => by kernel_rfl)) (next := ?_)
    refine go ?_
    refine ra (h := rd_eqFault (k := k5) (l := l5) (f := f5) (s := s5) (by ((try simp only [ev_tmp, ev_const, ev_func, get_put, get_args, get_putL, get_putL_nil, Nat.reduceEqDiff, reduceIte, List.getD_cons_zero, List.getD_cons_succ, List.getD_nil]); first | done | with_reducible rfl)) (by ((try simp only [ev_tmp, ev_const, ev_func, get_put, get_args, get_putL, get_putL_nil, Nat.reduceEqDiff, reduceIte, List.getD_cons_zero, List.getD_cons_succ, List.getD_nil]); first | done | with_reducible rfl))) (next := ?_)
    refine go ?_
    refine c_if (fun h8 => ?_) (fun h8 => ?_)
    · refine go ?_
      refine forQ_normal (by omega) ⟨?_, he3.trans he5, fun j hj hjn => ?_⟩
      · exact hasP
      · by_cases e : j = i
        · subst e; exact ⟨hc, hi, hz.1 h8.1⟩
        · exact hL j (by omega) hjn
    · refine go ?_
      refine ret1 ⟨i + 1, rfl, by omega, hL, fun _ => ?_, he3.trans he5⟩
      rintro ⟨_, _, h9⟩
      have h0 := hz.2 h9
      exact h8 ⟨h0, h05 h0⟩
  · refine go ?_
    have hkn : p.n - k = 0 := by omega
    rw [hkn] at hL ⊢
    exact ret1 ⟨0, rfl, by omega, hL, fun h => absurd rfl h, he3⟩
set_option maxHeartbeats 1000000 in
theorem impl_IsConsistent_ok {w : World} {vp : Value} {p : Pr} {lo hi' : Nat} [hp : Pres lo hi' w vp p] (hl : p.ord.length ≤ 2000000) :
    Calls Try.prog 29 #[vp] w (Ret fun v w' => ∃ b, v = .bool b ∧ (b = true ↔ IsGrp p) ∧ Ext w w') := by
  obtain ⟨vo, vpw, vc, ps, cs, css, rfl, h1, h2, h3⟩ := hp.ex
  refine enter (args := [.agg #[vo, vpw, vc]]) (l := [.tmp 2]) Try.func29 rfl rfl Try.ntmps29 (by simp) ?_
  refine go ?_
  refine st_box3 (by ((try simp only [ev_tmp, ev_const, ev_func, get_put, get_args, get_putL, get_putL_nil, Nat.reduceEqDiff, reduceIte, List.getD_cons_zero, List.getD_cons_succ, List.getD_nil]); first | done | with_reducible rfl)) (by first | exact True.intro | exact ⟨_, rfl, by ((try simp only [ev_tmp, ev_const, ev_func, get_put, get_args, get_putL, get_putL_nil, Nat.reduceEqDiff, reduceIte, List.getD_cons_zero, List.getD_cons_succ, List.getD_nil, Bool.not_true, Bool.not_false]); first | done | with_reducible rfl)⟩) fun w1 b he1 hb1 hs1 hc0 hc1 hc2 => ?_
  have hpp := hp.boxed he1 hc0 hc1 hc2
  refine go ?_
  refine rc (impl_IsPresentation_ok hl) (next := fun v5 w5 h5 => ?_)
  obtain ⟨b5, rfl, hb5, he5⟩ := h5
  refine go ?_
  refine sp (fun e5 => ?_) (fun e5 => ?_)
  · have hv := hb5.1 e5
    refine go ?_
    refine rc (consistentFrom_ok hv) (next := fun v6 w6 h6 => ?_)
    obtain ⟨i, rfl, hi, hL, hno, he6⟩ := h6
    refine go ?_
    refine ret1 ⟨_, rfl, ?_, (he1.trans he5).trans he6⟩
    rw [decide_eq_true_eq]
    constructor
    · intro h
      have : i = 0 := by omega
      subst this
      exact ⟨hv, hL⟩
    · intro h
      by_cases e : i = 0
      · omega
      · exact absurd (h.levs (i - 1) (by omega) (by omega)) (hno e)
  · refine go ?_
    refine ret1 ⟨_, rfl, ?_, he1.trans he5⟩
    simp only [Bool.false_eq_true, false_iff]
    intro h
    have := hb5.2 h.valid
    rw [e5] at this; cases this
end Go.Proofs.Ytjljbfcdpdckeaa

/-
  Walks: the program's test of subgroups (areSubgroups, IsSubgroup).
  Conditions: stated at each theorem.
-/
namespace Go.Proofs.Ytjljbfcdpdckeaa
open Go Go.Pc
theorem PresP.val {lo hi b : Nat} {w : World} {p : Pr} {vo vp vc : Value} {ps cs : List Value} {css : List (List Value)} (h1 : Ints lo hi w vo p.ord) (h2 : Pc.Rows lo hi w vp ps p.pow) (h3 : Rowss lo hi w vc cs css p.cnj) : Pres lo hi w (.agg #[vo, vp, vc]) p := ⟨⟨vo, vp, vc, ps, cs, css, rfl, h1, h2, h3⟩⟩
end Go.Proofs.Ytjljbfcdpdckeaa

/-
  Walks: the program's IsMember and IsSubset.
  Conditions: what the arguments read as.
-/
namespace Go.Proofs.Ytjljbfcdpdckeaa
open Go Go.Pc
end Go.Proofs.Ytjljbfcdpdckeaa

/-
  Walks: the program's generators, conjugates, conjugate subgroup, test of normality, test of elements.
  Conditions: stated at each theorem.
-/
namespace Go.Proofs.Ytjljbfcdpdckeaa
open Go Go.Pc
end Go.Proofs.Ytjljbfcdpdckeaa

/-
  Walks: the program's slices.Concat, closure under conjugation, commutator subgroup; SubgroupJoin, NormalClosure, CommutatorSubgroup.
  Conditions: stated at each theorem.
-/
namespace Go.Proofs.Ytjljbfcdpdckeaa
open Go Go.Pc
theorem SeqAt.ext {p : Pr} {bs b0 base : Nat} {av : Nat → Prop} {w w' : World} {vp vb : Value} {t : Tab p} (h : SeqAt bs b0 base av w vp vb t) (x : Ext w w') : SeqAt bs b0 base av w' vp vb t := by
  obtain ⟨c0, c1, hn, ho, us, hL, hnil⟩ := h
  exact ⟨c0.same (x.same _ _) x.size, c1.same (x.same _ _) x.size, hn, ho, us, hL.ext x, hnil⟩
end Go.Proofs.Ytjljbfcdpdckeaa

/-
  Walks: the program's CosetRepresentative.
  Conditions: what the arguments read as.
-/
namespace Go.Proofs.Ytjljbfcdpdckeaa
open Go Go.Pc
end Go.Proofs.Ytjljbfcdpdckeaa

/-
  Walks: the program's order of a subgroup (sizeOf, SubgroupOrder).
  Conditions: stated at each theorem.
-/
namespace Go.Proofs.Ytjljbfcdpdckeaa
open Go Go.Pc
end Go.Proofs.Ytjljbfcdpdckeaa

/-
  Walks: the program's GeneratedSubgroup, ConjugateSubgroup, IsNormalSubgroup, SubgroupIndex, SubgroupDepths.
  Conditions: what the arguments read as.
-/
namespace Go.Proofs.Ytjljbfcdpdckeaa
open Go Go.Pc
end Go.Proofs.Ytjljbfcdpdckeaa

/-
  Walks: the program's CosetNumber, MemberElement, MemberExponents.
  Conditions: what the arguments read as.
-/
namespace Go.Proofs.Ytjljbfcdpdckeaa
open Go Go.Pc
end Go.Proofs.Ytjljbfcdpdckeaa

/-
  Walks: the program's order, index code, transversal; Transversal.
  Conditions: stated at each theorem.
-/
namespace Go.Proofs.Ytjljbfcdpdckeaa
open Go Go.Pc
set_option maxHeartbeats 1000000 in
theorem orderOf_ok {p : Pr} (hv : Valid p) {w : World} {vp : Value} {lo hi : Nat} [hp : PresP lo hi w vp p] :
    Calls Try.prog 101 #[vp] w (Ret fun v w' => v = .int .i64 (ordL p (List.range p.n)) ∧ Ext w w') := by
  have hn6 := hv.n6
  have hol : p.ord.length = p.n := rfl
  have hrl : (List.range p.n).length = p.n := by simp
  obtain ⟨g, og, vo, vpw, vc, ps, cs, css, rfl, hg1, hg2, hc0, hc1, hc2, h1, h2, h3⟩ := hp.ex
  refine enter (args := [.pointer (some ⟨g, og, none⟩)]) (l := [.tmp 2]) Try.func101 rfl rfl Try.ntmps101 (by simp) ?_
  refine go ?_
  refine r_for p.n (fun k ρ w' => Has ρ [(3, .int .i64 (ordL p ((List.range p.n).take k))), (9, vo), (10, .int .i64 p.ord.length), (11, .int .i64 k)] ∧ Ext w w') ?_ ?_
  · refine ⟨?_, Ext.refl _⟩
    exact hasP
  rintro k ρ w2 hk ⟨hH, he2⟩
  refine rwp_has hH fun ρ0 => ?_
  refine go ?_
  refine c_if (fun h4 => ?_) (fun h4 => ?_)
  · have hkn : k < p.n := by omega
    have hod := hv.opos hkn
    have hr := ordL_rng hv (l := List.range p.n) (fun d hd => List.mem_range.1 hd) (by omega) (k := k) (by omega)
    have hm : 0 ≤ ordL p ((List.range p.n).take k) * p.o k ∧ ordL p ((List.range p.n).take k) * p.o k ≤ 117649 * 7 := ⟨Int.mul_nonneg (by omega) (by omega), Int.mul_le_mul hr.2 hod.2 (by omega) (by omega)⟩
    have hmb : -9223372036854775808 ≤ ordL p ((List.range p.n).take k) * p.o k ∧ ordL p ((List.range p.n).take k) * p.o k ≤ 9223372036854775807 := ⟨by omega, by omega⟩
    have hst := ordL_take (p := p) (List.range p.n) (show k < (List.range p.n).length by omega)
    rw [show (List.range p.n).getD k 0 = k by simp [hkn]] at hst
    refine go ?_
    rw [show p.ord.getD k 0 = p.o k from rfl]
    refine ra (h := rd_mul (by ((try simp only [ev_tmp, ev_const, ev_func, get_put, get_args, get_putL, get_putL_nil, Nat.reduceEqDiff, reduceIte, List.getD_cons_zero, List.getD_cons_succ, List.getD_nil]); first | done | with_reducible rfl)) (by ((try simp only [ev_tmp, ev_const, ev_func, get_put, get_args, get_putL, get_putL_nil, Nat.reduceEqDiff, reduceIte, List.getD_cons_zero, List.getD_cons_succ, List.getD_nil]); first | done | with_reducible rfl)) hmb) (next := ?_)
    refine go ?_
    refine forQ_normal (by omega) ⟨?_, he2⟩
    rw [hst]
    exact hasP
  · refine go ?_
    have e : (List.range p.n).take k = List.range p.n := by rw [show k = p.n by omega, List.take_of_length_le (by omega)]
    rw [e]
    exact ret1 ⟨rfl, he2⟩
end Go.Proofs.Ytjljbfcdpdckeaa

/-
  Walks: the program's element with a number, all elements, subgroups of all elements with a property; Center.
  Conditions: stated at each theorem.
-/
namespace Go.Proofs.Ytjljbfcdpdckeaa
open Go Go.Pc
set_option maxHeartbeats 2000000 in
theorem elementAt_ok {p : Pr} [hc : ConAll p] {t : Nat} (ht : t ≤ 1000000) {w : World} {vp : Value} {lo hi : Nat} [hp : PresP lo hi w vp p] :
    Calls Try.prog 115 #[vp, .int .i64 t] w (Ret fun v w' => Ext w w' ∧ Fr w.heap.size w' v (allE p t).v) := by
  have hv := hc.valid
  have hn6 := hv.n6
  have hol : p.ord.length = p.n := rfl
  rw [allE_val]
  obtain ⟨l, hl⟩ : ∃ l, List.range p.n = l := ⟨_, rfl⟩
  have hll : l.length = p.n := by rw [← hl]; simp
  have hlt : ∀ d, d ∈ l → d < p.n := fun d hd => by rw [← hl] at hd; exact List.mem_range.1 hd
  have hnd : l.Nodup := by rw [← hl]; exact List.nodup_range
  have hlg : ∀ i, i < p.n → l.getD i 0 = i := fun i hi => by rw [← hl]; simp [hi]
  rw [hl]
  replace hp := hp.wide
  obtain ⟨g, og, vo, vpw, vc, ps, cs, css, rfl, hg1, hg2, hc0, hc1, hc2, h1, h2, h3⟩ := hp.ex
  refine enter (args := [.pointer (some ⟨g, og, none⟩), .int .i64 t]) (l := [.tmp 4]) Try.func115 rfl rfl Try.ntmps115 (by simp) ?_
  refine go ?_
  refine st_make_int (by ((try simp only [ev_tmp, ev_const, ev_func, get_put, get_args, get_putL, get_putL_nil, Nat.reduceEqDiff, reduceIte, List.getD_cons_zero, List.getD_cons_succ, List.getD_nil]); first | done | with_reducible rfl)) (by ((try simp only [ev_tmp, ev_const, ev_func, get_put, get_args, get_putL, get_putL_nil, Nat.reduceEqDiff, reduceIte, List.getD_cons_zero, List.getD_cons_succ, List.getD_nil]); first | done | with_reducible rfl)) (by omega) (by omega) (by first | exact True.intro | exact ⟨_, rfl, by ((try simp only [ev_tmp, ev_const, ev_func, get_put, get_args, get_putL, get_putL_nil, Nat.reduceEqDiff, reduceIte, List.getD_cons_zero, List.getD_cons_succ, List.getD_nil, Bool.not_true, Bool.not_false]); first | done | with_reducible rfl)⟩) fun w2 v2 he2 hs2 ho2 => ?_
  have hz2 := he2.size
  have hzz : List.replicate p.ord.length (0 : Int) = zeros p.n := rfl
  rw [hzz] at ho2
  have hzl := zeros_len p.n
  have ap1 : Apart 0 w.heap.size w.heap.size := ⟨.inr (Nat.le_refl _)⟩
  have hgs : g + 1 ≤ w.heap.size := by have := hc0.lt; omega
  have ap2 : Apart g (g + 1) w.heap.size := ⟨.inr hgs⟩
  refine go ?_
  refine r_for p.n (fun k ρ w' => ∃ (tk : Int) (xs : List Int), Has ρ [(0, .pointer (some ⟨g, og, none⟩)), (1, .int .i64 tk), (5, v2), (6, .int .i64 (p.n - 1 - k))] ∧ Chg w.heap.size w2 w' ∧ OwnI 2 w.heap.size w' v2 xs ∧ xs.length = p.n ∧ 0 ≤ tk ∧ tk ≤ 1000000 ∧ fillTo p l (p.n - k) tk xs = elTo p l l.length t) ?_ ?_
  · refine ⟨t, zeros p.n, ?_, Chg.refl _ _, ho2, hzl, by omega, by omega, ?_⟩
    · exact hasP
    · have := fill_eq hnd hlt (t : Int)
      rwa [hll] at this ⊢
  clear ho2
  rintro k ρ w4 hk ⟨tk, xs, hH, hch4, ho4, hxl, ht0, ht1, hfill⟩
  refine rwp_has hH fun ρ0 => ?_
  refine go ?_
  refine c_if (fun h4 => ?_) (fun h4 => ?_)
  · have hkn : k < p.n := by omega
    obtain ⟨i, hi⟩ : ∃ i, p.n - 1 - k = i := ⟨_, rfl⟩
    have hil : i < p.n := by omega
    have hcast : ((p.n : Int) - 1 - k) = (i : Int) := by omega
    have hod := hv.opos hil
    have hmod : 0 ≤ tk % p.o i ∧ tk % p.o i < p.o i := ⟨Int.emod_nonneg _ (by omega), Int.emod_lt_of_pos _ (by omega)⟩
    have hdiv : 0 ≤ tk / p.o i ∧ tk / p.o i ≤ 1000000 := ⟨Int.ediv_nonneg ht0 (by omega), Int.le_trans (Int.ediv_le_self _ ht0) ht1⟩
    have hstep : fillTo p l (p.n - (k + 1)) (tk / p.o i) (xs.set i (tk % p.o i)) = elTo p l l.length t := by
      rw [← hfill, show p.n - k = i + 1 by omega, show p.n - (k + 1) = i by omega]
      show _ = fillTo p l i (tk / p.o (l.getD i 0)) (xs.set (l.getD i 0) (tk % p.o (l.getD i 0)))
      rw [hlg i hil]
    rw [hcast]
    refine go ?_
    first
      | rw [show p.ord.getD i 0 = p.o i from rfl]
      | rw [show p.ord.getD ((i : Int).toNat) 0 = p.o i from rfl]
    refine go ?_
    refine st_store_int (h := ho4) (by ((try simp only [ev_tmp, ev_const, ev_func, get_put, get_args, get_putL, get_putL_nil, Nat.reduceEqDiff, reduceIte, List.getD_cons_zero, List.getD_cons_succ, List.getD_nil]); first | done | with_reducible rfl)) (by ((try simp only [ev_tmp, ev_const, ev_func, get_put, get_args, get_putL, get_putL_nil, Nat.reduceEqDiff, reduceIte, List.getD_cons_zero, List.getD_cons_succ, List.getD_nil]); first | done | with_reducible rfl)) ?_ (by first | exact True.intro | exact ⟨_, rfl, by ((try simp only [ev_tmp, ev_const, ev_func, get_put, get_args, get_putL, get_putL_nil, Nat.reduceEqDiff, reduceIte, List.getD_cons_zero, List.getD_cons_succ, List.getD_nil, Bool.not_true, Bool.not_false]); first | done | with_reducible rfl)⟩) fun w6 hc6 hs6 ho6 => ?_
    · omega
    have hch6 : Chg w.heap.size w2 w6 := hch4.trans hc6
    clear hch4 hc6 ho4
    refine go ?_
    first
      | rw [show p.ord.getD i 0 = p.o i from rfl]
      | rw [show p.ord.getD ((i : Int).toNat) 0 = p.o i from rfl]
    refine go ?_
    refine forQ_normal (by omega) ⟨tk / p.o i, _, ?_, hch6, ho6, by simp [hxl], hdiv.1, hdiv.2, hstep⟩
    exact hasP
  · refine go ?_
    obtain rfl : k = p.n := by omega
    rw [Nat.sub_self] at hfill
    have hx : xs = elTo p l l.length t := hfill
    refine ret1 ⟨hch4.ext he2 (Nat.le_refl _), ?_⟩
    rw [← hx]
    exact ho4.toFr (Nat.le_refl _)
set_option maxHeartbeats 2000000 in
theorem allElements_ok {p : Pr} [hc : ConAll p] {w : World} {vp : Value} {lo hi : Nat} [hp : PresP lo hi w vp p] :
    Calls Try.prog 118 #[vp] w (Ret fun v w' => Ext w w' ∧ ∃ rs, vecs ((List.range (ordN p)).map (allE p)) = rs.map (·.2) ∧ MatO w.heap.size w'.heap.size w' v rs) := by
  have hv := hc.valid
  obtain ⟨hoe, ho1, ho2⟩ := ordN_rng p
  have hpw := hp.wide
  refine enter (args := [vp]) (l := [.tmp 2]) Try.func118 rfl rfl Try.ntmps118 (by simp) ?_
  refine go ?_
  refine rc (orderOf_ok (p := p) hv) (next := fun v2 w2 h4 => ?_)
  obtain ⟨rfl, he2⟩ := h4
  rw [hoe]
  have hz2 := he2.size
  refine go ?_
  refine r_for (ordN p) (fun k ρ w' => ∃ vl rs, Has ρ [(0, vp), (3, vl), (6, .int .i64 (ordN p)), (7, .int .i64 k)] ∧ Ext w2 w' ∧ GrowL 22 w2.heap.size w' vl rs ∧ rs.map (·.2) = vecs ((List.range k).map (allE p))) ?_ ?_
  · refine ⟨nilv, [], ?_, Ext.refl _, GrowL.nil _ _ _ (Nat.le_refl _), by simp⟩
    exact hasP
  rintro k ρ w3 hk ⟨vl, rs, hH, he3, hG, hrs⟩
  refine rwp_has hH fun ρ0 => ?_
  have hz3 := he3.size
  have hrl : rs.length = k := by have := congrArg List.length hrs; simp at this; omega
  have hE3 := he2.trans he3
  refine go ?_
  refine c_if (fun h4 => ?_) (fun h4 => ?_)
  · refine go ?_
    refine rc (elementAt_ok (p := p) (t := k) (by omega)) (next := fun v4 w4 h5 => ?_)
    obtain ⟨he4, hf4⟩ := h5
    refine go ?_
    refine st_grow hG he4 hf4 hz3 (by omega) (next := fun v6 v7 w7 hG7 hx7 hz7 hgs7 => ?_)
    refine go ?_
    refine forQ_normal (by omega) ⟨v7, _, ?_, hx7 w2 (he3.trans he4) (Nat.le_refl _), hG7, ?_⟩
    · exact hasP
    · rw [List.range_succ, List.map_append, List.map_append, hrs]; simp
  · obtain rfl : k = ordN p := by omega
    refine go ?_
    exact ret1 ⟨hE3, rs, hrs.symm, hG.mat.lower hz2⟩
end Go.Proofs.Ytjljbfcdpdckeaa

/-
  Walks: the program's order of an element; PowerSubgroup, OrderSubgroup.
  Conditions: what the arguments read as.
-/
namespace Go.Proofs.Ytjljbfcdpdckeaa
open Go Go.Pc
set_option maxHeartbeats 2000000 in
theorem orderOfElement_ok {p : Pr} [hc : ConAll p] {x : El p} {w : World} {vp vx : Value} {xs : List Int} {lo hi lo1 hi1 : Nat} [hp : PresP lo hi w vp p] [hx : Ints lo1 hi1 w vx xs] (hxe : xs = x.v) :
    Calls Try.prog 110 #[vp, vx] w (Ret fun v w' => ∃ K : Nat, v = .int .i64 K ∧ Per x K ∧ Ext w w') := by
  subst hxe
  have hn6 := hc.valid.n6
  have hol : p.ord.length = p.n := rfl
  replace hp := hp.wide
  obtain ⟨g, og, vo, vpw, vc, ps, cs, css, rfl, hg1, hg2, hc0, hc1, hc2, h1, h2, h3⟩ := hp.ex
  refine enter (args := [.pointer (some ⟨g, og, none⟩), vx]) (l := [.tmp 4]) Try.func110 rfl rfl Try.ntmps110 (by simp) ?_
  refine go ?_
  refine r_for p.n (fun d ρ w' => ∃ (K : Nat) (y : El p) (vn : Value), Has ρ [(0, .pointer (some ⟨g, og, none⟩)), (5, .int .i64 K), (6, .int .i64 d), (7, vn)] ∧ Ext w w' ∧ Ints 0 w'.heap.size w' vn y.v ∧ PerI x y d K) ?_ ?_
  · refine ⟨1, x, vx, ?_, Ext.refl _, hx.wide, PerI.start x⟩
    exact hasP
  rintro d ρ w3 hd ⟨K, y, vn, hH, he3, hy, hI⟩
  refine rwp_has hH fun ρ0 => ?_
  have hyl := y.inr.len
  refine go ?_
  refine rc (isZero_ok (xs := y.v) (by omega)) (next := fun v4 w4 h4 => ?_)
  obtain ⟨b4, rfl, hb4, he4⟩ := h4
  rw [← el_one_iff] at hb4
  have hE4 := he3.trans he4
  have hy4 : Ints 0 w3.heap.size w4 vn y.v := hy.same (he4.same _ _)
  have hy5 : Ints 0 w4.heap.size w4 vn y.v := hy4.wide
  have h7 : K ≤ 117649 := by
    have h6 : (7 : Nat) ^ d ≤ 7 ^ 6 := Nat.pow_le_pow_right (by omega) (by omega)
    have h7 : (7 : Nat) ^ 6 = 117649 := by decide
    have := hI.2.2.2.1
    omega
  refine go ?_
  refine c_b (fun e4 => ?_) (fun e4 => ?_)
  · have hne : y ≠ 1 := fun h => by rw [hb4.2 h] at e4; cases e4
    have hdn : d < p.n := by
      by_cases e : d = p.n
      · subst e; exact absurd hI.1.end_ hne
      · omega
    have ho := hc.valid.opos hdn
    refine go ?_
    refine c_if (fun h5 => ?_) (fun h5 => ?_)
    · refine go ?_
      rw [show p.ord.getD d 0 = p.o d from rfl]
      refine rc (power_ok (p := p) (i := 0) (x := y) (k := p.o d) (Nat.zero_le _) rfl (by omega)) (next := fun v6 w6 h6 => ?_)
      obtain ⟨he6, hf6⟩ := h6
      have hE6 := hE4.trans he6
      have hm : 0 ≤ (K : Int) * p.o d ∧ (K : Int) * p.o d ≤ 117649 * 7 := ⟨Int.mul_nonneg (by omega) (by omega), Int.mul_le_mul (by omega) ho.2 (by omega) (by omega)⟩
      have hmb : -9223372036854775808 ≤ (K : Int) * p.o d ∧ (K : Int) * p.o d ≤ 9223372036854775807 := ⟨by omega, by omega⟩
      have hco : ((K * (p.o d).toNat : Nat) : Int) = (K : Int) * p.o d := by rw [Int.natCast_mul, Int.toNat_of_nonneg (by omega)]
      refine go ?_
      rw [show p.ord.getD d 0 = p.o d from rfl]
      refine ra (h := rd_mul (by ((try simp only [ev_tmp, ev_const, ev_func, get_put, get_args, get_putL, get_putL_nil, Nat.reduceEqDiff, reduceIte, List.getD_cons_zero, List.getD_cons_succ, List.getD_nil]); first | done | with_reducible rfl)) (by ((try simp only [ev_tmp, ev_const, ev_func, get_put, get_args, get_putL, get_putL_nil, Nat.reduceEqDiff, reduceIte, List.getD_cons_zero, List.getD_cons_succ, List.getD_nil]); first | done | with_reducible rfl)) hmb) (next := ?_)
      rw [← hco]
      refine go ?_
      refine forQ_normal (by omega) ⟨_, _, v6, ?_, hE6, hf6.ints.wide, hI.step hdn h5⟩
      exact hasP
    · refine go ?_
      refine forQ_normal (by omega) ⟨K, y, vn, ?_, hE4, hy5, hI.skip (Decidable.not_not.1 h5)⟩
      exact hasP
  · have hb : b4 = true := by simpa using e4
    refine go ?_
    exact ret1 ⟨K, rfl, hI.done hd (hb4.1 hb), hE4⟩
end Go.Proofs.Ytjljbfcdpdckeaa

/-
  Maps from int64 to bool that hold true at some numbers: made, asked, written at a new number.
  Conditions: none; nothing of the program stands here.
-/
namespace Go.Pc
open Go Go.RowKit
class MapT (P : Program) (t : TypeId) (k e : outParam TypeId) : Prop where
  eq : P.underlying t = some (.map k e)
class IntT (P : Program) (t : TypeId) : Prop where
  ex : ∃ k, P.underlying t = some (.int k)
class BoolT (P : Program) (t : TypeId) : Prop where
  ex : ∃ i, P.info? t = some i ∧ i.zero = some (.bool false)
/-- The map in block b is true at the numbers ks, in the order in which they came. -/
structure MapB (w : World) (b : Nat) (ks : List Int) : Prop where
  ex : ∃ es c, w.heap[b]? = some (.map es c) ∧ es.toList.map (fun e => (e.key, e.val)) = ks.map fun k => (Value.int .i64 k, Value.bool true)
section
variable {w w' : World} {b b' : Nat} {ks : List Int}
theorem MapB.lt (h : MapB w b ks) : b < w.heap.size := by
  obtain ⟨es, c, h1, _⟩ := h.ex
  exact (Array.getElem?_eq_some_iff.1 h1).1
theorem MapB.ext (h : MapB w b ks) (x : Ext w w') : MapB w' b ks := by
  obtain ⟨es, c, h1, h2⟩ := h.ex
  exact ⟨es, c, by rw [x.below.block b h.lt]; exact h1, h2⟩
theorem MapB.chg (h : MapB w b ks) (c : Chg b' w w') (hn : b ≠ b') : MapB w' b ks := by
  obtain ⟨es, k, h1, h2⟩ := h.ex
  exact ⟨es, k, by rw [c.by_.block b h.lt (by simpa using hn)]; exact h1, h2⟩
theorem MapB.wr {B : Nat → Prop} (h : MapB w b ks) (k : Wrt B w w') (hb : ¬ B b) : MapB w' b ks := by
  obtain ⟨es, c, h1, h2⟩ := h.ex
  exact ⟨es, c, by rw [k.block h.lt hb]; exact h1, h2⟩
end
section
variable {P : Program} {N : Nat} {ops : Array Oper} {K : Env → World → Prop} {l : List Oper} {ρ : Env} {w w1 : World} {d : Nat} {ty : TypeId} {pos : String} {after : Array Edge} {g : Option (Nat × Bool)} {b : Nat} {ks : List Int}
end
end Go.Pc

/-
  Maps from int64 to int64 that count: made, read, written; their keys.
  Conditions: none; nothing of the program stands here.
-/
namespace Go.Pc
open Go Go.RowKit Go.Maps
class IntK (P : Program) (t : TypeId) : Prop where
  eq : P.underlying t = some (.int .i64)
/-- The map in block b counts f. -/
structure CntM (P : Program) (kt et : TypeId) (w : World) (b n : Nat) (f : Int → Nat) : Prop where
  ex : ∃ D : DataW Unit, w.ownsMap P kt (plainElem P et) b n D ∧ IsMap D ∧ (∀ a, D.atKey (.int .i64 a) (.lit (.int .i64 0)) = .lit (.int .i64 ((f a : Nat) : Int))) ∧ ∀ a, has D (.int .i64 a) = true ↔ 0 < f a
theorem wf64 {a : Int} (h : -9223372036854775808 ≤ a ∧ a ≤ 9223372036854775807) : (Lit.int .i64 a).wf = true := by
  have h1 : IntKind.i64.min = -9223372036854775808 := by decide
  have h2 : IntKind.i64.max = 9223372036854775807 := by decide
  simp only [Lit.wf, h1, h2, Bool.and_eq_true, decide_eq_true_eq]
  exact h
section
variable {P : Program} {kt et : TypeId} {w w' : World} {b n : Nat} {f : Int → Nat}
theorem cntM_made (w : World) : CntM P kt et (w.alloc (.map #[] 0)) w.heap.size 0 (fun _ => 0) := by
  refine ⟨.map [], World.ownsMap_made w P kt _, isMap_empty, fun a => rfl, fun a => ?_⟩
  simp [has]
theorem CntM.lt (h : CntM P kt et w b n f) : b < w.heap.size := by
  obtain ⟨D, h1, _⟩ := h.ex
  exact h1.lt
theorem CntM.ext (h : CntM P kt et w b n f) (x : Ext w w') : CntM P kt et w' b n f := by
  have hb := h.lt
  obtain ⟨D, ⟨es, clock, h1, h2, h3, h4⟩, h5⟩ := h.ex
  exact ⟨D, ⟨es, clock, (x.below.block b hb).trans h1, h2, h3, h4⟩, h5⟩
theorem CntM.mono (h : CntM P kt et w b n f) {m : Nat} (hm : n ≤ m) : CntM P kt et w b m f := by
  obtain ⟨D, h1, h5⟩ := h.ex
  exact ⟨D, h1.mono hm, h5⟩
theorem CntM.congr {g : Int → Nat} (h : CntM P kt et w b n f) (e : ∀ a, f a = g a) : CntM P kt et w b n g := by
  have : f = g := funext e
  rw [← this]; exact h
end
section
variable {P : Program} {N : Nat} {ops : Array Oper} {K : Env → World → Prop} {l : List Oper} {ρ : Env} {w w1 : World} {d : Nat} {ty : TypeId} {pos : String} {after : Array Edge} {g : Option (Nat × Bool)} {b n : Nat} {f : Int → Nat}
theorem st_makeCnt {t kt et : TypeId} [MapT P t kt et] (hg : Wants ops ρ g) (next : ∀ w' b, Ext w w' → b = w.heap.size → w'.heap.size = b + 1 → CntM P kt et w' b 0 (fun _ => 0) → rops P N ops K l (put ρ d (.map (some b))) w') :
    rops P N ops K (⟨some d, .makeMap t none, ty, pos, after, g⟩ :: l) ρ w := by
  refine st_ex (v := .map (some w.heap.size)) (w' := w.alloc (.map #[] 0)) hg ⟨fun _ _ _ _ => ?_⟩ (next _ _ (Ext.alloc _ _) rfl (by simp) (cntM_made w))
  simp [execOp, Instr.makeMap]
theorem rd_lookupC {t kt et : TypeId} {m x : Operand} {a : Int} {bytes : Nat} [ht : MapT P t kt et] [hk : IntK P kt] [he : IntK P et] [hz : ElT P et 1 bytes (.int .i64 0)] (hm : ev ρ m = .map (some b)) (hx : ev ρ x = .int .i64 a) (hb : CntM P kt et w b n f) (ha : -9223372036854775808 ≤ a ∧ a ≤ 9223372036854775807) : Rd P (.lookup t m x false) ty ρ w (.int .i64 ((f a : Nat) : Int)) := by
  obtain ⟨D, h1, _, h2, _⟩ := hb.ex
  obtain ⟨i, hi, _, _, hz'⟩ := hz.ex
  obtain ⟨c, hrun, hc, _⟩ := h1.lookup_int (int_keyed hk.eq) ht.eq he.eq (by simp [zeroValue, typeInfo, hi, hz']) (keyOf_int_mk hk.eq (wf64 ha))
  rw [h2 a] at hc
  injection hc with hc
  injection hc with _ hc
  constructor; intro _ _ _ _
  simp [execOp, hm, hx, hrun, hc]
theorem st_count {t kt et : TypeId} {m x y : Operand} {a c : Int} [ht : MapT P t kt et] [hk : IntK P kt] [he : IntK P et] (hm : ev ρ m = .map (some b)) (hx : ev ρ x = .int .i64 a) (hy : ev ρ y = .int .i64 c) (hb : CntM P kt et w b n f) (ha : -9223372036854775808 ≤ a ∧ a ≤ 9223372036854775807) (hc : c = ((f a + 1 : Nat) : Int)) (hc2 : c ≤ 9223372036854775807) (hn : n < maxLen) (hg : Wants ops ρ g)
    (next : ∀ w', Chg b w w' → CntM P kt et w' b (n + 1) (fun z => if z = a then f a + 1 else f z) → rops P N ops K l ρ w') : rops P N ops K (⟨none, .mapUpdate t m x y, ty, pos, after, g⟩ :: l) ρ w := by
  obtain ⟨D, h1, hi, h2, h3⟩ := hb.ex
  obtain ⟨w', hrun, h4, h5⟩ := h1.update (int_keyed hk.eq) ht.eq hn (keyOf_int_mk hk.eq (wf64 ha)) (plainElem_int he.eq (a := c) (wf64 ⟨by omega, hc2⟩))
  refine st_wr hg ⟨fun _ _ _ _ => by simp [execOp, hm, hx, hy, hrun]⟩ (next w' ⟨h5⟩ ⟨_, h4, hi.put _ _, fun z => ?_, fun z => ?_⟩)
  · by_cases e : z = a
    · subst e
      rw [if_pos rfl, atKey_put_same hi (by trivial), hc]
    · rw [if_neg e, atKey_put_other (fun k => e (by injection k))]
      exact h2 z
  · by_cases e : z = a
    · subst e
      rw [if_pos rfl, has_put_same hi (by trivial)]
      simp
    · rw [if_neg e, has_put_other (fun k => e (by injection k))]
      exact h3 z
end
end Go.Pc

/-
  The kit's contracts of maps.Keys, slices.Sorted, slices.Sort laid in this program (printed by mkshl2.py; the numbers are those of the seat Ytjljbfcdpdckeaa).
  Conditions: none.
-/
namespace Go.Proofs.Ytjljbfcdpdckeaa
open Go Go.Shelf
def keysC_ren : Go.Shelf.Ren := ⟨fun | 7 => 148 | 10 => 167 | n => n, fun | 23 => 149 | 26 => 2 | 3 => 2 | 28 => 152 | 0 => 0 | 27 => 151 | 33 => 100 | 4 => 4 | n => n, fun | n => n⟩
theorem keysC : SlLaysZI.n7 Try.prog keysC_ren := {
  mixed := by kernel_rfl
  f7 := ⟨Try.f148.name, by decide, Try.func148.trans (congrArg some (by kernel_rfl))⟩
  f10 := ⟨Try.f167.name, by decide, Try.func167.trans (congrArg some (by kernel_rfl))⟩
  t0 := Try.underlying0
  a0 := Try.isAgg0
  z0 := Try.sizeOf0
  v0 := Try.zeroValue0
  t4 := Try.underlying4
  a4 := Try.isAgg4
  z4 := Try.sizeOf4
  v4 := Try.zeroValue4
  t23 := Try.underlying149
  a23 := Try.isAgg149
  z23 := Try.sizeOf149
  v23 := Try.zeroValue149
  t26 := Try.underlying2
  a26 := Try.isAgg2
  z26 := Try.sizeOf2
  v26 := Try.zeroValue2
  t27 := Try.underlying151
  a27 := Try.isAgg151
  z27 := Try.sizeOf151
  v27 := Try.zeroValue151
  t28 := Try.underlying152
  a28 := Try.isAgg152
  z28 := Try.sizeOf152
  v28 := Try.zeroValue152
  t33 := Try.underlying100
  a33 := Try.isAgg100
  z33 := Try.sizeOf100
  v33 := Try.zeroValue100 }
def sortedC_ren : Go.Shelf.Ren := ⟨fun | 6 => 147 | 8 => 165 | 9 => 166 | 11 => 177 | 13 => 173 | 12 => 178 | 23 => 193 | 24 => 194 | 14 => 195 | 15 => 196 | 16 => 197 | 17 => 198 | 18 => 199 | 19 => 200 | 20 => 201 | 21 => 202 | 22 => 203 | 25 => 214 | 26 => 210 | 27 => 211 | 28 => 215 | 29 => 216 | 30 => 174 | 31 => 223 | n => n, fun | 26 => 2 | 28 => 152 | 24 => 22 | 0 => 0 | 3 => 3 | 37 => 146 | 48 => 187 | 50 => 57 | 4 => 4 | 40 => 181 | 39 => 180 | 45 => 124 | 5 => 5 | 9 => 9 | 51 => 201 | 55 => 205 | 57 => 215 | 58 => 216 | 33 => 100 | n => n, fun | n => n⟩
theorem sortedC : SlLaysZI.n6 Try.prog sortedC_ren := {
  mixed := by kernel_rfl
  f6 := ⟨Try.f147.name, by decide, Try.func147.trans (congrArg some (by kernel_rfl))⟩
  f8 := ⟨Try.f165.name, by decide, Try.func165.trans (congrArg some (by kernel_rfl))⟩
  f11 := ⟨Try.f177.name, by decide, Try.func177.trans (congrArg some (by kernel_rfl))⟩
  t0 := Try.underlying0
  a0 := Try.isAgg0
  z0 := Try.sizeOf0
  v0 := Try.zeroValue0
  t24 := Try.underlying22
  a24 := Try.isAgg22
  z24 := Try.sizeOf22
  v24 := Try.zeroValue22
  t26 := Try.underlying2
  a26 := Try.isAgg2
  z26 := Try.sizeOf2
  v26 := Try.zeroValue2
  t28 := Try.underlying152
  a28 := Try.isAgg152
  z28 := Try.sizeOf152
  v28 := Try.zeroValue152
  i26 := by kernel_rfl }
def sortC_ren : Go.Shelf.Ren := ⟨fun | 5 => 166 | 8 => 173 | 7 => 178 | 19 => 193 | 20 => 194 | 10 => 195 | 11 => 196 | 12 => 197 | 13 => 198 | 14 => 199 | 15 => 200 | 16 => 201 | 17 => 202 | 18 => 203 | 30 => 214 | 31 => 210 | 32 => 211 | 33 => 215 | 34 => 216 | 35 => 174 | 40 => 223 | n => n, fun | 23 => 22 | 25 => 2 | 3 => 3 | 32 => 146 | 22 => 22 | 0 => 0 | 44 => 187 | 46 => 57 | 4 => 4 | 36 => 181 | 35 => 180 | 41 => 124 | 5 => 5 | 9 => 9 | 53 => 201 | 57 => 205 | 63 => 215 | 64 => 216 | n => n, fun | n => n⟩
theorem sortC : SlLaysM.n5 Try.prog sortC_ren := {
  mixed := by kernel_rfl
  f5 := ⟨Try.f166.name, by decide, Try.func166.trans (congrArg some (by kernel_rfl))⟩
  f7 := ⟨Try.f178.name, by decide, Try.func178.trans (congrArg some (by kernel_rfl))⟩
  f8 := Try.func173.trans (congrArg some (by kernel_rfl))
  f10 := ⟨Try.f195.name, by decide, Try.func195.trans (congrArg some (by kernel_rfl))⟩
  f11 := ⟨Try.f196.name, by decide, Try.func196.trans (congrArg some (by kernel_rfl))⟩
  f12 := ⟨Try.f197.name, by decide, Try.func197.trans (congrArg some (by kernel_rfl))⟩
  f13 := ⟨Try.f198.name, by decide, Try.func198.trans (congrArg some (by kernel_rfl))⟩
  f14 := ⟨Try.f199.name, by decide, Try.func199.trans (congrArg some (by kernel_rfl))⟩
  f15 := ⟨Try.f200.name, by decide, Try.func200.trans (congrArg some (by kernel_rfl))⟩
  f16 := ⟨Try.f201.name, by decide, Try.func201.trans (congrArg some (by kernel_rfl))⟩
  f17 := ⟨Try.f202.name, by decide, Try.func202.trans (congrArg some (by kernel_rfl))⟩
  f18 := ⟨Try.f203.name, by decide, Try.func203.trans (congrArg some (by kernel_rfl))⟩
  f19 := Try.func193.trans (congrArg some (by kernel_rfl))
  f20 := Try.func194.trans (congrArg some (by kernel_rfl))
  f30 := ⟨Try.f214.name, by decide, Try.func214.trans (congrArg some (by kernel_rfl))⟩
  f31 := Try.func210.trans (congrArg some (by kernel_rfl))
  f32 := Try.func211.trans (congrArg some (by kernel_rfl))
  f33 := ⟨Try.f215.name, by decide, Try.func215.trans (congrArg some (by kernel_rfl))⟩
  f34 := ⟨Try.f216.name, by decide, Try.func216.trans (congrArg some (by kernel_rfl))⟩
  f35 := ⟨Try.f174.name, by decide, Try.func174.trans (congrArg some (by kernel_rfl))⟩
  f40 := ⟨Try.f223.name, by decide, Try.func223.trans (congrArg some (by kernel_rfl))⟩
  t0 := Try.underlying0
  a0 := Try.isAgg0
  z0 := Try.sizeOf0
  v0 := Try.zeroValue0
  t3 := Try.underlying3
  a3 := Try.isAgg3
  z3 := Try.sizeOf3
  v3 := Try.zeroValue3
  t4 := Try.underlying4
  a4 := Try.isAgg4
  z4 := Try.sizeOf4
  v4 := Try.zeroValue4
  t5 := Try.underlying5
  a5 := Try.isAgg5
  z5 := Try.sizeOf5
  v5 := Try.zeroValue5
  t9 := Try.underlying9
  a9 := Try.isAgg9
  z9 := Try.sizeOf9
  v9 := Try.zeroValue9
  t22 := Try.underlying22
  a22 := Try.isAgg22
  z22 := Try.sizeOf22
  v22 := Try.zeroValue22
  t23 := Try.underlying22
  a23 := Try.isAgg22
  z23 := Try.sizeOf22
  v23 := Try.zeroValue22
  t25 := Try.underlying2
  a25 := Try.isAgg2
  z25 := Try.sizeOf2
  v25 := Try.zeroValue2
  t32 := Try.underlying146
  a32 := Try.isAgg146
  z32 := Try.sizeOf146
  v32 := Try.zeroValue146
  t35 := Try.underlying180
  a35 := Try.isAgg180
  z35 := Try.sizeOf180
  v35 := Try.zeroValue180
  t36 := Try.underlying181
  a36 := Try.isAgg181
  z36 := Try.sizeOf181
  v36 := Try.zeroValue181
  t41 := Try.underlying124
  a41 := Try.isAgg124
  z41 := Try.sizeOf124
  v41 := Try.zeroValue124
  t44 := Try.underlying187
  a44 := Try.isAgg187
  z44 := Try.sizeOf187
  v44 := Try.zeroValue187
  t46 := Try.underlying57
  a46 := Try.isAgg57
  z46 := Try.sizeOf57
  v46 := Try.zeroValue57
  t53 := Try.underlying201
  a53 := Try.isAgg201
  z53 := Try.sizeOf201
  v53 := Try.zeroValue201
  t57 := Try.underlying205
  a57 := Try.isAgg205
  z57 := Try.sizeOf205
  v57 := Try.zeroValue205
  t63 := Try.underlying215
  a63 := Try.isAgg215
  z63 := Try.sizeOf215
  v63 := Try.zeroValue215
  t64 := Try.underlying216
  a64 := Try.isAgg216
  z64 := Try.sizeOf216
  v64 := Try.zeroValue216 }
end Go.Proofs.Ytjljbfcdpdckeaa

/-
  Walks: maps.Keys, slices.Sorted at maps that count; orderCounts; the program's OrderCounts.
  Conditions: stated at each theorem.
-/
namespace Go.Proofs.Ytjljbfcdpdckeaa
open Go Go.Pc Go.Sort
theorem fnT_enter' {P : Program} {f : FuncId} [hf : FnT P f] (args : Array Value) (w : World) : (callFunc f args).run P w = .ok (.enter f args) w := by
  obtain ⟨fn, c, h1, h2, h3⟩ := hf.ex
  simp [callFunc, h1, h2, h3]
instance : MapT Try.prog 149 2 2 := ⟨Try.underlying149⟩
instance : IntK Try.prog 2 := ⟨Try.underlying2⟩
theorem ret_of {P : Program} {f : FuncId} {args : Array Value} {w : World} {R : Value → World → Prop} (h : Calls P f args w fun e w' => ∃ v, e = .returned v ∧ R v w') : Calls P f args w (Ret R) :=
  h.mono fun e w' ⟨v, he, hr⟩ => by rw [he]; exact hr
theorem keysFn_ok {w : World} {mb : Option Nat} :
    Calls Try.prog 148 #[.map mb] w (Ret fun v w' => v = .func (.func 167) #[] #[.pointer (some ⟨w.heap.size, 0, none⟩)] ∧ w' = w.alloc (.cells #[.map mb] 149)) := by
  refine ret_of ((callsIn_wide (n := 5)).1 ((AnyZI.keys_in keysC Fence.wide 5 trivial rfl mb w).mono ?_))
  rintro e w' ⟨rfl, rfl⟩
  exact ⟨_, rfl, rfl, rfl⟩
theorem sortsC (m : Nat) : AnyZI.SortsIn Try.prog sortedC_ren Fence.wide m :=
  ⟨fun blk off cap ss W hH hblk hsz => callsIn_wide.2 (AnyM.slices_Sort_int sortC blk off cap ss W hH hblk hsz),
   fun p cap W => callsIn_wide.2 (AnyM.slices_Sort_int_none sortC p cap W)⟩
theorem sortedKeys_ok {w : World} {b bm n : Nat} {f : Int → Nat} {ks : List Int} (hm : w.cell? ⟨bm, 0, none⟩ = some (.map (some b))) (hbm : bm < w.heap.size) (h : CntM Try.prog 2 2 w b n f) (hn : n ≤ 1000) (hs : ks.Pairwise fun a b => a < b) (hk : ∀ a, a ∈ ks ↔ 0 < f a) :
    Calls Try.prog 147 #[.func (.func 167) #[] #[.pointer (some ⟨bm, 0, none⟩)]] w (Ret fun v w' => Ext w w' ∧ Fr w.heap.size w' v ks) := by
  obtain ⟨D, hown, hi, _, hhas⟩ := h.ex
  have hsz := hown.size_le
  have hseq : SeqGives Fence.wide 2 Try.prog 167 #[.pointer (some ⟨bm, 0, none⟩)] encZ (fun ss => ss.Perm (intKeys D)) (Maps.size D) w :=
    AnyZI.keys_gives (ρ := keysC_ren) { keysC with } Fence.wide _ trivial rfl (by omega) bm b n D w hbm hm hown
  have cS := AnyZI.sorted_in sortedC Fence.wide 5 trivial trivial trivial trivial rfl (by omega) (sortsC _) (fnT_enter' (f := 166)) 167 #[.pointer (some ⟨bm, 0, none⟩)] trivial (fnT_enter' (f := 167)) _ _ (by simp only [maxLen]; omega) (by omega) _ hseq
  have hnd : ks.Nodup := hs.imp fun {a b} h => by omega
  have hpk : ks.Perm (intKeys D) := CollectedI.perm (left := fun _ => false) ⟨hnd, fun x => by rw [hk x, hhas x]; simp⟩ hown (Maps.int_keyed Try.underlying2) Try.underlying2 (fun _ => rfl)
  refine ret_of ((callsIn_wide (n := 5)).1 (cS.mono ?_))
  rintro e w' ⟨v, ss, rfl, hS, hrow, _, hb⟩
  have e1 : ss.mergeSort (fun x y => decide (x ≤ y)) = ks := by
    rw [mergeSort_of_perm_i (hS.trans hpk.symm)]
    refine List.mergeSort_of_pairwise (hs.imp fun {a b} h => ?_)
    simp only [leI, decide_eq_true_eq]; omega
  rw [e1] at hrow
  refine ⟨v, rfl, ⟨hb⟩, ?_⟩
  have hl : ss.length = (ks.map (Value.int .i64)).length := by
    rw [List.length_map, ← e1, List.length_mergeSort]
  rw [hl] at hrow
  exact OwnN.toFr (e := 2) ⟨hrow⟩
set_option maxHeartbeats 4000000 in
theorem orderCounts_ok {p : Pr} [hc : ConAll p] (hN : ordN p ≤ 128) {w : World} {vp : Value} {lo hi : Nat} [hp : PresP lo hi w vp p] :
    Calls Try.prog 103 #[vp] w (Ret fun v w' => ∃ (u0 u1 : Value) (mid : Nat), v = .tuple #[u0, u1] ∧ Ext w w' ∧ w.heap.size ≤ mid ∧ mid ≤ w'.heap.size ∧ VecO w.heap.size mid w' u0 (ocK p (ordN p)) ∧ VecO mid w'.heap.size w' u1 (ocC p (ordN p))) := by
  obtain ⟨hoe, ho1, ho2⟩ := ordN_rng p
  have hmx : 1000000 ≤ maxLen := by simp only [maxLen]; omega
  replace hp := hp.wide
  refine enter (args := [vp]) (l := [.tmp 2, .tmp 3]) Try.func103 rfl rfl Try.ntmps103 (by simp) ?_
  refine go ?_
  refine st_makeCnt (kt := 2) (et := 2) (by first | exact True.intro | exact ⟨_, rfl, by ((try simp only [ev_tmp, ev_const, ev_func, get_put, get_args, get_putL, get_putL_nil, Nat.reduceEqDiff, reduceIte, List.getD_cons_zero, List.getD_cons_succ, List.getD_nil, Bool.not_true, Bool.not_false]); first | done | with_reducible rfl)⟩) fun w1 bm he1 hbm hs1 hM1 => ?_
  have hz1 := he1.size
  refine go ?_
  refine rc (allElements_ok (p := p)) (next := fun v2 w2 h2 => ?_)
  obtain ⟨he2, rs2, hrs2, hO2⟩ := h2
  have hR2 := hO2.rows
  rw [← hrs2] at hR2
  have hE2 := he1.trans he2
  have hz2 := he2.size
  have hvl : (vecs ((List.range (ordN p)).map (allE p))).length = ordN p := by simp
  refine go ?_
  refine r_for (ordN p) (fun t ρ w' => Has ρ [(0, vp), (4, .map (some bm)), (13, v2), (14, .int .i64 (ordN p)), (15, .int .i64 t)] ∧ Ext w w' ∧ CntM Try.prog 2 2 w' bm t (nPer p t) ∧ Pc.Rows w1.heap.size w2.heap.size w' v2 (rs2.map (·.1)) (vecs ((List.range (ordN p)).map (allE p)))) ?_ ?_
  · refine ⟨?_, hE2, (hM1.ext he2).congr fun a => (nPer_zero a).symm, hR2⟩
    exact hasP
  clear hM1 hR2
  rintro t ρ w3 ht ⟨hH, hE3, hM3, hR3⟩
  refine rwp_has hH fun ρ0 => ?_
  have hz3 := hE3.size
  refine go ?_
  refine c_if (fun h4 => ?_) (fun h4 => ?_)
  · have htn : t < ordN p := by omega
    have hxk : (vecs ((List.range (ordN p)).map (allE p))).getD t [] = (allE p t).v := by
      rw [vecs_getD _ (by simpa using htn)]; simp
    refine go ?_
    refine rc (orderOfElement_ok (p := p) (x := allE p t) hxk) (next := fun v5 w5 h5 => ?_)
    obtain ⟨K, rfl, hK, he5⟩ := h5
    have hKe : K = perE (allE p t) := (perE_eq hK).symm
    have hKr : 1 ≤ K ∧ K ≤ ordN p := by rw [hKe]; exact ⟨perE_pos _, perE_le _⟩
    have hM5 := hM3.ext he5
    have hnl := nPer_le (p := p) t ((K : Nat) : Int)
    refine go ?_
    refine ra (h := rd_lookupC (by ((try simp only [ev_tmp, ev_const, ev_func, get_put, get_args, get_putL, get_putL_nil, Nat.reduceEqDiff, reduceIte, List.getD_cons_zero, List.getD_cons_succ, List.getD_nil]); first | done | with_reducible rfl)) (by ((try simp only [ev_tmp, ev_const, ev_func, get_put, get_args, get_putL, get_putL_nil, Nat.reduceEqDiff, reduceIte, List.getD_cons_zero, List.getD_cons_succ, List.getD_nil]); first | done | with_reducible rfl)) hM5 ⟨by omega, by omega⟩) (next := ?_)
    refine go ?_
    refine st_count (a := (K : Int)) (by ((try simp only [ev_tmp, ev_const, ev_func, get_put, get_args, get_putL, get_putL_nil, Nat.reduceEqDiff, reduceIte, List.getD_cons_zero, List.getD_cons_succ, List.getD_nil]); first | done | with_reducible rfl)) (by ((try simp only [ev_tmp, ev_const, ev_func, get_put, get_args, get_putL, get_putL_nil, Nat.reduceEqDiff, reduceIte, List.getD_cons_zero, List.getD_cons_succ, List.getD_nil]); first | done | with_reducible rfl)) (by ((try simp only [ev_tmp, ev_const, ev_func, get_put, get_args, get_putL, get_putL_nil, Nat.reduceEqDiff, reduceIte, List.getD_cons_zero, List.getD_cons_succ, List.getD_nil]); first | done | with_reducible rfl)) hM5 ⟨by omega, by omega⟩ (by push_cast; rfl) (by omega) (by omega) (by first | exact True.intro | exact ⟨_, rfl, by ((try simp only [ev_tmp, ev_const, ev_func, get_put, get_args, get_putL, get_putL_nil, Nat.reduceEqDiff, reduceIte, List.getD_cons_zero, List.getD_cons_succ, List.getD_nil, Bool.not_true, Bool.not_false]); first | done | with_reducible rfl)⟩) fun w6 hc6 hM6 => ?_
    have hlt := hM3.lt
    refine go ?_
    refine forQ_normal (by omega) ⟨?_, hc6.ext (hE3.trans he5) (by omega), hM6.congr fun a => ?_, (hR3.same (he5.same _ _)).same (hc6.same (.inl (by omega)))⟩
    · exact hasP
    · by_cases e : a = (K : Int)
      · rw [if_pos e, nPer_yes (by rw [← hKe]; exact e.symm), e]
      · rw [if_neg e, nPer_no (by rw [← hKe]; exact fun h => e h.symm)]
  obtain rfl : t = ordN p := by omega
  refine go ?_
  refine rc keysFn_ok (next := fun v5 w5 h5 => ?_)
  obtain ⟨rfl, rfl⟩ := h5
  have hx5 : Ext w3 (w3.alloc (.cells #[.map (some bm)] 149)) := Ext.alloc _ _
  have hM5 := hM3.ext hx5
  refine rc (sortedKeys_ok (bm := w3.heap.size) (b := bm) ?_ (by simp) hM5 (by omega) (ocK_sorted _) (fun a => ocK_mem)) (next := fun v6 w6 h6 => ?_)
  · rw [cell_of_row _ _ _ #[.map (some bm)] 149 (0, 0) (heap_alloc_new w3 _)]
    simp
  obtain ⟨he6, hf6⟩ := h6
  have hx6 := hx5.trans he6
  have hE6 := hE3.trans hx6
  have hM6 := hM5.ext he6
  have hz6 := hE6.size
  have hzx := hx5.size
  have hi6 := hf6.ints
  have hol := ocK_len (p := p) (ordN p)
  have hV6 := VecO.ofFr (hf6.mono (show w.heap.size ≤ _ by omega))
  refine go ?_
  refine r_for (ocK p (ordN p)).length (fun k ρ w' => ∃ vl, Has ρ [(4, .map (some bm)), (7, v6), (8, vl), (29, v6), (30, .int .i64 (ocK p (ordN p)).length), (31, .int .i64 k)] ∧ Ext w6 w' ∧ GrowI 2 w6.heap.size w' vl (((ocK p (ordN p)).take k).map fun a => ((nPer p (ordN p) a : Nat) : Int))) ?_ ?_
  · refine ⟨nilv, ?_, Ext.refl _, GrowI.nil _ _ _⟩
    exact hasP
  rintro k ρ w7 hk ⟨vl, hH7, he7, hG7⟩
  refine rwp_has hH7 fun ρ1 => ?_
  have hz7 := he7.size
  refine go ?_
  refine c_if (fun h8 => ?_) (fun h8 => ?_)
  · have hkn : k < (ocK p (ordN p)).length := by omega
    have hge : (ocK p (ordN p)).getD k 0 = (ocK p (ordN p))[k] := by simp [hkn]
    obtain ⟨q, hq, hq1, hq2⟩ := nPer_pos (ocK_mem.1 (List.getElem_mem hkn))
    refine go ?_
    rw [hge]
    refine go ?_
    refine ra (h := rd_lookupC (by ((try simp only [ev_tmp, ev_const, ev_func, get_put, get_args, get_putL, get_putL_nil, Nat.reduceEqDiff, reduceIte, List.getD_cons_zero, List.getD_cons_succ, List.getD_nil]); first | done | with_reducible rfl)) (by ((try simp only [ev_tmp, ev_const, ev_func, get_put, get_args, get_putL, get_putL_nil, Nat.reduceEqDiff, reduceIte, List.getD_cons_zero, List.getD_cons_succ, List.getD_nil]); first | done | with_reducible rfl)) (hM6.ext he7) ⟨by omega, by omega⟩) (next := ?_)
    refine st_growi hG7 hz7 (by simp; omega) (next := fun v9 v10 w10 hG10 hx10 hz10 hgs10 => ?_)
    refine go ?_
    refine forQ_normal (by omega) ⟨v10, ?_, hx10 w6 he7 (Nat.le_refl _), by rw [List.take_succ_eq_append_getElem hkn, List.map_append]; exact hG10⟩
    exact hasP
  · obtain rfl : k = (ocK p (ordN p)).length := by omega
    rw [List.take_length] at hG7
    refine go ?_
    exact ret2 ⟨v6, vl, w6.heap.size, rfl, hE6.trans he7, hz6, hz7, hV6.wr (.ofExt (B := fun b => b < w.heap.size ∨ w6.heap.size ≤ b) he7) (fun b hb => hb), VecO.ofFr hG7.fr⟩
theorem vecO_marked {s t : Nat} {w w' : World} {v : Value} {xs ys : List Int} (h : VecO s t w v xs) (hO : Fr s w' v ys) (hn : ys ≠ [] → xs ≠ []) : VecO s t w' v ys := by
  refine ⟨?_, hO, fun hn' b e => h.lt (hn hn') b e⟩
  by_cases e : ys = []
  · subst e
    obtain ⟨A, c, hv, hc, hm, _⟩ := hO.ints.sl.ex
    exact ⟨⟨A, c, hv, hc, hm, fun k u hu => by simp at hu⟩⟩
  · obtain ⟨te, b, hb, ho⟩ := hO.own e
    have hlt := h.lt (hn e) b ho.block
    have h1 : Ints b (b + 1) w' v ys := ⟨ho.own.toSl⟩
    exact h1.mono hb (by omega)
theorem VecO.nilR (s t : Nat) (w : World) : VecO s t w nilv [] := ⟨Ints.nilR _ _ _, Fr.nilR _ _, fun hn => absurd rfl hn⟩
set_option maxHeartbeats 1000000 in
theorem impl_OrderCounts_ok {p : Pr} {w : World} {vp : Value} {lo hi : Nat} [hp : Pres lo hi w vp p] (hl : p.ord.length ≤ 2000000) :
    Calls Try.prog 41 #[vp] w (Ret fun v w' => ∃ (u0 u1 : Value) (r0 r1 : List Int) (e : Int), v = .tuple #[u0, u1, .int .i64 e] ∧ OcA p r0 r1 e ∧ Ext w w' ∧ ∃ mid, w.heap.size ≤ mid ∧ mid ≤ w'.heap.size ∧ VecO w.heap.size mid w' u0 r0 ∧ VecO mid w'.heap.size w' u1 r1) := by
  obtain ⟨vo, vpw, vc, ps, cs, css, rfl, h1, h2, h3⟩ := hp.ex
  have hnl : ∀ w', Ext w w' → ∃ mid, w.heap.size ≤ mid ∧ mid ≤ w'.heap.size ∧ VecO w.heap.size mid w' nilv [] ∧ VecO mid w'.heap.size w' nilv [] := fun w' x => ⟨w.heap.size, Nat.le_refl _, x.size, VecO.nilR _ _ _, VecO.nilR _ _ _⟩
  refine enter (args := [.agg #[vo, vpw, vc]]) (l := [.tmp 2, .tmp 3, .tmp 4]) Try.func41 rfl rfl Try.ntmps41 (by simp) ?_
  refine go ?_
  refine st_box3 (by ((try simp only [ev_tmp, ev_const, ev_func, get_put, get_args, get_putL, get_putL_nil, Nat.reduceEqDiff, reduceIte, List.getD_cons_zero, List.getD_cons_succ, List.getD_nil]); first | done | with_reducible rfl)) (by first | exact True.intro | exact ⟨_, rfl, by ((try simp only [ev_tmp, ev_const, ev_func, get_put, get_args, get_putL, get_putL_nil, Nat.reduceEqDiff, reduceIte, List.getD_cons_zero, List.getD_cons_succ, List.getD_nil, Bool.not_true, Bool.not_false]); first | done | with_reducible rfl)⟩) fun w1 b he1 hb1 hs1 hc0 hc1 hc2 => ?_
  have hpp := hp.boxed he1 hc0 hc1 hc2
  refine go ?_
  refine rc (impl_IsConsistent_ok (p := p) hl) (next := fun v5 w5 h5 => ?_)
  obtain ⟨b5, rfl, hb5, he5⟩ := h5
  have hE5 := he1.trans he5
  refine go ?_
  refine c_b (fun e5 => ?_) (fun e5 => ?_)
  · refine go ?_
    refine ret3 ⟨nilv, nilv, [], [], 1, rfl, .inr ⟨fun h => ?_, rfl, rfl, rfl⟩, hE5, hnl _ hE5⟩
    rw [hb5.2 h] at e5; cases e5
  have hG := hb5.1 (by simpa using e5)
  haveI hcon : ConAll p := ⟨hG.con⟩
  obtain ⟨hoe, ho1, ho2⟩ := ordN_rng p
  refine go ?_
  refine rc (orderOf_ok (p := p) hG.valid) (next := fun v6 w6 h6 => ?_)
  obtain ⟨rfl, he6⟩ := h6
  rw [hoe]
  have hE6 := hE5.trans he6
  refine go ?_
  refine c_if (fun h7 => ?_) (fun h7 => ?_)
  · refine go ?_
    exact ret3 ⟨nilv, nilv, [], [], 3, rfl, .inl ⟨hG, hcon, .inl ⟨by omega, rfl, rfl, rfl⟩⟩, hE6, hnl _ hE6⟩
  refine go ?_
  refine rc (orderCounts_ok (p := p) (by omega)) (next := fun v8 w8 h8 => ?_)
  obtain ⟨u0, u1, mid, rfl, he8, hm1, hm2, hV0, hV1⟩ := h8
  have hz6 := hE6.size
  refine go ?_
  exact ret3 ⟨u0, u1, _, _, 0, rfl, .inl ⟨hG, hcon, .inr ⟨by omega, rfl, rfl, rfl⟩⟩, hE6.trans he8, mid, by omega, hm2, ⟨hV0.ints.mono hz6 (Nat.le_refl _), hV0.fr.mono hz6, hV0.lt⟩, hV1⟩
end Go.Proofs.Ytjljbfcdpdckeaa

/-
  Arguments that read as slices of integers, slices of slices, slices of slices of slices: what the calculus knows of them.
  Conditions: none; nothing of the program stands here.
-/
namespace Go.Pc
open Go Go.RowKit Go.Deep Go.ChangeShapes Go.WideShapes
section
variable {H : Type} {enc : TypeId × Value → H} {P : Program} {w : World} {base : Nat} {held : Bool} {fuel : Nat} {v : Value} {x : DataW H × List MemPlace}
theorem ints_of_trod {t e : TypeId} (ht : P.underlying t = some (.slice e)) (he : P.underlying e = some (.int .i64)) (hc : P.cellsOf e = 1) (h : DataW.trod enc P w base (fun _ => true) held fuel t [v] = some x) : ∃ xs, Ints 0 w.heap.size w v xs := by
  rcases open_ints ht he hc h with ⟨hcs, _⟩ | ⟨a, len, cap, zs, hcs, _, hl, hm, hz, _, hcell, _⟩
  · have : v = nilv := by simpa using hcs
    subst this
    exact ⟨[], (Ints.nil_ w).mono (Nat.le_refl 0) (Nat.zero_le _)⟩
  · have : v = .slice (some a) len cap := by simpa using hcs
    subst this
    simp only [if_true] at hz
    have hlen : (zs.take len).length = len := by rw [List.length_take]; omega
    refine ⟨zs.take len, ⟨⟨some a, cap, by rw [List.length_map, hlen], by rw [List.length_map, hlen]; omega, by simp only [maxLen] at hm; omega, fun k u hu => ?_⟩⟩⟩
    rw [List.getElem?_map, List.getElem?_take] at hu
    split at hu
    · have hk : k < zs.length := by omega
      have hck := hcell k hk
      rw [List.getElem?_eq_getElem hk] at hu
      simp only [Option.map_some, Option.some.injEq] at hu
      have e : zs.getD k 0 = zs[k] := by simp [hk]
      rw [e, hu] at hck
      exact ⟨a, rfl, Nat.zero_le _, by have := block_lt hck; rwa [add_block] at this, hck⟩
    · cases hu
theorem sl_of {a : Addr} {len cap m : Nat} {V : Nat → Value} (hl : len ≤ cap) (hm : cap ≤ maxLen) (hlm : len ≤ m) (hx : ∀ i, i < m → w.cell? (a.add i) = some (V i)) : Sl 0 w.heap.size w (.slice (some a) len cap) ((List.range len).map V) := by
  refine ⟨⟨some a, cap, by simp, by simpa using hl, by simp only [maxLen] at hm; omega, fun k u hu => ?_⟩⟩
  rw [List.getElem?_map] at hu
  by_cases hk : k < len
  · rw [List.getElem?_range hk] at hu
    simp only [Option.map_some, Option.some.injEq] at hu
    have hck := hx k (by omega)
    rw [hu] at hck
    exact ⟨a, rfl, Nat.zero_le _, by have := block_lt hck; rwa [add_block] at this, hck⟩
  · rw [List.getElem?_eq_none (by simp; omega)] at hu; cases hu
theorem getD_map_range {α : Type} {n i : Nat} {f : Nat → α} {d : α} (h : i < n) : ((List.range n).map f).getD i d = f i := by simp [h]
theorem getD_map_range' {α : Type} {n i : Nat} {f : Nat → α} {d : α} (h : ¬ i < n) : ((List.range n).map f).getD i d = d := by
  rw [List.getD_eq_getElem?_getD, List.getElem?_eq_none (by simp; omega)]; rfl
theorem Rows.nil_ (w : World) : Rows 0 w.heap.size w nilv [] [] :=
  ⟨⟨⟨none, 0, rfl, Nat.le_refl _, by omega, fun k u hu => by simp at hu⟩⟩, rfl, fun i => by simpa using (Ints.nil_ w).mono (Nat.le_refl 0) (Nat.zero_le _)⟩
theorem rows_of_trod {t e q : TypeId} (ht : P.underlying t = some (.slice e)) (he : P.underlying e = some (.slice q)) (hq : P.underlying q = some (.int .i64)) (ce : P.cellsOf e = 1) (cq : P.cellsOf q = 1)
    (h : DataW.trod enc P w base (fun _ => true) held fuel t [v] = some x) : ∃ us xss, Rows 0 w.heap.size w v us xss := by
  rcases open_slice1 ht ce h with ⟨hcs, _⟩ | ⟨a, len, cap, m, n, V, D, Pl, hcs, _, hl, hm, hmm, _, hx⟩
  · have : v = nilv := by simpa using hcs
    subst this
    exact ⟨[], [], Rows.nil_ w⟩
  · have : v = .slice (some a) len cap := by simpa using hcs
    subst this
    simp only [if_true] at hmm
    have hlm : len ≤ m := by omega
    obtain ⟨X, hX⟩ := choose_lt (α := List Int) (n := len) (p := fun i xs => Ints 0 w.heap.size w (V i) xs) fun i hi => ints_of_trod he hq cq (hx i (by omega)).2
    refine ⟨(List.range len).map V, (List.range len).map X, sl_of hl hm hlm fun i hi => (hx i hi).1, by simp, fun i => ?_⟩
    by_cases hi : i < len
    · rw [getD_map_range hi, getD_map_range hi]; exact hX i hi
    · rw [getD_map_range' hi, getD_map_range' hi]; exact (Ints.nil_ w).mono (Nat.le_refl 0) (Nat.zero_le _)
theorem rowss_of_trod {t e q r : TypeId} (ht : P.underlying t = some (.slice e)) (he : P.underlying e = some (.slice q)) (hq : P.underlying q = some (.slice r)) (hr : P.underlying r = some (.int .i64)) (ce : P.cellsOf e = 1) (cq : P.cellsOf q = 1) (cr : P.cellsOf r = 1)
    (h : DataW.trod enc P w base (fun _ => true) held fuel t [v] = some x) : ∃ us uss xsss, Rowss 0 w.heap.size w v us uss xsss := by
  rcases open_slice1 ht ce h with ⟨hcs, _⟩ | ⟨a, len, cap, m, n, V, D, Pl, hcs, _, hl, hm, hmm, _, hx⟩
  · have : v = nilv := by simpa using hcs
    subst this
    exact ⟨[], [], [], ⟨⟨none, 0, rfl, Nat.le_refl _, by omega, fun k u hu => by simp at hu⟩⟩, rfl, rfl, fun i => by simpa using Rows.nil_ w⟩
  · have : v = .slice (some a) len cap := by simpa using hcs
    subst this
    simp only [if_true] at hmm
    have hlm : len ≤ m := by omega
    obtain ⟨X, hX⟩ := choose_lt (α := List Value × List (List Int)) (n := len) (p := fun i y => Rows 0 w.heap.size w (V i) y.1 y.2) fun i hi => by
      obtain ⟨us, xss, hR⟩ := rows_of_trod he hq hr cq cr (hx i (by omega)).2
      exact ⟨(us, xss), hR⟩
    refine ⟨(List.range len).map V, (List.range len).map fun i => (X i).1, (List.range len).map fun i => (X i).2, sl_of hl hm hlm fun i hi => (hx i hi).1, by simp, by simp, fun i => ?_⟩
    by_cases hi : i < len
    · rw [getD_map_range hi, getD_map_range hi, getD_map_range hi]; exact hX i hi
    · rw [getD_map_range' hi, getD_map_range' hi, getD_map_range' hi]; exact Rows.nil_ w
end
end Go.Pc
