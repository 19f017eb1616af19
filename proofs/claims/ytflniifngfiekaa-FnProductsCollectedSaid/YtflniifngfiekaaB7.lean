/-
  Texts of one proof, put together by program: Cow, W73, W74, I56, I57, Open, OpenB.
  Conditions: those told at each part.
-/
import Derived.Test.YtflniifngfiekaaB6
import Derived.Deep.Slices
import Derived.OpenShut
set_option linter.unusedVariables false
set_option linter.unusedSimpArgs false
set_option linter.unusedSectionVars false
set_option linter.constructorNameAsVariable false
set_option linter.unnecessarySimpa false
set_option linter.deprecated false
/-
  Plain mathematics: collection of positive words: reducible places, steps, what is collected; in a group a step keeps the value of a word.
  Conditions: stated at each theorem.
-/
namespace Go.Proofs.Ytflniifngfiekaa
open Go Go.Pc
/-- A positive word over n generators. -/
def LetP (n : Nat) (w : List Int) : Prop := ∀ l, l ∈ w → 1 ≤ l ∧ l ≤ n
theorem LetP.at {n : Nat} {w : List Int} (h : LetP n w) {t : Nat} (ht : t < w.length) : 1 ≤ w.getD t 0 ∧ w.getD t 0 ≤ n := by
  have := h _ (List.getElem_mem ht)
  simpa [ht] using this
theorem LetP.app {n : Nat} {u v : List Int} (h : LetP n u) (k : LetP n v) : LetP n (u ++ v) := fun l hl => (List.mem_append.1 hl).elim (h l) (k l)
theorem letP_word {n : Nat} {e : List Int} (he : e.length ≤ n) : LetP n (wordV e) := fun a ha => by
  have := wordA_mem e 0 a ha
  omega
/-- The letter's generator, its order. -/
def gi (w : List Int) (t : Nat) : Nat := (w.getD t 0).toNat - 1
def oW (p : Pr) (w : List Int) (t : Nat) : Nat := (p.o (gi w t)).toNat
def Dsc (w : List Int) (t : Nat) : Prop := t + 1 < w.length ∧ w.getD (t + 1) 0 < w.getD t 0
def Rn (p : Pr) (w : List Int) (t : Nat) : Prop := t + oW p w t ≤ w.length ∧ ∀ j, j < oW p w t → w.getD (t + j) 0 = w.getD t 0
def Red (p : Pr) (w : List Int) (t : Nat) : Prop := Dsc w t ∨ Rn p w t
open Classical in
noncomputable def stepW (p : Pr) (w : List Int) (t : Nat) : List Int :=
  if Dsc w t then w.take t ++ (w.getD (t + 1) 0 :: (wordV (p.c (gi w (t + 1)) (gi w t)) ++ w.drop (t + 2))) else w.take t ++ (wordV (p.w (gi w t)) ++ w.drop (t + oW p w t))
theorem stepW_d {p : Pr} {w : List Int} {t : Nat} (h : Dsc w t) : stepW p w t = w.take t ++ (w.getD (t + 1) 0 :: (wordV (p.c (gi w (t + 1)) (gi w t)) ++ w.drop (t + 2))) := if_pos h
theorem stepW_r {p : Pr} {w : List Int} {t : Nat} (h : ¬ Dsc w t) : stepW p w t = w.take t ++ (wordV (p.w (gi w t)) ++ w.drop (t + oW p w t)) := if_neg h
/-- Place t is the first one that is reducible. -/
def Fst (p : Pr) (w : List Int) (t : Nat) : Prop := t < w.length ∧ Red p w t ∧ ∀ s, s < t → ¬ Red p w s
def Nrm (p : Pr) (w : List Int) : Prop := ∀ t, t < w.length → ¬ Red p w t
theorem Fst.uniq {p : Pr} {w : List Int} {t s : Nat} (h : Fst p w t) (k : Fst p w s) : t = s := by
  rcases Nat.lt_trichotomy t s with e | e | e
  · exact absurd h.2.1 (k.2.2 t e)
  · exact e
  · exact absurd k.2.1 (h.2.2 s e)
/-- The exponents of a word. -/
def vecW (n : Nat) (w : List Int) : List Int := w.foldl (fun v l => v.set (l.toNat - 1) (v.getD (l.toNat - 1) 0 + 1)) (zeros n)
theorem vecW_take {n : Nat} {w : List Int} {k : Nat} (hk : k < w.length) : vecW n (w.take (k + 1)) = (vecW n (w.take k)).set ((w.getD k 0).toNat - 1) ((vecW n (w.take k)).getD ((w.getD k 0).toNat - 1) 0 + 1) := by
  have e1 : w.getD k 0 = w[k] := by simp [hk]
  rw [List.take_succ_eq_append_getElem hk, e1]
  unfold vecW
  rw [List.foldl_append]; rfl
/-- What is collected with at most a number of steps. -/
inductive ColO (p : Pr) : Nat → List Int → List Int → Int → Prop
  | done {f : Nat} {w : List Int} (h : Nrm p w) : ColO p f w (vecW p.n w) 0
  | out {w : List Int} {t : Nat} (h : Fst p w t) : ColO p 0 w [] 3
  | big {f : Nat} {w : List Int} {t : Nat} (h : Fst p w t) (hb : 256 < (stepW p w t).length) : ColO p (f + 1) w [] 3
  | next {f : Nat} {w : List Int} {t : Nat} {v : List Int} {e : Int} (h : Fst p w t) (hb : ¬ 256 < (stepW p w t).length) (k : ColO p f (stepW p w t) v e) : ColO p (f + 1) w v e
theorem ColO.uniq {p : Pr} {f : Nat} {w v v' : List Int} {e e' : Int} (h : ColO p f w v e) (h' : ColO p f w v' e') : v = v' ∧ e = e' := by
  induction h generalizing v' e' with
  | done h => cases h' with
    | done h' => exact ⟨rfl, rfl⟩
    | out k => exact absurd k.2.1 (h _ k.1)
    | big k _ => exact absurd k.2.1 (h _ k.1)
    | next k _ _ => exact absurd k.2.1 (h _ k.1)
  | out h => cases h' with
    | done h' => exact absurd h.2.1 (h' _ h.1)
    | out k => exact ⟨rfl, rfl⟩
  | big h hb => cases h' with
    | done h' => exact absurd h.2.1 (h' _ h.1)
    | big k _ => exact ⟨rfl, rfl⟩
    | next k kb _ => obtain rfl := h.uniq k; exact absurd hb kb
  | next h hb k ih => cases h' with
    | done h' => exact absurd h.2.1 (h' _ h.1)
    | big k kb => obtain rfl := h.uniq k; exact absurd kb hb
    | next k kb kk => obtain rfl := h.uniq k; exact ih kk
/-! ### bounds -/
theorem vecW_len (n : Nat) (w : List Int) : (vecW n w).length = n := by
  have key : ∀ (w v : List Int), (w.foldl (fun v l => v.set (l.toNat - 1) (v.getD (l.toNat - 1) 0 + 1)) v).length = v.length := by
    intro w
    induction w with
    | nil => intro v; rfl
    | cons a w ih => intro v; rw [List.foldl_cons, ih]; simp
  rw [vecW, key, zeros_len]
theorem vecW_getD {n : Nat} {w : List Int} (h : LetP n w) {i : Nat} (hi : i < n) : (vecW n w).getD i 0 = (w.count ((i : Int) + 1) : Nat) := by
  have key : ∀ (w v : List Int), LetP n w → v.length = n → (w.foldl (fun v l => v.set (l.toNat - 1) (v.getD (l.toNat - 1) 0 + 1)) v).getD i 0 = v.getD i 0 + (w.count ((i : Int) + 1) : Nat) := by
    intro w
    induction w with
    | nil => intro v _ _; simp
    | cons a w ih =>
      intro v hL hv
      have ha := hL a List.mem_cons_self
      rw [List.foldl_cons, ih _ (fun l hl => hL l (List.mem_cons_of_mem _ hl)) (by simp [hv]), List.count_cons]
      by_cases e : a = (i : Int) + 1
      · subst e
        rw [show ((i : Int) + 1).toNat - 1 = i by omega, Pc.getD_set_eq _ _ _ (by omega)]
        simp; omega
      · rw [Pc.getD_set_ne _ _ _ _ (by omega)]
        have : ¬ (a == (i : Int) + 1) = true := by simpa using e
        rw [if_neg this]; omega
  rw [vecW, key w _ h (zeros_len n), zeros_getD]; omega
theorem letP_step {p : Pr} (hv : Valid p) {w : List Int} (hL : LetP p.n w) {t : Nat} (h : Fst p w t) : LetP p.n (stepW p w t) ∧ (stepW p w t).length ≤ w.length + 36 := by
  obtain ⟨ht, hR, _⟩ := h
  have hn6 := hv.n6
  have l1 := hL.at ht
  have hT : LetP p.n (w.take t) := fun l hl => hL l (List.mem_of_mem_take hl)
  have hD : ∀ k, LetP p.n (w.drop k) := fun k l hl => hL l (List.mem_of_mem_drop hl)
  by_cases hd : Dsc w t
  · have l2 := hL.at hd.1
    have hg : gi w (t + 1) < gi w t ∧ gi w t < p.n := by unfold gi; have := hd.2; omega
    have hw := invec_word hv (hv.c_in _ _ hg.1 hg.2)
    rw [stepW_d hd]
    refine ⟨hT.app fun l hl => ?_, ?_⟩
    · rcases List.mem_cons.1 hl with rfl | hl
      · exact l2
      · exact ((letP_word (by omega)).app (hD _)) l hl
    · simp only [List.length_append, List.length_cons, List.length_take, List.length_drop]
      have := hd.1
      omega
  · have hg : gi w t < p.n := by unfold gi; omega
    have hw := invec_word hv (hv.w_in _ hg)
    rw [stepW_r hd]
    refine ⟨hT.app ((letP_word (by omega)).app (hD _)), ?_⟩
    simp only [List.length_append, List.length_take, List.length_drop]
    omega
/-! ### normal words -/
theorem srt_pair : ∀ w : List Int, (∀ t, ¬ Dsc w t) → w.Pairwise (· ≤ ·)
  | [], _ => List.Pairwise.nil
  | x :: r, h => by
    have hr : ∀ t, ¬ Dsc r t := fun t hd => h (t + 1) ⟨by have := hd.1; simp; omega, by simpa using hd.2⟩
    have ih := srt_pair r hr
    refine List.pairwise_cons.2 ⟨fun y hy => ?_, ih⟩
    cases r with
    | nil => cases hy
    | cons z r =>
      have hz : x ≤ z := by
        have h0 := h 0
        unfold Dsc at h0
        simp at h0
        omega
      rcases List.mem_cons.1 hy with rfl | hy
      · exact hz
      · exact Int.le_trans hz ((List.pairwise_cons.1 ih).1 y hy)
theorem srt_split (a : Int) : ∀ w : List Int, w.Pairwise (· ≤ ·) → (∀ l, l ∈ w → a ≤ l) → w = List.replicate (w.count a) a ++ w.filter (fun l => decide (a < l))
  | [], _, _ => rfl
  | x :: r, h, hl => by
    obtain ⟨h1, h2⟩ := List.pairwise_cons.1 h
    by_cases e : x = a
    · subst e
      have ih := srt_split x r h2 fun l hm => hl l (List.mem_cons_of_mem _ hm)
      rw [List.count_cons_self, List.replicate_succ, List.filter_cons_of_neg (by simp), List.cons_append, ← ih]
    · have hx := hl x List.mem_cons_self
      have hc : (x :: r).count a = 0 := List.count_eq_zero.2 fun hm => by
        rcases List.mem_cons.1 hm with h | h
        · exact e h.symm
        · have := h1 a h; omega
      rw [hc, List.replicate_zero, List.nil_append]
      refine (List.filter_eq_self.2 fun l hm => ?_).symm
      rcases List.mem_cons.1 hm with rfl | hm
      · simp; omega
      · have := h1 l hm; simp; omega
theorem srt_word : ∀ (m i : Nat) (w : List Int), w.Pairwise (· ≤ ·) → (∀ l, l ∈ w → (i : Int) + 1 ≤ l ∧ l ≤ (i + m : Nat)) → w = wordA i ((List.range m).map fun k => ((w.count ((i + k : Nat) + 1 : Int) : Nat) : Int))
  | 0, i, w, _, hl => by
    have : w = [] := List.eq_nil_iff_forall_not_mem.2 fun l hm => by have := hl l hm; omega
    subst this; rfl
  | m + 1, i, w, h, hl => by
    have hs := srt_split ((i : Int) + 1) w h fun l hm => (hl l hm).1
    have ih := srt_word m (i + 1) (w.filter fun l => decide ((i : Int) + 1 < l)) (h.filter _) fun l hm => by
      have h1 := (List.mem_filter.1 hm)
      have h2 := hl l h1.1
      have h3 := of_decide_eq_true h1.2
      omega
    rw [List.range_succ_eq_map, List.map_cons, wordA]
    conv => lhs; rw [hs, ih]
    have e1 : ((i + 0 : Nat) + 1 : Int) = (i : Int) + 1 := by simp
    rw [e1, Int.toNat_natCast]
    congr 2
    rw [List.map_map]
    refine List.map_congr_left fun k _ => ?_
    have e2 : ((i + 1 + k : Nat) + 1 : Int) = ((i + Nat.succ k : Nat) + 1 : Int) := by push_cast; omega
    simp only [Function.comp]
    rw [e2]
    congr 1
    rw [List.count_filter (by simp; omega)]
theorem wordA_app : ∀ (l m : List Int) (i : Nat), wordA i (l ++ m) = wordA i l ++ wordA (i + l.length) m
  | [], m, i => by simp [wordA]
  | x :: l, m, i => by
    rw [List.cons_append, wordA, wordA, wordA_app l m (i + 1), List.append_assoc, List.length_cons, show i + 1 + l.length = i + (l.length + 1) by omega]
theorem nrm_word {p : Pr} (hv : Valid p) {w : List Int} (hL : LetP p.n w) (hN : Nrm p w) : w = wordV (vecW p.n w) ∧ InR p (vecW p.n w) := by
  have hd : ∀ t, ¬ Dsc w t := fun t h => hN t (by have := h.1; omega) (.inl h)
  have hw := srt_word p.n 0 w (srt_pair w hd) fun l hl => by have := hL l hl; simpa using this
  have he : (List.range p.n).map (fun k => ((w.count ((0 + k : Nat) + 1 : Int) : Nat) : Int)) = vecW p.n w := by
    refine list_ext0 (by simp [vecW_len]) fun k hk => ?_
    have hk : k < p.n := by simpa using hk
    rw [vecW_getD hL hk]
    simp [hk]
  rw [he] at hw
  refine ⟨hw, vecW_len _ _, fun i hi => ?_⟩
  have ho := hv.opos hi
  have hvi := vecW_getD hL hi
  refine ⟨by rw [hvi]; omega, Int.not_le.1 fun hge => ?_⟩
  obtain ⟨v, hve⟩ : ∃ v, vecW p.n w = v := ⟨_, rfl⟩
  have hvl : v.length = p.n := hve ▸ vecW_len _ _
  rw [hve] at hw hge hvi
  have hsp : v = v.take i ++ (v.getD i 0 :: v.drop (i + 1)) := by
    have e1 : v.getD i 0 = v[i]'(by omega) := by simp [show i < v.length by omega]
    rw [e1, ← List.drop_eq_getElem_cons (by omega), List.take_append_drop]
  have hw2 : w = wordV (v.take i) ++ (List.replicate (v.getD i 0).toNat ((i : Int) + 1) ++ wordA (i + 1) (v.drop (i + 1))) := by
    conv => lhs; rw [hw, hsp]
    unfold wordV
    rw [wordA_app, wordA]
    have e2 : 0 + (v.take i).length = i := by simp; omega
    rw [e2]
  obtain ⟨A, hA⟩ : ∃ A, wordV (v.take i) = A := ⟨_, rfl⟩
  obtain ⟨B, hB⟩ : ∃ B, wordA (i + 1) (v.drop (i + 1)) = B := ⟨_, rfl⟩
  obtain ⟨c, hc⟩ : ∃ c, (v.getD i 0).toNat = c := ⟨_, rfl⟩
  rw [hA, hB, hc] at hw2
  have hat : ∀ j, j < c → w.getD (A.length + j) 0 = (i : Int) + 1 := fun j hj => by
    rw [hw2, List.getD_eq_getElem?_getD, List.getElem?_append_right (by omega), Nat.add_sub_cancel_left, List.getElem?_append_left (by simpa using hj), List.getElem?_replicate, if_pos hj]; rfl
  have hc0 : 0 < c := by omega
  have h0 := hat 0 hc0
  rw [Nat.add_zero] at h0
  have hg : gi w A.length = i := by unfold gi; rw [h0]; omega
  have hlen : w.length = A.length + (c + B.length) := by rw [hw2]; simp
  refine hN A.length (by omega) (.inr ⟨?_, fun j hj => ?_⟩)
  · unfold oW; rw [hg]; omega
  · unfold oW at hj; rw [hg] at hj
    rw [hat j (by omega), h0]
/-! ### in a group -/
section
variable {p : Pr} [hc : ConAll p]
/-- The value of a positive word. -/
noncomputable def evP (p : Pr) [ConAll p] : List Int → El p
  | [] => 1
  | l :: w => gOf p 0 (l.toNat - 1) * evP p w
theorem evP_app : ∀ u v : List Int, evP p (u ++ v) = evP p u * evP p v
  | [], v => (Grp.one_mul _).symm
  | l :: u, v => by
    show _ * evP p (u ++ v) = _ * evP p u * evP p v
    rw [evP_app u v, Grp.mul_assoc]
theorem evP_repl (i : Nat) : ∀ k : Nat, evP p (List.replicate k ((i : Int) + 1)) = Grp.pw (gOf p 0 i) k
  | 0 => rfl
  | k + 1 => by
    rw [List.replicate_succ, Grp.pw_succ', ← evP_repl i k]
    show gOf p 0 (((i : Int) + 1).toNat - 1) * _ = _
    rw [show ((i : Int) + 1).toNat - 1 = i by omega]
theorem evP_wordA (x : List Int) : ∀ (l : List Int) (i : Nat), (∀ k, k < l.length → l.getD k 0 = x.getD (i + k) 0) → evP p (wordA i l) = phi (gOf p 0) x i l.length
  | [], i, _ => rfl
  | a :: l, i, h => by
    rw [wordA, evP_app, evP_repl, List.length_cons, phi]
    have h0 := h 0 (by simp)
    rw [Nat.add_zero] at h0
    have h0 : a = x.getD i 0 := h0
    rw [← h0, evP_wordA x l (i + 1) fun k hk => by
      have := h (k + 1) (by simpa using hk)
      rw [show i + 1 + k = i + (k + 1) by omega]
      simpa using this]
theorem evP_word (x : El p) : evP p (wordV x.v) = x := by
  have h := evP_wordA (p := p) x.v x.v 0 fun k _ => by rw [Nat.zero_add]
  rw [show wordV x.v = wordA 0 x.v from rfl, h, x.inr.len]
  exact phi_all (Nat.zero_le _) x
theorem evP_step {w : List Int} (hL : LetP p.n w) {t : Nat} (h : Fst p w t) : evP p (stepW p w t) = evP p w := by
  obtain ⟨ht, hR, _⟩ := h
  have hv := hc.valid
  have l1 := hL.at ht
  have e1 : w.getD t 0 = w[t] := by simp [ht]
  by_cases hd : Dsc w t
  · have l2 := hL.at hd.1
    have hg : gi w (t + 1) < gi w t ∧ gi w t < p.n := by unfold gi; have := hd.2; omega
    have e2 : w.getD (t + 1) 0 = w[t + 1]'hd.1 := by simp [hd.1]
    have hw : w = w.take t ++ (w.getD t 0 :: w.getD (t + 1) 0 :: w.drop (t + 2)) := by
      rw [e1, e2, ← List.drop_eq_getElem_cons, ← List.drop_eq_getElem_cons, List.take_append_drop]
    rw [stepW_d hd]
    conv => rhs; rw [hw]
    rw [evP_app, evP_app]
    congr 1
    show gOf p 0 (gi w (t + 1)) * evP p (_ ++ _) = gOf p 0 (gi w t) * (gOf p 0 (gi w (t + 1)) * evP p (w.drop (t + 2)))
    have hrc := rel_conj (p := p) (i := 0) (Nat.zero_le _) hg.1 hg.2
    have hcI : cIn p 0 (gi w (t + 1)) (gi w t) = (⟨p.c (gi w (t + 1)) (gi w t), hv.c_in _ _ hg.1 hg.2, (hv.c_zu _ _ hg.1 hg.2).mono (Nat.zero_le _)⟩ : El p) := dif_pos ⟨Nat.zero_le _, hg.1, hg.2⟩
    rw [evP_app, ← Grp.mul_assoc, ← Grp.mul_assoc (gOf p 0 (gi w t)), hrc, hcI]
    congr 2
    exact evP_word (⟨p.c (gi w (t + 1)) (gi w t), hv.c_in _ _ hg.1 hg.2, (hv.c_zu _ _ hg.1 hg.2).mono (Nat.zero_le _)⟩ : El p)
  · have hr : Rn p w t := hR.resolve_left hd
    have hg : gi w t < p.n := by unfold gi; omega
    have hw : w = w.take t ++ (List.replicate (oW p w t) (((gi w t : Nat) : Int) + 1) ++ w.drop (t + oW p w t)) := by
      have hm : (w.drop t).take (oW p w t) = List.replicate (oW p w t) (((gi w t : Nat) : Int) + 1) := by
        refine List.eq_replicate_iff.2 ⟨by rw [List.length_take, List.length_drop]; have := hr.1; omega, fun b hb => ?_⟩
        obtain ⟨j, hj, rfl⟩ := List.getElem_of_mem hb
        have hj2 : j < oW p w t := by rw [List.length_take] at hj; omega
        have h3 := hr.2 j hj2
        have h4 : ((w.drop t).take (oW p w t))[j] = w.getD (t + j) 0 := by
          rw [List.getElem_take, List.getElem_drop]
          have : t + j < w.length := by have := hr.1; omega
          simp [this]
        rw [h4, h3]
        unfold gi; omega
      rw [← hm]
      have h5 : w.drop (t + oW p w t) = (w.drop t).drop (oW p w t) := by rw [List.drop_drop]
      rw [h5, List.take_append_drop, List.take_append_drop]
    rw [stepW_r hd]
    conv => rhs; rw [hw]
    rw [evP_app, evP_app (w.take t)]
    congr 1
    rw [evP_app, evP_app, evP_repl]
    congr 1
    have hrp := rel_pow (p := p) (i := 0) (j := gi w t) ⟨Nat.zero_le _, hg⟩
    unfold oW
    rw [hrp]
    exact evP_word (Tw' hv ⟨Nat.zero_le _, hg⟩)
/-- What is collected is the value of the word. -/
theorem ColO.val {f : Nat} {w v : List Int} {e : Int} (h : ColO p f w v e) (hL : LetP p.n w) (he : e = 0) : v = (evP p w).v := by
  have hv := hc.valid
  induction h with
  | done h =>
    obtain ⟨h1, h2⟩ := nrm_word hv hL h
    have h3 := evP_word (⟨_, h2, fun i hi => absurd hi (Nat.not_lt_zero i)⟩ : El p)
    rw [← h1] at h3
    rw [h3]
  | out h => cases he
  | big h hb => cases he
  | next h hb k ih =>
    rw [ih (letP_step hv hL h).1 he, evP_step hL h]
end
end Go.Proofs.Ytflniifngfiekaa

/-
  Walks: the reference's collection (l09Run, l09Reducible, l09At, l09Step, l07Vector of positive words, l09Collect), IsExponentVector, CollectProduct.
  Conditions: stated at each theorem.
-/
namespace Go.Proofs.Ytflniifngfiekaa
open Go Go.Pc
set_option maxHeartbeats 2000000 in
theorem l09Run_ok {w : World} {vw : Value} {ws : List Int} {t lo hi : Nat} {kt : Int} [hw : Ints lo hi w vw ws] (hl : ws.length ≤ 1000) (hkt : kt = t) (ht : t < ws.length) :
    Calls Try.prog 61 #[vw, .int .i64 kt] w (Ret fun v w' => ∃ c : Nat, v = .int .i64 c ∧ t + c ≤ ws.length ∧ (∀ j, j < c → ws.getD (t + j) 0 = ws.getD t 0) ∧ (t + c < ws.length → ws.getD (t + c) 0 ≠ ws.getD t 0) ∧ Ext w w') := by
  subst hkt
  refine enter (args := [vw, .int .i64 t]) (l := [.tmp 4]) Try.func61 rfl rfl Try.ntmps61 (by simp) ?_
  refine go ?_
  refine r_for (ws.length - t) (fun c ρ w' => Has ρ [(0, vw), (1, .int .i64 t), (5, .int .i64 (t + c : Nat))] ∧ Ext w w' ∧ ∀ j, j < c → ws.getD (t + j) 0 = ws.getD t 0) ?_ ?_
  · refine ⟨?_, Ext.refl _, fun j hj => by omega⟩
    exact hasP
  rintro c ρ w2 hc ⟨hH, he2, hj⟩
  refine rwp_has hH fun ρ0 => ?_
  have done : ∀ {w3 : World}, Ext w w3 → (t + c < ws.length → ws.getD (t + c) 0 ≠ ws.getD t 0) → ∃ c' : Nat, Value.int .i64 (((t + c : Nat) : Int) - t) = .int .i64 c' ∧ t + c' ≤ ws.length ∧ (∀ j, j < c' → ws.getD (t + j) 0 = ws.getD t 0) ∧ (t + c' < ws.length → ws.getD (t + c') 0 ≠ ws.getD t 0) ∧ Ext w w3 := fun x h => ⟨c, by congr 1; omega, by omega, hj, h, x⟩
  refine go ?_
  refine d_region fun w3 he3 _ => ?_
  refine dgo ?_
  refine dspd (fun h1 => ?_) (fun h1 => ?_)
  · have htc : t + c < ws.length := by omega
    refine dgo ?_
    refine d_end (h := ?_)
    refine go ?_
    refine c_if (fun h2 => ?_) (fun h2 => ?_)
    · refine go ?_
      refine forQ_normal (by omega) ⟨?_, he2.trans he3, fun j hj' => ?_⟩
      · rw [show t + (c + 1) = t + c + 1 from rfl]
        exact hasP
      · by_cases e : j = c
        · subst e; exact h2
        · exact hj j (by omega)
    · refine go ?_
      exact ret1 (done (he2.trans he3) fun _ => h2)
  · refine dgo ?_
    refine d_end (h := ?_)
    refine go ?_
    exact ret1 (done (he2.trans he3) fun h => absurd (by omega) h1)
set_option maxHeartbeats 4000000 in
theorem l09Reducible_ok {p : Pr} (hv : Valid p) {w : World} {vp vw : Value} {ws : List Int} {t lo hi lo1 hi1 : Nat} {kt : Int} [hp : Pres lo hi w vp p] [hw : Ints lo1 hi1 w vw ws] (hl : ws.length ≤ 1000) (hL : LetP p.n ws) (hkt : kt = t) (ht : t < ws.length) :
    Calls Try.prog 51 #[vp, vw, .int .i64 kt] w (Ret fun v w' => ∃ b, v = .bool b ∧ (b = true ↔ Red p ws t) ∧ Ext w w') := by
  subst hkt
  have hn6 := hv.n6
  have hol : p.ord.length = p.n := rfl
  have hlt := hL.at ht
  have hg : gi ws t < p.n := by unfold gi; omega
  have ho := hv.opos hg
  have hoe : p.ord.getD ((ws.getD t 0).toNat - 1) 0 = p.o (gi ws t) := rfl
  obtain ⟨vo, vpw, vc, ps, cs, css, rfl, h1, h2, h3⟩ := hp.ex
  refine enter (args := [.agg #[vo, vpw, vc], vw, .int .i64 t]) (l := [.tmp 6]) Try.func51 rfl rfl Try.ntmps51 (by simp) ?_
  refine go ?_
  refine st_box3 (by ((try simp only [ev_tmp, ev_const, ev_func, get_put, get_args, get_putL, get_putL_nil, Nat.reduceEqDiff, reduceIte, List.getD_cons_zero, List.getD_cons_succ, List.getD_nil]); first | done | with_reducible rfl)) (by first | exact True.intro | exact ⟨_, rfl, by ((try simp only [ev_tmp, ev_const, ev_func, get_put, get_args, get_putL, get_putL_nil, Nat.reduceEqDiff, reduceIte, List.getD_cons_zero, List.getD_cons_succ, List.getD_nil, Bool.not_true, Bool.not_false]); first | done | with_reducible rfl)⟩) fun w1 b he1 hb1 hs1 hc0 hc1 hc2 => ?_
  refine go ?_
  refine d_region fun w2 he2 _ => ?_
  refine dgo ?_
  refine dspd (fun q1 => ?_) (fun q1 => ?_)
  · have hd1 := hL.at (t := t + 1) (by omega)
    refine dgo ?_
    refine d_end (h := ?_)
    refine go ?_
    refine c_if (fun q2 => ?_) (fun q2 => ?_)
    · refine go ?_
      exact ret1 ⟨true, rfl, ⟨fun _ => .inl ⟨by omega, q2⟩, fun _ => rfl⟩, he1.trans he2⟩
    have hnd : ¬ Dsc ws t := fun h => q2 h.2
    refine go ?_
    refine d_order [0, 1, 3, 4, 5, 6, 7, 8, 9, 10, 11, 2, 12, 13] (h := fun w3 he3 _ => ?_)
    refine dgo ?_
    refine dce (l09Run_ok (t := t) hl rfl ht) (hR := by rintro _ _ ⟨_, _, _, _, _, h⟩; exact h) (next := fun v4 w4 h4 => ?_)
    obtain ⟨c, rfl, hc0', hc1', hc2', he4⟩ := h4
    refine dgo ?_
    refine d_end (h := ?_)
    refine go ?_
    refine ret1 ⟨_, rfl, ?_, ((he1.trans he2).trans he3).trans he4⟩
    rw [hoe, decide_eq_true_eq]
    refine ⟨fun h => .inr ⟨?_, fun j hj => hc1' j ?_⟩, fun h => ?_⟩
    · unfold oW; omega
    · unfold oW at hj; omega
    · rcases h with h | h
      · exact absurd h hnd
      · refine Int.not_lt.1 fun hlt' => ?_
        have hco : c < oW p ws t := by unfold oW; omega
        exact hc2' (by have := h.1; omega) (h.2 c hco)
  · have hnd : ¬ Dsc ws t := fun h => q1 (by have := h.1; omega)
    refine dgo ?_
    refine d_end (h := ?_)
    refine go ?_
    refine d_order [0, 1, 3, 4, 5, 6, 7, 8, 9, 10, 11, 2, 12, 13] (h := fun w3 he3 _ => ?_)
    refine dgo ?_
    refine dce (l09Run_ok (t := t) hl rfl ht) (hR := by rintro _ _ ⟨_, _, _, _, _, h⟩; exact h) (next := fun v4 w4 h4 => ?_)
    obtain ⟨c, rfl, hc0', hc1', hc2', he4⟩ := h4
    refine dgo ?_
    refine d_end (h := ?_)
    refine go ?_
    refine ret1 ⟨_, rfl, ?_, ((he1.trans he2).trans he3).trans he4⟩
    rw [hoe, decide_eq_true_eq]
    refine ⟨fun h => .inr ⟨?_, fun j hj => hc1' j ?_⟩, fun h => ?_⟩
    · unfold oW; omega
    · unfold oW at hj; omega
    · rcases h with h | h
      · exact absurd h hnd
      · refine Int.not_lt.1 fun hlt' => ?_
        have hco : c < oW p ws t := by unfold oW; omega
        exact hc2' (by have := h.1; omega) (h.2 c hco)
set_option maxHeartbeats 2000000 in
theorem l09At_ok {p : Pr} (hv : Valid p) {w : World} {vp vw : Value} {ws : List Int} {lo hi lo1 hi1 : Nat} [hp : Pres lo hi w vp p] [hw : Ints lo1 hi1 w vw ws] (hl : ws.length ≤ 1000) (hL : LetP p.n ws) :
    Calls Try.prog 37 #[vp, vw] w (Ret fun v w' => ((v = .int .i64 (-1) ∧ Nrm p ws) ∨ ∃ t : Nat, v = .int .i64 t ∧ Fst p ws t) ∧ Ext w w') := by
  obtain ⟨vo, vpw, vc, ps, cs, css, rfl, h1, h2, h3⟩ := hp.ex
  refine enter (args := [.agg #[vo, vpw, vc], vw]) (l := [.tmp 4]) Try.func37 rfl rfl Try.ntmps37 (by simp) ?_
  refine go ?_
  refine st_box3 (by ((try simp only [ev_tmp, ev_const, ev_func, get_put, get_args, get_putL, get_putL_nil, Nat.reduceEqDiff, reduceIte, List.getD_cons_zero, List.getD_cons_succ, List.getD_nil]); first | done | with_reducible rfl)) (by first | exact True.intro | exact ⟨_, rfl, by ((try simp only [ev_tmp, ev_const, ev_func, get_put, get_args, get_putL, get_putL_nil, Nat.reduceEqDiff, reduceIte, List.getD_cons_zero, List.getD_cons_succ, List.getD_nil, Bool.not_true, Bool.not_false]); first | done | with_reducible rfl)⟩) fun w1 b he1 hb1 hs1 hc0 hc1 hc2 => ?_
  refine go ?_
  refine r_for ws.length (fun t ρ w' => Has ρ [(1, vw), (2, .pointer (some ⟨b, 0, none⟩)), (5, .int .i64 t)] ∧ Ext w1 w' ∧ ∀ s, s < t → ¬ Red p ws s) ?_ ?_
  · refine ⟨?_, Ext.refl _, fun s hs => by omega⟩
    exact hasP
  rintro t ρ w2 ht ⟨hH, he2, hs⟩
  refine rwp_has hH fun ρ0 => ?_
  refine go ?_
  refine c_if (fun q1 => ?_) (fun q1 => ?_)
  · refine go ?_
    refine rc (l09Reducible_ok (p := p) hv (t := t) hl hL rfl (by omega)) (next := fun v3 w3 h3 => ?_)
    obtain ⟨b3, rfl, hb3, he3⟩ := h3
    refine go ?_
    refine c_b (fun q2 => ?_) (fun q2 => ?_)
    · refine go ?_
      exact ret1 ⟨.inr ⟨t, rfl, by omega, hb3.1 q2, hs⟩, (he1.trans he2).trans he3⟩
    · refine go ?_
      refine forQ_normal (by omega) ⟨?_, he2.trans he3, fun s hs' => ?_⟩
      · exact hasP
      · by_cases e : s = t
        · subst e; exact fun h => by rw [hb3.2 h] at q2; cases q2
        · exact hs s (by omega)
  · refine go ?_
    exact ret1 ⟨.inl ⟨rfl, fun s hs' => hs s (by omega)⟩, he1.trans he2⟩
set_option maxHeartbeats 8000000 in
theorem l09Step_ok {p : Pr} (hv : Valid p) {w : World} {vp vw : Value} {ws : List Int} {t lo hi lo1 hi1 : Nat} {kt : Int} [hp : Pres lo hi w vp p] [hw : Ints lo1 hi1 w vw ws] (hl : ws.length ≤ 1000) (hL : LetP p.n ws) (hkt : kt = t) (hF : Fst p ws t) :
    Calls Try.prog 39 #[vp, vw, .int .i64 kt] w (Ret fun v w' => Ext w w' ∧ Fr w.heap.size w' v (stepW p ws t)) := by
  subst hkt
  have hn6 := hv.n6
  have hol : p.ord.length = p.n := rfl
  have hpl : p.pow.length = p.n := hv.lenw
  have hcl : p.cnj.length = p.n := hv.lenc
  have ht := hF.1
  have hlt := hL.at ht
  have hg : gi ws t < p.n := by unfold gi; omega
  have ho := hv.opos hg
  replace hw := hw.wide
  obtain ⟨vo, vpw, vc, ps, cs, css, rfl, h1, h2, h3⟩ := hp.ex
  refine enter (args := [.agg #[vo, vpw, vc], vw, .int .i64 t]) (l := [.tmp 6]) Try.func39 rfl rfl Try.ntmps39 (by simp) ?_
  refine go ?_
  refine st_box3 (by ((try simp only [ev_tmp, ev_const, ev_func, get_put, get_args, get_putL, get_putL_nil, Nat.reduceEqDiff, reduceIte, List.getD_cons_zero, List.getD_cons_succ, List.getD_nil]); first | done | with_reducible rfl)) (by first | exact True.intro | exact ⟨_, rfl, by ((try simp only [ev_tmp, ev_const, ev_func, get_put, get_args, get_putL, get_putL_nil, Nat.reduceEqDiff, reduceIte, List.getD_cons_zero, List.getD_cons_succ, List.getD_nil, Bool.not_true, Bool.not_false]); first | done | with_reducible rfl)⟩) fun w1 b he1 hb1 hs1 hc0 hc1 hc2 => ?_
  have hcut1 := (@Ints.ext _ _ _ _ _ _ he1 hw).cutTo (m := t) (by omega)
  refine go ?_
  refine rc (l01OwnN_ok (xs := ws.take t) (by rw [List.length_take]; omega)) (next := fun v2 w2 hh => ?_)
  obtain ⟨he2, hN2⟩ := hh
  have hG2 : GrowI 2 w1.heap.size w2 v2 (ws.take t) := ⟨hN2⟩
  have hE2 := he1.trans he2
  have hz1 := he1.size
  have hz2 := he2.size
  have htl : (ws.take t).length ≤ 1000 := by rw [List.length_take]; omega
  refine go ?_
  refine d_region fun w3 he3 _ => ?_
  have hz3 := he3.size
  have hE3 := hE2.trans he3
  have hG3 : GrowI 2 w1.heap.size w3 v2 (ws.take t) := @GrowI.ext _ _ _ _ _ _ he3 hG2
  refine dgo ?_
  refine dspd (fun q1 => ?_) (fun q1 => ?_)
  · have hd1 := hL.at (t := t + 1) (by omega)
    refine dgo ?_
    refine d_end (h := ?_)
    refine go ?_
    refine c_if (fun q2 => ?_) (fun q2 => ?_)
    · have hD : Dsc ws t := ⟨by omega, q2⟩
      have hgI : gi ws (t + 1) < gi ws t := by unfold gi; have := hD.2; omega
      have eJ : ws.getD t 0 - 1 = ((gi ws t : Nat) : Int) := by unfold gi; omega
      have eI : ws.getD (t + 1) 0 - 1 = ((gi ws (t + 1) : Nat) : Int) := by unfold gi; omega
      have eI2 : ((gi ws (t + 1) : Nat) : Int) + 1 = ws.getD (t + 1) 0 := by omega
      have hci := hv.lenci (gi ws (t + 1)) (by omega)
      have hcv := invec_word hv (hv.c_in _ _ hgI hg)
      have hcd : p.c (gi ws (t + 1)) (gi ws t) = (p.cnj.getD (gi ws (t + 1)) []).getD (gi ws t - gi ws (t + 1) - 1) [] := rfl
      rw [hcd] at hcv
      have hstep := stepW_d (p := p) hD
      rw [hcd] at hstep
      obtain ⟨J, hJ⟩ : ∃ J, gi ws t = J := ⟨_, rfl⟩
      obtain ⟨I, hI⟩ : ∃ I, gi ws (t + 1) = I := ⟨_, rfl⟩
      rw [hJ] at eJ hcv hgI hg hstep
      rw [hI] at eI eI2 hci hcv hgI hstep
      refine go ?_
      refine d_region fun w4 he4 _ => ?_
      have hz4 := he4.size
      refine dgo ?_
      refine d_end (h := ?_)
      rw [eJ, eI]
      have hG4 : GrowI 2 w1.heap.size w4 v2 (ws.take t) := @GrowI.ext _ _ _ _ _ _ he4 hG3
      have hE4 := hE3.trans he4
      refine go ?_
      refine st_growi hG4 (by omega) (by omega) (next := fun v5 v6 w6 hG6 hx6 hz6 hst6 => ?_)
      have hx16 : Ext w1 w6 := hx6 w1 ((he2.trans he3).trans he4) (Nat.le_refl _)
      rw [eI2] at hG6
      refine go ?_
      refine rc (l07Word_ok (e := (p.cnj.getD I []).getD (J - I - 1) []) (by omega) (fun j hj => by have := hcv.2.2 j hj; omega)) (next := fun v7 w7 h7 => ?_)
      obtain ⟨he7, hG7⟩ := h7
      have hz7 := he7.size
      have hx17 := hx16.trans he7
      have hG67 : GrowI 2 w1.heap.size w7 v6 (ws.take t ++ [ws.getD (t + 1) 0]) := @GrowI.ext _ _ _ _ _ _ he7 hG6
      refine st_appi hG67 hG7.fr.ints (by omega) (by simp only [List.length_append, List.length_singleton]; omega) (next := fun v8 w8 hG8 hx8 hz8 => ?_)
      have hx18 : Ext w1 w8 := hx8 w1 hx17 (Nat.le_refl _)
      have hw8 : Ints 0 w.heap.size w8 vw ws := hw.same ((he1.trans hx18).same _ _)
      have hcut8 := hw8.cut (l := t + 2) (k := ws.length) (by have := hD.1; omega) (Nat.le_refl _)
      have hce8 : (ws.take ws.length).drop (t + 2) = ws.drop (t + 2) := by rw [List.take_length]
      rw [hce8, show t + 2 = ((t : Int) + 2).toNat by omega] at hcut8
      refine go ?_
      refine st_appi hG8 hcut8 (by omega) (by simp only [List.length_append, List.length_singleton, List.length_drop]; omega) (next := fun v9 w9 hG9 hx9 hz9 => ?_)
      refine go ?_
      refine ret1 ⟨hx9 w (he1.trans hx18) (by omega), ?_⟩
      rw [hstep]
      rw [show ((t : Int) + 2).toNat = t + 2 by omega] at hG9
      have e9 : ws.take t ++ [ws.getD (t + 1) 0] ++ wordV ((p.cnj.getD I []).getD (J - I - 1) []) ++ ws.drop (t + 2) = ws.take t ++ (ws.getD (t + 1) 0 :: (wordV ((p.cnj.getD I []).getD (J - I - 1) []) ++ ws.drop (t + 2))) := by simp
      rw [← e9]
      exact hG9.fr.mono (by omega)
    · have hnd : ¬ Dsc ws t := fun h => q2 h.2
      have hR : Rn p ws t := hF.2.1.resolve_left hnd
      have eJ : ws.getD t 0 - 1 = ((gi ws t : Nat) : Int) := by unfold gi; omega
      have hwv := invec_word hv (hv.w_in _ hg)
      have hwd : p.w (gi ws t) = p.pow.getD (gi ws t) [] := rfl
      rw [hwd] at hwv
      have hoR : t + (p.o (gi ws t)).toNat ≤ ws.length := hR.1
      have hstep := stepW_r (p := p) hnd
      have hoW : oW p ws t = (p.o (gi ws t)).toNat := rfl
      rw [hwd, hoW] at hstep
      obtain ⟨J, hJ⟩ : ∃ J, gi ws t = J := ⟨_, rfl⟩
      rw [hJ] at eJ hwv hg hstep hoR ho
      have hoe : p.ord.getD J 0 = p.o J := rfl
      refine go ?_
      rw [eJ]
      refine go ?_
      rw [show (ws.getD t 0).toNat - 1 = J from hJ]
      refine rc (l07Word_ok (e := p.pow.getD J []) (by omega) (fun j hj => by have := hwv.2.2 j hj; omega)) (next := fun v7 w7 h7 => ?_)
      obtain ⟨he7, hG7⟩ := h7
      have hz7 := he7.size
      have hx17 : Ext w1 w7 := (he2.trans he3).trans he7
      have hG37 : GrowI 2 w1.heap.size w7 v2 (ws.take t) := @GrowI.ext _ _ _ _ _ _ he7 hG3
      refine st_appi hG37 hG7.fr.ints (by omega) (by omega) (next := fun v8 w8 hG8 hx8 hz8 => ?_)
      have hx18 : Ext w1 w8 := hx8 w1 hx17 (Nat.le_refl _)
      have hw8 : Ints 0 w.heap.size w8 vw ws := hw.same ((he1.trans hx18).same _ _)
      obtain ⟨o, hoo⟩ : ∃ o : Nat, p.o J = o := ⟨(p.o J).toNat, by omega⟩
      rw [hoo, Int.toNat_natCast] at hoR hstep
      have hcut8 := hw8.cut (l := t + o) (k := ws.length) (by omega) (Nat.le_refl _)
      have hce8 : (ws.take ws.length).drop (t + o) = ws.drop (t + o) := by rw [List.take_length]
      rw [hce8, show t + o = ((t : Int) + (o : Int)).toNat by omega] at hcut8
      refine go ?_
      rw [hoe, hoo]
      refine go ?_
      refine st_appi hG8 hcut8 (by omega) (by simp only [List.length_append, List.length_drop]; omega) (next := fun v9 w9 hG9 hx9 hz9 => ?_)
      refine go ?_
      refine ret1 ⟨hx9 w (he1.trans hx18) (by omega), ?_⟩
      rw [show ((t : Int) + (o : Int)).toNat = t + o by omega] at hG9
      rw [hstep, ← List.append_assoc]
      exact hG9.fr.mono (by omega)
  · have hnd : ¬ Dsc ws t := fun h => q1 (by have := h.1; omega)
    refine dgo ?_
    refine d_end (h := ?_)
    have hR : Rn p ws t := hF.2.1.resolve_left hnd
    have eJ : ws.getD t 0 - 1 = ((gi ws t : Nat) : Int) := by unfold gi; omega
    have hwv := invec_word hv (hv.w_in _ hg)
    have hwd : p.w (gi ws t) = p.pow.getD (gi ws t) [] := rfl
    rw [hwd] at hwv
    have hoR : t + (p.o (gi ws t)).toNat ≤ ws.length := hR.1
    have hstep := stepW_r (p := p) hnd
    have hoW : oW p ws t = (p.o (gi ws t)).toNat := rfl
    rw [hwd, hoW] at hstep
    obtain ⟨J, hJ⟩ : ∃ J, gi ws t = J := ⟨_, rfl⟩
    rw [hJ] at eJ hwv hg hstep hoR ho
    have hoe : p.ord.getD J 0 = p.o J := rfl
    refine go ?_
    rw [eJ]
    refine go ?_
    rw [show (ws.getD t 0).toNat - 1 = J from hJ]
    refine rc (l07Word_ok (e := p.pow.getD J []) (by omega) (fun j hj => by have := hwv.2.2 j hj; omega)) (next := fun v7 w7 h7 => ?_)
    obtain ⟨he7, hG7⟩ := h7
    have hz7 := he7.size
    have hx17 : Ext w1 w7 := (he2.trans he3).trans he7
    have hG37 : GrowI 2 w1.heap.size w7 v2 (ws.take t) := @GrowI.ext _ _ _ _ _ _ he7 hG3
    refine st_appi hG37 hG7.fr.ints (by omega) (by omega) (next := fun v8 w8 hG8 hx8 hz8 => ?_)
    have hx18 : Ext w1 w8 := hx8 w1 hx17 (Nat.le_refl _)
    have hw8 : Ints 0 w.heap.size w8 vw ws := hw.same ((he1.trans hx18).same _ _)
    obtain ⟨o, hoo⟩ : ∃ o : Nat, p.o J = o := ⟨(p.o J).toNat, by omega⟩
    rw [hoo, Int.toNat_natCast] at hoR hstep
    have hcut8 := hw8.cut (l := t + o) (k := ws.length) (by omega) (Nat.le_refl _)
    have hce8 : (ws.take ws.length).drop (t + o) = ws.drop (t + o) := by rw [List.take_length]
    rw [hce8, show t + o = ((t : Int) + (o : Int)).toNat by omega] at hcut8
    refine go ?_
    rw [hoe, hoo]
    refine go ?_
    refine st_appi hG8 hcut8 (by omega) (by simp only [List.length_append, List.length_drop]; omega) (next := fun v9 w9 hG9 hx9 hz9 => ?_)
    refine go ?_
    refine ret1 ⟨hx9 w (he1.trans hx18) (by omega), ?_⟩
    rw [show ((t : Int) + (o : Int)).toNat = t + o by omega] at hG9
    rw [hstep, ← List.append_assoc]
    exact hG9.fr.mono (by omega)
end Go.Proofs.Ytflniifngfiekaa

/-
  Walks: the reference's l07Vector of positive words, l09Collect, IsExponentVector, CollectProduct.
  Conditions: stated at each theorem.
-/
namespace Go.Proofs.Ytflniifngfiekaa
open Go Go.Pc
theorem vecW_cnt {n : Nat} {ws : List Int} (h : LetP n ws) (j : Nat) : 0 ≤ (vecW n ws).getD j 0 ∧ (vecW n ws).getD j 0 ≤ ws.length := by
  by_cases hj : j < n
  · rw [vecW_getD h hj]
    have := List.count_le_length (a := (j : Int) + 1) (l := ws)
    omega
  · have e : (vecW n ws).getD j 0 = 0 := by
      rw [List.getD_eq_getElem?_getD, List.getElem?_eq_none (by rw [vecW_len]; omega)]; rfl
    omega
theorem LetP.take {n : Nat} {ws : List Int} (h : LetP n ws) (k : Nat) : LetP n (ws.take k) := fun l hl => h l (List.mem_of_mem_take hl)
theorem vecW_nil (n : Nat) : vecW n [] = List.replicate n 0 := by
  refine list_ext0 (by simp [vecW_len]) fun k hk => ?_
  have hk : k < n := by simpa [vecW_len] using hk
  rw [vecW_getD (fun l hl => by cases hl) hk]
  simp [hk]
set_option maxHeartbeats 4000000 in
theorem l07VecP_ok {w : World} {v : Value} {ws : List Int} {n lo hi : Nat} {k : Int} [hw : Ints lo hi w v ws] (hl : ws.length ≤ 1000) (hn : n ≤ 100) (hL : LetP n ws) (hk : k = n) :
    Calls Try.prog 38 #[.int .i64 k, v] w (Ret fun v w' => ∃ vl : Value, v = .tuple #[vl, .bool true] ∧ Ext w w' ∧ Fr w.heap.size w' vl (vecW n ws)) := by
  subst hk
  replace hw := hw.wide
  refine enter (args := [.int .i64 n, v]) (l := [.tmp 4, .tmp 5]) Try.func38 rfl rfl Try.ntmps38 (by simp) ?_
  refine got ?_
  refine st_make_int (n := n) (by ((try simp only [ev_tmp, ev_const, ev_func, get_put, get_args, get_putL, get_putL_nil, Nat.reduceEqDiff, reduceIte, List.getD_cons_zero, List.getD_cons_succ, List.getD_nil]); first | done | with_reducible rfl)) (by ((try simp only [ev_tmp, ev_const, ev_func, get_put, get_args, get_putL, get_putL_nil, Nat.reduceEqDiff, reduceIte, List.getD_cons_zero, List.getD_cons_succ, List.getD_nil]); first | done | with_reducible rfl)) (by omega) (by omega) (by first | exact True.intro | exact ⟨_, rfl, by ((try simp only [ev_tmp, ev_const, ev_func, get_put, get_args, get_putL, get_putL_nil, Nat.reduceEqDiff, reduceIte, List.getD_cons_zero, List.getD_cons_succ, List.getD_nil, Bool.not_true, Bool.not_false]); first | done | with_reducible rfl)⟩) fun w1 v1 he1 hs1 ho1 => ?_
  have hz1 := he1.size
  refine got ?_
  refine r_for ws.length (fun i ρ w' => ∃ (xs : List Int), Has ρ [(1, v), (6, v1), (7, .int .i64 i)] ∧ Ext w w' ∧ OwnI 2 w.heap.size w' v1 xs ∧ xs.length = n ∧ xs = vecW n (ws.take i)) ?_ ?_
  · refine ⟨_, ?_, he1, ho1, by simp, by rw [List.take_zero, vecW_nil]⟩
    exact hasP
  clear ho1
  rintro i ρ w3 hi ⟨xs, hH, hx3, ho3, hxl, hxe⟩
  refine rwp_has hH fun ρ0 => ?_
  have hz3 := hx3.size
  have hw3 : Ints _ _ w3 v ws := @Ints.ext _ _ _ _ _ _ hx3 hw
  refine got ?_
  refine c_if (fun h3 => ?_) (fun h3 => ?_)
  · have hiw : i < ws.length := by omega
    have hLi := hL.at hiw
    refine got ?_
    refine c_if (fun h4 => ?_) (fun h4 => ?_)
    · exact absurd h4 (by omega)
    · have hcj : 0 ≤ xs.getD ((ws.getD i 0).toNat - 1) 0 ∧ xs.getD ((ws.getD i 0).toNat - 1) 0 ≤ 1000 := by
        have := vecW_cnt (hL.take i) ((ws.getD i 0).toNat - 1)
        rw [← hxe, List.length_take] at this
        omega
      have hnx := vecW_take (n := n) hiw
      rw [← hxe] at hnx
      refine got ?_
      refine d_region (h := fun w4 he4 _ => ?_)
      have ho4 : OwnI 2 w.heap.size w4 v1 xs := @OwnI.ext _ _ _ _ _ _ he4 ho3
      have hi4 := (ho4.toFr (Nat.le_refl _)).ints
      refine dgot ?_
      refine l_store_val ho4.own rfl (m := (ws.getD i 0).toNat - 1) (by rw [List.length_map]; omega) (next := fun w5 hc5 hs5 ho5 => ?_)
      rw [← List.map_set] at ho5
      refine got ?_
      refine forQ_normal (by omega) ⟨_, ?_, hc5.ext (hx3.trans he4) (Nat.le_refl _), ⟨ho5⟩, by simp [hxl], hnx.symm⟩
      exact hasP
  · obtain rfl : i = ws.length := by omega
    rw [List.take_length] at hxe
    refine got ?_
    refine ret2 ⟨v1, rfl, hx3, ?_⟩
    rw [← hxe]
    exact ho3.toFr (Nat.le_refl _)
/-- What holds behind s steps. -/
def ColI (p : Pr) (L : Nat) (ws : List Int) (s : Nat) (u : List Int) : Prop := (s ≤ L → u.length ≤ 256 → ∀ v e, ColO p (L - s) u v e → ColO p L ws v e) ∧ (256 < u.length ∨ L < s → ColO p L ws [] 3)
theorem ColI.start (p : Pr) (L : Nat) {ws : List Int} (h : ws.length ≤ 256) : ColI p L ws 0 ws := ⟨fun _ _ _ _ h => h, fun k => by omega⟩
theorem ColI.step {p : Pr} {L s t : Nat} {ws u : List Int} (h : ColI p L ws s u) (hs : s ≤ L) (hu : u.length ≤ 256) (hF : Fst p u t) : ColI p L ws (s + 1) (stepW p u t) := by
  refine ⟨fun h1 h2 v e k => h.1 hs hu v e ?_, fun k => h.1 hs hu _ _ ?_⟩
  · rw [show L - s = (L - (s + 1)) + 1 by omega]
    exact .next hF (by omega) k
  · by_cases e : s = L
    · subst e; rw [Nat.sub_self]; exact .out hF
    · rw [show L - s = (L - (s + 1)) + 1 by omega]
      exact .big hF (by omega)
set_option maxHeartbeats 4000000 in
theorem l09Collect_ok {p : Pr} (hv : Valid p) {w : World} {vp vw : Value} {ws : List Int} {L lo hi lo1 hi1 : Nat} {kl : Int} [hp : Pres lo hi w vp p] [hw : Ints lo1 hi1 w vw ws] (hl : ws.length ≤ 256) (hLP : LetP p.n ws) (hkl : kl = L) (hLL : L ≤ 1000000) :
    Calls Try.prog 22 #[vp, vw, .int .i64 kl] w (Ret fun v w' => ∃ (u : Value) (r : List Int) (k e : Int) (b : Bool), v = .tuple #[u, .int .i64 k, .bool b] ∧ ColO p L ws r e ∧ ((b = true ∧ e = 0) ∨ (b = false ∧ e = 3 ∧ r = [])) ∧ Ext w w' ∧ Fr w.heap.size w' u r) := by
  subst hkl
  have hn6 := hv.n6
  have hol : p.ord.length = p.n := rfl
  obtain ⟨vo, vpw, vc, ps, cs, css, rfl, h1, h2, h3⟩ := hp.ex
  refine enter (args := [.agg #[vo, vpw, vc], vw, .int .i64 L]) (l := [.tmp 6, .tmp 7, .tmp 8]) Try.func22 rfl rfl Try.ntmps22 (by simp) ?_
  refine go ?_
  refine st_box3 (by ((try simp only [ev_tmp, ev_const, ev_func, get_put, get_args, get_putL, get_putL_nil, Nat.reduceEqDiff, reduceIte, List.getD_cons_zero, List.getD_cons_succ, List.getD_nil]); first | done | with_reducible rfl)) (by first | exact True.intro | exact ⟨_, rfl, by ((try simp only [ev_tmp, ev_const, ev_func, get_put, get_args, get_putL, get_putL_nil, Nat.reduceEqDiff, reduceIte, List.getD_cons_zero, List.getD_cons_succ, List.getD_nil, Bool.not_true, Bool.not_false]); first | done | with_reducible rfl)⟩) fun w1 b he1 hb1 hs1 hc0 hc1 hc2 => ?_
  refine go ?_
  refine rc (l01OwnN_ok (xs := ws) (by omega)) (next := fun v2 w2 hh => ?_)
  obtain ⟨he2, hN2⟩ := hh
  have hz1 := he1.size
  refine go ?_
  refine r_for (L + 1) (fun s ρ w' => ∃ (vu : Value) (u : List Int), Has ρ [(2, .int .i64 L), (3, .pointer (some ⟨b, 0, none⟩)), (9, vu), (10, .int .i64 s)] ∧ Ext w1 w' ∧ Fr w.heap.size w' vu u ∧ LetP p.n u ∧ u.length ≤ 292 ∧ ColI p L ws s u) ?_ ?_
  · refine ⟨v2, ws, ?_, he2, hN2.toFr.mono hz1, hLP, by omega, ColI.start p L hl⟩
    exact hasP
  clear hN2
  rintro s ρ w3 hs ⟨vu, u, hH, he3, hf3, hL3, hl3, hI3⟩
  refine rwp_has hH fun ρ0 => ?_
  have hu3 := hf3.ints
  have hz3 := he3.size
  refine go ?_
  refine c_if (fun q1 => ?_) (fun q1 => ?_)
  · refine go ?_
    refine c_if (fun q2 => ?_) (fun q2 => ?_)
    · refine go ?_
      exact ret3 ⟨_, [], _, 3, false, rfl, hI3.2 (.inl (by omega)), .inr ⟨rfl, rfl, rfl⟩, he1.trans he3, Fr.nilR _ _⟩
    refine go ?_
    refine rc (l09At_ok (p := p) hv (ws := u) (by omega) hL3) (next := fun v4 w4 h4 => ?_)
    obtain ⟨h4, he4⟩ := h4
    have hz4 := he4.size
    rcases h4 with ⟨rfl, hN⟩ | ⟨t, rfl, hF⟩
    · refine go ?_
      refine c_if (fun q3 => ?_) (fun q3 => ?_)
      rotate_left
      · exact absurd (by omega) q3
      refine go ?_
      refine rc (l07VecP_ok (n := p.n) (ws := u) (k := (p.ord.length : Int)) (by omega) (by omega) hL3 (by omega)) (next := fun v5 w5 h5 => ?_)
      obtain ⟨vl, rfl, he5, hf5⟩ := h5
      refine go ?_
      exact ret3 ⟨_, _, _, 0, true, rfl, hI3.1 (by omega) (by omega) _ _ (.done hN), .inl ⟨rfl, rfl⟩, ((he1.trans he3).trans he4).trans he5, hf5.mono (by omega)⟩
    · refine go ?_
      refine c_if (fun q3 => ?_) (fun q3 => ?_)
      · exact absurd q3 (by omega)
      have hst := letP_step hv hL3 hF
      refine go ?_
      refine rc (l09Step_ok (p := p) hv (ws := u) (t := t) (by omega) hL3 rfl hF) (next := fun v5 w5 h5 => ?_)
      obtain ⟨he5, hf5⟩ := h5
      refine go ?_
      refine forQ_normal (by omega) ⟨v5, stepW p u t, ?_, (he3.trans he4).trans he5, hf5.mono (by omega), hst.1, by omega, hI3.step (by omega) (by omega) hF⟩
      exact hasP
  · refine go ?_
    exact ret3 ⟨_, [], _, 3, false, rfl, hI3.2 (.inr (by omega)), .inr ⟨rfl, rfl, rfl⟩, he1.trans he3, Fr.nilR _ _⟩
theorem IsExponentVector_ok {p : Pr} {w : World} {vp vx : Value} {xs : List Int} {lo hi lo1 hi1 : Nat} [hp : Pres lo hi w vp p] [hx : Ints lo1 hi1 w vx xs] (hl : p.ord.length ≤ 2000000) :
    Calls Try.prog 20 #[vp, vx] w (Ret fun v w' => ∃ b, v = .bool b ∧ (b = true ↔ Valid p ∧ InR p xs) ∧ Ext w w') := by
  obtain ⟨vo, vpw, vc, ps, cs, css, rfl, h1, h2, h3⟩ := hp.ex
  refine enter (args := [.agg #[vo, vpw, vc], vx]) (l := [.tmp 4]) Try.func20 rfl rfl Try.ntmps20 (by simp) ?_
  refine go ?_
  refine st_box3 (by ((try simp only [ev_tmp, ev_const, ev_func, get_put, get_args, get_putL, get_putL_nil, Nat.reduceEqDiff, reduceIte, List.getD_cons_zero, List.getD_cons_succ, List.getD_nil]); first | done | with_reducible rfl)) (by first | exact True.intro | exact ⟨_, rfl, by ((try simp only [ev_tmp, ev_const, ev_func, get_put, get_args, get_putL, get_putL_nil, Nat.reduceEqDiff, reduceIte, List.getD_cons_zero, List.getD_cons_succ, List.getD_nil, Bool.not_true, Bool.not_false]); first | done | with_reducible rfl)⟩) fun w1 b he1 hb1 hs1 hc0 hc1 hc2 => ?_
  refine go ?_
  refine rc (spec_IsPresentation_ok (p := p) hl) (next := fun v5 w5 h5 => ?_)
  obtain ⟨b5, rfl, hb5, he5⟩ := h5
  have hE5 := he1.trans he5
  refine go ?_
  refine sp (fun e5 => ?_) (fun e5 => ?_)
  · subst e5
    have hv := hb5.1 rfl
    refine go ?_
    refine rc (l07Exponents_ok (os := p.ord) (xs := xs) (z := -1) (fun i hi => ?_) ?_) (next := fun v6 w6 h6 => ?_)
    · have : 2 ≤ p.ord.getD i 0 ∧ p.ord.getD i 0 ≤ 7 := hv.opos hi
      omega
    · omega
    obtain ⟨b6, rfl, hb6, he6⟩ := h6
    refine go ?_
    exact ret1 ⟨b6, rfl, ⟨fun h => ⟨hv, el_iff.1 (hb6.1 h)⟩, fun h => hb6.2 (el_iff.2 h.2)⟩, hE5.trans he6⟩
  · subst e5
    refine go ?_
    refine ret1 ⟨false, rfl, ⟨fun h => (by cases h), fun h => ?_⟩, hE5⟩
    have := hb5.2 h.1
    cases this
/-- Both are exponents of a valid presentation. -/
def ValE2 (p : Pr) (xs ys : List Int) : Prop := Valid p ∧ InR p xs ∧ InR p ys
/-- What a collected product is. -/
def ColV (p : Pr) (L : Nat) (xs ys : List Int) (r : List Int) (e : Int) : Prop := ColO p L (wordV xs ++ wordV ys) r e
theorem ColV.uniq {p : Pr} {L : Nat} {xs ys : List Int} (a b : List Int) (c d : Int) (h : ColV p L xs ys a c) (k : ColV p L xs ys b d) : a = b ∧ c = d := ColO.uniq h k
set_option maxHeartbeats 4000000 in
/-- With 2000 steps. -/
theorem spec_CollectProduct_ok {p : Pr} {w : World} {vp vx vy : Value} {xs ys : List Int} {lo hi lo1 hi1 lo2 hi2 : Nat} [hp : Pres lo hi w vp p] [hx : Ints lo1 hi1 w vx xs] [hy : Ints lo2 hi2 w vy ys] (hl : p.ord.length ≤ 2000000) :
    Calls Try.prog 7 #[vp, vx, vy, .int .i64 2000] w (Ret fun v w' => ∃ (u : Value) (r : List Int) (e : Int), v = .tuple #[u, .int .i64 e] ∧ Ans (ValE2 p xs ys) (ColV p 2000 xs ys) [] r e ∧ Ext w w' ∧ Fr w.heap.size w' u r) := by
  obtain ⟨vo, vpw, vc, ps, cs, css, rfl, h1, h2, h3⟩ := hp.ex
  replace hy := hy.wide
  refine enter (args := [.agg #[vo, vpw, vc], vx, vy, .int .i64 2000]) (l := [.tmp 8, .tmp 9]) Try.func7 rfl rfl Try.ntmps7 (by simp) ?_
  refine go ?_
  refine st_box3 (by ((try simp only [ev_tmp, ev_const, ev_func, get_put, get_args, get_putL, get_putL_nil, Nat.reduceEqDiff, reduceIte, List.getD_cons_zero, List.getD_cons_succ, List.getD_nil]); first | done | with_reducible rfl)) (by first | exact True.intro | exact ⟨_, rfl, by ((try simp only [ev_tmp, ev_const, ev_func, get_put, get_args, get_putL, get_putL_nil, Nat.reduceEqDiff, reduceIte, List.getD_cons_zero, List.getD_cons_succ, List.getD_nil, Bool.not_true, Bool.not_false]); first | done | with_reducible rfl)⟩) fun w1 b he1 hb1 hs1 hc0 hc1 hc2 => ?_
  have bad : ∀ {w' : World}, Ext w w' → ¬ ValE2 p xs ys → ∃ (u : Value) (r : List Int) (e : Int), Value.tuple #[nilv, .int .i64 1] = .tuple #[u, .int .i64 e] ∧ Ans (ValE2 p xs ys) (ColV p 2000 xs ys) [] r e ∧ Ext w w' ∧ Fr w.heap.size w' u r := fun he hn => ⟨_, [], _, rfl, .inr ⟨hn, rfl, rfl⟩, he, Fr.nilR _ _⟩
  refine go ?_
  refine rc (IsExponentVector_ok (p := p) (xs := xs) hl) (next := fun v5 w5 h5 => ?_)
  obtain ⟨b5, rfl, hb5, he5⟩ := h5
  have hE5 := he1.trans he5
  refine go ?_
  refine sp (fun e5 => ?_) (fun e5 => ?_)
  · have hn : ¬ ValE2 p xs ys := fun h => by
      have := hb5.2 ⟨h.1, h.2.1⟩
      rw [this] at e5; cases e5
    refine go ?_
    exact ret2 (bad hE5 hn)
  obtain ⟨hv, hX⟩ := hb5.1 (by simpa using e5)
  refine go ?_
  refine rc (IsExponentVector_ok (p := p) (xs := ys) hl) (next := fun v6 w6 h6 => ?_)
  obtain ⟨b6, rfl, hb6, he6⟩ := h6
  have hE6 := hE5.trans he6
  refine go ?_
  refine c_b (fun e6 => ?_) (fun e6 => ?_)
  · have hn : ¬ ValE2 p xs ys := fun h => by
      have := hb6.2 ⟨h.1, h.2.2⟩
      rw [this] at e6; cases e6
    refine go ?_
    exact ret2 (bad hE6 hn)
  have hY := (hb6.1 (by simpa using e6)).2
  have hn6 := hv.n6
  have hol : p.ord.length = p.n := rfl
  have hwx := invec_word hv hX
  have hwy := invec_word hv hY
  refine go ?_
  refine rc (l01In_ok (n := 2000) (l := 0) (h := 2000)) (next := fun v7 w7 h7 => ?_)
  obtain ⟨b7, rfl, hb7, he7⟩ := h7
  have hE7 := hE6.trans he7
  obtain rfl : b7 = true := hb7.2 (by omega)
  refine go ?_
  refine c_b (fun e7 => ?_) (fun e7 => ?_)
  · cases e7
  refine go ?_
  refine d_order [0, 1, 3, 6, 2, 4, 5, 7, 8, 9, 10, 11, 12, 13, 14] (h := fun w8 he8 _ => ?_)
  have hz7 := hE7.size
  have hz8 := he8.size
  refine dgo ?_
  refine dce (l07Word_ok (e := xs) (by omega) (fun j hj => by have := hwx.2.2 j hj; omega)) (next := fun v9 w9 h9 => ?_)
  obtain ⟨he9, hG9⟩ := h9
  have hz9 := he9.size
  refine dce (l07Word_ok (e := ys) (by omega) (fun j hj => by have := hwy.2.2 j hj; omega)) (next := fun v10 w10 h10 => ?_)
  obtain ⟨he10, hG10⟩ := h10
  have hz10 := he10.size
  have hG9' : GrowI 2 w8.heap.size w10 v9 (wordV xs) := @GrowI.ext _ _ _ _ _ _ he10 hG9
  have hO := hG9'.own
  have hsl := hG10.fr.ints.sl
  refine d_append (hv := hO) (hy := hsl) (hs := (by ((try simp only [ev_tmp, ev_const, ev_func, get_put, get_args, get_putL, get_putL_nil, Nat.reduceEqDiff, reduceIte, List.getD_cons_zero, List.getD_cons_succ, List.getD_nil]); first | done | with_reducible rfl))) (hx := (by ((try simp only [ev_tmp, ev_const, ev_func, get_put, get_args, get_putL, get_putL_nil, Nat.reduceEqDiff, reduceIte, List.getD_cons_zero, List.getD_cons_succ, List.getD_nil]); first | done | with_reducible rfl))) (hz := rfl) (h1 := oneCells (wordV ys)) (hb := by simp; omega) (hl := by simp [maxLen]; omega) (hbase := by omega) (hvb := fun g hg => by have := (hO.lt g hg).1; omega) (next := fun v11 w11 ho hg hA => ?_)
  have hx11 : Ext w8 w11 := Ext.app (he9.trans he10) hg fun k hk => (hO.lt k hk).1
  have hG11 : GrowI 2 w8.heap.size w11 v11 (wordV xs ++ wordV ys) := ⟨by simpa using ho⟩
  have hi11 := hG11.fr.ints
  have hz11 := hx11.size
  refine dgo ?_
  refine dce (l09Collect_ok (p := p) hv (ws := wordV xs ++ wordV ys) (L := 2000) (by simp; omega) ((letP_word (by omega)).app (letP_word (by omega))) rfl (by omega)) (hR := by rintro _ _ ⟨_, _, _, _, _, _, _, _, h, _⟩; exact h) (next := fun v12 w12 h12 => ?_)
  obtain ⟨u, r, k, e, b12, rfl, hC, hb12, he12, hf12⟩ := h12
  refine dgo ?_
  refine d_end (h := ?_)
  have hE12 := (hE7.trans (he8.trans hx11)).trans he12
  have hV : ColV p 2000 xs ys r e := hC
  rcases hb12 with ⟨rfl, rfl⟩ | ⟨rfl, rfl, rfl⟩
  · refine go ?_
    refine c_b (fun e8 => ?_) (fun e8 => ?_)
    · cases e8
    refine go ?_
    exact ret2 ⟨_, r, 0, rfl, .inl ⟨⟨hv, hX, hY⟩, hV⟩, hE12, hf12.mono (by omega)⟩
  · refine go ?_
    refine c_b (fun e8 => ?_) (fun e8 => ?_)
    rotate_left
    · cases e8
    refine go ?_
    exact ret2 ⟨_, [], 3, rfl, .inl ⟨⟨hv, hX, hY⟩, hV⟩, hE12, Fr.nilR _ _⟩
end Go.Proofs.Ytflniifngfiekaa

/-
  Walks: the program's reducible, reducibleAt, slices.Concat of rows of integers, stepAt, collect, CollectProduct.
  Conditions: stated at each theorem.
-/
namespace Go.Pc
open Go Go.RowKit
section
variable {P : Program} {N : Nat} {ops : Array Oper} {π : List Nat} {K : Env → World → Prop} {ρ : Env} {w w0 : World}
variable {i : Nat} {d : Nat} {ty : TypeId} {pos : String} {after : Array Edge} {g : Option (Nat × Bool)}
/-- A literal of any number of parts, in a drawn region that writes nothing of old. -/
theorem d_sliceN {t e bytes n : Nat} {parts : Array (Nat × Operand)} {us : List Value} {z : Value} [ht : SlT P t e] [he : ElT P e 1 bytes z] (hu : ∀ u, u ∈ us → u.cells = #[u]) (next : ∀ w' v, Ext w w' → w'.heap.size = w.heap.size + 1 → Own e w.heap.size w' v us → dops P N ops π (Ext w0) K (i + 1) (put ρ d v) w')
    (hi : opAt ops π i = some ⟨some d, .buildSlice t n parts, ty, pos, after, g⟩ := by exact rfl) (hp : parts.map (fun x => (x.1, ev ρ x.2)) = (us.zipIdx.map fun x => (x.2, x.1)).toArray := by ((try simp only [ev_tmp, ev_const, ev_func, get_put, get_args, get_putL, get_putL_nil, Nat.reduceEqDiff, reduceIte, List.getD_cons_zero, List.getD_cons_succ, List.getD_nil, List.map_toArray, List.map_cons, List.map_nil]); rfl)) (hn' : n = us.length := by rfl) (hz : z.cells = #[z] := by rfl) (hl : n ≤ 1000 := by decide)
    (hn : nextOk ops π i = true := by decide +kernel) (hd : d < N := by decide) (hg : Wants ops ρ g := by first | exact True.intro | exact ⟨_, rfl, by ((try simp only [ev_tmp, ev_const, ev_func, get_put, get_args, get_putL, get_putL_nil, Nat.reduceEqDiff, reduceIte, List.getD_cons_zero, List.getD_cons_succ, List.getD_nil, Bool.not_true, Bool.not_false]); first | done | with_reducible rfl)⟩) : dops P N ops π (Ext w0) K i ρ w := by
  obtain ⟨v, w', h1, h2, h3, h4⟩ := run_sliceN (P := P) (ρ := ρ) (ty := ty) (t := t) hp hn' hu hz hl w
  exact dt_ex hi hn hd hg h1 (fun hS => hS.trans h2) (next w' v h2 h3 h4)
theorem dsq_slice1 {t e bytes : Nat} {x : Operand} {u z : Value} [ht : SlT P t e] [he : ElT P e 1 bytes z] (next : ∀ w' v, Ext w w' → w'.heap.size = w.heap.size + 1 → Own e w.heap.size w' v [u] → dops P N ops π (Ext w0) K (i + 1) (put ρ d v) w')
    (hi : opAt ops π i = some ⟨some d, .buildSlice t 1 #[(0, x)], ty, pos, after, g⟩ := by exact rfl) (h : ev ρ x = u := by ((try simp only [ev_tmp, ev_const, ev_func, get_put, get_args, get_putL, get_putL_nil, Nat.reduceEqDiff, reduceIte, List.getD_cons_zero, List.getD_cons_succ, List.getD_nil]); first | done | with_reducible rfl)) (hu : u.cells = #[u] := by rfl) (hz : z.cells = #[z] := by rfl) (hd : d < N := by decide) (hg : Wants ops ρ g := by first | exact True.intro | exact ⟨_, rfl, by ((try simp only [ev_tmp, ev_const, ev_func, get_put, get_args, get_putL, get_putL_nil, Nat.reduceEqDiff, reduceIte, List.getD_cons_zero, List.getD_cons_succ, List.getD_nil, Bool.not_true, Bool.not_false]); first | done | with_reducible rfl)⟩) : dstp P N ops π (Ext w0) K i ρ w := by
  obtain ⟨v, w', hr, he', hs, hsl⟩ := run_slice1o (P := P) (ρ := ρ) (ty := ty) (w := w) (t := t) (ht := ht) (he := he) h hu hz
  exact dstp_ex hi hd hg hr (fun hS => hS.trans he') (next w' v he' hs hsl)
theorem dq_slice1 {t e bytes : Nat} {x : Operand} {u z : Value} [ht : SlT P t e] [he : ElT P e 1 bytes z] (next : ∀ w' v, Ext w w' → w'.heap.size = w.heap.size + 1 → Own e w.heap.size w' v [u] → dops P N ops π (Ext w0) K (i + 1) (put ρ d v) w')
    (hi : opAt ops π i = some ⟨some d, .buildSlice t 1 #[(0, x)], ty, pos, after, g⟩ := by exact rfl) (h : ev ρ x = u := by ((try simp only [ev_tmp, ev_const, ev_func, get_put, get_args, get_putL, get_putL_nil, Nat.reduceEqDiff, reduceIte, List.getD_cons_zero, List.getD_cons_succ, List.getD_nil]); first | done | with_reducible rfl)) (hu : u.cells = #[u] := by rfl) (hz : z.cells = #[z] := by rfl) (hn : nextOk ops π i = true := by decide +kernel) (hd : d < N := by decide) (hg : Wants ops ρ g := by first | exact True.intro | exact ⟨_, rfl, by ((try simp only [ev_tmp, ev_const, ev_func, get_put, get_args, get_putL, get_putL_nil, Nat.reduceEqDiff, reduceIte, List.getD_cons_zero, List.getD_cons_succ, List.getD_nil, Bool.not_true, Bool.not_false]); first | done | with_reducible rfl)⟩) : dops P N ops π (Ext w0) K i ρ w := by
  obtain ⟨v, w', hr, he', hs, hsl⟩ := run_slice1o (P := P) (ρ := ρ) (ty := ty) (w := w) (t := t) (ht := ht) (he := he) h hu hz
  exact dt_ex hi hn hd hg hr (fun hS => hS.trans he') (next w' v he' hs hsl)
end
end Go.Pc
namespace Go.Proofs.Ytflniifngfiekaa
open Go Go.Pc
set_option maxHeartbeats 4000000 in
theorem reducible_ok {p : Pr} (hv : Valid p) {w : World} {vp vw : Value} {ws : List Int} {t lo hi lo1 hi1 : Nat} {kt : Int} [hp : PresP lo hi w vp p] [hw : Ints lo1 hi1 w vw ws] (hl : ws.length ≤ 1000) (hL : LetP p.n ws) (hkt : kt = t) (ht : t < ws.length) :
    Calls Try.prog 49 #[vp, vw, .int .i64 kt] w (Ret fun v w' => ∃ b, v = .bool b ∧ (b = true ↔ Red p ws t) ∧ Ext w w') := by
  subst hkt
  have hn6 := hv.n6
  have hol : p.ord.length = p.n := rfl
  have hlt := hL.at ht
  have hg : gi ws t < p.n := by unfold gi; omega
  have ho := hv.opos hg
  have hoe : p.ord.getD ((ws.getD t 0).toNat - 1) 0 = p.o (gi ws t) := rfl
  have hoW : oW p ws t = (p.o (gi ws t)).toNat := rfl
  obtain ⟨bP, og, vo, vpw, vc, ps, cs, css, rfl, hb1, hb2, hc0, hc1, hc2, h1, h2, h3⟩ := hp.ex
  refine enter (args := [.pointer (some ⟨bP, og, none⟩), vw, .int .i64 t]) (l := [.tmp 6]) Try.func49 rfl rfl Try.ntmps49 (by simp) ?_
  refine go ?_
  refine d_post (fun ρ' w' => ∃ b : Bool, Has ρ' [(0, .pointer (some ⟨bP, og, none⟩)), (1, vw), (2, .int .i64 t), (26, .bool b)] ∧ Ext w w' ∧ (b = true ↔ Dsc ws t)) ?_ ?_
  · refine d_region fun w2 he2 _ => ?_
    refine dgo ?_
    refine dspd (fun q1 => ?_) (fun q1 => ?_)
    · have hd1 := hL.at (t := t + 1) (by omega)
      refine dgo ?_
      refine d_end (h := ?_)
      refine ⟨rfl, decide (ws.getD (t + 1) 0 < ws.getD t 0), ?_, he2, ?_⟩
      rotate_left
      · rw [decide_eq_true_eq]
        exact ⟨fun h => ⟨by omega, h⟩, fun h => h.2⟩
      exact hasP
    · refine dgo ?_
      refine d_end (h := ?_)
      refine ⟨rfl, false, ?_, he2, ⟨fun h => (by cases h), fun h => absurd (by have := h.1; omega) q1⟩⟩
      exact hasP
  rintro ρ' w2 ⟨b2, hH, he2, hb2⟩
  refine thn_normal (rwp_has hH fun ρ0 => ?_)
  refine go ?_
  refine c_b (fun q2 => ?_) (fun q2 => ?_)
  · refine go ?_
    exact ret1 ⟨true, rfl, ⟨fun _ => .inl (hb2.1 q2), fun _ => rfl⟩, he2⟩
  have hnd : ¬ Dsc ws t := fun h => by rw [hb2.2 h] at q2; cases q2
  refine go ?_
  refine d_region fun w3 he3 _ => ?_
  refine dgo ?_
  refine d_end (h := ?_)
  rw [hoe]
  obtain ⟨o, hoo⟩ : ∃ o : Nat, p.o (gi ws t) = o := ⟨(p.o (gi ws t)).toNat, by omega⟩
  rw [hoo] at ho hoW ⊢
  rw [Int.toNat_natCast] at hoW
  have hE3 := he2.trans he3
  refine go ?_
  refine c_if (fun q3 => ?_) (fun q3 => ?_)
  · refine go ?_
    refine ret1 ⟨false, rfl, ⟨fun h => (by cases h), fun h => ?_⟩, hE3⟩
    rcases h with h | h
    · exact absurd h hnd
    · have := h.1
      omega
  have hcut := hw.cut (l := t) (k := t + o) (by omega) (by omega)
  have hcl : ((ws.take (t + o)).drop t).length = o := by simp; omega
  have hcg : ∀ j, j < o → ((ws.take (t + o)).drop t).getD j 0 = ws.getD (t + j) 0 := fun j hj => by
    rw [List.getD_eq_getElem?_getD, List.getElem?_drop, List.getElem?_take_of_lt (by omega), ← List.getD_eq_getElem?_getD]
  obtain ⟨cs', hcs⟩ : ∃ cs', (ws.take (t + o)).drop t = cs' := ⟨_, rfl⟩
  rw [hcs] at hcut hcl hcg
  refine go ?_
  refine r_for o (fun j ρ w' => Has ρ [(1, vw), (2, .int .i64 t), (49, Pc.cut vw t (t + o)), (50, .int .i64 o), (51, .int .i64 j)] ∧ Ext w w' ∧ ∀ i, i < j → ws.getD (t + i) 0 = ws.getD t 0) ?_ ?_
  · refine ⟨?_, hE3, fun i hi => by omega⟩
    exact hasP
  rintro j ρ w4 hj ⟨hH, he4, hall⟩
  refine rwp_has hH fun ρ0 => ?_
  refine go ?_
  refine c_if (fun q4 => ?_) (fun q4 => ?_)
  · have hjo : j < o := by omega
    have hgj := hcg j hjo
    refine go ?_
    refine c_if (fun q5 => ?_) (fun q5 => ?_)
    · refine go ?_
      refine ret1 ⟨false, rfl, ⟨fun h => (by cases h), fun h => ?_⟩, he4⟩
      rcases h with h | h
      · exact absurd h hnd
      · exact absurd (hgj.trans (h.2 j (by omega))) q5
    · refine go ?_
      refine forQ_normal (by omega) ⟨?_, he4, fun i hi => ?_⟩
      · exact hasP
      · by_cases e : i = j
        · subst e; rw [← hgj]; exact Decidable.not_not.1 q5
        · exact hall i (by omega)
  · refine go ?_
    exact ret1 ⟨true, rfl, ⟨fun _ => .inr ⟨by omega, fun i hi => hall i (by omega)⟩, fun _ => rfl⟩, he4⟩
set_option maxHeartbeats 2000000 in
theorem reducibleAt_ok {p : Pr} (hv : Valid p) {w : World} {vp vw : Value} {ws : List Int} {lo hi lo1 hi1 : Nat} [hp : PresP lo hi w vp p] [hw : Ints lo1 hi1 w vw ws] (hl : ws.length ≤ 1000) (hL : LetP p.n ws) :
    Calls Try.prog 33 #[vp, vw] w (Ret fun v w' => ((v = .int .i64 (-1) ∧ Nrm p ws) ∨ ∃ t : Nat, v = .int .i64 t ∧ Fst p ws t) ∧ Ext w w') := by
  obtain ⟨bP, og, vo, vpw, vc, ps, cs, css, rfl, hb1, hb2, hc0, hc1, hc2, h1, h2, h3⟩ := hp.ex
  refine enter (args := [.pointer (some ⟨bP, og, none⟩), vw]) (l := [.tmp 4]) Try.func33 rfl rfl Try.ntmps33 (by simp) ?_
  refine go ?_
  refine r_for ws.length (fun t ρ w' => Has ρ [(0, .pointer (some ⟨bP, og, none⟩)), (1, vw), (7, .int .i64 ws.length), (8, .int .i64 t)] ∧ Ext w w' ∧ ∀ s, s < t → ¬ Red p ws s) ?_ ?_
  · refine ⟨?_, Ext.refl _, fun s hs => by omega⟩
    exact hasP
  rintro t ρ w2 ht ⟨hH, he2, hs⟩
  refine rwp_has hH fun ρ0 => ?_
  refine go ?_
  refine c_if (fun q1 => ?_) (fun q1 => ?_)
  · refine go ?_
    refine rc (reducible_ok (p := p) hv (t := t) hl hL rfl (by omega)) (next := fun v3 w3 h3 => ?_)
    obtain ⟨b3, rfl, hb3, he3⟩ := h3
    refine go ?_
    refine c_b (fun q2 => ?_) (fun q2 => ?_)
    · refine go ?_
      exact ret1 ⟨.inr ⟨t, rfl, by omega, hb3.1 q2, hs⟩, he2.trans he3⟩
    · refine go ?_
      refine forQ_normal (by omega) ⟨?_, he2.trans he3, fun s hs' => ?_⟩
      · exact hasP
      · by_cases e : s = t
        · subst e; exact fun h => by rw [hb3.2 h] at q2; cases q2
        · exact hs s (by omega)
  · refine go ?_
    exact ret1 ⟨.inl ⟨rfl, fun s hs' => hs s (by omega)⟩, he2⟩
theorem growInts_ok {w : World} {n : Nat} {k : Int} (hk : k = n) (hn : n ≤ 1000000) :
    Calls Try.prog 60 #[nilv, .int .i64 k] w (Ret fun v w' => Ext w w' ∧ OwnN 2 w.heap.size w' v []) := by
  subst hk
  have hl0 : Len w nilv 0 := ⟨⟨none, 0, rfl, Nat.le_refl _, by omega, fun h => by omega⟩⟩
  refine enter (args := [nilv, .int .i64 n]) (l := [.tmp 4]) Try.func60 rfl rfl Try.ntmps60 (by simp) ?_
  refine go ?_
  refine c_if (fun h4 => ?_) (fun h4 => ?_)
  · omega
  refine go ?_
  refine ra (h := rd_cap_nil (by ((try simp only [ev_tmp, ev_const, ev_func, get_put, get_args, get_putL, get_putL_nil, Nat.reduceEqDiff, reduceIte, List.getD_cons_zero, List.getD_cons_succ, List.getD_nil]); first | done | with_reducible rfl))) (next := ?_)
  refine go ?_
  refine c_if (fun h5 => ?_) (fun h5 => ?_)
  · refine go ?_
    refine ra (h := rd_cap_nil (by ((try simp only [ev_tmp, ev_const, ev_func, get_put, get_args, get_putL, get_putL_nil, Nat.reduceEqDiff, reduceIte, List.getD_cons_zero, List.getD_cons_succ, List.getD_nil]); first | done | with_reducible rfl))) (next := ?_)
    refine go ?_
    have hkk : (n : Int) - (0 - ((0 : Nat) : Int)) = (n : Int) := by omega
    rw [hkk, show cutTo nilv 0 = nilv from rfl]
    refine st_appz (n := n) Try.underlying3 (by ((try simp only [ev_tmp, ev_const, ev_func, get_put, get_args, get_putL, get_putL_nil, Nat.reduceEqDiff, reduceIte, List.getD_cons_zero, List.getD_cons_succ, List.getD_nil]); first | done | with_reducible rfl)) (by ((try simp only [ev_tmp, ev_const, ev_func, get_put, get_args, get_putL, get_putL_nil, Nat.reduceEqDiff, reduceIte, List.getD_cons_zero, List.getD_cons_succ, List.getD_nil]); first | done | with_reducible rfl)) (by omega) hn (by decide) rfl (by first | exact True.intro | exact ⟨_, rfl, by ((try simp only [ev_tmp, ev_const, ev_func, get_put, get_args, get_putL, get_putL_nil, Nat.reduceEqDiff, reduceIte, List.getD_cons_zero, List.getD_cons_succ, List.getD_nil, Bool.not_true, Bool.not_false]); first | done | with_reducible rfl)⟩) fun w1 v1 he1 hl1 ho1 => ?_
    refine go ?_
    exact ret1 ⟨he1, ho1.toN⟩
  · refine go ?_
    exact ret1 ⟨Ext.refl _, OwnN.nil _ _ _⟩
theorem flat_take_len (L : List (List Int)) {m : Nat} (h : ∀ i, (L.getD i []).length ≤ m) : ∀ k, k ≤ L.length → ((L.take k).flatten).length ≤ m * k
  | 0, _ => by simp
  | k + 1, hk => by
    rw [flat_take L (show k < L.length by omega), List.length_append]
    have h1 := flat_take_len L h k (by omega)
    have h2 := h k
    rw [Nat.mul_succ]
    omega
set_option maxHeartbeats 2000000 in
theorem concatI_ok {w : World} {v : Value} {us : List Value} {xss : List (List Int)} {lo hi : Nat} [hl : Pc.Rows lo hi w v us xss] (h4 : xss.length ≤ 4) (hx : ∀ i, (xss.getD i []).length ≤ 10000) :
    Calls Try.prog 50 #[v] w (Ret fun v' w' => Ext w w' ∧ GrowI 2 w.heap.size w' v' xss.flatten) := by
  replace hl := hl.wide
  have hul := hl.vals.len
  refine enter (args := [v]) (l := [.tmp 2]) Try.func50 rfl rfl Try.ntmps50 (by simp) ?_
  refine go ?_
  refine r_for xss.length (fun k ρ w' => ∃ s : Nat, Has ρ [(0, v), (3, .int .i64 s), (9, v), (10, .int .i64 xss.length), (11, .int .i64 k)] ∧ Ext w w' ∧ s ≤ 10000 * k) ?_ ?_
  · refine ⟨0, ?_, Ext.refl _, Nat.zero_le _⟩
    exact hasP
  rintro k ρ w2 hk ⟨s, hH, he2, hs⟩
  refine rwp_has hH fun ρ0 => ?_
  refine go ?_
  refine c_if (fun q1 => ?_) (fun q1 => ?_)
  · have hlk := hx k
    refine go ?_
    refine c_if (fun q2 => ?_) (fun q2 => ?_)
    · omega
    refine go ?_
    refine forQ_normal (by omega) ⟨s + (xss.getD k []).length, ?_, he2, by omega⟩
    exact hasP
  refine go ?_
  refine rc (growInts_ok (n := s) rfl (by omega)) (next := fun v3 w3 h5 => ?_)
  obtain ⟨he3, ho3⟩ := h5
  have hE3 := he2.trans he3
  have hz2 := he2.size
  refine go ?_
  refine r_for xss.length (fun k ρ w' => ∃ vl, Has ρ [(6, vl), (25, v), (26, .int .i64 xss.length), (27, .int .i64 k)] ∧ Ext w w' ∧ GrowI 2 w.heap.size w' vl ((xss.take k).flatten)) ?_ ?_
  · refine ⟨v3, ?_, hE3, ⟨by simpa using ho3.mono hz2⟩⟩
    exact hasP
  clear ho3
  rintro k ρ w4 hk ⟨vl, hH4, he4, hG4⟩
  refine rwp_has hH4 fun ρ1 => ?_
  have hz4 := he4.size
  refine go ?_
  refine c_if (fun q4 => ?_) (fun q4 => ?_)
  · have hlk := hx k
    have hkx : k < xss.length := by omega
    have hrow : Ints 0 w.heap.size w4 (Pc.rowAt v us k) (xss.getD k []) := (hl.vals.at_ k).same (he4.same _ _)
    have hfl := flat_take_len xss hx k (by omega)
    refine go ?_
    refine st_appi hG4 hrow hz4 (by omega) (next := fun v5 w5 hG5 hx5 hz5 => ?_)
    refine go ?_
    refine forQ_normal (by omega) ⟨v5, ?_, hx5 w he4 (Nat.le_refl _), ?_⟩
    · exact hasP
    · rw [flat_take _ hkx]
      exact hG5
  · obtain rfl : k = xss.length := by omega
    rw [List.take_length] at hG4
    refine go ?_
    exact ret1 ⟨he4, hG4⟩
theorem rows_four {w : World} {v u0 u1 u2 u3 : Value} {x0 x1 x2 x3 : List Int} {lo hi l0 h0 l1 h1 l2 h2 l3 h3 : Nat} (k0 : Ints l0 h0 w u0 x0) (k1 : Ints l1 h1 w u1 x1) (k2 : Ints l2 h2 w u2 x2) (k3 : Ints l3 h3 w u3 x3) (hs : Sl lo hi w v [u0, u1, u2, u3]) : Pc.Rows 0 w.heap.size w v [u0, u1, u2, u3] [x0, x1, x2, x3] := by
  refine ⟨hs.wide, rfl, fun i => ?_⟩
  match i with
  | 0 => exact k0.wide
  | 1 => exact k1.wide
  | 2 => exact k2.wide
  | 3 => exact k3.wide
  | i + 4 => exact (Ints.nil_ w).mono (Nat.le_refl 0) (Nat.zero_le _)
theorem rows_three {w : World} {v u0 u1 u2 : Value} {x0 x1 x2 : List Int} {lo hi l0 h0 l1 h1 l2 h2 : Nat} (k0 : Ints l0 h0 w u0 x0) (k1 : Ints l1 h1 w u1 x1) (k2 : Ints l2 h2 w u2 x2) (hs : Sl lo hi w v [u0, u1, u2]) : Pc.Rows 0 w.heap.size w v [u0, u1, u2] [x0, x1, x2] := by
  refine ⟨hs.wide, rfl, fun i => ?_⟩
  match i with
  | 0 => exact k0.wide
  | 1 => exact k1.wide
  | 2 => exact k2.wide
  | i + 3 => exact (Ints.nil_ w).mono (Nat.le_refl 0) (Nat.zero_le _)
theorem len_four {x0 x1 x2 x3 : List Int} {m : Nat} (h0 : x0.length ≤ m) (h1 : x1.length ≤ m) (h2 : x2.length ≤ m) (h3 : x3.length ≤ m) (i : Nat) : (([x0, x1, x2, x3] : List (List Int)).getD i []).length ≤ m := by
  match i with
  | 0 => exact h0
  | 1 => exact h1
  | 2 => exact h2
  | 3 => exact h3
  | i + 4 => exact Nat.zero_le _
theorem len_three {x0 x1 x2 : List Int} {m : Nat} (h0 : x0.length ≤ m) (h1 : x1.length ≤ m) (h2 : x2.length ≤ m) (i : Nat) : (([x0, x1, x2] : List (List Int)).getD i []).length ≤ m := by
  match i with
  | 0 => exact h0
  | 1 => exact h1
  | 2 => exact h2
  | i + 3 => exact Nat.zero_le _
theorem cells_four {u0 u1 u2 u3 : Value} (h0 : u0.cells = #[u0]) (h1 : u1.cells = #[u1]) (h2 : u2.cells = #[u2]) (h3 : u3.cells = #[u3]) : ∀ u, u ∈ [u0, u1, u2, u3] → u.cells = #[u] :=
  List.forall_mem_cons.2 ⟨h0, List.forall_mem_cons.2 ⟨h1, List.forall_mem_cons.2 ⟨h2, List.forall_mem_cons.2 ⟨h3, List.forall_mem_nil _⟩⟩⟩⟩
theorem cells_three {u0 u1 u2 : Value} (h0 : u0.cells = #[u0]) (h1 : u1.cells = #[u1]) (h2 : u2.cells = #[u2]) : ∀ u, u ∈ [u0, u1, u2] → u.cells = #[u] :=
  List.forall_mem_cons.2 ⟨h0, List.forall_mem_cons.2 ⟨h1, List.forall_mem_cons.2 ⟨h2, List.forall_mem_nil _⟩⟩⟩
set_option maxHeartbeats 8000000 in
theorem stepAt_ok {p : Pr} (hv : Valid p) {w : World} {vp vw : Value} {ws : List Int} {t lo hi lo1 hi1 : Nat} {kt : Int} [hp : PresP lo hi w vp p] [hw : Ints lo1 hi1 w vw ws] (hl : ws.length ≤ 1000) (hL : LetP p.n ws) (hkt : kt = t) (hF : Fst p ws t) :
    Calls Try.prog 34 #[vp, vw, .int .i64 kt] w (Ret fun v w' => Ext w w' ∧ Fr w.heap.size w' v (stepW p ws t)) := by
  subst hkt
  have hn6 := hv.n6
  have hol : p.ord.length = p.n := rfl
  have hpl : p.pow.length = p.n := hv.lenw
  have hcl : p.cnj.length = p.n := hv.lenc
  have ht := hF.1
  have hlt := hL.at ht
  have hg : gi ws t < p.n := by unfold gi; omega
  have ho := hv.opos hg
  have eJ : ws.getD t 0 - 1 = ((gi ws t : Nat) : Int) := by unfold gi; omega
  replace hw := hw.wide
  have hlen := hw.toLen
  have hcut1 := hw.cutTo (m := t) (by omega)
  have htl : (ws.take t).length ≤ 1000 := by rw [List.length_take]; omega
  obtain ⟨bP, og, vo, vpw, vc, ps, cs, css, rfl, hb1, hb2, hc0, hc1, hc2, h1, h2, h3⟩ := hp.ex
  refine enter (args := [.pointer (some ⟨bP, og, none⟩), vw, .int .i64 t]) (l := [.tmp 6]) Try.func34 rfl rfl Try.ntmps34 (by simp) ?_
  refine go ?_
  refine d_post (fun ρ' w' => ∃ b : Bool, Has ρ' [(0, .pointer (some ⟨bP, og, none⟩)), (1, vw), (2, .int .i64 t), (26, .bool b)] ∧ Ext w w' ∧ (b = true ↔ Dsc ws t)) ?_ ?_
  · refine d_region fun w2 he2 _ => ?_
    refine dgo ?_
    refine dspd (fun q1 => ?_) (fun q1 => ?_)
    · have hd1 := hL.at (t := t + 1) (by omega)
      refine dgo ?_
      refine d_end (h := ?_)
      refine ⟨rfl, decide (ws.getD (t + 1) 0 < ws.getD t 0), ?_, he2, ?_⟩
      rotate_left
      · rw [decide_eq_true_eq]
        exact ⟨fun h => ⟨by omega, h⟩, fun h => h.2⟩
      exact hasP
    · refine dgo ?_
      refine d_end (h := ?_)
      refine ⟨rfl, false, ?_, he2, ⟨fun h => (by cases h), fun h => absurd (by have := h.1; omega) q1⟩⟩
      exact hasP
  rintro ρ' w2 ⟨b2, hH, he2, hb2⟩
  refine thn_normal (rwp_has hH fun ρ0 => ?_)
  refine go ?_
  refine c_b (fun q2 => ?_) (fun q2 => ?_)
  · have hD : Dsc ws t := hb2.1 q2
    have hD1 := hD.1
    have hd1 := hL.at (t := t + 1) (by omega)
    have hgI : gi ws (t + 1) < gi ws t := by unfold gi; have := hD.2; omega
    have eI : ws.getD (t + 1) 0 - 1 = ((gi ws (t + 1) : Nat) : Int) := by unfold gi; omega
    have eI2 : ((gi ws (t + 1) : Nat) : Int) + 1 = ws.getD (t + 1) 0 := by omega
    have hci := hv.lenci (gi ws (t + 1)) (by omega)
    have hcv := invec_word hv (hv.c_in _ _ hgI hg)
    have hcd : p.c (gi ws (t + 1)) (gi ws t) = (p.cnj.getD (gi ws (t + 1)) []).getD (gi ws t - gi ws (t + 1) - 1) [] := rfl
    rw [hcd] at hcv
    have hstep := stepW_d (p := p) hD
    rw [hcd] at hstep
    obtain ⟨J, hJ⟩ : ∃ J, gi ws t = J := ⟨_, rfl⟩
    obtain ⟨I, hI⟩ : ∃ I, gi ws (t + 1) = I := ⟨_, rfl⟩
    rw [hJ] at eJ hcv hgI hg hstep
    rw [hI] at eI eI2 hci hcv hgI hstep
    have hcut2 := hw.cut (l := t + 2) (k := ws.length) (by omega) (Nat.le_refl _)
    rw [List.take_length] at hcut2
    have hdl : (ws.drop (t + 2)).length ≤ 1000 := by rw [List.length_drop]; omega
    refine go ?_
    refine d_region fun w4 he4 _ => ?_
    refine dgo ?_
    refine d_end (h := ?_)
    rw [eJ, eI]
    have hE4 := he2.trans he4
    refine go ?_
    refine d_post (fun ρ' w' => ∃ v, Has ρ' [(6, v)] ∧ Ext w w' ∧ Fr w.heap.size w' v (stepW p ws t)) ?_ ?_
    · refine d_order [0, 1, 2, 3, 4, 6, 7, 8, 9, 10, 11, 12, 13, 14, 15, 16, 17, 18, 20, 21, 22, 23, 5, 19, 24, 25, 26] (h := fun w5 he5 _ => ?_)
      have hE5 := hE4.trans he5
      refine dgo ?_
      refine da (v := Pc.cutTo vw t) (h := ⟨fun w' _ => by
        haveI : Len w' vw ws.length := ⟨hlen.ex⟩
        exact rd_slice_h (by ((try simp only [ev_tmp, ev_const, ev_func, get_put, get_args, get_putL, get_putL_nil, Nat.reduceEqDiff, reduceIte, List.getD_cons_zero, List.getD_cons_succ, List.getD_nil]); first | done | with_reducible rfl)) (by ((try simp only [ev_tmp, ev_const, ev_func, get_put, get_args, get_putL, get_putL_nil, Nat.reduceEqDiff, reduceIte, List.getD_cons_zero, List.getD_cons_succ, List.getD_nil]); first | done | with_reducible rfl)) (by omega) (by omega)⟩) (next := ?_)
      refine dgo ?_
      refine da (v := Pc.cut vw (t + 2) ws.length) (h := ⟨fun w' _ => by
        haveI : Len w' vw ws.length := ⟨hlen.ex⟩
        exact rd_slice_l (by ((try simp only [ev_tmp, ev_const, ev_func, get_put, get_args, get_putL, get_putL_nil, Nat.reduceEqDiff, reduceIte, List.getD_cons_zero, List.getD_cons_succ, List.getD_nil]); first | done | with_reducible rfl)) (by ((try simp only [ev_tmp, ev_const, ev_func, get_put, get_args, get_putL, get_putL_nil, Nat.reduceEqDiff, reduceIte, List.getD_cons_zero, List.getD_cons_succ, List.getD_nil]); first | done | with_reducible rfl)) (by omega) (by omega)⟩) (next := ?_)
      rw [eI2]
      have hc5a := hcut1.same (hE5.same _ _)
      have hc5b := hcut2.same (hE5.same _ _)
      have fin : ∀ {w6 : World} {v8 v7 v6 : Value} {l6 h6 l7 h7 l8 h8 : Nat}, Ext w w6 → Sl l8 h8 w6 v8 [Pc.cutTo vw t, v7, v6, Pc.cut vw (t + 2) ws.length] → Ints l7 h7 w6 v7 [ws.getD (t + 1) 0] → Ints l6 h6 w6 v6 (wordV ((p.cnj.getD I []).getD (J - I - 1) [])) → Pc.Rows 0 w6.heap.size w6 v8 [Pc.cutTo vw t, v7, v6, Pc.cut vw (t + 2) ws.length] [ws.take t, [ws.getD (t + 1) 0], wordV ((p.cnj.getD I []).getD (J - I - 1) []), ws.drop (t + 2)] := fun x k0 k1 k2 => rows_four (hcut1.same (x.same _ _)) k1 k2 (hcut2.same (x.same _ _)) k0
      have hfl : ([ws.take t, [ws.getD (t + 1) 0], wordV ((p.cnj.getD I []).getD (J - I - 1) []), ws.drop (t + 2)] : List (List Int)).flatten = stepW p ws t := by
        rw [hstep]; simp
      have hln := len_four (m := 10000) (x0 := ws.take t) (x1 := [ws.getD (t + 1) 0]) (x2 := wordV ((p.cnj.getD I []).getD (J - I - 1) [])) (x3 := ws.drop (t + 2)) (by omega) (by simp) (by omega) (by omega)
      have hz5 := hE5.size
      refine dt_fork (π' := [0, 1, 2, 3, 4, 6, 7, 8, 9, 10, 11, 12, 13, 14, 15, 16, 17, 18, 20, 21, 22, 23, 19, 5, 24, 25, 26]) (by decide) rfl rfl (by decide +kernel) ?_ ?_
      · refine dsq_slice1 (t := 24) (u := .int .i64 (ws.getD (t + 1) 0)) (next := fun w6 v7 he6 hz6 ho7 => ?_)
        refine dce (normalWord_ok (e := (p.cnj.getD I []).getD (J - I - 1) []) (by omega) (fun j hj => by have := hcv.2.2 j hj; omega)) (next := fun v6 w7 h7 => ?_)
        obtain ⟨he7, hG6⟩ := h7
        have hi6 := hG6.fr.ints
        have hi7' : Ints _ _ w6 v7 [ws.getD (t + 1) 0] := ⟨ho7.toSl⟩
        have hi7 := hi7'.same (he7.same _ _)
        have hz6' := he6.size
        have hz7' := he7.size
        refine d_sliceN (t := 25) (us := [Pc.cutTo vw t, v7, v6, Pc.cut vw (t + 2) ws.length]) (cells_four hc5a.sl.cells hi7.sl.cells hi6.sl.cells hc5b.sl.cells) (next := fun w8 v8 he8 hz8 ho8 => ?_)
        have hE8 := ((hE5.trans he6).trans he7).trans he8
        have hR := fin hE8 ho8.toSl (hi7.same (he8.same _ _)) (hi6.same (he8.same _ _))
        have hz8' := he8.size
        refine dce (concatI_ok (by simp) hln) (next := fun v9 w9 h9 => ?_)
        obtain ⟨he9, hG9⟩ := h9
        rw [hfl] at hG9
        refine dgo ?_
        refine d_end (h := ?_)
        refine ⟨rfl, v9, ?_, hE8.trans he9, hG9.fr.mono (by omega)⟩
        exact hasP
      · refine ds_call (normalWord_ok (e := (p.cnj.getD I []).getD (J - I - 1) []) (by omega) (fun j hj => by have := hcv.2.2 j hj; omega)) (next := fun v6 w6 h6 => ?_)
        obtain ⟨he6, hG6⟩ := h6
        refine dq_slice1 (t := 24) (u := .int .i64 (ws.getD (t + 1) 0)) (next := fun w7 v7 he7 hz7 ho7 => ?_)
        have hi6 := (hG6.fr.ints).same (he7.same _ _)
        have hi7 : Ints _ _ w7 v7 [ws.getD (t + 1) 0] := ⟨ho7.toSl⟩
        have hz6 := he6.size
        have hz7' := he7.size
        refine d_sliceN (t := 25) (us := [Pc.cutTo vw t, v7, v6, Pc.cut vw (t + 2) ws.length]) (cells_four hc5a.sl.cells hi7.sl.cells hi6.sl.cells hc5b.sl.cells) (next := fun w8 v8 he8 hz8 ho8 => ?_)
        have hE8 := ((hE5.trans he6).trans he7).trans he8
        have hR := fin hE8 ho8.toSl (hi7.same (he8.same _ _)) (hi6.same (he8.same _ _))
        have hz8' := he8.size
        refine dce (concatI_ok (by simp) hln) (next := fun v9 w9 h9 => ?_)
        obtain ⟨he9, hG9⟩ := h9
        rw [hfl] at hG9
        refine dgo ?_
        refine d_end (h := ?_)
        refine ⟨rfl, v9, ?_, hE8.trans he9, hG9.fr.mono (by omega)⟩
        exact hasP
    rintro ρ' w5 ⟨v, hH, he5, hf5⟩
    refine thn_normal (rwp_has hH fun ρ1 => ?_)
    refine go ?_
    exact ret1 ⟨he5, hf5⟩
  · have hnd : ¬ Dsc ws t := fun h => by rw [hb2.2 h] at q2; cases q2
    have hR : Rn p ws t := hF.2.1.resolve_left hnd
    have hwv := invec_word hv (hv.w_in _ hg)
    have hwd : p.w (gi ws t) = p.pow.getD (gi ws t) [] := rfl
    rw [hwd] at hwv
    have hoR : t + (p.o (gi ws t)).toNat ≤ ws.length := hR.1
    have hstep := stepW_r (p := p) hnd
    have hoW : oW p ws t = (p.o (gi ws t)).toNat := rfl
    rw [hwd, hoW] at hstep
    obtain ⟨J, hJ⟩ : ∃ J, gi ws t = J := ⟨_, rfl⟩
    rw [hJ] at eJ hwv hg hstep hoR ho
    have hoe : p.ord.getD J 0 = p.o J := rfl
    obtain ⟨o, hoo⟩ : ∃ o : Nat, p.o J = o := ⟨(p.o J).toNat, by omega⟩
    rw [hoo, Int.toNat_natCast] at hoR hstep
    have hcut2 := hw.cut (l := t + o) (k := ws.length) (by omega) (Nat.le_refl _)
    rw [List.take_length] at hcut2
    have hdl : (ws.drop (t + o)).length ≤ 1000 := by rw [List.length_drop]; omega
    refine go ?_
    rw [eJ]
    refine go ?_
    refine d_post (fun ρ' w' => ∃ v, Has ρ' [(6, v)] ∧ Ext w w' ∧ Fr w.heap.size w' v (stepW p ws t)) ?_ ?_
    · refine d_order [0, 1, 2, 3, 4, 5, 6, 7, 8, 9, 11, 12, 13, 14, 15, 16, 17, 18, 19, 20, 21, 10, 22, 23, 24] (h := fun w5 he5 _ => ?_)
      have hE5 := he2.trans he5
      refine dgo ?_
      refine da (v := Pc.cutTo vw t) (h := ⟨fun w' _ => by
        haveI : Len w' vw ws.length := ⟨hlen.ex⟩
        exact rd_slice_h (by ((try simp only [ev_tmp, ev_const, ev_func, get_put, get_args, get_putL, get_putL_nil, Nat.reduceEqDiff, reduceIte, List.getD_cons_zero, List.getD_cons_succ, List.getD_nil]); first | done | with_reducible rfl)) (by ((try simp only [ev_tmp, ev_const, ev_func, get_put, get_args, get_putL, get_putL_nil, Nat.reduceEqDiff, reduceIte, List.getD_cons_zero, List.getD_cons_succ, List.getD_nil]); first | done | with_reducible rfl)) (by omega) (by omega)⟩) (next := ?_)
      refine dgo ?_
      rw [hoe, hoo]
      refine dgo ?_
      refine da (v := Pc.cut vw (t + o) ws.length) (h := ⟨fun w' _ => by
        haveI : Len w' vw ws.length := ⟨hlen.ex⟩
        exact rd_slice_l (by ((try simp only [ev_tmp, ev_const, ev_func, get_put, get_args, get_putL, get_putL_nil, Nat.reduceEqDiff, reduceIte, List.getD_cons_zero, List.getD_cons_succ, List.getD_nil]); first | done | with_reducible rfl)) (by ((try simp only [ev_tmp, ev_const, ev_func, get_put, get_args, get_putL, get_putL_nil, Nat.reduceEqDiff, reduceIte, List.getD_cons_zero, List.getD_cons_succ, List.getD_nil]); first | done | with_reducible rfl)) (by omega) (by omega)⟩) (next := ?_)
      have hc5a := hcut1.same (hE5.same _ _)
      have hc5b := hcut2.same (hE5.same _ _)
      have hz5 := hE5.size
      refine dce (normalWord_ok (e := p.pow.getD J []) (by omega) (fun j hj => by have := hwv.2.2 j hj; omega)) (next := fun v6 w6 h6 => ?_)
      obtain ⟨he6, hG6⟩ := h6
      have hi6 := hG6.fr.ints
      have hz6 := he6.size
      have hE6 := hE5.trans he6
      refine d_sliceN (t := 25) (us := [Pc.cutTo vw t, v6, Pc.cut vw (t + o) ws.length]) (cells_three hc5a.sl.cells hi6.sl.cells hc5b.sl.cells) (next := fun w8 v8 he8 hz8 ho8 => ?_)
      have hE8 := hE6.trans he8
      have hRw := rows_three (hcut1.same (hE8.same _ _)) (hi6.same (he8.same _ _)) (hcut2.same (hE8.same _ _)) ho8.toSl
      have hfl : ([ws.take t, wordV (p.pow.getD J []), ws.drop (t + o)] : List (List Int)).flatten = stepW p ws t := by
        rw [hstep]; simp
      have hln := len_three (m := 10000) (x0 := ws.take t) (x1 := wordV (p.pow.getD J [])) (x2 := ws.drop (t + o)) (by omega) (by omega) (by omega)
      have hz8' := he8.size
      refine dce (concatI_ok (by simp) hln) (next := fun v9 w9 h9 => ?_)
      obtain ⟨he9, hG9⟩ := h9
      rw [hfl] at hG9
      refine dgo ?_
      refine d_end (h := ?_)
      refine ⟨rfl, v9, ?_, hE8.trans he9, hG9.fr.mono (by omega)⟩
      exact hasP
    rintro ρ' w5 ⟨v, hH, he5, hf5⟩
    refine thn_normal (rwp_has hH fun ρ1 => ?_)
    refine go ?_
    exact ret1 ⟨he5, hf5⟩
end Go.Proofs.Ytflniifngfiekaa

/-
  Walks: the program's collect, CollectProduct.
  Conditions: stated at each theorem.
-/
namespace Go.Proofs.Ytflniifngfiekaa
open Go Go.Pc
set_option maxHeartbeats 8000000 in
theorem collect_ok {p : Pr} (hv : Valid p) {w : World} {vp vw : Value} {ws : List Int} {L lo hi lo1 hi1 : Nat} {kl : Int} [hp : PresP lo hi w vp p] [hw : Ints lo1 hi1 w vw ws] (hl : ws.length ≤ 256) (hLP : LetP p.n ws) (hkl : kl = L) (hLL : L ≤ 1000000) :
    Calls Try.prog 18 #[vp, vw, .int .i64 kl] w (Ret fun v w' => ∃ (u : Value) (r : List Int) (k e : Int), v = .tuple #[u, .int .i64 k, .int .i64 e] ∧ ColO p L ws r e ∧ Ext w w' ∧ Fr w.heap.size w' u r) := by
  subst hkl
  have hn6 := hv.n6
  have hol : p.ord.length = p.n := rfl
  replace hw := hw.wide
  obtain ⟨bP, og, vo, vpw, vc, ps, cs, css, rfl, hb1, hb2, hc0, hc1, hc2, h1, h2, h3⟩ := hp.ex
  refine enter (args := [.pointer (some ⟨bP, og, none⟩), vw, .int .i64 L]) (l := [.tmp 6, .tmp 7, .tmp 8]) Try.func18 rfl rfl Try.ntmps18 (by simp) ?_
  refine go ?_
  refine r_for L (fun n ρ w' => ∃ (vu : Value) (u : List Int), Has ρ [(0, .pointer (some ⟨bP, og, none⟩)), (1, vu), (2, .int .i64 L), (9, .int .i64 n)] ∧ Ext w w' ∧ Ints 0 w'.heap.size w' vu u ∧ LetP p.n u ∧ u.length ≤ 256 ∧ ColI p L ws n u) ?_ ?_
  · refine ⟨vw, ws, ?_, Ext.refl _, hw, hLP, hl, ColI.start p L hl⟩
    exact hasP
  rintro n ρ w3 hn ⟨vu, u, hH, he3, hu3, hL3, hl3, hI3⟩
  refine rwp_has hH fun ρ0 => ?_
  have hz3 := he3.size
  refine go ?_
  refine rc (reducibleAt_ok (p := p) hv (ws := u) (by omega) hL3) (next := fun v4 w4 h4 => ?_)
  obtain ⟨h4, he4⟩ := h4
  have hz4 := he4.size
  have hE4 := he3.trans he4
  rcases h4 with ⟨rfl, hN⟩ | ⟨t, rfl, hF⟩
  · refine go ?_
    refine c_if (fun q3 => ?_) (fun q3 => ?_)
    rotate_left
    · exact absurd (by omega) q3
    refine go ?_
    refine st_make_int (n := p.ord.length) (by ((try simp only [ev_tmp, ev_const, ev_func, get_put, get_args, get_putL, get_putL_nil, Nat.reduceEqDiff, reduceIte, List.getD_cons_zero, List.getD_cons_succ, List.getD_nil]); first | done | with_reducible rfl)) (by ((try simp only [ev_tmp, ev_const, ev_func, get_put, get_args, get_putL, get_putL_nil, Nat.reduceEqDiff, reduceIte, List.getD_cons_zero, List.getD_cons_succ, List.getD_nil]); first | done | with_reducible rfl)) (by omega) (by omega) (by first | exact True.intro | exact ⟨_, rfl, by ((try simp only [ev_tmp, ev_const, ev_func, get_put, get_args, get_putL, get_putL_nil, Nat.reduceEqDiff, reduceIte, List.getD_cons_zero, List.getD_cons_succ, List.getD_nil, Bool.not_true, Bool.not_false]); first | done | with_reducible rfl)⟩) fun w5 v5 he5 hs5 ho5 => ?_
    have hz5 := he5.size
    have hu4 : Ints _ _ w4 vu u := @Ints.ext _ _ _ _ _ _ he4 hu3
    refine go ?_
    refine r_for u.length (fun i ρ w' => ∃ (xs : List Int), Has ρ [(9, .int .i64 n), (11, v5), (27, vu), (28, .int .i64 u.length), (29, .int .i64 i)] ∧ Ext w4 w' ∧ OwnI 2 w4.heap.size w' v5 xs ∧ xs.length = p.n ∧ xs = vecW p.n (u.take i)) ?_ ?_
    · refine ⟨_, ?_, he5, ho5, List.length_replicate, by rw [List.take_zero, vecW_nil]; rfl⟩
      exact hasP
    clear ho5
    rintro i ρ w6 hi ⟨xs, hH, hx6, ho6, hxl, hxe⟩
    refine rwp_has hH fun ρ0 => ?_
    have hi6 := (ho6.toFr (Nat.le_refl _)).ints
    refine go ?_
    refine c_if (fun q5 => ?_) (fun q5 => ?_)
    · have hiu : i < u.length := by omega
      have hLi := hL3.at hiu
      have hcj : 0 ≤ xs.getD ((u.getD i 0).toNat - 1) 0 ∧ xs.getD ((u.getD i 0).toNat - 1) 0 ≤ 1000 := by
        have := vecW_cnt (hL3.take i) ((u.getD i 0).toNat - 1)
        rw [← hxe, List.length_take] at this
        omega
      have hnx := vecW_take (n := p.n) hiu
      rw [← hxe] at hnx
      refine go ?_
      refine st_store_int (h := ho6) (m := (u.getD i 0).toNat - 1) (by ((try simp only [ev_tmp, ev_const, ev_func, get_put, get_args, get_putL, get_putL_nil, Nat.reduceEqDiff, reduceIte, List.getD_cons_zero, List.getD_cons_succ, List.getD_nil]); first | done | with_reducible rfl)) (by ((try simp only [ev_tmp, ev_const, ev_func, get_put, get_args, get_putL, get_putL_nil, Nat.reduceEqDiff, reduceIte, List.getD_cons_zero, List.getD_cons_succ, List.getD_nil]); first | done | with_reducible rfl)) (by omega) (by first | exact True.intro | exact ⟨_, rfl, by ((try simp only [ev_tmp, ev_const, ev_func, get_put, get_args, get_putL, get_putL_nil, Nat.reduceEqDiff, reduceIte, List.getD_cons_zero, List.getD_cons_succ, List.getD_nil, Bool.not_true, Bool.not_false]); first | done | with_reducible rfl)⟩) fun w7 hc7 hs7 ho7 => ?_
      refine go ?_
      refine forQ_normal (by omega) ⟨_, ?_, hc7.ext hx6 (Nat.le_refl _), ho7, by simp [hxl], hnx.symm⟩
      exact hasP
    · obtain rfl : i = u.length := by omega
      rw [List.take_length] at hxe
      refine go ?_
      refine ret3 ⟨v5, _, _, 0, rfl, hI3.1 (by omega) (by omega) _ _ (.done hN), hE4.trans hx6, ?_⟩
      rw [← hxe]
      exact ho6.toFr (by omega)
  · refine go ?_
    refine c_if (fun q3 => ?_) (fun q3 => ?_)
    · exact absurd q3 (by omega)
    have hst := letP_step hv hL3 hF
    have hIs := hI3.step (by omega) hl3 hF
    refine go ?_
    refine c_if (fun q4 => ?_) (fun q4 => ?_)
    · refine go ?_
      exact ret3 ⟨_, [], _, 3, rfl, hIs.2 (.inr (by omega)), hE4, Fr.nilR _ _⟩
    refine go ?_
    refine rc (stepAt_ok (p := p) hv (ws := u) (t := t) (by omega) hL3 rfl hF) (next := fun v5 w5 h5 => ?_)
    obtain ⟨he5, hf5⟩ := h5
    have hi5 := hf5.ints
    have hE5 := hE4.trans he5
    have hslen := hst.2
    refine go ?_
    refine c_if (fun q6 => ?_) (fun q6 => ?_)
    · refine go ?_
      exact ret3 ⟨_, [], _, 3, rfl, hIs.2 (.inl (by omega)), hE5, Fr.nilR _ _⟩
    · refine go ?_
      refine forQ_normal (by omega) ⟨v5, stepW p u t, ?_, hE5, hi5.wide, hst.1, by omega, hIs⟩
      exact hasP
set_option maxHeartbeats 4000000 in
/-- With 2000 steps. -/
theorem impl_CollectProduct_ok {p : Pr} {w : World} {vp vx vy : Value} {xs ys : List Int} {lo hi lo1 hi1 lo2 hi2 : Nat} [hp : Pres lo hi w vp p] [hx : Ints lo1 hi1 w vx xs] [hy : Ints lo2 hi2 w vy ys] (hl : p.ord.length ≤ 2000000) :
    Calls Try.prog 6 #[vp, vx, vy, .int .i64 2000] w (Ret fun v w' => ∃ (u : Value) (r : List Int) (e : Int), v = .tuple #[u, .int .i64 e] ∧ Ans (ValE2 p xs ys) (ColV p 2000 xs ys) [] r e ∧ Ext w w' ∧ Fr w.heap.size w' u r) := by
  obtain ⟨vo, vpw, vc, ps, cs, css, rfl, h1, h2, h3⟩ := hp.ex
  replace hy := hy.wide
  have hol : p.ord.length = p.n := rfl
  refine enter (args := [.agg #[vo, vpw, vc], vx, vy, .int .i64 2000]) (l := [.tmp 8, .tmp 9]) Try.func6 rfl rfl Try.ntmps6 (by simp) ?_
  refine go ?_
  refine st_box3 (by ((try simp only [ev_tmp, ev_const, ev_func, get_put, get_args, get_putL, get_putL_nil, Nat.reduceEqDiff, reduceIte, List.getD_cons_zero, List.getD_cons_succ, List.getD_nil]); first | done | with_reducible rfl)) (by first | exact True.intro | exact ⟨_, rfl, by ((try simp only [ev_tmp, ev_const, ev_func, get_put, get_args, get_putL, get_putL_nil, Nat.reduceEqDiff, reduceIte, List.getD_cons_zero, List.getD_cons_succ, List.getD_nil, Bool.not_true, Bool.not_false]); first | done | with_reducible rfl)⟩) fun w1 b he1 hb1 hs1 hc0 hc1 hc2 => ?_
  have hpp := hp.boxed he1 hc0 hc1 hc2
  have hz1 := he1.size
  have bad : ∀ {w' : World}, Ext w w' → ¬ ValE2 p xs ys → ∃ (u : Value) (r : List Int) (e : Int), Value.tuple #[nilv, .int .i64 1] = .tuple #[u, .int .i64 e] ∧ Ans (ValE2 p xs ys) (ColV p 2000 xs ys) [] r e ∧ Ext w w' ∧ Fr w.heap.size w' u r := fun he hn => ⟨_, [], _, rfl, .inr ⟨hn, rfl, rfl⟩, he, Fr.nilR _ _⟩
  refine go ?_
  refine rc (impl_IsPresentation_ok (p := p) hl) (next := fun v5 w5 h5 => ?_)
  obtain ⟨b5, rfl, hb5, he5⟩ := h5
  have hE5 := he1.trans he5
  refine go ?_
  refine sp (fun e5 => ?_) (fun e5 => ?_)
  · have hn : ¬ ValE2 p xs ys := fun h => by
      have := hb5.2 h.1
      rw [this] at e5; cases e5
    refine go ?_
    exact ret2 (bad hE5 hn)
  have hv := hb5.1 (by simpa using e5)
  have hn6 := hv.n6
  refine go ?_
  refine rc (isExponents_ok (p := p) (xs := xs) (fun i hi => by have := hv.opos hi; omega) (by omega)) (next := fun v6 w6 h6 => ?_)
  obtain ⟨b6, rfl, hb6, he6⟩ := h6
  have hE6 := hE5.trans he6
  refine go ?_
  refine sp (fun e6 => ?_) (fun e6 => ?_)
  · have hn : ¬ ValE2 p xs ys := fun h => by
      have := hb6.2 h.2.1
      rw [this] at e6; cases e6
    refine go ?_
    exact ret2 (bad hE6 hn)
  have hX := hb6.1 (by simpa using e6)
  refine go ?_
  refine rc (isExponents_ok (p := p) (xs := ys) (fun i hi => by have := hv.opos hi; omega) (by omega)) (next := fun v7 w7 h7 => ?_)
  obtain ⟨b7, rfl, hb7, he7⟩ := h7
  have hE7 := hE6.trans he7
  refine go ?_
  refine c_b (fun e7 => ?_) (fun e7 => ?_)
  · have hn : ¬ ValE2 p xs ys := fun h => by
      have := hb7.2 h.2.2
      rw [this] at e7; cases e7
    refine go ?_
    exact ret2 (bad hE7 hn)
  have hY := hb7.1 (by simpa using e7)
  have hwx := invec_word hv hX
  have hwy := invec_word hv hY
  refine go ?_
  refine rc (inside_ok (n := 2000) (l := 0) (h := 2000)) (next := fun v8 w8 h8 => ?_)
  obtain ⟨b8, rfl, hb8, he8⟩ := h8
  have hE8 := hE7.trans he8
  obtain rfl : b8 = true := hb8.2 (by omega)
  refine go ?_
  refine c_b (fun e8 => ?_) (fun e8 => ?_)
  · cases e8
  have hz8 := hE8.size
  refine go ?_
  refine rc (normalWord_ok (e := xs) (by omega) (fun j hj => by have := hwx.2.2 j hj; omega)) (next := fun v9 w9 h9 => ?_)
  obtain ⟨he9, hG9⟩ := h9
  have hz9 := he9.size
  refine go ?_
  refine rc (normalWord_ok (e := ys) (by omega) (fun j hj => by have := hwy.2.2 j hj; omega)) (next := fun v10 w10 h10 => ?_)
  obtain ⟨he10, hG10⟩ := h10
  have hz10 := he10.size
  have hG9' : GrowI 2 w8.heap.size w10 v9 (wordV xs) := @GrowI.ext _ _ _ _ _ _ he10 hG9
  refine go ?_
  refine st_appi hG9' hG10.fr.ints (by omega) (by omega) (next := fun v11 w11 hG11 hx11 hz11 => ?_)
  have hE11 : Ext w w11 := hE8.trans (hx11 w8 (he9.trans he10) (Nat.le_refl _))
  have hi11 := hG11.fr.ints
  have hX11 : Ext w1 w11 := hx11 w1 (((((he5.trans he6).trans he7).trans he8).trans he9).trans he10) (by have := he5.size; have := he6.size; have := he7.size; have := he8.size; omega)
  refine go ?_
  refine rc (collect_ok (p := p) hv (ws := wordV xs ++ wordV ys) (L := 2000) (by simp; omega) ((letP_word (by omega)).app (letP_word (by omega))) rfl (by omega)) (next := fun v12 w12 h12 => ?_)
  obtain ⟨u, r, k, e, rfl, hC, he12, hf12⟩ := h12
  refine go ?_
  exact ret2 ⟨_, r, e, rfl, .inl ⟨⟨hv, hX, hY⟩, hC⟩, hE11.trans he12, hf12.mono hE11.size⟩
end Go.Proofs.Ytflniifngfiekaa

/-
  Arguments that read as slices of integers, slices of slices, slices of slices of slices: what the calculus knows of them.
  Conditions: none; nothing of the program stands here.
-/
namespace Go.Pc
open Go Go.RowKit Go.Deep Go.ChangeShapes Go.WideShapes
section
variable {H : Type} {enc : TypeId × Value → H} {P : Program} {w : World} {base : Nat} {held : Bool} {fuel : Nat} {v : Value} {x : DataW H × List MemPlace}
theorem Rows.nil_ (w : World) : Rows 0 w.heap.size w nilv [] [] :=
  ⟨⟨⟨none, 0, rfl, Nat.le_refl _, by omega, fun k u hu => by simp at hu⟩⟩, rfl, fun i => by simpa using (Ints.nil_ w).mono (Nat.le_refl 0) (Nat.zero_le _)⟩
end
end Go.Pc

/-
  Arguments that read as slices of bytes: what the calculus knows of them.
  Conditions: none; nothing of the program stands here.
-/
namespace Go.Pc
open Go Go.RowKit Go.Deep Go.ChangeShapes Go.WideShapes
theorem bytes_of_trod {H : Type} {enc : TypeId × Value → H} {P : Program} {w : World} {base : Nat} {held : Bool} {fuel : Nat} {v : Value} {x : DataW H × List MemPlace} {t e : TypeId} (ht : P.underlying t = some (.slice e)) (he : P.underlying e = some (.int .u8)) (hc : P.cellsOf e = 1) (h : DataW.trod enc P w base (fun _ => true) held fuel t [v] = some x) :
    ∃ xs : List Int, Sl 0 w.heap.size w v (xs.map (Value.int .u8)) ∧ ∀ c, c ∈ xs → 0 ≤ c ∧ c < 256 := by
  rcases open_ints ht he hc h with ⟨hcs, _⟩ | ⟨a, len, cap, zs, hcs, _, hl, hm, hz, _, hcell, hwf⟩
  · have : v = nilv := by simpa using hcs
    subst this
    exact ⟨[], ⟨none, 0, rfl, Nat.le_refl _, by omega, fun k u hu => by simp at hu⟩, fun c h => (by cases h)⟩
  · have : v = .slice (some a) len cap := by simpa using hcs
    subst this
    simp only [if_true] at hz
    have hlen : (zs.take len).length = len := by rw [List.length_take]; omega
    refine ⟨zs.take len, ⟨some a, cap, by rw [List.length_map, hlen], by rw [List.length_map, hlen]; omega, by simp only [maxLen] at hm; omega, fun k u hu => ?_⟩, fun c hcm => ?_⟩
    · rw [List.getElem?_map, List.getElem?_take] at hu
      split at hu
      · have hk : k < zs.length := by omega
        have hck := hcell k hk
        rw [List.getElem?_eq_getElem hk] at hu
        simp only [Option.map_some, Option.some.injEq] at hu
        have e : zs.getD k 0 = zs[k] := by simp [hk]
        rw [e, hu] at hck
        exact ⟨a, rfl, Nat.zero_le _, by have := block_lt hck; rwa [add_block] at this, hck⟩
      · cases hu
    · have hcz := List.mem_of_mem_take hcm
      obtain ⟨j, hj, rfl⟩ := List.getElem_of_mem hcz
      have := range_u8 hwf j
      simp [hj] at this
      omega
end Go.Pc
