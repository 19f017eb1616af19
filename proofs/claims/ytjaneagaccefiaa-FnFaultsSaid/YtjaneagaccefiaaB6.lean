/-
  Texts of one proof, put together by program: Ow6, W69, W70, W71, I03, I08d, I08e, I12e, I14, I16, I15, I13, I17, I18, I20, Fun, I19, I23, Per, I24, Con, Quo, Aut, Cls, Num, Ctr, W20, W23, W27, W72, I54, Tal, I55, Big, Open, OpenB.
  Conditions: those told at each part.
-/
import Derived.Test.YtjaneagaccefiaaB5
import Derived.Deep.Slices
import Derived.OpenShut
set_option linter.unusedVariables false
set_option linter.unusedSimpArgs false
set_option linter.unusedSectionVars false
set_option linter.constructorNameAsVariable false
set_option linter.unnecessarySimpa false
set_option linter.deprecated false
/-
  A presentation of the call's own with other lists: a longer list of orders, a number in it, another list of rows among the conjugates; literals and appends in drawn regions whose order is open.
  Conditions: none.
-/
namespace Go.Pc
open Go Go.RowKit
section
variable {P : Program} {N : Nat} {ops : Array Oper} {π : List Nat} {K : Env → World → Prop} {ρ : Env} {w w0 : World}
variable {i : Nat} {d : Nat} {ty : TypeId} {pos : String} {after : Array Edge} {g : Option (Nat × Bool)}
theorem ds_slice1 {t e bytes : Nat} {x : Operand} {u z : Value} [ht : SlT P t e] [he : ElT P e 1 bytes z] (next : ∀ w' v, Ext w w' → w'.heap.size = w.heap.size + 1 → Own e w.heap.size w' v [u] → dops P N ops π (Ext w0) K (i + 1) (put ρ d v) w')
    (hi : opAt ops π i = some ⟨some d, .buildSlice t 1 #[(0, x)], ty, pos, after, g⟩ := by exact rfl) (h : ev ρ x = u := by ((try simp only [ev_tmp, ev_const, ev_func, get_put, get_args, get_putL, get_putL_nil, Nat.reduceEqDiff, reduceIte, List.getD_cons_zero, List.getD_cons_succ, List.getD_nil]); first | done | with_reducible rfl)) (hu : u.cells = #[u] := by rfl) (hz : z.cells = #[z] := by rfl) (hd : d < N := by decide) (hg : Wants ops ρ g := by first | exact True.intro | exact ⟨_, rfl, by ((try simp only [ev_tmp, ev_const, ev_func, get_put, get_args, get_putL, get_putL_nil, Nat.reduceEqDiff, reduceIte, List.getD_cons_zero, List.getD_cons_succ, List.getD_nil, Bool.not_true, Bool.not_false]); first | done | with_reducible rfl)⟩) : dstp P N ops π (Ext w0) K i ρ w := by
  obtain ⟨v, w', hr, he', hs, hsl⟩ := run_slice1o (P := P) (ρ := ρ) (ty := ty) (w := w) (t := t) (ht := ht) (he := he) h hu hz
  exact dstp_ex hi hd hg hr (fun hS => hS.trans he') (next w' v he' hs hsl)
theorem d_slice1 {t e bytes : Nat} {x : Operand} {u z : Value} [ht : SlT P t e] [he : ElT P e 1 bytes z] (next : ∀ w' v, Ext w w' → w'.heap.size = w.heap.size + 1 → Own e w.heap.size w' v [u] → dops P N ops π (Ext w0) K (i + 1) (put ρ d v) w')
    (hi : opAt ops π i = some ⟨some d, .buildSlice t 1 #[(0, x)], ty, pos, after, g⟩ := by exact rfl) (h : ev ρ x = u := by ((try simp only [ev_tmp, ev_const, ev_func, get_put, get_args, get_putL, get_putL_nil, Nat.reduceEqDiff, reduceIte, List.getD_cons_zero, List.getD_cons_succ, List.getD_nil]); first | done | with_reducible rfl)) (hu : u.cells = #[u] := by rfl) (hz : z.cells = #[z] := by rfl) (hn : nextOk ops π i = true := by decide +kernel) (hd : d < N := by decide) (hg : Wants ops ρ g := by first | exact True.intro | exact ⟨_, rfl, by ((try simp only [ev_tmp, ev_const, ev_func, get_put, get_args, get_putL, get_putL_nil, Nat.reduceEqDiff, reduceIte, List.getD_cons_zero, List.getD_cons_succ, List.getD_nil, Bool.not_true, Bool.not_false]); first | done | with_reducible rfl)⟩) : dops P N ops π (Ext w0) K i ρ w := by
  obtain ⟨v, w', hr, he', hs, hsl⟩ := run_slice1o (P := P) (ρ := ρ) (ty := ty) (w := w) (t := t) (ht := ht) (he := he) h hu hz
  exact dt_ex hi hn hd hg hr (fun hS => hS.trans he') (next w' v he' hs hsl)
theorem ds_make_int {t e n : Nat} {x y : Operand} {k : Int} [ht : SlT P t e] [he : ElT P e 1 8 (.int .i64 0)] [hm : NatOf k n] (h0 : 0 ≤ k) (h1 : k ≤ 17592186044416)
    (next : ∀ w' v, Ext w w' → w'.heap.size = w.heap.size + 1 → OwnI e w.heap.size w' v (List.replicate n 0) → dops P N ops π (Ext w0) K (i + 1) (put ρ d v) w')
    (hi : opAt ops π i = some ⟨some d, .makeSlice t x y, ty, pos, after, g⟩ := by exact rfl) (h : ev ρ x = .int .i64 k := by ((try simp only [ev_tmp, ev_const, ev_func, get_put, get_args, get_putL, get_putL_nil, Nat.reduceEqDiff, reduceIte, List.getD_cons_zero, List.getD_cons_succ, List.getD_nil]); first | done | with_reducible rfl)) (h' : ev ρ y = .int .i64 k := by ((try simp only [ev_tmp, ev_const, ev_func, get_put, get_args, get_putL, get_putL_nil, Nat.reduceEqDiff, reduceIte, List.getD_cons_zero, List.getD_cons_succ, List.getD_nil]); first | done | with_reducible rfl)) (hd : d < N := by decide) (hg : Wants ops ρ g := by first | exact True.intro | exact ⟨_, rfl, by ((try simp only [ev_tmp, ev_const, ev_func, get_put, get_args, get_putL, get_putL_nil, Nat.reduceEqDiff, reduceIte, List.getD_cons_zero, List.getD_cons_succ, List.getD_nil, Bool.not_true, Bool.not_false]); first | done | with_reducible rfl)⟩) : dstp P N ops π (Ext w0) K i ρ w := by
  have hn' : k = (n : Int) := by have := hm.eq; omega
  refine dstp_ex hi hd hg (ex_make (n := n) h h' rfl h0 (by omega) (by omega)) (fun hS => hS.trans (Ext.alloc _ _)) (next _ _ (Ext.alloc _ _) (by simp) ⟨?_⟩)
  have := own_alloc w (List.replicate n (Value.int .i64 0)) e (by simp [maxLen]; omega)
  simpa using this
theorem d_make_int {t e n : Nat} {x y : Operand} {k : Int} [ht : SlT P t e] [he : ElT P e 1 8 (.int .i64 0)] [hm : NatOf k n] (h0 : 0 ≤ k) (h1 : k ≤ 17592186044416)
    (next : ∀ w' v, Ext w w' → w'.heap.size = w.heap.size + 1 → OwnI e w.heap.size w' v (List.replicate n 0) → dops P N ops π (Ext w0) K (i + 1) (put ρ d v) w')
    (hi : opAt ops π i = some ⟨some d, .makeSlice t x y, ty, pos, after, g⟩ := by exact rfl) (h : ev ρ x = .int .i64 k := by ((try simp only [ev_tmp, ev_const, ev_func, get_put, get_args, get_putL, get_putL_nil, Nat.reduceEqDiff, reduceIte, List.getD_cons_zero, List.getD_cons_succ, List.getD_nil]); first | done | with_reducible rfl)) (h' : ev ρ y = .int .i64 k := by ((try simp only [ev_tmp, ev_const, ev_func, get_put, get_args, get_putL, get_putL_nil, Nat.reduceEqDiff, reduceIte, List.getD_cons_zero, List.getD_cons_succ, List.getD_nil]); first | done | with_reducible rfl)) (hn : nextOk ops π i = true := by decide +kernel) (hd : d < N := by decide) (hg : Wants ops ρ g := by first | exact True.intro | exact ⟨_, rfl, by ((try simp only [ev_tmp, ev_const, ev_func, get_put, get_args, get_putL, get_putL_nil, Nat.reduceEqDiff, reduceIte, List.getD_cons_zero, List.getD_cons_succ, List.getD_nil, Bool.not_true, Bool.not_false]); first | done | with_reducible rfl)⟩) : dops P N ops π (Ext w0) K i ρ w := by
  have hn' : k = (n : Int) := by have := hm.eq; omega
  refine dt_ex hi hn hd hg (ex_make (n := n) h h' rfl h0 (by omega) (by omega)) (fun hS => hS.trans (Ext.alloc _ _)) (next _ _ (Ext.alloc _ _) (by simp) ⟨?_⟩)
  have := own_alloc w (List.replicate n (Value.int .i64 0)) e (by simp [maxLen]; omega)
  simpa using this
end
end Go.Pc
namespace Go.Proofs.Ytjaneagaccefiaa
open Go Go.Pc
section
variable {X : Nat → Prop} {s b i j lo hi : Nat} {w w0 w1 w2 : World} {v u vo vp vc vo' : Value} {us ut : List Value} {xs ys ord : List Int} {xss : List (List Int)} {rs rp : RL} {gs : List (Value × RL)} {k : Int} {p : Pr}
theorem O3.pushO (h : O3 X s w0 vo vp vc ord rp gs) (x01 : Ext w0 w1) (hG : OwnN 2 s w2 vo' ((ord ++ [k]).map (Value.int .i64))) (hst : Pc.GStep w1 w2 vo vo') (hX : ∀ b, X b → b < w0.heap.size) : O3 X s w2 vo' vp vc (ord ++ [k]) rp gs := by
  refine ⟨h.tri.pushO x01 hG hst, h.sep, fun g hg hx => ?_⟩
  rcases hg with hg | hg
  · rcases hst.new hg with hg | hg
    · exact h.off g (.inl hg) hx
    · have := hX g hx; have := x01.size; omega
  · exact h.off g (.inr hg) hx
theorem O3.setO (h : O3 X s w vo vp vc ord rp gs) (hvb : vo.ownBlock = some b) (c : Chg b w w2) (ho : Own 2 b w2 vo ((ord.set i k).map (Value.int .i64))) : O3 X s w2 vo vp vc (ord.set i k) rp gs := by
  have t := h.tri
  have hl := t.o.lt b hvb
  have kw : Wrt (fun g => g = b) w w2 := .one (B := fun g => g = b) rfl c
  exact ⟨⟨ho.toN.mono hl.1, t.p.wr kw fun g hg e => t.op b hvb (e ▸ hg), t.c.wr kw fun g hg e => t.oc b hvb (e ▸ hg), t.op, t.oc, t.pc, Nat.le_trans t.lo c.size⟩, h.sep, h.off⟩
theorem O3.ownO (h : O3 X s w vo vp vc ord rp gs) (hn : ord ≠ []) : ∃ b, s ≤ b ∧ ¬ X b ∧ vo.ownBlock = some b ∧ Own 2 b w vo (ord.map (Value.int .i64)) := by
  obtain ⟨b, h1, h2, h3⟩ := h.tri.o.toOwn (by simpa using hn)
  exact ⟨b, h1, h.off b (.inl h2), h2, h3⟩
theorem O3.ownG (h : O3 X s w vo vp vc ord rp gs) (hn : gs ≠ []) : ∃ b, s ≤ b ∧ ¬ X b ∧ vc.ownBlock = some b ∧ Own 25 b w vc (gs.map (·.1)) := by
  obtain ⟨b, h1, h2, h3⟩ := h.tri.c.own.toOwn (by simpa using hn)
  exact ⟨b, h1, h.off b (.inr (.inr (.inl h2))), h2, h3⟩
/-- Another list of rows is put among the conjugates. -/
theorem O3.presG (h : O3 X s w0 vo vp vc ord rp gs) (hi : i < gs.length) (hvb : vc.ownBlock = some b) (x : Ext w0 w1) (hu : Pc.Rows w0.heap.size w1.heap.size w1 u ut xss) (c : Chg b w1 w2) (ho : Own 25 b w2 vc ((gs.map (·.1)).set i u)) :
    Pres s w2.heap.size w2 (.agg #[vo, vp, vc]) ⟨ord, rp.map (·.2), (gs.map fun q => q.2.map (·.2)).set i xss⟩ := by
  have t := (h.ext x).tri
  have hb := h.tri.c.own.lt b hvb
  have kw : Wrt (fun g => g = b) w1 w2 := .one (B := fun g => g = b) rfl c
  have hs2 := c.size
  have hs1 := x.size
  have hlo := h.lo
  have hO := t.o.wr kw fun g hg e => t.oc g hg (.inl (e ▸ hvb))
  have hP := t.p.wr kw fun g hg e => t.pc g hg (.inl (e ▸ hvb))
  refine ⟨vo, vp, vc, _, (gs.map (·.1)).set i u, (gs.map fun q => q.2.map (·.1)).set i ut, rfl, hO.toFr.ints, Pc.Rows.ofOwn hP.own hP.rows.fr (by omega), ⟨(ho.toN.mono hb.1).toSl, ⟨by simp, by simp, fun m => ?_⟩⟩⟩
  by_cases hm : m = i
  · subst hm
    have e1 : ((gs.map (·.1)).set m u).getD m nilv = u := by simp [hi]
    have e2 : ((gs.map fun q => q.2.map (·.1)).set m ut).getD m [] = ut := by simp [hi]
    have e3 : ((gs.map fun q => q.2.map (·.2)).set m xss).getD m [] = xss := by simp [hi]
    rw [e1, e2, e3]
    exact (hu.same fun k h1 h2 h3 => c.by_.block k h3 (fun e => by injection e with e; omega)).mono (by omega) hs2
  · have e1 : ((gs.map (·.1)).set i u).getD m nilv = (gs.map (·.1)).getD m nilv := by simp [List.getElem?_set_ne (Ne.symm hm)]
    have e2 : ((gs.map fun q => q.2.map (·.1)).set i ut).getD m [] = (gs.map fun q => q.2.map (·.1)).getD m [] := by simp [List.getElem?_set_ne (Ne.symm hm)]
    have e3 : ((gs.map fun q => q.2.map (·.2)).set i xss).getD m [] = (gs.map fun q => q.2.map (·.2)).getD m [] := by simp [List.getElem?_set_ne (Ne.symm hm)]
    rw [e1, e2, e3]
    by_cases hml : m < gs.length
    · have e1 : (gs.map (·.1)).getD m nilv = gs[m].1 := by simp [hml]
      have e2 : (gs.map fun q => q.2.map (·.1)).getD m [] = gs[m].2.map (·.1) := by simp [hml]
      have e3 : (gs.map fun q => q.2.map (·.2)).getD m [] = gs[m].2.map (·.2) := by simp [hml]
      rw [e1, e2, e3]
      have hq := List.getElem_mem hml
      refine Pc.Rows.ofOwn ((t.c.inn _ hq).wr kw fun g hg e => (t.c.off g (e ▸ hvb)).2 _ hq hg) (fun r hr => ?_) (by omega)
      have hmf : r ∈ flat gs := List.mem_flatten.2 ⟨gs[m].2, List.mem_map.2 ⟨gs[m], hq, rfl⟩, hr⟩
      exact (t.c.rows.fr r hmf).wr kw fun hn g hg e => (t.c.off g (e ▸ hvb)).1 ⟨r, hmf, hn, hg⟩
    · have e1 : (gs.map (·.1)).getD m nilv = nilv := by rw [List.getD_eq_getElem?_getD, List.getElem?_eq_none (by simp; omega)]; rfl
      have e2 : (gs.map fun q => q.2.map (·.1)).getD m [] = [] := by rw [List.getD_eq_getElem?_getD, List.getElem?_eq_none (by simp; omega)]; rfl
      have e3 : (gs.map fun q => q.2.map (·.2)).getD m [] = [] := by rw [List.getD_eq_getElem?_getD, List.getElem?_eq_none (by simp; omega)]; rfl
      rw [e1, e2, e3]
      exact (rows_nilv s w2).mono (Nat.le_refl _) (by omega)
/-- A row is appended to a list of rows, whichever of the two was made first. -/
theorem app_row {e s0 s a c : Nat} {w w' : World} {v v' u : Value} {us : List Value} {xss : List (List Int)} {xs : List Int} (h : Lst e s (· < s) w v us xss) (hs : s0 ≤ s) (hsz : s0 ≤ w.heap.size) (hu : Ints a c w u xs) (ha : s0 ≤ a) (hc : c ≤ w.heap.size) (hoff : ∀ g, v.ownBlock = some g → g < a ∨ c ≤ g) (ho : OwnN e s w' v' (us ++ [u])) (hg : w.grownBy w' v.ownBlock) (hv : v'.ownBlock = v.ownBlock ∨ v'.ownBlock = some w.heap.size) : Pc.Rows s0 w'.heap.size w' v' (us ++ [u]) (xss ++ [xs]) :=
  ((h.low hs hsz).push ⟨a, c, hu, hc, fun g hg => hg.elim (fun hg => .inl (by omega)) (hoff g)⟩ (ho.mono hs) hg hv).newRows
theorem getD_push_len {k : Nat} {l : List (List Int)} {x : List Int} (h : ∀ j, (l.getD j []).length ≤ k) (hx : x.length ≤ k) (j : Nat) : ((l ++ [x]).getD j []).length ≤ k := by
  rcases Nat.lt_trichotomy j l.length with hj | hj | hj
  · have := h j
    simpa [List.getD_eq_getElem?_getD, List.getElem?_append_left hj] using this
  · subst hj; simpa using hx
  · rw [List.getD_eq_getElem?_getD, List.getElem?_eq_none (by simp; omega)]; simp
theorem SizeP.setPow {k : Int} (h : SizeP p k) (hl : (ys.length : Int) ≤ k) : SizeP ⟨p.ord, p.pow.set i ys, p.cnj⟩ k :=
  ⟨h.ord, by simpa using h.pow, fun j => by
    show (((p.pow.set i ys).getD j []).length : Int) ≤ k
    by_cases e : i = j
    · subst e
      by_cases hi : i < p.pow.length
      · simpa [hi] using hl
      · have := h.powi i
        rwa [List.set_eq_of_length_le (by omega)]
    · have := h.powi j
      simpa [List.getElem?_set_ne e] using this, h.cnj, h.cnji, h.cnjij⟩
theorem SizeP.setOrd {k : Int} (h : SizeP p k) (hl : (ys.length : Int) ≤ k) : SizeP ⟨ys, p.pow, p.cnj⟩ k := ⟨hl, h.pow, h.powi, h.cnj, h.cnji, h.cnjij⟩
theorem SizeP.setCnj {k : Int} (h : SizeP p k) (hl : (xss.length : Int) ≤ k) (hx : ∀ j, ((xss.getD j []).length : Int) ≤ k) : SizeP ⟨p.ord, p.pow, p.cnj.set i xss⟩ k := by
  have key : ∀ j, (p.cnj.set i xss).getD j [] = xss ∨ (p.cnj.set i xss).getD j [] = p.cnj.getD j [] := fun j => by
    by_cases e : i = j
    · subst e
      by_cases hi : i < p.cnj.length
      · exact .inl (by simp [hi])
      · exact .inr (by rw [List.set_eq_of_length_le (by omega)])
    · exact .inr (by simp [List.getElem?_set_ne e])
  refine ⟨h.ord, h.pow, h.powi, by simpa using h.cnj, fun j => ?_, fun j m => ?_⟩
  · show (((p.cnj.set i xss).getD j []).length : Int) ≤ k
    rcases key j with e | e <;> rw [e]
    · exact hl
    · exact h.cnji j
  · show ((((p.cnj.set i xss).getD j []).getD m []).length : Int) ≤ k
    rcases key j with e | e <;> rw [e]
    · exact hx m
    · exact h.cnjij j m
end
end Go.Proofs.Ytjaneagaccefiaa

/-
  Walks: the reference's l07Bend.
  Conditions: stated at each theorem.
-/
namespace Go.Proofs.Ytjaneagaccefiaa
open Go Go.Pc
set_option maxHeartbeats 16000000 in
theorem l07Bend_ok {w : World} {bs lo hi : Nat} {vp : Value} {p : Pr} [hp : Pres lo hi w vp p] (hs : Src w bs) (hsh : ShP p) (hn6 : p.ord.length ≤ 6) (hbs : bs < lo) :
    Calls Try.prog 38 #[.pointer (some ⟨bs, 0, none⟩), vp] w (Ret fun v w' => DrwR bs w v w') := by
  have hb := hs.lt
  obtain ⟨vo, vpw, vc, ps, cs, css, rfl, h1, h2, h3⟩ := hp.ex
  refine enter (args := [.pointer (some ⟨bs, 0, none⟩), .agg #[vo, vpw, vc]]) (l := [.cell 4 28]) Try.func38 rfl rfl Try.ntmps38 (by simp) ?_
  refine go ?_
  refine st_box3 (by ((try simp only [ev_tmp, ev_const, ev_func, get_put, get_args, get_putL, get_putL_nil, Nat.reduceEqDiff, reduceIte, List.getD_cons_zero, List.getD_cons_succ, List.getD_nil]); first | done | with_reducible rfl)) (by first | exact True.intro | exact ⟨_, rfl, by ((try simp only [ev_tmp, ev_const, ev_func, get_put, get_args, get_putL, get_putL_nil, Nat.reduceEqDiff, reduceIte, List.getD_cons_zero, List.getD_cons_succ, List.getD_nil, Bool.not_true, Bool.not_false]); first | done | with_reducible rfl)⟩) fun w1 b he1 hb1 hs1 hc0 hc1 hc2 => ?_
  refine st_alloc (by first | exact True.intro | exact ⟨_, rfl, by ((try simp only [ev_tmp, ev_const, ev_func, get_put, get_args, get_putL, get_putL_nil, Nat.reduceEqDiff, reduceIte, List.getD_cons_zero, List.getD_cons_succ, List.getD_nil, Bool.not_true, Bool.not_false]); first | done | with_reducible rfl)⟩) fun w2 br he2 hbr hs2 hbk2 => ?_
  have hE2 := he1.trans he2
  have hz2 := hE2.size
  have hp2 : Pres lo hi w2 (.agg #[vo, vpw, vc]) p := hp.same (hE2.same _ _)
  refine go ?_
  refine rc (l07OwnT_ok (p := p) (hsh.sizeP (by omega)) hsh) (next := fun v3 w3 h => ?_)
  obtain ⟨he3, hN3⟩ := h
  obtain ⟨qo, qp, qc, rp, gs, rfl, hO3, hS3⟩ := hN3.ex
  have hz3 := he3.size
  refine go ?_
  refine st_alloc (by first | exact True.intro | exact ⟨_, rfl, by ((try simp only [ev_tmp, ev_const, ev_func, get_put, get_args, get_putL, get_putL_nil, Nat.reduceEqDiff, reduceIte, List.getD_cons_zero, List.getD_cons_succ, List.getD_nil, Bool.not_true, Bool.not_false]); first | done | with_reducible rfl)⟩) fun w4 bp he4 hbp hs4 hbk4 => ?_
  have hz4 := he4.size
  refine st_store_agg (vs := [qo, qp, qc]) (cs := _) (hb := hbk4) (by ((try simp only [ev_tmp, ev_const, ev_func, get_put, get_args, get_putL, get_putL_nil, Nat.reduceEqDiff, reduceIte, List.getD_cons_zero, List.getD_cons_succ, List.getD_nil]); first | done | with_reducible rfl)) (by ((try simp only [ev_tmp, ev_const, ev_func, get_put, get_args, get_putL, get_putL_nil, Nat.reduceEqDiff, reduceIte, List.getD_cons_zero, List.getD_cons_succ, List.getD_nil]); first | done | with_reducible rfl)) rfl rfl hO3.one3 (by first | exact True.intro | exact ⟨_, rfl, by ((try simp only [ev_tmp, ev_const, ev_func, get_put, get_args, get_putL, get_putL_nil, Nat.reduceEqDiff, reduceIte, List.getD_cons_zero, List.getD_cons_succ, List.getD_nil, Bool.not_true, Bool.not_false]); first | done | with_reducible rfl)⟩) fun w5 hc5 hs5 hB5 => ?_
  have hx5 : Ext w2 w5 := hc5.ext (he3.trans he4) (by omega)
  have hO5 : O3 (fun g => g = bp) w2.heap.size w5 qo qp qc p.ord rp gs := ((hO3.weak (Y := fun g => g = bp) (fun g e => .inr (.inr (by omega)))).ext he4).chg hc5 (.inl rfl)
  have hs5' := hs.ext (hE2.trans hx5)
  have hbk5 : Blk w5 br [nilv, nilv, nilv] := @Blk.ext _ _ _ _ hx5 hbk2
  have hz5 := hx5.size
  clear hO3 hbk4 hN3
  refine go ?_
  refine rc (l01Next_ok (n := 6) hs5') (next := fun v6 w6 h6 => ?_)
  obtain ⟨k6, rfl, hc6, hs6, hk60, hk61, hz6⟩ := h6
  have hO6 := hO5.chg hc6 (.inr (by omega))
  have hB6 : Blk w6 bp [qo, qp, qc] := hB5.wr (.one (B := fun g => g = bs) rfl hc6) fun e => by omega
  have hbk6 : Blk w6 br [nilv, nilv, nilv] := hbk5.wr (.one (B := fun g => g = bs) rfl hc6) fun e => by omega
  have hC6 : Chg bs w w6 := (Chg.ofExt (hE2.trans hx5)).trans hc6
  have c0 : Cell w6 bp 0 qo := hB6.cell rfl
  have c1 : Cell w6 bp 1 qp := hB6.cell rfl
  have c2 : Cell w6 bp 2 qc := hB6.cell rfl
  have hi6 := hO6.ints
  have hr6 := hO6.rows
  have hrs6 := hO6.rowss
  have hrl : (rp.map (·.2)).length = p.ord.length := by rw [List.length_map]; exact hS3.lp
  have hgl : (gs.map fun q => q.2.map (·.2)).length = p.ord.length := by rw [List.length_map]; exact hS3.lg
  have hpr : SizeP (prOf p.ord rp gs) 29 := hS3.shP.sizeP (by show (p.ord.length : Int) ≤ 29; omega)
  clear hO5 hB5 hbk5
  refine go ?_
  refine r_mid (fun ρ w' => ∃ xo xp xc q, Has ρ [(4, .pointer (some ⟨br, 0, none⟩)), (5, .pointer (some ⟨bp, 0, none⟩))] ∧ Chg bs w w' ∧ Src w' bs ∧ Blk w' bp [xo, xp, xc] ∧ Blk w' br [nilv, nilv, nilv] ∧ Pres w2.heap.size w'.heap.size w' (.agg #[xo, xp, xc]) q ∧ SizeP q 30) ?_ ?_
  · have plain : ∀ {w' : World}, Ext w6 w' → Chg bs w w' ∧ Src w' bs ∧ Blk w' bp [qo, qp, qc] ∧ Blk w' br [nilv, nilv, nilv] ∧ Pres w2.heap.size w'.heap.size w' (.agg #[qo, qp, qc]) (prOf p.ord rp gs) ∧ SizeP (prOf p.ord rp gs) 30 := fun x =>
      ⟨hC6.grow x, hs6.ext x, @Blk.ext _ _ _ _ x hB6, @Blk.ext _ _ _ _ x hbk6, (hO6.ext x).pres, hpr.mono (by omega)⟩
    refine c_if (fun q0 => ?_) (fun q0 => ?_)
    · refine go ?_
      have hg6 : GrowI 2 w2.heap.size w6 qo p.ord := ⟨hO6.tri.o⟩
      have hlt : ∀ g, qo.ownBlock = some g → w2.heap.size ≤ g := fun g hg => (hO6.tri.o.lt g hg).1
      refine st_growi hg6 (by omega) (by omega) (next := fun v7 v8 w8 hg8 hx8 hz8 hst8 => ?_)
      have hO8 := hO6.pushO (Ext.refl _) hg8.own hst8 (fun g e => by subst e; exact hB6.lt)
      have hC8 : Chg bs w w8 := hC6.gstep hst8 fun g hg => by have := hlt g hg; omega
      have hs8 : Src w8 bs := hs6.wr hst8.wrt fun g hg => by have := hlt g hg; omega
      have hB8 : Blk w8 bp [qo, qp, qc] := hB6.wr hst8.wrt fun hg => hO6.off bp (.inl hg) rfl
      have hbk8 : Blk w8 br [nilv, nilv, nilv] := hbk6.wr hst8.wrt fun hg => by have := hlt br hg; omega
      refine go ?_
      refine st_store_fld (h := hB8) (by ((try simp only [ev_tmp, ev_const, ev_func, get_put, get_args, get_putL, get_putL_nil, Nat.reduceEqDiff, reduceIte, List.getD_cons_zero, List.getD_cons_succ, List.getD_nil]); first | done | with_reducible rfl)) (by ((try simp only [ev_tmp, ev_const, ev_func, get_put, get_args, get_putL, get_putL_nil, Nat.reduceEqDiff, reduceIte, List.getD_cons_zero, List.getD_cons_succ, List.getD_nil]); first | done | with_reducible rfl)) hg8.fr.ints.sl.one (by simp) (by first | exact True.intro | exact ⟨_, rfl, by ((try simp only [ev_tmp, ev_const, ev_func, get_put, get_args, get_putL, get_putL_nil, Nat.reduceEqDiff, reduceIte, List.getD_cons_zero, List.getD_cons_succ, List.getD_nil, Bool.not_true, Bool.not_false]); first | done | with_reducible rfl)⟩) fun w9 hc9 hs9 hB9 => ?_
      refine go ?_
      refine ⟨rfl, v8, qp, qc, _, ?_, hC8.app1 hc9 (by omega), hs8.wr (.one (B := fun g => g = bp) rfl hc9) (fun g hg => by omega), hB9, hbk8.wr (.one (B := fun g => g = bp) rfl hc9) (fun e => by omega), (hO8.chg hc9 (.inl rfl)).pres, (hpr.setOrd (ys := p.ord ++ [2]) (by simp; omega)).mono (by omega)⟩
      exact hasP
    refine go ?_
    refine c_if (fun q1 => ?_) (fun q1 => ?_)
    · refine go ?_
      refine c_if (fun r1 => ?_) (fun r1 => ?_)
      · have ap1 : Apart bp (bp + 1) bs := ⟨by omega⟩
        have ap2 : Apart w2.heap.size w6.heap.size bs := ⟨.inl (by omega)⟩
        have hb6 := hB6.lt
        obtain ⟨bo, hbo, hxo, hvo, hoo⟩ := hO6.ownO (fun e => by rw [e] at r1; simp at r1)
        refine go ?_
        refine z_order bs (List.range 7) (h := fun w7 he7 _ => ?_)
        refine zgo ?_
        refine z_sliceN (t := 24) (us := [.int .i64 4, .int .i64 1, .int .i64 11, .int .i64 0, .int .i64 (-2)]) (next := fun w8 v8 he8 hz8 ho8 => ?_)
        have ho8' : OwnI 2 w7.heap.size w8 v8 [4, 1, 11, 0, -2] := ⟨ho8⟩
        have hi8 := (ho8'.toFr (Nat.le_refl _)).ints
        have hx8 := he7.trans he8
        have hz68 := hx8.size
        refine zgo ?_
        refine zcc (l01Pick_ok (hs6.ext hx8) (xs := [4, 1, 11, 0, -2]) (by simp) (by simp) (.inl ?_)) (hR := by rintro _ _ ⟨_, _, h, _⟩; exact h) (next := fun v9 w9 h9 => ?_)
        · omega
        obtain ⟨k9, rfl, hc9, hs9, hk9, hz9⟩ := h9
        refine zgo ?_
        have hC9 : Chg bs w w9 := (hC6.grow hx8).trans hc9
        have hO9 := (hO6.ext hx8).chg hc9 (.inr (by omega))
        have hB9 : Blk w9 bp [qo, qp, qc] := (@Blk.ext _ _ _ _ hx8 hB6).wr (.one (B := fun g => g = bs) rfl hc9) fun e => by omega
        have hbk9 : Blk w9 br [nilv, nilv, nilv] := (@Blk.ext _ _ _ _ hx8 hbk6).wr (.one (B := fun g => g = bs) rfl hc9) fun e => by omega
        have hoo9 : Own 2 bo w9 qo (p.ord.map (Value.int .i64)) := by
          obtain ⟨b', h1, h2, h3, h4⟩ := hO9.ownO (fun e => by rw [e] at r1; simp at r1)
          rw [hvo] at h3; injection h3 with h3
          exact h3 ▸ h4
        refine l_store_val (u := .int .i64 k9) hoo9 rfl (m := 0) (by rw [List.length_map]; omega) (next := fun w10 hc10 hs10 ho10 => ?_)
        rw [← List.map_set] at ho10
        have hO10 := hO9.setO hvo hc10 ho10
        refine go ?_
        refine ⟨rfl, qo, qp, qc, _, ?_, hC9.app1 hc10 (by omega), hs9.wr (.one (B := fun g => g = bo) rfl hc10) (fun g hg => by omega), hB9.wr (.one (B := fun g => g = bo) rfl hc10) (fun e => hxo e.symm), hbk9.wr (.one (B := fun g => g = bo) rfl hc10) (fun e => by omega), hO10.pres, (hpr.setOrd (ys := p.ord.set 0 k9) (by simp; omega)).mono (by omega)⟩
        exact hasP
      · refine go ?_
        refine ⟨rfl, qo, qp, qc, _, ?_, plain (Ext.refl _)⟩
        exact hasP
    refine go ?_
    refine c_if (fun q2 => ?_) (fun q2 => ?_)
    · refine go ?_
      refine c_if (fun r1 => ?_) (fun r1 => ?_)
      · have hri : 0 < rp.length := by have := hS3.lp; omega
        obtain ⟨bq, hbq, hxq, hvq, hoq⟩ := hO6.ownP (fun e => by rw [e] at hri; simp at hri)
        have hbl := (hO6.tri.p.own.lt bq hvq).2
        have hl0 : ((rp.map (·.2)).getD 0 []).length ≤ 6 := by
          have := hpr.powi 0
          have := hS3.lr _ (List.getElem_mem hri)
          simp [hri]; omega
        refine d_post (fun ρ' w' => ∃ w7 u xs, Has ρ' [(4, .pointer (some ⟨br, 0, none⟩)), (5, .pointer (some ⟨bp, 0, none⟩))] ∧ Ext w6 w7 ∧ Fr w6.heap.size w7 u xs ∧ xs.length ≤ 7 ∧ Chg bq w7 w' ∧ Own 24 bq w' qp ((rp.map (·.1)).set 0 u)) ?_ ?_
        · refine d_order [0, 1, 2, 3, 4, 5, 6, 7, 8, 9, 10] (h := fun w7 he7 _ => ?_)
          have hz7 := he7.size
          refine dgo ?_
          refine dt_fork (π' := [0, 1, 2, 3, 4, 5, 7, 6, 8, 9, 10]) (by decide) rfl rfl (by decide +kernel) ?_ ?_
          · refine ds_call (l01OwnN_ok (xs := (rp.map (·.2)).getD 0 []) (by omega)) (next := fun v8 w8 h8 => ?_)
            obtain ⟨he8, hN8⟩ := h8
            have hz8 := he8.size
            refine d_slice1 (t := 24) (u := .int .i64 0) (next := fun w9 v9 he9 hz9 ho9 => ?_)
            have hN9 : OwnN 2 w7.heap.size w9 v8 _ := @OwnN.ext _ _ _ _ _ _ he9 hN8
            refine d_append (hv := hN9) (hy := ho9.toSl) (hs := (by ((try simp only [ev_tmp, ev_const, ev_func, get_put, get_args, get_putL, get_putL_nil, Nat.reduceEqDiff, reduceIte, List.getD_cons_zero, List.getD_cons_succ, List.getD_nil]); first | done | with_reducible rfl))) (hx := (by ((try simp only [ev_tmp, ev_const, ev_func, get_put, get_args, get_putL, get_putL_nil, Nat.reduceEqDiff, reduceIte, List.getD_cons_zero, List.getD_cons_succ, List.getD_nil]); first | done | with_reducible rfl))) (hz := rfl) (h1 := fun u hu => by rw [List.mem_singleton.1 hu]; rfl) (hb := by simp only [List.length_map, List.length_singleton]; omega) (hl := by simp only [List.length_map, List.length_singleton, maxLen]; omega) (hbase := by omega) (hvb := fun g hg => (hN9.lt g hg).1) (next := fun v10 w10 ho10 hg10 ha10 => ?_)
            have hx10 : Ext w6 w10 := he7.trans (Ext.app (he8.trans he9) hg10 fun k hk => (hN9.lt k hk).1)
            have hf10 : Fr w6.heap.size w10 v10 (((rp.map (·.2)).getD 0 []) ++ [0]) := Fr.mono (OwnN.toFr (by simpa using ho10)) hz7
            refine dgo ?_
            refine l_store_val (@Own.ext _ _ _ _ _ _ hx10 hoq) hf10.ints.sl.one (m := 0) (by rw [List.length_map]; omega) (next := fun w11 hc11 hs11 ho11 => ?_)
            refine ⟨rfl, w10, _, _, ?_, hx10, hf10, by simp only [List.length_append, List.length_singleton]; omega, hc11, ho11⟩
            exact hasP
          · refine ds_slice1 (t := 24) (u := .int .i64 0) (next := fun w8 v8 he8 hz8 ho8 => ?_)
            refine dce (l01OwnN_ok (xs := (rp.map (·.2)).getD 0 []) (by omega)) (next := fun v9 w9 h9 => ?_)
            obtain ⟨he9, hN9⟩ := h9
            have hz9 := he9.size
            refine d_append (hv := hN9) (hy := (@Own.ext _ _ _ _ _ _ he9 ho8).toSl) (hs := (by ((try simp only [ev_tmp, ev_const, ev_func, get_put, get_args, get_putL, get_putL_nil, Nat.reduceEqDiff, reduceIte, List.getD_cons_zero, List.getD_cons_succ, List.getD_nil]); first | done | with_reducible rfl))) (hx := (by ((try simp only [ev_tmp, ev_const, ev_func, get_put, get_args, get_putL, get_putL_nil, Nat.reduceEqDiff, reduceIte, List.getD_cons_zero, List.getD_cons_succ, List.getD_nil]); first | done | with_reducible rfl))) (hz := rfl) (h1 := fun u hu => by rw [List.mem_singleton.1 hu]; rfl) (hb := by simp only [List.length_map, List.length_singleton]; omega) (hl := by simp only [List.length_map, List.length_singleton, maxLen]; omega) (hbase := by omega) (hvb := fun g hg => by have := (hN9.lt g hg).1; omega) (next := fun v10 w10 ho10 hg10 ha10 => ?_)
            have hx10 : Ext w6 w10 := he7.trans (Ext.app (he8.trans he9) hg10 fun k hk => by have := (hN9.lt k hk).1; omega)
            have hf10 : Fr w6.heap.size w10 v10 (((rp.map (·.2)).getD 0 []) ++ [0]) := Fr.mono (OwnN.toFr (by simpa using ho10)) (by omega)
            refine dgo ?_
            refine l_store_val (@Own.ext _ _ _ _ _ _ hx10 hoq) hf10.ints.sl.one (m := 0) (by rw [List.length_map]; omega) (next := fun w11 hc11 hs11 ho11 => ?_)
            refine ⟨rfl, w10, _, _, ?_, hx10, hf10, by simp only [List.length_append, List.length_singleton]; omega, hc11, ho11⟩
            exact hasP
        · rintro ρ w' ⟨w7, u, xs, hH, hx7, hf7, hxl, hc8, ho8⟩
          have hO8 := hO6.setP hri hvq hx7 hf7 (fun g e => by subst e; exact hB6.lt) hc8 ho8
          refine ⟨rfl, qo, qp, qc, _, hH, (hC6.grow hx7).app1 hc8 (by omega), (hs6.ext hx7).wr (.one (B := fun g => g = bq) rfl hc8) (fun g hg => by omega), (@Blk.ext _ _ _ _ hx7 hB6).wr (.one (B := fun g => g = bq) rfl hc8) (fun e => hxq e.symm), (@Blk.ext _ _ _ _ hx7 hbk6).wr (.one (B := fun g => g = bq) rfl hc8) (fun e => by omega), hO8.pres, ?_⟩
          · have e : prOf p.ord (rp.set 0 (u, xs)) gs = ⟨p.ord, (rp.map (·.2)).set 0 xs, (prOf p.ord rp gs).cnj⟩ := by simp [prOf, List.map_set]
            rw [e]
            exact ((hpr.setPow (i := 0) (ys := xs) (by omega))).mono (by omega)
      · refine go ?_
        refine ⟨rfl, qo, qp, qc, _, ?_, plain (Ext.refl _)⟩
        exact hasP
    refine go ?_
    refine c_if (fun q3 => ?_) (fun q3 => ?_)
    · refine go ?_
      refine spd (fun r1 => ?_) (fun r1 => ?_)
      · have hri : 0 < rp.length := by have := hS3.lp; omega
        refine go ?_
        refine c_if (fun r2 => ?_) (fun r2 => ?_)
        · have hlx : rp[0].2.length = p.ord.length := hS3.lr _ (List.getElem_mem hri)
          have hrx : rp[0].2 ≠ [] := fun e => by
            rw [e] at hlx
            simp at hlx
            omega
          have hra : Pc.rowAt qp (rp.map (·.1)) 0 = rp[0].1 := by simp [Pc.rowAt, hri]
          obtain ⟨e', b', hb', how⟩ := (hO6.tri.p.rows.fr _ (List.getElem_mem hri)).own hrx
          have how2 := how
          rw [← hra] at how2
          have hbl := how.lt
          have hnbp : b' ≠ bp := fun e => hO6.off b' (.inr (.inl (.inr ⟨_, List.getElem_mem hri, hrx, how.block⟩))) e
          refine go ?_
          refine st_store_int (h := how2) (by ((try simp only [ev_tmp, ev_const, ev_func, get_put, get_args, get_putL, get_putL_nil, Nat.reduceEqDiff, reduceIte, List.getD_cons_zero, List.getD_cons_succ, List.getD_nil]); first | done | with_reducible rfl)) (by ((try simp only [ev_tmp, ev_const, ev_func, get_put, get_args, get_putL, get_putL_nil, Nat.reduceEqDiff, reduceIte, List.getD_cons_zero, List.getD_cons_succ, List.getD_nil]); first | done | with_reducible rfl)) (m := 0) (by omega) (by first | exact True.intro | exact ⟨_, rfl, by ((try simp only [ev_tmp, ev_const, ev_func, get_put, get_args, get_putL, get_putL_nil, Nat.reduceEqDiff, reduceIte, List.getD_cons_zero, List.getD_cons_succ, List.getD_nil, Bool.not_true, Bool.not_false]); first | done | with_reducible rfl)⟩) fun w7 hc7 hs7 ho7 => ?_
          rw [hra] at ho7
          have hO7 := hO6.rowP hri hrx how.block hc7 (OwnI.toFr ho7 hb')
          have hS7 : Sh3 p.ord (rp.set 0 (rp[0].1, rp[0].2.set 0 1)) gs := hS3.setP (by simp [hlx])
          refine go ?_
          refine ⟨rfl, qo, qp, qc, _, ?_, hC6.app1 hc7 (by omega), hs6.wr (.one (B := fun g => g = b') rfl hc7) (fun g hg => by omega), hB6.wr (.one (B := fun g => g = b') rfl hc7) (fun e => hnbp e.symm), hbk6.wr (.one (B := fun g => g = b') rfl hc7) (fun e => by omega), hO7.pres, hS7.shP.sizeP (by show (p.ord.length : Int) ≤ 30; omega)⟩
          exact hasP
        · refine go ?_
          refine ⟨rfl, qo, qp, qc, _, ?_, plain (Ext.refl _)⟩
          exact hasP
      · refine go ?_
        refine ⟨rfl, qo, qp, qc, _, ?_, plain (Ext.refl _)⟩
        exact hasP
    refine go ?_
    refine c_if (fun q4 => ?_) (fun q4 => ?_)
    · refine go ?_
      refine c_if (fun r1 => ?_) (fun r1 => ?_)
      · have hgi : 0 < gs.length := by have := hS3.lg; omega
        obtain ⟨bq, hbq, hxq, hvq, hoq⟩ := hO6.ownG (fun e => by rw [e] at hgi; simp at hgi)
        have hbl := (hO6.tri.c.own.lt bq hvq).2
        have hl0 : (((gs.map fun q => q.2.map (·.2)).getD 0 [])).length ≤ 6 := by
          have := hS3.li 0 hgi
          simp [hgi]; omega
        have hlx : ∀ j, (((gs.map fun q => q.2.map (·.2)).getD 0 []).getD j []).length ≤ 6 := fun j => by
          have e0 : (gs.map fun q => q.2.map (·.2)).getD 0 [] = gs[0].2.map (·.2) := by simp [hgi]
          rw [e0]
          by_cases hj : j < gs[0].2.length
          · have := hS3.lc _ (List.getElem_mem hgi) _ (List.getElem_mem hj)
            simp [hj]; omega
          · rw [List.getD_eq_getElem?_getD, List.getElem?_eq_none (by simp; omega)]; simp
        refine d_post (fun ρ' w' => ∃ w7 u ut xss, Has ρ' [(4, .pointer (some ⟨br, 0, none⟩)), (5, .pointer (some ⟨bp, 0, none⟩))] ∧ Ext w6 w7 ∧ Pc.Rows w6.heap.size w7.heap.size w7 u ut xss ∧ xss.length ≤ 7 ∧ (∀ j, (xss.getD j []).length ≤ 6) ∧ Chg bq w7 w' ∧ Own 25 bq w' qc ((gs.map (·.1)).set 0 u)) ?_ ?_
        · refine d_order [0, 1, 2, 3, 4, 5, 7, 8, 9, 6, 10, 11, 12, 13, 14] (h := fun w7 he7 _ => ?_)
          have hz7 := he7.size
          refine dgo ?_
          refine dt_fork (π' := [0, 1, 2, 3, 4, 5, 7, 8, 9, 10, 6, 11, 12, 13, 14]) (by decide) rfl rfl (by decide +kernel) ?_ ?_
          · refine ds_call (l01Own2G_ok (xss := (gs.map fun q => q.2.map (·.2)).getD 0 []) (fun i => by have := hlx i; omega) (by omega)) (next := fun v8 w8 h8 => ?_)
            obtain ⟨he8, rs, hG8, hrs8⟩ := h8
            have hz8 := he8.size
            refine d_make_int (t := 24) (n := p.ord.length) (k := p.ord.length) (by omega) (by omega) (next := fun w9 v9 he9 hz9 ho9 => ?_)
            have hj9 := (ho9.toFr (Nat.le_refl _)).ints
            refine d_slice1 (t := 25) (u := v9) (hu := hj9.sl.cells) (next := fun w10 v10 he10 hz10 ho10 => ?_)
            have hi10 := @Ints.ext _ _ _ _ _ _ he10 hj9
            have hL10 := hG8.lst.ext (he9.trans he10)
            have hO10 := hL10.own
            have hrl8 : rs.length ≤ 6 := by have := congrArg List.length hrs8; rw [List.length_map] at this; omega
            refine d_append (hv := hO10) (hy := ho10.toSl) (hs := (by ((try simp only [ev_tmp, ev_const, ev_func, get_put, get_args, get_putL, get_putL_nil, Nat.reduceEqDiff, reduceIte, List.getD_cons_zero, List.getD_cons_succ, List.getD_nil]); first | done | with_reducible rfl))) (hx := (by ((try simp only [ev_tmp, ev_const, ev_func, get_put, get_args, get_putL, get_putL_nil, Nat.reduceEqDiff, reduceIte, List.getD_cons_zero, List.getD_cons_succ, List.getD_nil]); first | done | with_reducible rfl))) (hz := rfl) (h1 := fun u hu => by rw [List.mem_singleton.1 hu]; exact hi10.sl.one) (hb := by simp only [List.length_map, List.length_singleton]; omega) (hl := by simp only [List.length_map, List.length_singleton, maxLen]; omega) (hbase := by omega) (hvb := fun g hg => by have := (hO10.lt g hg).1; omega) (next := fun v11 w11 ho11 hg11 ha11 => ?_)
            have hx11 : Ext w6 w11 := he7.trans (Ext.app ((he8.trans he9).trans he10) hg11 fun k hk => by have := (hO10.lt k hk).1; omega)
            have hR11 : Pc.Rows w6.heap.size w11.heap.size w11 v11 _ _ := app_row hL10 (by omega) (by omega) hi10 (by omega) (by omega) (fun g hg => by have := hG8.lst.lt hg; omega) ho11 hg11 ha11
            refine dgo ?_
            refine l_store_val (@Own.ext _ _ _ _ _ _ hx11 hoq) hR11.sl.one (m := 0) (by rw [List.length_map]; omega) (next := fun wz hcz hsz hoz => ?_)
            refine ⟨rfl, w11, _, _, _, ?_, hx11, hR11, by rw [List.length_append, hrs8]; simp only [List.length_singleton]; omega, getD_push_len (fun j => by rw [hrs8]; exact hlx j) (by simp; omega), hcz, hoz⟩
            exact hasP
          · refine ds_make_int (t := 24) (n := p.ord.length) (k := p.ord.length) (by omega) (by omega) (next := fun w8 v9 he8 hz8 ho9 => ?_)
            have hj9 := (ho9.toFr (Nat.le_refl _)).ints
            refine dt_fork (π' := [0, 1, 2, 3, 4, 5, 7, 8, 9, 10, 11, 6, 12, 13, 14]) (by decide) rfl rfl (by decide +kernel) ?_ ?_
            · refine ds_call (l01Own2G_ok (xss := (gs.map fun q => q.2.map (·.2)).getD 0 []) (fun i => by have := hlx i; omega) (by omega)) (next := fun v8 w9 h8 => ?_)
              obtain ⟨he9, rs, hG8, hrs8⟩ := h8
              have hz9 := he9.size
              have hk9 := @Ints.ext _ _ _ _ _ _ he9 hj9
              refine d_slice1 (t := 25) (u := v9) (hu := hj9.sl.cells) (next := fun w10 v10 he10 hz10 ho10 => ?_)
              have hi10 := @Ints.ext _ _ _ _ _ _ he10 hk9
              have hL10 := hG8.lst.ext he10
              have hO10 := hL10.own
              have hrl8 : rs.length ≤ 6 := by have := congrArg List.length hrs8; rw [List.length_map] at this; omega
              refine d_append (hv := hO10) (hy := ho10.toSl) (hs := (by ((try simp only [ev_tmp, ev_const, ev_func, get_put, get_args, get_putL, get_putL_nil, Nat.reduceEqDiff, reduceIte, List.getD_cons_zero, List.getD_cons_succ, List.getD_nil]); first | done | with_reducible rfl))) (hx := (by ((try simp only [ev_tmp, ev_const, ev_func, get_put, get_args, get_putL, get_putL_nil, Nat.reduceEqDiff, reduceIte, List.getD_cons_zero, List.getD_cons_succ, List.getD_nil]); first | done | with_reducible rfl))) (hz := rfl) (h1 := fun u hu => by rw [List.mem_singleton.1 hu]; exact hi10.sl.one) (hb := by simp only [List.length_map, List.length_singleton]; omega) (hl := by simp only [List.length_map, List.length_singleton, maxLen]; omega) (hbase := by omega) (hvb := fun g hg => by have := (hO10.lt g hg).1; omega) (next := fun v11 w11 ho11 hg11 ha11 => ?_)
              have hx11 : Ext w6 w11 := he7.trans (Ext.app ((he8.trans he9).trans he10) hg11 fun k hk => by have := (hO10.lt k hk).1; omega)
              have hR11 : Pc.Rows w6.heap.size w11.heap.size w11 v11 _ _ := app_row hL10 (by omega) (by omega) hi10 (by omega) (by omega) (fun g hg => by have := hG8.lst.lt hg; omega) ho11 hg11 ha11
              refine dgo ?_
              refine l_store_val (@Own.ext _ _ _ _ _ _ hx11 hoq) hR11.sl.one (m := 0) (by rw [List.length_map]; omega) (next := fun wz hcz hsz hoz => ?_)
              refine ⟨rfl, w11, _, _, _, ?_, hx11, hR11, by rw [List.length_append, hrs8]; simp only [List.length_singleton]; omega, getD_push_len (fun j => by rw [hrs8]; exact hlx j) (by simp; omega), hcz, hoz⟩
              exact hasP
            · refine ds_slice1 (t := 25) (u := v9) (hu := hj9.sl.cells) (next := fun w9 v10 he9 hz9 ho10 => ?_)
              have hk9 := @Ints.ext _ _ _ _ _ _ he9 hj9
              refine dce (l01Own2G_ok (xss := (gs.map fun q => q.2.map (·.2)).getD 0 []) (fun i => by have := hlx i; omega) (by omega)) (next := fun v8 w10 h8 => ?_)
              obtain ⟨he10, rs, hG8, hrs8⟩ := h8
              have hz10 := he10.size
              have hi10 := @Ints.ext _ _ _ _ _ _ he10 hk9
              have hL10 := hG8.lst
              have hO10 := hL10.own
              have hrl8 : rs.length ≤ 6 := by have := congrArg List.length hrs8; rw [List.length_map] at this; omega
              refine d_append (hv := hO10) (hy := (@Own.ext _ _ _ _ _ _ he10 ho10).toSl) (hs := (by ((try simp only [ev_tmp, ev_const, ev_func, get_put, get_args, get_putL, get_putL_nil, Nat.reduceEqDiff, reduceIte, List.getD_cons_zero, List.getD_cons_succ, List.getD_nil]); first | done | with_reducible rfl))) (hx := (by ((try simp only [ev_tmp, ev_const, ev_func, get_put, get_args, get_putL, get_putL_nil, Nat.reduceEqDiff, reduceIte, List.getD_cons_zero, List.getD_cons_succ, List.getD_nil]); first | done | with_reducible rfl))) (hz := rfl) (h1 := fun u hu => by rw [List.mem_singleton.1 hu]; exact hi10.sl.one) (hb := by simp only [List.length_map, List.length_singleton]; omega) (hl := by simp only [List.length_map, List.length_singleton, maxLen]; omega) (hbase := by omega) (hvb := fun g hg => by have := (hO10.lt g hg).1; omega) (next := fun v11 w11 ho11 hg11 ha11 => ?_)
              have hx11 : Ext w6 w11 := he7.trans (Ext.app ((he8.trans he9).trans he10) hg11 fun k hk => by have := (hO10.lt k hk).1; omega)
              have hR11 : Pc.Rows w6.heap.size w11.heap.size w11 v11 _ _ := app_row hL10 (by omega) (by omega) hi10 (by omega) (by omega) (fun g hg => by have := hG8.lst.lt hg; omega) ho11 hg11 ha11
              refine dgo ?_
              refine l_store_val (@Own.ext _ _ _ _ _ _ hx11 hoq) hR11.sl.one (m := 0) (by rw [List.length_map]; omega) (next := fun wz hcz hsz hoz => ?_)
              refine ⟨rfl, w11, _, _, _, ?_, hx11, hR11, by rw [List.length_append, hrs8]; simp only [List.length_singleton]; omega, getD_push_len (fun j => by rw [hrs8]; exact hlx j) (by simp; omega), hcz, hoz⟩
              exact hasP
        · rintro ρ w' ⟨w7, u, ut, xss, hH, hx7, hR7, hxl, hxj, hc8, ho8⟩
          have hP8 := hO6.presG hgi hvq hx7 hR7 hc8 ho8
          refine ⟨rfl, qo, qp, qc, _, hH, (hC6.grow hx7).app1 hc8 (by omega), (hs6.ext hx7).wr (.one (B := fun g => g = bq) rfl hc8) (fun g hg => by omega), (@Blk.ext _ _ _ _ hx7 hB6).wr (.one (B := fun g => g = bq) rfl hc8) (fun e => hxq e.symm), (@Blk.ext _ _ _ _ hx7 hbk6).wr (.one (B := fun g => g = bq) rfl hc8) (fun e => by omega), hP8, ?_⟩
          exact ((hpr.setCnj (i := 0) (xss := xss) (by omega) (fun j => by have := hxj j; omega))).mono (by omega)
      · refine go ?_
        refine ⟨rfl, qo, qp, qc, _, ?_, plain (Ext.refl _)⟩
        exact hasP
    refine go ?_
    refine st_sliceN (us := [.int .i64 7, .int .i64 7, .int .i64 7, .int .i64 7]) (next := fun w7 v7 he7 hz7 ho7 => ?_)
    have ho7' : OwnI 2 w6.heap.size w7 v7 [7, 7, 7, 7] := ⟨ho7⟩
    have hi7 := (ho7'.toFr (Nat.le_refl _)).ints
    refine go ?_
    refine rc (l07Trivial_ok (xs := [7, 7, 7, 7]) (by decide)) (next := fun v8 w8 h => ?_)
    obtain ⟨xo, xp, xc, rq, gq, rfl, he8, hO8, hS8⟩ := h
    have hx8 := he7.trans he8
    have hz8 := hx8.size
    have hbp6 := hB6.lt
    have hB8 : Blk w8 bp [qo, qp, qc] := @Blk.ext _ _ _ _ hx8 hB6
    refine st_store_agg (vs := [xo, xp, xc]) (cs := _) (hb := hB8) (by ((try simp only [ev_tmp, ev_const, ev_func, get_put, get_args, get_putL, get_putL_nil, Nat.reduceEqDiff, reduceIte, List.getD_cons_zero, List.getD_cons_succ, List.getD_nil]); first | done | with_reducible rfl)) (by ((try simp only [ev_tmp, ev_const, ev_func, get_put, get_args, get_putL, get_putL_nil, Nat.reduceEqDiff, reduceIte, List.getD_cons_zero, List.getD_cons_succ, List.getD_nil]); first | done | with_reducible rfl)) rfl rfl hO8.one3 (by first | exact True.intro | exact ⟨_, rfl, by ((try simp only [ev_tmp, ev_const, ev_func, get_put, get_args, get_putL, get_putL_nil, Nat.reduceEqDiff, reduceIte, List.getD_cons_zero, List.getD_cons_succ, List.getD_nil, Bool.not_true, Bool.not_false]); first | done | with_reducible rfl)⟩) fun w9 hc9 hs9 hB9 => ?_
    have hO9 := (hO8.weak (Y := fun g => g = bp) (fun g e => .inr (.inl (by omega)))).chg hc9 (.inl rfl)
    have hC9 : Chg bs w w9 := (hC6.grow hx8).app1 hc9 (by omega)
    have hs9' : Src w9 bs := (hs6.ext hx8).wr (.one (B := fun g => g = bp) rfl hc9) fun g hg => by omega
    have hbk9 : Blk w9 br [nilv, nilv, nilv] := (@Blk.ext _ _ _ _ hx8 hbk6).wr (.one (B := fun g => g = bp) rfl hc9) fun e => by omega
    have hz9 := hc9.size
    refine go ?_
    refine rc (l01Next_ok (n := 2) hs9') (next := fun v10 w10 h10 => ?_)
    obtain ⟨k10, rfl, hc10, hs10, hk100, hk101, hz10⟩ := h10
    have hO10 := hO9.chg hc10 (.inr (by omega))
    have hC10 := hC9.trans hc10
    have hB10 : Blk w10 bp [xo, xp, xc] := hB9.wr (.one (B := fun g => g = bs) rfl hc10) fun e => by omega
    have hbk10 : Blk w10 br [nilv, nilv, nilv] := hbk9.wr (.one (B := fun g => g = bs) rfl hc10) fun e => by omega
    refine go ?_
    refine c_if (fun r1 => ?_) (fun r1 => ?_)
    · refine go ?_
      refine st_sliceN (us := [.int .i64 2, .int .i64 2, .int .i64 2, .int .i64 2, .int .i64 2, .int .i64 2, .int .i64 2]) (next := fun w11 v11 he11 hz11 ho11 => ?_)
      have ho11' : OwnI 2 w10.heap.size w11 v11 [2, 2, 2, 2, 2, 2, 2] := ⟨ho11⟩
      have hi11 := (ho11'.toFr (Nat.le_refl _)).ints
      refine go ?_
      refine rc (l07Trivial_ok (xs := [2, 2, 2, 2, 2, 2, 2]) (by decide)) (next := fun v12 w12 h => ?_)
      obtain ⟨yo, yp, yc, ry, gy, rfl, he12, hO12, hS12⟩ := h
      have hx12 := he11.trans he12
      have hz12 := hx12.size
      have hB12 : Blk w12 bp [xo, xp, xc] := @Blk.ext _ _ _ _ hx12 hB10
      refine st_store_agg (vs := [yo, yp, yc]) (cs := _) (hb := hB12) (by ((try simp only [ev_tmp, ev_const, ev_func, get_put, get_args, get_putL, get_putL_nil, Nat.reduceEqDiff, reduceIte, List.getD_cons_zero, List.getD_cons_succ, List.getD_nil]); first | done | with_reducible rfl)) (by ((try simp only [ev_tmp, ev_const, ev_func, get_put, get_args, get_putL, get_putL_nil, Nat.reduceEqDiff, reduceIte, List.getD_cons_zero, List.getD_cons_succ, List.getD_nil]); first | done | with_reducible rfl)) rfl rfl hO12.one3 (by first | exact True.intro | exact ⟨_, rfl, by ((try simp only [ev_tmp, ev_const, ev_func, get_put, get_args, get_putL, get_putL_nil, Nat.reduceEqDiff, reduceIte, List.getD_cons_zero, List.getD_cons_succ, List.getD_nil, Bool.not_true, Bool.not_false]); first | done | with_reducible rfl)⟩) fun w13 hc13 hs13 hB13 => ?_
      have hO13 := (hO12.weak (Y := fun g => g = bp) (fun g e => .inr (.inl (by omega)))).chg hc13 (.inl rfl)
      refine go ?_
      refine ⟨rfl, yo, yp, yc, _, ?_, (hC10.grow hx12).app1 hc13 (by omega), (hs10.ext hx12).wr (.one (B := fun g => g = bp) rfl hc13) (fun g hg => by omega), hB13, (@Blk.ext _ _ _ _ hx12 hbk10).wr (.one (B := fun g => g = bp) rfl hc13) (fun e => by omega), hO13.pres.mono (by omega) (Nat.le_refl _), hS12.shP.sizeP (k := 30) (by show (7 : Int) ≤ 30; decide)⟩
      exact hasP
    · refine go ?_
      refine ⟨rfl, xo, xp, xc, _, ?_, hC10, hs10, hB10, hbk10, hO10.pres.mono (by omega) (Nat.le_refl _), hS8.shP.sizeP (k := 30) (by show (4 : Int) ≤ 30; decide)⟩
      exact hasP
  · rintro ρ w7 ⟨xo, xp, xc, q, hH, hC7, hs7, hB7, hbk7, hP7, hq7⟩
    refine inBlk_normal (thn_normal (rwp_has hH fun ρ1 => ?_))
    have o3 := hP7.one3
    refine go ?_
    refine ra (v := .agg #[xo, xp, xc]) (h := rd_load_blk (hb := hB7) (by ((try simp only [ev_tmp, ev_const, ev_func, get_put, get_args, get_putL, get_putL_nil, Nat.reduceEqDiff, reduceIte, List.getD_cons_zero, List.getD_cons_succ, List.getD_nil]); first | done | with_reducible rfl)) rfl) (next := ?_)
    refine st_store_agg (vs := [xo, xp, xc]) (cs := _) (hb := hbk7) (by ((try simp only [ev_tmp, ev_const, ev_func, get_put, get_args, get_putL, get_putL_nil, Nat.reduceEqDiff, reduceIte, List.getD_cons_zero, List.getD_cons_succ, List.getD_nil]); first | done | with_reducible rfl)) (by ((try simp only [ev_tmp, ev_const, ev_func, get_put, get_args, get_putL, get_putL_nil, Nat.reduceEqDiff, reduceIte, List.getD_cons_zero, List.getD_cons_succ, List.getD_nil]); first | done | with_reducible rfl)) rfl rfl (by simp [o3.1, o3.2.1, o3.2.2]) (by first | exact True.intro | exact ⟨_, rfl, by ((try simp only [ev_tmp, ev_const, ev_func, get_put, get_args, get_putL, get_putL_nil, Nat.reduceEqDiff, reduceIte, List.getD_cons_zero, List.getD_cons_succ, List.getD_nil, Bool.not_true, Bool.not_false]); first | done | with_reducible rfl)⟩) fun wz hcz hsz hBz => ?_
    refine go ?_
    refine retc (b := br) (hb := hBz) ⟨q, hC7.app1 hcz (by omega), hs7.wr (.one (B := fun g => g = br) rfl hcz) (fun g hg => by omega), ?_, hq7⟩ rfl
    exact (hP7.same fun g h1 h2 h3 => hcz.by_.block g h3 (fun e => by injection e with e; omega)).mono (by omega) hcz.size
end Go.Proofs.Ytjaneagaccefiaa

/-
  Walks: the reference's l07Draw, l08Draw, l09Limit.
  Conditions: stated at each theorem.
-/
namespace Go.Proofs.Ytjaneagaccefiaa
open Go Go.Pc
theorem valid_shP {p : Pr} (hv : Valid p) : ShP p :=
  ⟨hv.lenw, hv.lenc, hv.lenci, fun i hi => (hv.w_in i hi).len, fun i j hi hj => by
    have := (hv.c_in i (i + 1 + j) (by omega) (by show i + 1 + j < p.ord.length; omega)).len
    unfold Pr.c at this
    rwa [show i + 1 + j - i - 1 = j by omega] at this⟩
theorem DrwR.fin {bs br lo hi : Nat} {w wa wz : World} {xo xp xc : Value} {q : Pr} (hC : Chg bs w wa) (hs : Src wa bs) (hP : Pres lo hi wa (.agg #[xo, xp, xc]) q) (hq : SizeP q 30) (h1 : br < lo) (h2 : w.heap.size ≤ br) (h3 : hi ≤ wa.heap.size) (hb : bs < w.heap.size) (c : Chg br wa wz) : DrwR bs w (.agg #[xo, xp, xc]) wz :=
  ⟨q, hC.app1 c h2, hs.wr (.one (B := fun g => g = br) rfl c) (fun g hg => by omega), (hP.same fun g h4 h5 h6 => c.by_.block g h6 (fun e => by injection e with e; omega)).mono (by omega) (Nat.le_trans h3 c.size), hq⟩
set_option maxHeartbeats 16000000 in
theorem l07Draw_ok {w : World} {bs : Nat} {m : Int} (hs : Src w bs) :
    Calls Try.prog 22 #[.pointer (some ⟨bs, 0, none⟩), .int .i64 m] w (Ret fun v w' => DrwR bs w v w') := by
  have hbs := hs.lt
  refine enter (args := [.pointer (some ⟨bs, 0, none⟩), .int .i64 m]) (l := [.cell 4 28]) Try.func22 rfl rfl Try.ntmps22 (by simp) ?_
  refine go ?_
  refine st_alloc (by first | exact True.intro | exact ⟨_, rfl, by ((try simp only [ev_tmp, ev_const, ev_func, get_put, get_args, get_putL, get_putL_nil, Nat.reduceEqDiff, reduceIte, List.getD_cons_zero, List.getD_cons_succ, List.getD_nil, Bool.not_true, Bool.not_false]); first | done | with_reducible rfl)⟩) fun w1 br he1 hbr hs1 hbk1 => ?_
  have hz1 := he1.size
  refine go ?_
  refine rc (l07Group_ok (hs.ext he1)) (next := fun v2 w2 h => ?_)
  obtain ⟨ord, hc2, hs2, hN2, hF2⟩ := h
  obtain ⟨xo, xp, xc, rp, gs, rfl, hO2, hS2⟩ := hN2.ex
  have hz2 := hc2.size
  have hbk2 : Blk w2 br [nilv, nilv, nilv] := hbk1.wr (.one (B := fun g => g = bs) rfl hc2) fun e => by omega
  refine go ?_
  refine st_alloc (by first | exact True.intro | exact ⟨_, rfl, by ((try simp only [ev_tmp, ev_const, ev_func, get_put, get_args, get_putL, get_putL_nil, Nat.reduceEqDiff, reduceIte, List.getD_cons_zero, List.getD_cons_succ, List.getD_nil, Bool.not_true, Bool.not_false]); first | done | with_reducible rfl)⟩) fun w3 bp he3 hbp hs3 hbk3 => ?_
  refine st_store_agg (vs := [xo, xp, xc]) (cs := _) (hb := hbk3) (by ((try simp only [ev_tmp, ev_const, ev_func, get_put, get_args, get_putL, get_putL_nil, Nat.reduceEqDiff, reduceIte, List.getD_cons_zero, List.getD_cons_succ, List.getD_nil]); first | done | with_reducible rfl)) (by ((try simp only [ev_tmp, ev_const, ev_func, get_put, get_args, get_putL, get_putL_nil, Nat.reduceEqDiff, reduceIte, List.getD_cons_zero, List.getD_cons_succ, List.getD_nil]); first | done | with_reducible rfl)) rfl rfl hO2.one3 (by first | exact True.intro | exact ⟨_, rfl, by ((try simp only [ev_tmp, ev_const, ev_func, get_put, get_args, get_putL, get_putL_nil, Nat.reduceEqDiff, reduceIte, List.getD_cons_zero, List.getD_cons_succ, List.getD_nil, Bool.not_true, Bool.not_false]); first | done | with_reducible rfl)⟩) fun w4 hc4 hs4 hB4 => ?_
  have hx4 : Ext w2 w4 := hc4.ext he3 (by omega)
  have hz4 := hx4.size
  have hO4 := hO2.ext hx4
  have hC4 : Chg bs w w4 := ((Chg.ofExt he1).trans hc2).grow hx4
  have hs4' := hs2.ext hx4
  have hbk4 : Blk w4 br [nilv, nilv, nilv] := @Blk.ext _ _ _ _ hx4 hbk2
  clear hO2 hbk2 hbk3 hN2 hbk1
  refine go ?_
  refine rc (l01Next_ok (n := 24) hs4') (next := fun v5 w5 h5 => ?_)
  obtain ⟨k5, rfl, hc5, hs5, hk50, hk51, hz5⟩ := h5
  have hO5 := hO4.chg hc5 (.inr (by omega))
  have hC5 := hC4.trans hc5
  have hB5 : Blk w5 bp [xo, xp, xc] := hB4.wr (.one (B := fun g => g = bs) rfl hc5) fun e => by omega
  have hbk5 : Blk w5 br [nilv, nilv, nilv] := hbk4.wr (.one (B := fun g => g = bs) rfl hc5) fun e => by omega
  have hP5 := hO5.pres
  have hn6 : (prOf ord rp gs).ord.length ≤ 6 := hF2.1
  have hsh := hS2.shP
  clear hO4 hB4 hbk4 hC4
  refine go ?_
  refine c_if (fun q0 => ?_) (fun q0 => ?_)
  · refine go ?_
    refine ra (v := .agg #[xo, xp, xc]) (h := rd_load_blk (hb := hB5) (by ((try simp only [ev_tmp, ev_const, ev_func, get_put, get_args, get_putL, get_putL_nil, Nat.reduceEqDiff, reduceIte, List.getD_cons_zero, List.getD_cons_succ, List.getD_nil]); first | done | with_reducible rfl)) rfl) (next := ?_)
    refine go ?_
    refine rc (l07Bend_ok (hp := hP5) hs5 hsh hn6 (by omega)) (next := fun v6 w6 h => ?_)
    obtain ⟨q, hc6, hs6, hP6, hq6⟩ := h
    obtain ⟨yo, yp, yc, ps, cs, css, rfl, _⟩ := hP6.ex
    have o3 := hP6.one3
    have hz6 := hc6.size
    have hbk6 : Blk w6 br [nilv, nilv, nilv] := hbk5.wr (.one (B := fun g => g = bs) rfl hc6) fun e => by omega
    refine go ?_
    refine st_store_agg (vs := [yo, yp, yc]) (cs := _) (hb := hbk6) (by ((try simp only [ev_tmp, ev_const, ev_func, get_put, get_args, get_putL, get_putL_nil, Nat.reduceEqDiff, reduceIte, List.getD_cons_zero, List.getD_cons_succ, List.getD_nil]); first | done | with_reducible rfl)) (by ((try simp only [ev_tmp, ev_const, ev_func, get_put, get_args, get_putL, get_putL_nil, Nat.reduceEqDiff, reduceIte, List.getD_cons_zero, List.getD_cons_succ, List.getD_nil]); first | done | with_reducible rfl)) rfl rfl (by simp [o3.1, o3.2.1, o3.2.2]) (by first | exact True.intro | exact ⟨_, rfl, by ((try simp only [ev_tmp, ev_const, ev_func, get_put, get_args, get_putL, get_putL_nil, Nat.reduceEqDiff, reduceIte, List.getD_cons_zero, List.getD_cons_succ, List.getD_nil, Bool.not_true, Bool.not_false]); first | done | with_reducible rfl)⟩) fun wz hcz hsz hBz => ?_
    refine go ?_
    exact retc (b := br) (hb := hBz) (DrwR.fin (hC5.trans hc6) hs6 hP6 hq6 (by omega) (by omega) (Nat.le_refl _) hbs hcz) rfl
  have turn : ∀ {v : Value} {w6 : World}, DrwR bs w5 v w6 → ∃ yo yp yc q, v = .agg #[yo, yp, yc] ∧ Chg bs w5 w6 ∧ Src w6 bs ∧ Pres w5.heap.size w6.heap.size w6 (.agg #[yo, yp, yc]) q ∧ SizeP q 30 := fun h => by
    obtain ⟨q, hc6, hs6, hP6, hq6⟩ := h
    obtain ⟨yo, yp, yc, ps, cs, css, rfl, _⟩ := hP6.ex
    exact ⟨_, _, _, _, rfl, hc6, hs6, hP6, hq6⟩
  refine go ?_
  refine c_if (fun q1 => ?_) (fun q1 => ?_)
  · refine go ?_
    refine c_if (fun q2 => ?_) (fun q2 => ?_)
    · refine go ?_
      refine ra (v := .agg #[xo, xp, xc]) (h := rd_load_blk (hb := hB5) (by ((try simp only [ev_tmp, ev_const, ev_func, get_put, get_args, get_putL, get_putL_nil, Nat.reduceEqDiff, reduceIte, List.getD_cons_zero, List.getD_cons_succ, List.getD_nil]); first | done | with_reducible rfl)) rfl) (next := ?_)
      refine go ?_
      refine rc (l07Turn_ok (hp := hP5) hs5 hsh hn6 (by omega)) (next := fun v6 w6 h => ?_)
      obtain ⟨yo, yp, yc, q, rfl, hc6, hs6, hP6, hq6⟩ := turn h
      have o3 := hP6.one3
      have hz6 := hc6.size
      have hbk6 : Blk w6 br [nilv, nilv, nilv] := hbk5.wr (.one (B := fun g => g = bs) rfl hc6) fun e => by omega
      refine go ?_
      refine st_store_agg (vs := [yo, yp, yc]) (cs := _) (hb := hbk6) (by ((try simp only [ev_tmp, ev_const, ev_func, get_put, get_args, get_putL, get_putL_nil, Nat.reduceEqDiff, reduceIte, List.getD_cons_zero, List.getD_cons_succ, List.getD_nil]); first | done | with_reducible rfl)) (by ((try simp only [ev_tmp, ev_const, ev_func, get_put, get_args, get_putL, get_putL_nil, Nat.reduceEqDiff, reduceIte, List.getD_cons_zero, List.getD_cons_succ, List.getD_nil]); first | done | with_reducible rfl)) rfl rfl (by simp [o3.1, o3.2.1, o3.2.2]) (by first | exact True.intro | exact ⟨_, rfl, by ((try simp only [ev_tmp, ev_const, ev_func, get_put, get_args, get_putL, get_putL_nil, Nat.reduceEqDiff, reduceIte, List.getD_cons_zero, List.getD_cons_succ, List.getD_nil, Bool.not_true, Bool.not_false]); first | done | with_reducible rfl)⟩) fun wz hcz hsz hBz => ?_
      refine go ?_
      exact retc (b := br) (hb := hBz) (DrwR.fin (hC5.trans hc6) hs6 hP6 hq6 (by omega) (by omega) (Nat.le_refl _) hbs hcz) rfl
    · exact absurd q1 q2
  refine go ?_
  refine c_if (fun q2 => ?_) (fun q2 => ?_)
  · refine go ?_
    refine ra (v := .agg #[xo, xp, xc]) (h := rd_load_blk (hb := hB5) (by ((try simp only [ev_tmp, ev_const, ev_func, get_put, get_args, get_putL, get_putL_nil, Nat.reduceEqDiff, reduceIte, List.getD_cons_zero, List.getD_cons_succ, List.getD_nil]); first | done | with_reducible rfl)) rfl) (next := ?_)
    refine go ?_
    refine rc (l07Turn_ok (hp := hP5) hs5 hsh hn6 (by omega)) (next := fun v6 w6 h => ?_)
    obtain ⟨yo, yp, yc, q, rfl, hc6, hs6, hP6, hq6⟩ := turn h
    have o3 := hP6.one3
    have hz6 := hc6.size
    have hbk6 : Blk w6 br [nilv, nilv, nilv] := hbk5.wr (.one (B := fun g => g = bs) rfl hc6) fun e => by omega
    refine go ?_
    refine st_store_agg (vs := [yo, yp, yc]) (cs := _) (hb := hbk6) (by ((try simp only [ev_tmp, ev_const, ev_func, get_put, get_args, get_putL, get_putL_nil, Nat.reduceEqDiff, reduceIte, List.getD_cons_zero, List.getD_cons_succ, List.getD_nil]); first | done | with_reducible rfl)) (by ((try simp only [ev_tmp, ev_const, ev_func, get_put, get_args, get_putL, get_putL_nil, Nat.reduceEqDiff, reduceIte, List.getD_cons_zero, List.getD_cons_succ, List.getD_nil]); first | done | with_reducible rfl)) rfl rfl (by simp [o3.1, o3.2.1, o3.2.2]) (by first | exact True.intro | exact ⟨_, rfl, by ((try simp only [ev_tmp, ev_const, ev_func, get_put, get_args, get_putL, get_putL_nil, Nat.reduceEqDiff, reduceIte, List.getD_cons_zero, List.getD_cons_succ, List.getD_nil, Bool.not_true, Bool.not_false]); first | done | with_reducible rfl)⟩) fun wz hcz hsz hBz => ?_
    refine go ?_
    exact retc (b := br) (hb := hBz) (DrwR.fin (hC5.trans hc6) hs6 hP6 hq6 (by omega) (by omega) (Nat.le_refl _) hbs hcz) rfl
  refine go ?_
  refine ra (v := .agg #[xo, xp, xc]) (h := rd_load_blk (hb := hB5) (by ((try simp only [ev_tmp, ev_const, ev_func, get_put, get_args, get_putL, get_putL_nil, Nat.reduceEqDiff, reduceIte, List.getD_cons_zero, List.getD_cons_succ, List.getD_nil]); first | done | with_reducible rfl)) rfl) (next := ?_)
  refine st_store_agg (vs := [xo, xp, xc]) (cs := _) (hb := hbk5) (by ((try simp only [ev_tmp, ev_const, ev_func, get_put, get_args, get_putL, get_putL_nil, Nat.reduceEqDiff, reduceIte, List.getD_cons_zero, List.getD_cons_succ, List.getD_nil]); first | done | with_reducible rfl)) (by ((try simp only [ev_tmp, ev_const, ev_func, get_put, get_args, get_putL, get_putL_nil, Nat.reduceEqDiff, reduceIte, List.getD_cons_zero, List.getD_cons_succ, List.getD_nil]); first | done | with_reducible rfl)) rfl rfl hO5.one3 (by first | exact True.intro | exact ⟨_, rfl, by ((try simp only [ev_tmp, ev_const, ev_func, get_put, get_args, get_putL, get_putL_nil, Nat.reduceEqDiff, reduceIte, List.getD_cons_zero, List.getD_cons_succ, List.getD_nil, Bool.not_true, Bool.not_false]); first | done | with_reducible rfl)⟩) fun wz hcz hsz hBz => ?_
  refine go ?_
  exact retc (b := br) (hb := hBz) (DrwR.fin hC5 hs5 hP5 (hsh.sizeP (by omega)) (by omega) (by omega) (Nat.le_refl _) hbs hcz) rfl
set_option maxHeartbeats 16000000 in
theorem l08Draw_ok {w : World} {bs : Nat} (hs : Src w bs) :
    Calls Try.prog 12 #[.pointer (some ⟨bs, 0, none⟩)] w (Ret fun v w' => DrwR bs w v w') := by
  have hbs := hs.lt
  refine enter (args := [.pointer (some ⟨bs, 0, none⟩)]) (l := [.cell 2 28]) Try.func12 rfl rfl Try.ntmps12 (by simp) ?_
  refine go ?_
  refine st_alloc (by first | exact True.intro | exact ⟨_, rfl, by ((try simp only [ev_tmp, ev_const, ev_func, get_put, get_args, get_putL, get_putL_nil, Nat.reduceEqDiff, reduceIte, List.getD_cons_zero, List.getD_cons_succ, List.getD_nil, Bool.not_true, Bool.not_false]); first | done | with_reducible rfl)⟩) fun w1 br he1 hbr hs1 hbk1 => ?_
  have hz1 := he1.size
  refine go ?_
  refine rc (l07Draw_ok (hs.ext he1)) (next := fun v2 w2 h => ?_)
  obtain ⟨p, hc2, hs2, hP2, hp2⟩ := h
  obtain ⟨xo, xp, xc, ps, cs, css, rfl, _⟩ := hP2.ex
  have o3 := hP2.one3
  have hz2 := hc2.size
  have hbk2 : Blk w2 br [nilv, nilv, nilv] := hbk1.wr (.one (B := fun g => g = bs) rfl hc2) fun e => by omega
  refine go ?_
  refine st_alloc (by first | exact True.intro | exact ⟨_, rfl, by ((try simp only [ev_tmp, ev_const, ev_func, get_put, get_args, get_putL, get_putL_nil, Nat.reduceEqDiff, reduceIte, List.getD_cons_zero, List.getD_cons_succ, List.getD_nil, Bool.not_true, Bool.not_false]); first | done | with_reducible rfl)⟩) fun w3 bp he3 hbp hs3 hbk3 => ?_
  refine st_store_agg (vs := [xo, xp, xc]) (cs := _) (hb := hbk3) (by ((try simp only [ev_tmp, ev_const, ev_func, get_put, get_args, get_putL, get_putL_nil, Nat.reduceEqDiff, reduceIte, List.getD_cons_zero, List.getD_cons_succ, List.getD_nil]); first | done | with_reducible rfl)) (by ((try simp only [ev_tmp, ev_const, ev_func, get_put, get_args, get_putL, get_putL_nil, Nat.reduceEqDiff, reduceIte, List.getD_cons_zero, List.getD_cons_succ, List.getD_nil]); first | done | with_reducible rfl)) rfl rfl (by simp [o3.1, o3.2.1, o3.2.2]) (by first | exact True.intro | exact ⟨_, rfl, by ((try simp only [ev_tmp, ev_const, ev_func, get_put, get_args, get_putL, get_putL_nil, Nat.reduceEqDiff, reduceIte, List.getD_cons_zero, List.getD_cons_succ, List.getD_nil, Bool.not_true, Bool.not_false]); first | done | with_reducible rfl)⟩) fun w4 hc4 hs4 hB4 => ?_
  have hx4 : Ext w2 w4 := hc4.ext he3 (by omega)
  have hz4 := hx4.size
  have hP4 : Pres w1.heap.size w2.heap.size w4 _ p := hP2.same (hx4.same _ _)
  have hC4 : Chg bs w w4 := ((Chg.ofExt he1).trans hc2).grow hx4
  have hs4' := hs2.ext hx4
  have hbk4 : Blk w4 br [nilv, nilv, nilv] := @Blk.ext _ _ _ _ hx4 hbk2
  clear hP2 hbk2 hbk3 hbk1
  refine go ?_
  refine rc (l01Next_ok (n := 2) hs4') (next := fun v5 w5 h5 => ?_)
  obtain ⟨k5, rfl, hc5, hs5, hk50, hk51, hz5⟩ := h5
  have hC5 := hC4.trans hc5
  have hB5 : Blk w5 bp [xo, xp, xc] := hB4.wr (.one (B := fun g => g = bs) rfl hc5) fun e => by omega
  have hbk5 : Blk w5 br [nilv, nilv, nilv] := hbk4.wr (.one (B := fun g => g = bs) rfl hc5) fun e => by omega
  have hP5 : Pres w1.heap.size w2.heap.size w5 (.agg #[xo, xp, xc]) p := hP4.same fun g h1 h2 h3 => hc5.by_.block g h3 (fun e => by injection e with e; omega)
  clear hP4 hB4 hbk4 hC4
  have last : ∀ {w6 wz : World}, Ext w5 w6 → Chg br w6 wz → DrwR bs w (.agg #[xo, xp, xc]) wz := fun x c => DrwR.fin (hC5.grow x) (hs5.ext x) (hP5.same (x.same _ _)) hp2 (by omega) (by omega) (by have := x.size; omega) hbs c
  refine go ?_
  refine spd (fun q0 => ?_) (fun q0 => ?_)
  · refine go ?_
    refine ra (v := .agg #[xo, xp, xc]) (h := rd_load_blk (hb := hB5) (by ((try simp only [ev_tmp, ev_const, ev_func, get_put, get_args, get_putL, get_putL_nil, Nat.reduceEqDiff, reduceIte, List.getD_cons_zero, List.getD_cons_succ, List.getD_nil]); first | done | with_reducible rfl)) rfl) (next := ?_)
    refine go ?_
    refine rc (spec_IsPresentation_ok (p := p) (by have := hp2.ord; omega)) (next := fun v6 w6 h => ?_)
    obtain ⟨b6, rfl, hb6, he6⟩ := h
    have hB6 : Blk w6 bp [xo, xp, xc] := @Blk.ext _ _ _ _ he6 hB5
    have hbk6 : Blk w6 br [nilv, nilv, nilv] := @Blk.ext _ _ _ _ he6 hbk5
    have hP6 : Pres w1.heap.size w2.heap.size w6 (.agg #[xo, xp, xc]) p := hP5.same (he6.same _ _)
    have hz6 := he6.size
    refine go ?_
    refine c_b (fun q1 => ?_) (fun q1 => ?_)
    · have hv := hb6.1 (by simpa using q1)
      refine go ?_
      refine ra (v := .agg #[xo, xp, xc]) (h := rd_load_blk (hb := hB6) (by ((try simp only [ev_tmp, ev_const, ev_func, get_put, get_args, get_putL, get_putL_nil, Nat.reduceEqDiff, reduceIte, List.getD_cons_zero, List.getD_cons_succ, List.getD_nil]); first | done | with_reducible rfl)) rfl) (next := ?_)
      refine go ?_
      refine rc (l07Turn_ok (hp := hP6) (hs5.ext he6) (valid_shP hv) hv.n6 (by omega)) (next := fun v7 w7 h => ?_)
      obtain ⟨q, hc7, hs7, hP7, hq7⟩ := h
      obtain ⟨yo, yp, yc, ps, cs, css, rfl, _⟩ := hP7.ex
      have o3 := hP7.one3
      have hz7 := hc7.size
      have hbk7 : Blk w7 br [nilv, nilv, nilv] := hbk6.wr (.one (B := fun g => g = bs) rfl hc7) fun e => by omega
      refine go ?_
      refine st_store_agg (vs := [yo, yp, yc]) (cs := _) (hb := hbk7) (by ((try simp only [ev_tmp, ev_const, ev_func, get_put, get_args, get_putL, get_putL_nil, Nat.reduceEqDiff, reduceIte, List.getD_cons_zero, List.getD_cons_succ, List.getD_nil]); first | done | with_reducible rfl)) (by ((try simp only [ev_tmp, ev_const, ev_func, get_put, get_args, get_putL, get_putL_nil, Nat.reduceEqDiff, reduceIte, List.getD_cons_zero, List.getD_cons_succ, List.getD_nil]); first | done | with_reducible rfl)) rfl rfl (by simp [o3.1, o3.2.1, o3.2.2]) (by first | exact True.intro | exact ⟨_, rfl, by ((try simp only [ev_tmp, ev_const, ev_func, get_put, get_args, get_putL, get_putL_nil, Nat.reduceEqDiff, reduceIte, List.getD_cons_zero, List.getD_cons_succ, List.getD_nil, Bool.not_true, Bool.not_false]); first | done | with_reducible rfl)⟩) fun wz hcz hsz hBz => ?_
      refine go ?_
      exact retc (b := br) (hb := hBz) (DrwR.fin ((hC5.grow he6).trans hc7) hs7 hP7 hq7 (by omega) (by omega) (Nat.le_refl _) hbs hcz) rfl
    · refine go ?_
      refine ra (v := .agg #[xo, xp, xc]) (h := rd_load_blk (hb := hB6) (by ((try simp only [ev_tmp, ev_const, ev_func, get_put, get_args, get_putL, get_putL_nil, Nat.reduceEqDiff, reduceIte, List.getD_cons_zero, List.getD_cons_succ, List.getD_nil]); first | done | with_reducible rfl)) rfl) (next := ?_)
      refine st_store_agg (vs := [xo, xp, xc]) (cs := _) (hb := hbk6) (by ((try simp only [ev_tmp, ev_const, ev_func, get_put, get_args, get_putL, get_putL_nil, Nat.reduceEqDiff, reduceIte, List.getD_cons_zero, List.getD_cons_succ, List.getD_nil]); first | done | with_reducible rfl)) (by ((try simp only [ev_tmp, ev_const, ev_func, get_put, get_args, get_putL, get_putL_nil, Nat.reduceEqDiff, reduceIte, List.getD_cons_zero, List.getD_cons_succ, List.getD_nil]); first | done | with_reducible rfl)) rfl rfl (by simp [o3.1, o3.2.1, o3.2.2]) (by first | exact True.intro | exact ⟨_, rfl, by ((try simp only [ev_tmp, ev_const, ev_func, get_put, get_args, get_putL, get_putL_nil, Nat.reduceEqDiff, reduceIte, List.getD_cons_zero, List.getD_cons_succ, List.getD_nil, Bool.not_true, Bool.not_false]); first | done | with_reducible rfl)⟩) fun wz hcz hsz hBz => ?_
      refine go ?_
      exact retc (b := br) (hb := hBz) (last he6 hcz) rfl
  · refine go ?_
    refine ra (v := .agg #[xo, xp, xc]) (h := rd_load_blk (hb := hB5) (by ((try simp only [ev_tmp, ev_const, ev_func, get_put, get_args, get_putL, get_putL_nil, Nat.reduceEqDiff, reduceIte, List.getD_cons_zero, List.getD_cons_succ, List.getD_nil]); first | done | with_reducible rfl)) rfl) (next := ?_)
    refine st_store_agg (vs := [xo, xp, xc]) (cs := _) (hb := hbk5) (by ((try simp only [ev_tmp, ev_const, ev_func, get_put, get_args, get_putL, get_putL_nil, Nat.reduceEqDiff, reduceIte, List.getD_cons_zero, List.getD_cons_succ, List.getD_nil]); first | done | with_reducible rfl)) (by ((try simp only [ev_tmp, ev_const, ev_func, get_put, get_args, get_putL, get_putL_nil, Nat.reduceEqDiff, reduceIte, List.getD_cons_zero, List.getD_cons_succ, List.getD_nil]); first | done | with_reducible rfl)) rfl rfl (by simp [o3.1, o3.2.1, o3.2.2]) (by first | exact True.intro | exact ⟨_, rfl, by ((try simp only [ev_tmp, ev_const, ev_func, get_put, get_args, get_putL, get_putL_nil, Nat.reduceEqDiff, reduceIte, List.getD_cons_zero, List.getD_cons_succ, List.getD_nil, Bool.not_true, Bool.not_false]); first | done | with_reducible rfl)⟩) fun wz hcz hsz hBz => ?_
    refine go ?_
    exact retc (b := br) (hb := hBz) (last (Ext.refl _) hcz) rfl
end Go.Proofs.Ytjaneagaccefiaa

/-
  Walks: the reference's l10Two, DrawConsistencyFault, DrawCollectProduct, DrawConjugate, DrawPower.
  Conditions: the code is a list of bytes.
-/
namespace Go.Pc
open Go Go.RowKit
section
variable {P : Program} {N : Nat} {ops : Array Oper} {π : List Nat} {S : World → Prop} {K : Env → World → Prop} {ρ : Env} {w w0 : World}
variable {i : Nat} {d : Nat} {op : Op} {ty : TypeId} {pos : String} {after : Array Edge} {g : Option (Nat × Bool)}
/-- Four results, the first in a variable. -/
def retQ4 (P : Program) (t : Tmp) (ty : TypeId) (a b c : Tmp) (R : Value → World → Prop) : Post
  | .ret, ρ, w | .normal, ρ, w => ∃ q v, get ρ t = .pointer (some q) ∧ (loadVar ty q).run P w = .ok v w ∧ R (.tuple #[v, get ρ a, get ρ b, get ρ c]) w
  | _, _, _ => False
attribute [irreducible] retQ4
end
end Go.Pc
namespace Go.Proofs.Ytjaneagaccefiaa
open Go Go.Pc
/-- What a draw gives: a presentation whose lists are short. -/
def DrP (w : World) (v : Value) (w' : World) : Prop := ∃ p, Ext w w' ∧ Pres w.heap.size w'.heap.size w' v p ∧ SizeP p 30
/-- A code. -/
structure Cod (lo hi : Nat) (w : World) (v : Value) (cs : List Int) : Prop where
  sl : Sl lo hi w v (cs.map (Value.int .u8))
  rng : ∀ c, c ∈ cs → 0 ≤ c ∧ c < 256
  len : cs.length ≤ 1000000
set_option maxHeartbeats 4000000 in
theorem DrawConsistencyFault_ok {w : World} {vc : Value} {cs : List Int} {lo hi : Nat} (hc : Cod lo hi w vc cs) :
    Calls Try.prog 5 #[vc] w (Ret fun v w' => DrP w v w') := by
  refine enter (args := [vc]) (l := [.cell 2 28]) Try.func5 rfl rfl Try.ntmps5 (by simp) ?_
  refine go ?_
  refine st_alloc (by first | exact True.intro | exact ⟨_, rfl, by ((try simp only [ev_tmp, ev_const, ev_func, get_put, get_args, get_putL, get_putL_nil, Nat.reduceEqDiff, reduceIte, List.getD_cons_zero, List.getD_cons_succ, List.getD_nil, Bool.not_true, Bool.not_false]); first | done | with_reducible rfl)⟩) fun w1 br he1 hbr hs1 hbk1 => ?_
  have hz1 := he1.size
  refine go ?_
  refine rc (l01From_ok (lo := lo) (hi := hi) (cs := cs) (hc.sl.same (he1.same _ _)) hc.rng hc.len) (next := fun v2 w2 h => ?_)
  obtain ⟨bs, rfl, he2, hs2, hb2⟩ := h
  have hz2 := he2.size
  refine go ?_
  refine rc (l08Draw_ok hs2) (next := fun v3 w3 h => ?_)
  have hD := h
  obtain ⟨p, hc3, hs3, hP3, hp3⟩ := h
  obtain ⟨xo, xp, xc, ps, css, csss, rfl, _⟩ := hP3.ex
  have o3 := hP3.one3
  have hbk3 : Blk w3 br [nilv, nilv, nilv] := (@Blk.ext _ _ _ _ he2 hbk1).wr (.one (B := fun g => g = bs) rfl hc3) fun e => by omega
  refine go ?_
  refine st_store_agg (vs := [xo, xp, xc]) (cs := _) (hb := hbk3) (by ((try simp only [ev_tmp, ev_const, ev_func, get_put, get_args, get_putL, get_putL_nil, Nat.reduceEqDiff, reduceIte, List.getD_cons_zero, List.getD_cons_succ, List.getD_nil]); first | done | with_reducible rfl)) (by ((try simp only [ev_tmp, ev_const, ev_func, get_put, get_args, get_putL, get_putL_nil, Nat.reduceEqDiff, reduceIte, List.getD_cons_zero, List.getD_cons_succ, List.getD_nil]); first | done | with_reducible rfl)) rfl rfl (by simp [o3.1, o3.2.1, o3.2.2]) (by first | exact True.intro | exact ⟨_, rfl, by ((try simp only [ev_tmp, ev_const, ev_func, get_put, get_args, get_putL, get_putL_nil, Nat.reduceEqDiff, reduceIte, List.getD_cons_zero, List.getD_cons_succ, List.getD_nil, Bool.not_true, Bool.not_false]); first | done | with_reducible rfl)⟩) fun wz hcz hsz hBz => ?_
  refine go ?_
  refine retc (b := br) (hb := hBz) ⟨p, hcz.ext (hc3.ext (he1.trans he2) (by omega)) (by omega), (hP3.same fun g h4 h5 h6 => hcz.by_.block g h6 (fun e => by injection e with e; omega)).mono (by omega) hcz.size, hp3⟩ rfl
end Go.Proofs.Ytjaneagaccefiaa

/-
  Walk: the program's check of a presentation (IsPresentation).
  Conditions: stated at each theorem.
-/
namespace Go.Proofs.Ytjaneagaccefiaa
open Go Go.Pc
theorem foldl_mono : ∀ (l : List Int) (a : Int), (∀ o ∈ l, 1 ≤ o) → 1 ≤ a → a ≤ l.foldl (· * ·) a :=
  fun l a h ha => (capMul_foldl l a h ha).2.1
theorem prod_take {l : List Int} {k : Nat} (h : ∀ o ∈ l, 1 ≤ o) : 1 ≤ (l.take k).foldl (· * ·) 1 ∧ (l.take k).foldl (· * ·) 1 ≤ l.foldl (· * ·) 1 := by
  have h1 := foldl_mono (l.take k) 1 (fun o ho => h o (List.mem_of_mem_take ho)) (by omega)
  have h2 := foldl_mono (l.drop k) ((l.take k).foldl (· * ·) 1) (fun o ho => h o (List.mem_of_mem_drop ho)) h1
  rw [← List.foldl_append, List.take_append_drop] at h2
  exact ⟨h1, h2⟩
set_option maxHeartbeats 2000000 in
theorem impl_IsPresentation_ok {w : World} {v : Value} {p : Pr} {lo hi : Nat} [hp : Pres lo hi w v p] (hl : p.ord.length ≤ 2000000) :
    Calls Try.prog 11 #[v] w (Ret fun v' w' => ∃ b, v' = .bool b ∧ (b = true ↔ Valid p) ∧ Ext w w') := by
  have hol : p.ord.length = p.n := rfl
  obtain ⟨vo, vpw, vc, ps, cs, css, rfl, h1, h2, h3⟩ := hp.ex
  refine enter (args := [.agg #[vo, vpw, vc]]) (l := [.tmp 2]) Try.func11 rfl rfl Try.ntmps11 (by simp) ?_
  refine go ?_
  refine st_box3 (by ((try simp only [ev_tmp, ev_const, ev_func, get_put, get_args, get_putL, get_putL_nil, Nat.reduceEqDiff, reduceIte, List.getD_cons_zero, List.getD_cons_succ, List.getD_nil]); first | done | with_reducible rfl)) (by first | exact True.intro | exact ⟨_, rfl, by ((try simp only [ev_tmp, ev_const, ev_func, get_put, get_args, get_putL, get_putL_nil, Nat.reduceEqDiff, reduceIte, List.getD_cons_zero, List.getD_cons_succ, List.getD_nil, Bool.not_true, Bool.not_false]); first | done | with_reducible rfl)⟩) fun w1 b he1 hb1 hs1 hc0 hc1 hc2 => ?_
  have no : ∀ {w' : World}, ¬ Valid p → Ext w w' → ∃ b, Value.bool false = .bool b ∧ (b = true ↔ Valid p) ∧ Ext w w' := fun h he => ⟨_, rfl, by simp [h], he⟩
  have hpp := hp.boxed he1 hc0 hc1 hc2
  refine go ?_
  refine spd (fun hn => ?_) (fun hn => ?_)
  · refine go ?_
    exact ret1 (no (fun h => by have := h.n6; omega) he1)
  refine go ?_
  refine spd (fun hn2 => ?_) (fun hn2 => ?_)
  · refine go ?_
    exact ret1 (no (fun h => by have := h.lenw; omega) he1)
  refine go ?_
  refine c_if (fun hn3 => ?_) (fun hn3 => ?_)
  · refine go ?_
    exact ret1 (no (fun h => by have := h.lenc; omega) he1)
  refine go ?_
  refine r_for p.n (fun k ρ w' => Has ρ [(1, .pointer (some ⟨b, 0, none⟩)), (3, .int .i64 p.n), (4, .int .i64 ((p.ord.take k).foldl (· * ·) 1)), (30, vo), (31, .int .i64 p.n), (32, .int .i64 k)] ∧ Ext w1 w' ∧
    (p.ord.take k).foldl (· * ·) 1 ≤ 729 ∧ ∀ i, i < k → p.ord.getD i 0 = 2 ∨ p.ord.getD i 0 = 3 ∨ p.ord.getD i 0 = 5 ∨ p.ord.getD i 0 = 7) ?_ ?_
  · refine ⟨?_, Ext.refl _, by simp, fun i hi => by omega⟩
    exact hasP
  rintro k ρ w2 hk ⟨hH, he2, hpr, hpre⟩
  refine rwp_has hH fun ρ0 => ?_
  refine go ?_
  refine c_if (fun hk1 => ?_) (fun hk1 => ?_)
  · have hkn : k < p.n := by omega
    have hps : (p.ord.take (k + 1)).foldl (· * ·) 1 = (p.ord.take k).foldl (· * ·) 1 * p.ord.getD k 0 := foldl_take_succ _ _ _ _ _ hkn
    refine go ?_
    refine rc IsGroupPrime_ok (next := fun v3 w3 h3 => ?_)
    obtain ⟨b3, rfl, hb3, he3⟩ := h3
    refine go ?_
    refine sp (fun h4 => ?_) (fun h4 => ?_)
    · refine go ?_
      refine ret1 (no (fun h => ?_) ((he1.trans he2).trans he3))
      have := hb3.2 (h.prime k (by omega))
      rw [this] at h4; cases h4
    · have h5 := hb3.1 (by simpa using h4)
      have hone : 1 ≤ (p.ord.take k).foldl (· * ·) 1 := by
        refine foldl_mono _ 1 (fun o ho => ?_) (by omega)
        obtain ⟨i, hi, rfl⟩ := List.getElem_of_mem ho
        rw [List.length_take] at hi
        have := hpre i (by omega)
        simp only [List.getElem_take]
        have e : p.ord.getD i 0 = p.ord[i] := by simp [show i < p.ord.length by omega]
        rw [e] at this; omega
      have hm1 : 0 ≤ (p.ord.take k).foldl (· * ·) 1 * p.ord.getD k 0 := Int.mul_nonneg (by omega) (by omega)
      have hm2 : (p.ord.take k).foldl (· * ·) 1 * p.ord.getD k 0 ≤ 729 * 7 := Int.mul_le_mul hpr (by omega) (by omega) (by omega)
      have hmr : -9223372036854775808 ≤ (p.ord.take k).foldl (· * ·) 1 * p.ord.getD k 0 ∧ (p.ord.take k).foldl (· * ·) 1 * p.ord.getD k 0 ≤ 9223372036854775807 := by omega
      refine go ?_
      refine ra (h := rd_mul (by ((try simp only [ev_tmp, ev_const, ev_func, get_put, get_args, get_putL, get_putL_nil, Nat.reduceEqDiff, reduceIte, List.getD_cons_zero, List.getD_cons_succ, List.getD_nil]); first | done | with_reducible rfl)) (by ((try simp only [ev_tmp, ev_const, ev_func, get_put, get_args, get_putL, get_putL_nil, Nat.reduceEqDiff, reduceIte, List.getD_cons_zero, List.getD_cons_succ, List.getD_nil]); first | done | with_reducible rfl)) hmr) (next := ?_)
      refine go ?_
      refine c_if (fun h6 => ?_) (fun h6 => ?_)
      · refine go ?_
        refine ret1 (no (fun h => ?_) ((he1.trans he2).trans he3))
        have := (prod_take (k := k + 1) (fun o ho => (primes_bd h.prime o ho).1)).2
        have h8 := h.prod
        rw [hps] at this
        omega
      · refine go ?_
        refine ra (h := rd_mul (by ((try simp only [ev_tmp, ev_const, ev_func, get_put, get_args, get_putL, get_putL_nil, Nat.reduceEqDiff, reduceIte, List.getD_cons_zero, List.getD_cons_succ, List.getD_nil]); first | done | with_reducible rfl)) (by ((try simp only [ev_tmp, ev_const, ev_func, get_put, get_args, get_putL, get_putL_nil, Nat.reduceEqDiff, reduceIte, List.getD_cons_zero, List.getD_cons_succ, List.getD_nil]); first | done | with_reducible rfl)) hmr) (next := ?_)
        refine go ?_
        refine forQ_normal (by omega) ⟨?_, he2.trans he3, by rw [hps]; omega, fun i hi => ?_⟩
        · rw [hps]; exact hasP
        · by_cases e : i = k
          · subst e; exact h5
          · exact hpre i (by omega)
  · have hkn : k = p.n := by omega
    subst hkn
    have hprod : p.ord.foldl (· * ·) 1 ≤ 729 := by
      rw [← hol, List.take_length] at hpr; exact hpr
    have hbd : ∀ i, i < p.n → 2 ≤ p.o i ∧ p.o i ≤ 7 := fun i hi => by have := hpre i hi; unfold Pr.o; omega
    refine go ?_
    refine r_for p.n (fun k ρ w' => Has ρ [(1, .pointer (some ⟨b, 0, none⟩)), (3, .int .i64 p.n), (49, .int .i64 p.n), (50, .int .i64 k)] ∧ Ext w1 w' ∧ ∀ q, q < k → RowOk p q) ?_ ?_
    · refine ⟨?_, he2, fun i hi => by omega⟩
      exact hasP
    clear he2
    rintro k ρ w4 hk ⟨hH, he4, hrow⟩
    refine rwp_has hH fun ρ1 => ?_
    refine go ?_
    refine c_if (fun hk2 => ?_) (fun hk2 => ?_)
    · have hkn : k < p.n := by omega
      refine go ?_
      refine rc (tailVector_ok (p := p) (xs := p.pow.getD k []) rfl hkn hbd (by omega)) (next := fun v6 w6 h6 => ?_)
      obtain ⟨b6, rfl, hb6, he6⟩ := h6
      refine go ?_
      refine sp (fun h7 => ?_) (fun h7 => ?_)
      · refine go ?_
        refine ret1 (no (fun h => ?_) ((he1.trans he4).trans he6))
        have := hb6.2 ⟨h.w_in k hkn, h.w_zu k hkn⟩
        rw [this] at h7; cases h7
      · have h8 := exp_iff.2 (hb6.1 (by simpa using h7))
        refine go ?_
        refine c_if (fun h9 => ?_) (fun h9 => ?_)
        · refine go ?_
          refine ret1 (no (fun h => ?_) ((he1.trans he4).trans he6))
          have := ((valid_iff.1 h).2.2.2.2.2 k (by omega)).2.1
          omega
        · refine go ?_
          refine r_for (p.cnj.getD k []).length (fun m ρ w' => Has ρ [(1, .pointer (some ⟨b, 0, none⟩)), (3, .int .i64 p.n), (49, .int .i64 p.n), (50, .int .i64 k), (7, .int .i64 k), (78, Pc.rowAt vc cs k), (79, .int .i64 (p.cnj.getD k []).length), (80, .int .i64 m)] ∧ Ext w1 w' ∧ ∀ j, j < m → ExpP p.ord ((p.cnj.getD k []).getD j []) k) ?_ ?_
          · refine ⟨?_, he4.trans he6, fun i hi => by omega⟩
            exact hasP
          clear he4 he6
          rintro m ρ w7 hm ⟨hH, he7, hin⟩
          refine rwp_has hH fun ρ2 => ?_
          refine go ?_
          refine c_if (fun hm2 => ?_) (fun hm2 => ?_)
          · refine go ?_
            refine rc (tailVector_ok (p := p) (xs := (p.cnj.getD k []).getD m []) rfl hkn hbd (by omega)) (next := fun v9 w9 h9 => ?_)
            obtain ⟨b9, rfl, hb9, he9⟩ := h9
            refine go ?_
            refine c_b (fun h10 => ?_) (fun h10 => ?_)
            · refine go ?_
              refine ret1 (no (fun h => ?_) ((he1.trans he7).trans he9))
              have := hb9.2 (exp_iff.1 (((valid_iff.1 h).2.2.2.2.2 k (by omega)).2.2 m (by omega)))
              rw [this] at h10; cases h10
            · have h11 := exp_iff.2 (hb9.1 (by simpa using h10))
              refine go ?_
              refine forQ_normal (by omega) ⟨?_, he7.trans he9, fun j hj => ?_⟩
              · exact hasP
              · by_cases e : j = m
                · subst e; exact h11
                · exact hin j (by omega)
          · refine go ?_
            refine forQ_normal (by omega) ⟨?_, he7, fun q hq => ?_⟩
            · exact hasP
            · by_cases e : q = k
              · subst e
                exact ⟨h8, by omega, fun j hj => hin j (by omega)⟩
              · exact hrow q (by omega)
    · refine go ?_
      refine ret1 ⟨_, rfl, ?_, he1.trans he4⟩
      simp only [true_iff]
      exact valid_iff.2 ⟨by omega, by omega, by omega, hpre, hprod, fun q hq => hrow q (by omega)⟩
end Go.Proofs.Ytjaneagaccefiaa

/-
  Walks: the program's consistency (levelFault, consistentFrom, IsConsistent).
  Conditions: stated at each theorem.
-/
namespace Go.Proofs.Ytjaneagaccefiaa
open Go Go.Pc
def QC (p : Pr) (i : Nat) [h : Con p (i + 1)] (j k : Nat) : Prop := ∀ (hj : i < j ∧ j < p.n) (hk : i < k ∧ k < p.n), j < k → (Grp.cj (Tc h.valid hk) (Tc h.valid hj)).v = img p i (p.c j k)
def QI (p : Pr) (i : Nat) [h : Con p (i + 1)] (hi : i < p.n) (j : Nat) : Prop := ∀ (hj : i + 1 ≤ j ∧ j < p.n), rep (p.o i).toNat (img p i) (unitv p j 1) = (Grp.cj (gen h.valid (i + 1) j hj) (Tw h.valid hi)).v
theorem chk_iff2 {p : Pr} {i : Nat} [h : Con p (i + 1)] (hi : i < p.n) : Chk p i hi ↔ (∀ j, LP p i j) ∧ (∀ j k, QC p i j k) ∧ img p i (p.w i) = p.w i ∧ ∀ j, QI p i hi j := by
  constructor
  · intro hc
    refine ⟨fun j hj => congrArg T.v (hc.P j hj), fun j k hj hk hjk => congrArg T.v (hc.C j k hj hk hjk), congrArg T.v hc.F, fun j hj => ?_⟩
    have := congrArg T.v (hc.I j hj)
    rw [rep_Timg] at this
    exact this
  · rintro ⟨h1, h2, h3, h4⟩
    refine ⟨fun j hj => T.ext (h1 j hj), fun j k hj hk hjk => T.ext (h2 j k hj hk hjk), T.ext h3, fun j hj => T.ext ?_⟩
    rw [rep_Timg]
    exact h4 j hj
theorem qc_iff {p : Pr} {i : Nat} [h : Con p (i + 1)] (j k : Nat) : QC p i j k ↔ LC p i j k := by
  constructor
  · intro hq hj hjk hk
    have h0 : Grp.cj (Tc h.valid (i := i) (j := k) ⟨by omega, hk⟩) (Tc h.valid (i := i) (j := j) ⟨hj, by omega⟩) = (⟨img p i (p.c j k), (img_in h.valid i _).1, (img_in h.valid i _).2⟩ : T p (i + 1)) := T.ext (hq ⟨hj, by omega⟩ ⟨by omega, hk⟩ hjk)
    have h2 := congrArg (Tc h.valid (i := i) (j := j) ⟨hj, by omega⟩ * ·) h0
    simp only [Grp.mul_cj] at h2
    exact congrArg T.v h2
  · intro hc hj hk hjk
    have h0 : Grp.cj (Tc h.valid hk) (Tc h.valid hj) = (⟨img p i (p.c j k), (img_in h.valid i _).1, (img_in h.valid i _).2⟩ : T p (i + 1)) := by
      apply Grp.mul_left_cancel (a := Tc h.valid hj)
      rw [Grp.mul_cj]
      exact T.ext (hc hj.1 hjk hk.2)
    exact congrArg T.v h0
theorem qi_iff {p : Pr} {i : Nat} [h : Con p (i + 1)] (hi : i < p.n) (j : Nat) : QI p i hi j ↔ LI p i j := by
  constructor
  · intro hq hj hjn
    have h0 : rep (p.o i).toNat (Timg h.valid) (gen h.valid (i + 1) j ⟨hj, hjn⟩) = Grp.cj (gen h.valid (i + 1) j ⟨hj, hjn⟩) (Tw h.valid hi) := T.ext (by rw [rep_Timg]; exact hq ⟨hj, hjn⟩)
    have h2 : Tw h.valid hi * rep (p.o i).toNat (Timg h.valid) (gen h.valid (i + 1) j ⟨hj, hjn⟩) = gen h.valid (i + 1) j ⟨hj, hjn⟩ * Tw h.valid hi := by rw [h0, Grp.mul_cj]
    have h3 := congrArg T.v h2
    rw [T.mul_val, rep_Timg, T.mul_val] at h3
    exact h3
  · intro hl hj
    have h0 : rep (p.o i).toNat (Timg h.valid) (gen h.valid (i + 1) j hj) = Grp.cj (gen h.valid (i + 1) j hj) (Tw h.valid hi) := by
      apply Grp.mul_left_cancel (a := Tw h.valid hi)
      rw [Grp.mul_cj]
      apply T.ext
      rw [T.mul_val, rep_Timg, T.mul_val]
      exact hl hj.1 hj.2
    have h1 := congrArg T.v h0
    rw [rep_Timg] at h1
    exact h1
set_option maxHeartbeats 8000000 in
theorem levelFault_ok {p : Pr} {i : Nat} [hc : Con p (i + 1)] (hi : i < p.n) {w : World} {vp : Value} {ki : Int} {lo hi' : Nat} [hp : PresP lo hi' w vp p] (hki : ki = i) :
    Calls Try.prog 15 #[vp, .int .i64 ki] w (Ret fun v w' => ∃ k l f s : Int, v = faultV k l f s ∧ (k = 0 ↔ Chk p i hi) ∧ (k ≠ 0 → l = i) ∧ (k = 0 → l = 0 ∧ f = 0 ∧ s = 0) ∧ Ext w w' ∧ Flt p i hi k f s) := by
  subst hki
  have hv := hc.valid
  have hn6 := hv.n6
  have hol : p.ord.length = p.n := rfl
  have hwl : p.pow.length = p.n := hv.lenw
  have hcl : p.cnj.length = p.n := hv.lenc
  have hci : (p.cnj.getD i []).length = p.n - 1 - i := hv.lenci i hi
  have hoi := hv.opos hi
  have hoe : p.o i = p.ord.getD i 0 := rfl
  obtain ⟨b, og, vo, vpw, vc, ps, cs, css, rfl, hb1, hb2, hc0, hc1, hc2, h1, h2, h3⟩ := hp.ex
  refine enter (args := [.pointer (some ⟨b, og, none⟩), .int .i64 i]) (l := [.cell 4 31]) Try.func15 rfl rfl Try.ntmps15 (by simp) ?_
  refine go ?_
  refine st_alloc (by first | exact True.intro | exact ⟨_, rfl, by ((try simp only [ev_tmp, ev_const, ev_func, get_put, get_args, get_putL, get_putL_nil, Nat.reduceEqDiff, reduceIte, List.getD_cons_zero, List.getD_cons_succ, List.getD_nil, Bool.not_true, Bool.not_false]); first | done | with_reducible rfl)⟩) fun w2 bf he2 hbf hs2 hbk => ?_
  have bad : ∀ {w3 : World} {k f s : Int}, Ext w w3 → k ≠ 0 → Flt p i hi k f s → ∃ k' l' f' s' : Int, faultV k i f s = faultV k' l' f' s' ∧ (k' = 0 ↔ Chk p i hi) ∧ (k' ≠ 0 → l' = i) ∧ (k' = 0 → l' = 0 ∧ f' = 0 ∧ s' = 0) ∧ Ext w w3 ∧ Flt p i hi k' f' s' :=
    fun he hk hn => ⟨_, _, _, _, rfl, hn.zero, fun _ => rfl, fun h => absurd h hk, he, hn⟩
  have hTcv : ∀ j (hj : i < j ∧ j < p.n), (p.cnj.getD i []).getD (j - i - 1) [] = (Tc hv hj).v := fun j hj => rfl
  refine go ?_
  refine r_for (p.n - (i + 1)) (fun k ρ w' => Has ρ [(0, .pointer (some ⟨b, og, none⟩)), (1, .int .i64 i), (4, .pointer (some ⟨bf, 0, none⟩)), (5, .int .i64 p.n), (6, .int .i64 i), (7, .int .i64 (i + 1 + k : Nat))] ∧ Ext w2 w' ∧ ∀ j, j < i + 1 + k → LP p i j) ?_ ?_
  · refine ⟨?_, Ext.refl _, fun j hj hj' => by omega⟩
    exact hasP
  rintro k ρ w3 hk ⟨hH, he3, hP⟩
  refine rwp_has hH fun ρ0 => ?_
  refine go ?_
  refine c_if (fun hj => ?_) (fun hj => ?_)
  · have hjn : i < i + 1 + k ∧ i + 1 + k < p.n := ⟨by omega, by omega⟩
    have hoj : 2 ≤ p.ord.getD (i + 1 + k) 0 ∧ p.ord.getD (i + 1 + k) 0 ≤ 7 := hv.opos hjn.2
    have hcv : (p.cnj.getD i []).getD (i + 1 + k - i - 1) [] = (Tc hv hjn).v := rfl
    refine go ?_
    refine d_order [0, 1, 2, 3, 4, 5, 6, 7, 8, 9, 10, 11, 12, 13, 14, 15, 16, 17, 18, 19, 20, 22, 23, 24, 25, 26, 27, 28, 29, 30, 21, 31, 32, 33] (h := fun w4 he4 _ => ?_)
    refine dgo ?_
    refine dce (power_ok (x := Tc hv hjn) (by omega) hcv ?_) (next := fun v5 w5 h5 => ?_)
    · omega
    obtain ⟨he5, hf5⟩ := h5
    refine dce (imageBy_ok hi (xs := p.w (i + 1 + k)) ?_ (hv.w_in _ hjn.2)) (next := fun v7 w7 h7 => ?_)
    · rfl
    obtain ⟨he7, hf7⟩ := h7
    have hlen := (Grp.pw (Tc hv hjn) (p.ord.getD (i + 1 + k) 0).toNat).inr.len
    refine dce (equalI_ok (xs := (Grp.pw (Tc hv hjn) (p.ord.getD (i + 1 + k) 0).toNat).v) (ys := img p i (p.w (i + 1 + k))) ?_) (next := fun v8 w8 h8 => ?_)
    · omega
    obtain ⟨b8, rfl, hb8, he8⟩ := h8
    have hE8 : Ext w2 w8 := (((he3.trans he4).trans he5).trans he7).trans he8
    refine dgo ?_
    refine d_end (h := ?_)
    refine go ?_
    refine c_b (fun h9 => ?_) (fun h9 => ?_)
    · refine go ?_
      refine ra (v := faultV 1 i (i + 1 + k : Nat) 0) (h := rd_build (by simp only [ev_tmp, ev_const, ev_func, get_put, get_args, get_putL, get_putL_nil, Nat.reduceEqDiff, reduceIte, List.getD_cons_zero, List.getD_cons_succ, List.getD_nil, List.map_toArray, List.map_cons, List.map_nil]; rfl) (fun _ => by kernel_rfl)) (next := ?_)
      refine st_store_agg (vs := [.int .i64 1, .int .i64 i, .int .i64 (i + 1 + k : Nat), .int .i64 0]) (cs := _) (by ((try simp only [ev_tmp, ev_const, ev_func, get_put, get_args, get_putL, get_putL_nil, Nat.reduceEqDiff, reduceIte, List.getD_cons_zero, List.getD_cons_succ, List.getD_nil]); first | done | with_reducible rfl)) (by ((try simp only [ev_tmp, ev_const, ev_func, get_put, get_args, get_putL, get_putL_nil, Nat.reduceEqDiff, reduceIte, List.getD_cons_zero, List.getD_cons_succ, List.getD_nil]); first | done | with_reducible rfl)) rfl ?_ rfl (by first | exact True.intro | exact ⟨_, rfl, by ((try simp only [ev_tmp, ev_const, ev_func, get_put, get_args, get_putL, get_putL_nil, Nat.reduceEqDiff, reduceIte, List.getD_cons_zero, List.getD_cons_succ, List.getD_nil, Bool.not_true, Bool.not_false]); first | done | with_reducible rfl)⟩) fun w9 hc9 hs9 hb9 => ?_
      · rfl
      refine go ?_
      refine retc (bad (k := 1) (f := (i + 1 + k : Nat)) (s := 0) (hc9.ext (he2.trans hE8) (by omega)) (by decide) (.power (i + 1 + k) hjn hP fun h => ?_)) rfl
      have := hb8.2 (h hjn)
      rw [this] at h9; cases h9
    · have h10 := hb8.1 (by simpa using h9)
      refine go ?_
      refine forQ_normal (by omega) ⟨?_, hE8, fun j hj => ?_⟩
      · exact hasP
      · by_cases e : j = i + 1 + k
        · subst e; exact fun _ => h10
        · exact hP j (by omega)
  refine go ?_
  have hP' : ∀ j, LP p i j := fun j => by
    by_cases e : j < i + 1 + k
    · exact hP j e
    · exact fun h => by omega
  clear hP hH hk hj
  refine r_for (p.n - (i + 1)) (fun k ρ w' => Has ρ [(0, .pointer (some ⟨b, og, none⟩)), (1, .int .i64 i), (4, .pointer (some ⟨bf, 0, none⟩)), (5, .int .i64 p.n), (6, .int .i64 i), (8, .int .i64 (i + 1 + k : Nat))] ∧ Ext w2 w' ∧ ∀ j k', j < i + 1 + k → QC p i j k') ?_ ?_
  · refine ⟨?_, he3, fun j k' hj hj' => by omega⟩
    exact hasP
  clear he3 ρ0 k
  rintro k ρ w4 hk ⟨hH, he4, hC⟩
  refine rwp_has hH fun ρ1 => ?_
  refine go ?_
  refine c_if (fun hj => ?_) (fun hj => ?_)
  · have hjn : i < i + 1 + k ∧ i + 1 + k < p.n := ⟨by omega, by omega⟩
    refine go ?_
    refine r_for (p.n - (i + 1 + k + 1)) (fun l ρ w' => Has ρ [(0, .pointer (some ⟨b, og, none⟩)), (1, .int .i64 i), (4, .pointer (some ⟨bf, 0, none⟩)), (5, .int .i64 p.n), (6, .int .i64 i), (8, .int .i64 (i + 1 + k : Nat)), (9, .int .i64 (i + 1 + k + 1 + l : Nat))] ∧ Ext w2 w' ∧ ∀ k', k' < i + 1 + k + 1 + l → QC p i (i + 1 + k) k') ?_ ?_
    · refine ⟨?_, he4, fun k' hk' h1 h2 h3 => by omega⟩
      exact hasP
    clear he4
    rintro l ρ w5 hl ⟨hH5, he5, hC5⟩
    refine rwp_has hH5 fun ρ2 => ?_
    refine go ?_
    refine c_if (fun hk2 => ?_) (fun hk2 => ?_)
    · have hkn : i < i + 1 + k + 1 + l ∧ i + 1 + k + 1 + l < p.n := ⟨by omega, by omega⟩
      have hjk : i + 1 + k < i + 1 + k + 1 + l := by omega
      have hcj := hv.lenci (i + 1 + k) hjn.2
      have hcv1 : (p.cnj.getD i []).getD (i + 1 + k - i - 1) [] = (Tc hv hjn).v := rfl
      have hcv2 : (p.cnj.getD i []).getD (i + 1 + k + 1 + l - i - 1) [] = (Tc hv hkn).v := rfl
      refine go ?_
      refine d_order [0, 1, 2, 3, 4, 5, 6, 7, 8, 9, 10, 11, 12, 13, 14, 15, 16, 17, 18, 19, 20, 21, 22, 23, 24, 25, 26, 28, 29, 30, 31, 32, 33, 34, 35, 36, 37, 38, 39, 40, 41, 42, 27, 43, 44, 45] (h := fun w6 he6 _ => ?_)
      refine dgo ?_
      refine dce (conjugate_ok (x := Tc hv hkn) (y := Tc hv hjn) (by omega) hcv2 hcv1) (next := fun v7 w7 h7 => ?_)
      obtain ⟨he7, hf7⟩ := h7
      refine dce (imageBy_ok hi (xs := p.c (i + 1 + k) (i + 1 + k + 1 + l)) ?_ (hv.c_in _ _ hjk hkn.2)) (next := fun v8 w8 h8 => ?_)
      · rfl
      obtain ⟨he8, hf8⟩ := h8
      have hlen := (Grp.cj (Tc hv hkn) (Tc hv hjn)).inr.len
      refine dce (equalI_ok (xs := (Grp.cj (Tc hv hkn) (Tc hv hjn)).v) (ys := img p i (p.c (i + 1 + k) (i + 1 + k + 1 + l))) ?_) (next := fun v9 w9 h9 => ?_)
      · omega
      obtain ⟨b9, rfl, hb9, he9⟩ := h9
      have hE9 : Ext w2 w9 := (((he5.trans he6).trans he7).trans he8).trans he9
      refine dgo ?_
      refine d_end (h := ?_)
      refine go ?_
      refine c_b (fun h10 => ?_) (fun h10 => ?_)
      · refine go ?_
        refine ra (v := faultV 2 i (i + 1 + k : Nat) (i + 1 + k + 1 + l : Nat)) (h := rd_build (by simp only [ev_tmp, ev_const, ev_func, get_put, get_args, get_putL, get_putL_nil, Nat.reduceEqDiff, reduceIte, List.getD_cons_zero, List.getD_cons_succ, List.getD_nil, List.map_toArray, List.map_cons, List.map_nil]; rfl) (fun _ => by kernel_rfl)) (next := ?_)
        refine st_store_agg (vs := [.int .i64 2, .int .i64 i, .int .i64 (i + 1 + k : Nat), .int .i64 (i + 1 + k + 1 + l : Nat)]) (cs := _) (by ((try simp only [ev_tmp, ev_const, ev_func, get_put, get_args, get_putL, get_putL_nil, Nat.reduceEqDiff, reduceIte, List.getD_cons_zero, List.getD_cons_succ, List.getD_nil]); first | done | with_reducible rfl)) (by ((try simp only [ev_tmp, ev_const, ev_func, get_put, get_args, get_putL, get_putL_nil, Nat.reduceEqDiff, reduceIte, List.getD_cons_zero, List.getD_cons_succ, List.getD_nil]); first | done | with_reducible rfl)) rfl ?_ rfl (by first | exact True.intro | exact ⟨_, rfl, by ((try simp only [ev_tmp, ev_const, ev_func, get_put, get_args, get_putL, get_putL_nil, Nat.reduceEqDiff, reduceIte, List.getD_cons_zero, List.getD_cons_succ, List.getD_nil, Bool.not_true, Bool.not_false]); first | done | with_reducible rfl)⟩) fun w10 hc10 hs10 hb10 => ?_
        · rfl
        refine go ?_
        refine retc (bad (k := 2) (f := (i + 1 + k : Nat)) (s := (i + 1 + k + 1 + l : Nat)) (hc10.ext (he2.trans hE9) (by omega)) (by decide) (.conj (i + 1 + k) (i + 1 + k + 1 + l) hjn.1 hjk hkn.2 hP' (fun j' k' h => (qc_iff _ _).1 (hC j' k' h)) (fun k' h => (qc_iff _ _).1 (hC5 k' h)) fun h => ?_)) rfl
        have := hb9.2 ((qc_iff _ _).2 h hjn hkn hjk)
        rw [this] at h10; cases h10
      · have h11 := hb9.1 (by simpa using h10)
        refine go ?_
        refine forQ_normal (by omega) ⟨?_, hE9, fun k' hk' => ?_⟩
        · exact hasP
        · by_cases e : k' = i + 1 + k + 1 + l
          · subst e; exact fun _ _ _ => h11
          · exact hC5 k' (by omega)
    · refine go ?_
      refine forQ_normal (by omega) ⟨?_, he5, fun j k' hj2 => ?_⟩
      · exact hasP
      · by_cases e : j = i + 1 + k
        · subst e
          by_cases e2 : k' < i + 1 + k + 1 + l
          · exact hC5 k' e2
          · exact fun _ _ _ => by omega
        · exact hC j k' (by omega)
  refine go ?_
  have hC' : ∀ j k', QC p i j k' := fun j k' => by
    by_cases e : j < i + 1 + k
    · exact hC j k' e
    · exact fun h _ _ => by omega
  clear hC hH hk hj
  refine rc (imageBy_ok hi (xs := p.w i) ?_ (hv.w_in _ hi)) (next := fun v5 w5 h5 => ?_)
  · rfl
  obtain ⟨he5, hf5⟩ := h5
  have hlen := (img_in hv i (p.w i)).1.len
  refine go ?_
  refine rc (equalI_ok (xs := img p i (p.w i)) (ys := p.w i) ?_) (next := fun v6 w6 h6 => ?_)
  · omega
  obtain ⟨b6, rfl, hb6, he6⟩ := h6
  have hE6 : Ext w2 w6 := (he4.trans he5).trans he6
  clear he4 he5 he6 hf5
  refine go ?_
  refine c_b (fun h7 => ?_) (fun h7 => ?_)
  · refine go ?_
    refine ra (v := faultV 3 i 0 0) (h := rd_build (by simp only [ev_tmp, ev_const, ev_func, get_put, get_args, get_putL, get_putL_nil, Nat.reduceEqDiff, reduceIte, List.getD_cons_zero, List.getD_cons_succ, List.getD_nil, List.map_toArray, List.map_cons, List.map_nil]; rfl) (fun _ => by kernel_rfl)) (next := ?_)
    refine st_store_agg (vs := [.int .i64 3, .int .i64 i, .int .i64 0, .int .i64 0]) (cs := _) (by ((try simp only [ev_tmp, ev_const, ev_func, get_put, get_args, get_putL, get_putL_nil, Nat.reduceEqDiff, reduceIte, List.getD_cons_zero, List.getD_cons_succ, List.getD_nil]); first | done | with_reducible rfl)) (by ((try simp only [ev_tmp, ev_const, ev_func, get_put, get_args, get_putL, get_putL_nil, Nat.reduceEqDiff, reduceIte, List.getD_cons_zero, List.getD_cons_succ, List.getD_nil]); first | done | with_reducible rfl)) rfl ?_ rfl (by first | exact True.intro | exact ⟨_, rfl, by ((try simp only [ev_tmp, ev_const, ev_func, get_put, get_args, get_putL, get_putL_nil, Nat.reduceEqDiff, reduceIte, List.getD_cons_zero, List.getD_cons_succ, List.getD_nil, Bool.not_true, Bool.not_false]); first | done | with_reducible rfl)⟩) fun w9 hc9 hs9 hb9 => ?_
    · rfl
    refine go ?_
    refine retc (bad (k := 3) (f := 0) (s := 0) (hc9.ext (he2.trans hE6) (by omega)) (by decide) (.fixed hP' (fun j k => (qc_iff _ _).1 (hC' j k)) fun h => ?_)) rfl
    have := hb6.2 h
    rw [this] at h7; cases h7
  have hF := hb6.1 (by simpa using h7)
  clear h7
  refine go ?_
  refine r_for (p.n - (i + 1)) (fun k ρ w' => Has ρ [(0, .pointer (some ⟨b, og, none⟩)), (1, .int .i64 i), (4, .pointer (some ⟨bf, 0, none⟩)), (5, .int .i64 p.n), (6, .int .i64 i), (10, Pc.rowAt vpw ps i), (11, .int .i64 (i + 1 + k : Nat))] ∧ Ext w2 w' ∧ ∀ j, j < i + 1 + k → QI p i hi j) ?_ ?_
  · refine ⟨?_, hE6, fun j hj h1 => by omega⟩
    exact hasP
  clear hE6
  rintro l ρ w8 hk ⟨hH, he8, hI⟩
  refine rwp_has hH fun ρ2 => ?_
  refine go ?_
  refine c_if (fun hj => ?_) (fun hj => ?_)
  · have hjn : i + 1 ≤ i + 1 + l ∧ i + 1 + l < p.n := ⟨by omega, by omega⟩
    refine go ?_
    refine rc (unitVector_ok (n := p.n) (i := i + 1 + l) rfl rfl ?_ hjn.2) (next := fun v9 w9 h9 => ?_)
    · omega
    obtain ⟨he9, hf9⟩ := h9
    have hg0 : (zeros p.n).set (i + 1 + l) 1 = unitv p (i + 1 + l) 1 := rfl
    rw [hg0] at hf9
    have hz8 := he8.size
    refine go ?_
    refine r_for (p.o i).toNat (fun q ρ w' => ∃ vx, Has ρ [(0, .pointer (some ⟨b, og, none⟩)), (1, .int .i64 i), (4, .pointer (some ⟨bf, 0, none⟩)), (5, .int .i64 p.n), (6, .int .i64 i), (10, Pc.rowAt vpw ps i), (11, .int .i64 (i + 1 + l : Nat)), (12, vx), (159, .int .i64 (p.ord.getD i 0)), (160, .int .i64 q)] ∧ Ext w8 w' ∧ Fr w8.heap.size w' vx (rep q (img p i) (unitv p (i + 1 + l) 1))) ?_ ?_
    · refine ⟨v9, ?_, he9, hf9⟩
      exact hasP
    clear he9 hf9
    rintro q ρ w10 hq ⟨vx, hH, he10, hf10⟩
    refine rwp_has hH fun ρ3 => ?_
    have hin : InR p (rep q (img p i) (unitv p (i + 1 + l) 1)) ∧ ZU (i + 1) (rep q (img p i) (unitv p (i + 1 + l) 1)) := by
      refine rep_inv (fun v => InR p v ∧ ZU (i + 1) v) (fun x _ => img_in hv i x) ⟨?_, unitv_zu p hjn.1 1⟩ q
      exact unitv_in hv (by omega) (fun h => by have := hv.opos h; omega)
    have hxi := hf10.ints
    refine go ?_
    refine c_if (fun hq2 => ?_) (fun hq2 => ?_)
    · refine go ?_
      refine rc (imageBy_ok hi (xs := rep q (img p i) (unitv p (i + 1 + l) 1)) ?_ hin.1) (next := fun v11 w11 h11 => ?_)
      · rfl
      obtain ⟨he11, hf11⟩ := h11
      refine go ?_
      refine forQ_normal (by omega) ⟨v11, ?_, he10.trans he11, hf11.mono he10.size⟩
      exact hasP
    · have hqe : q = (p.o i).toNat := by omega
      subst hqe
      refine go ?_
      refine rc (unitVector_ok (n := p.n) (i := i + 1 + l) rfl rfl ?_ hjn.2) (next := fun v11 w11 h11 => ?_)
      · omega
      obtain ⟨he11, hf11⟩ := h11
      refine go ?_
      refine rc (conjugate_ok (x := gen hv (i + 1) (i + 1 + l) hjn) (y := Tw hv hi) (xs := (zeros p.n).set (i + 1 + l) 1) (ys := p.w i) (by omega) rfl rfl) (next := fun v12 w12 h12 => ?_)
      obtain ⟨he12, hf12⟩ := h12
      have hlen2 := hin.1.len
      refine go ?_
      refine rc (equalI_ok (xs := rep (p.o i).toNat (img p i) (unitv p (i + 1 + l) 1)) (ys := (Grp.cj (gen hv (i + 1) (i + 1 + l) hjn) (Tw hv hi)).v) ?_) (next := fun v13 w13 h13 => ?_)
      · omega
      obtain ⟨b13, rfl, hb13, he13⟩ := h13
      have hE13 : Ext w2 w13 := (((he8.trans he10).trans he11).trans he12).trans he13
      refine go ?_
      refine c_b (fun h14 => ?_) (fun h14 => ?_)
      · refine go ?_
        refine ra (v := faultV 4 i (i + 1 + l : Nat) 0) (h := rd_build (by simp only [ev_tmp, ev_const, ev_func, get_put, get_args, get_putL, get_putL_nil, Nat.reduceEqDiff, reduceIte, List.getD_cons_zero, List.getD_cons_succ, List.getD_nil, List.map_toArray, List.map_cons, List.map_nil]; rfl) (fun _ => by kernel_rfl)) (next := ?_)
        refine st_store_agg (vs := [.int .i64 4, .int .i64 i, .int .i64 (i + 1 + l : Nat), .int .i64 0]) (cs := _) (by ((try simp only [ev_tmp, ev_const, ev_func, get_put, get_args, get_putL, get_putL_nil, Nat.reduceEqDiff, reduceIte, List.getD_cons_zero, List.getD_cons_succ, List.getD_nil]); first | done | with_reducible rfl)) (by ((try simp only [ev_tmp, ev_const, ev_func, get_put, get_args, get_putL, get_putL_nil, Nat.reduceEqDiff, reduceIte, List.getD_cons_zero, List.getD_cons_succ, List.getD_nil]); first | done | with_reducible rfl)) rfl ?_ rfl (by first | exact True.intro | exact ⟨_, rfl, by ((try simp only [ev_tmp, ev_const, ev_func, get_put, get_args, get_putL, get_putL_nil, Nat.reduceEqDiff, reduceIte, List.getD_cons_zero, List.getD_cons_succ, List.getD_nil, Bool.not_true, Bool.not_false]); first | done | with_reducible rfl)⟩) fun w15 hc15 hs15 hb15 => ?_
        · rfl
        refine go ?_
        refine retc (bad (k := 4) (f := (i + 1 + l : Nat)) (s := 0) (hc15.ext (he2.trans hE13) (by omega)) (by decide) (.inner (i + 1 + l) hjn hP' (fun j k => (qc_iff _ _).1 (hC' j k)) hF (fun j' h => (qi_iff hi _).1 (hI j' h)) fun h => ?_)) rfl
        have := hb13.2 ((qi_iff hi _).2 h hjn)
        rw [this] at h14; cases h14
      · have h15 := hb13.1 (by simpa using h14)
        refine go ?_
        refine forQ_normal (by omega) ⟨?_, hE13, fun j hj2 => ?_⟩
        · exact hasP
        · by_cases e : j = i + 1 + l
          · subst e; exact fun _ => h15
          · exact hI j (by omega)
  · refine go ?_
    refine ra (v := faultV 0 0 0 0) (h := rd_build (by rfl) (fun _ => by kernel_rfl)) (next := ?_)
    refine st_store_agg (vs := [.int .i64 0, .int .i64 0, .int .i64 0, .int .i64 0]) (cs := _) (by ((try simp only [ev_tmp, ev_const, ev_func, get_put, get_args, get_putL, get_putL_nil, Nat.reduceEqDiff, reduceIte, List.getD_cons_zero, List.getD_cons_succ, List.getD_nil]); first | done | with_reducible rfl)) (by ((try simp only [ev_tmp, ev_const, ev_func, get_put, get_args, get_putL, get_putL_nil, Nat.reduceEqDiff, reduceIte, List.getD_cons_zero, List.getD_cons_succ, List.getD_nil]); first | done | with_reducible rfl)) rfl ?_ rfl (by first | exact True.intro | exact ⟨_, rfl, by ((try simp only [ev_tmp, ev_const, ev_func, get_put, get_args, get_putL, get_putL_nil, Nat.reduceEqDiff, reduceIte, List.getD_cons_zero, List.getD_cons_succ, List.getD_nil, Bool.not_true, Bool.not_false]); first | done | with_reducible rfl)⟩) fun w15 hc15 hs15 hb15 => ?_
    · rfl
    refine go ?_
    have hck := (chk_iff2 hi).2 ⟨hP', hC', hF, fun j h1 => hI j (by omega) h1⟩
    exact retc ⟨0, 0, 0, 0, rfl, ⟨fun _ => hck, fun _ => rfl⟩, fun h => absurd rfl h, fun _ => ⟨rfl, rfl, rfl⟩, hc15.ext (he2.trans he8) (by omega), .none hck⟩ rfl
end Go.Proofs.Ytjaneagaccefiaa

/-
  Walks: the program's consistency of a presentation (consistentFrom, IsConsistent).
  Conditions: stated at each theorem.
-/
namespace Go.Proofs.Ytjaneagaccefiaa
open Go Go.Pc
theorem fault_guard : (Try.prog.eqGuardType Try.prog.depth 31) = false := by kernel_rfl
theorem fault_held : (Try.prog.stoodInHeld 31) = false := by kernel_rfl
theorem fault_fields : Try.prog.underlying 31 = some (.struct (Try.prog.fieldsOf 31)) := by simp [Program.fieldsOf, Try.underlying31]
theorem rd_eqFault {ρ : Env} {w : World} {ty : TypeId} {x y : Operand} {k l f s : Int} (h : ev ρ x = faultV k l f s) (h' : ev ρ y = faultV 0 0 0 0) :
    Rd Try.prog (.binOp .eql 31 x y 31) ty ρ w (.bool (decide (k = 0 ∧ l = 0 ∧ f = 0 ∧ s = 0))) := by
  constructor; intro _ _ _ _
  have h2 := fun d a b w => run_equalIn_int (P := Try.prog) w d 2 .i64 .i64 a b Try.underlying2
  simp [execOp, h, h', run_eqGuard_agg _ _ _ _ _ _ _ fault_guard, run_eql_struct, run_equalIn_agg _ _ _ _ _ fault_fields fault_held, Program.fieldsOf, Try.underlying31, Op.eqFields, h2, go_sem]
  by_cases hk : k = 0 <;> by_cases hl : l = 0 <;> by_cases hf : f = 0 <;> by_cases hs : s = 0 <;> simp [hk, hl, hf, hs]
set_option maxHeartbeats 1000000 in
theorem consistentFrom_ok {p : Pr} (hv : Valid p) {w : World} {vp : Value} {lo hi' : Nat} [hp : PresP lo hi' w vp p] :
    Calls Try.prog 14 #[vp] w (Ret fun v w' => ∃ i : Nat, v = .int .i64 i ∧ i ≤ p.n ∧ Levs p i ∧ (i ≠ 0 → ¬ Lev p (i - 1)) ∧ Ext w w') := by
  have hn6 := hv.n6
  have hol : p.ord.length = p.n := rfl
  obtain ⟨b, og, vo, vpw, vc, ps, cs, css, rfl, hb1, hb2, hc0, hc1, hc2, h1, h2, h3⟩ := hp.ex
  refine enter (args := [.pointer (some ⟨b, og, none⟩)]) (l := [.tmp 2]) Try.func14 rfl rfl Try.ntmps14 (by simp) ?_
  refine go ?_
  refine r_for p.n (fun k ρ w' => Has ρ [(0, .pointer (some ⟨b, og, none⟩)), (3, .int .i64 (p.n - k : Nat))] ∧ Ext w w' ∧ Levs p (p.n - k)) ?_ ?_
  · refine ⟨?_, Ext.refl _, fun j h h' => by omega⟩
    exact hasP
  rintro k ρ w3 hk ⟨hH, he3, hL⟩
  refine rwp_has hH fun ρ0 => ?_
  refine go ?_
  refine spd (fun h4 => ?_) (fun h4 => ?_)
  · obtain ⟨i, hie⟩ : ∃ i : Nat, p.n - k = i + 1 := ⟨p.n - k - 1, by omega⟩
    have hi : i < p.n := by omega
    rw [hie] at hL h4 ⊢
    have hc : Con p (i + 1) := Levs.con hv hL
    refine go ?_
    refine rc (levelFault_ok (p := p) (i := i) hi ?_) (next := fun v5 w5 h5 => ?_)
    · omega
    obtain ⟨k5, l5, f5, s5, rfl, hz, hl5, h05, he5, hflt⟩ := h5
    refine go ?_
    refine ra (v := faultV 0 0 0 0) (h := rd_build (by rfl) (fun _ => by kernel_rfl)) (next := ?_)
    refine go ?_
    refine ra (h := rd_eqFault (k := k5) (l := l5) (f := f5) (s := s5) (by ((try simp only [ev_tmp, ev_const, ev_func, get_put, get_args, get_putL, get_putL_nil, Nat.reduceEqDiff, reduceIte, List.getD_cons_zero, List.getD_cons_succ, List.getD_nil]); first | done | with_reducible rfl)) (by ((try simp only [ev_tmp, ev_const, ev_func, get_put, get_args, get_putL, get_putL_nil, Nat.reduceEqDiff, reduceIte, List.getD_cons_zero, List.getD_cons_succ, List.getD_nil]); first | done | with_reducible rfl))) (next := ?_)
    refine go ?_
    refine c_if (fun h8 => ?_) (fun h8 => ?_)
    · refine go ?_
      refine forQ_normal (by omega) ⟨?_, he3.trans he5, fun j hj hjn => ?_⟩
      · exact hasP
      · by_cases e : j = i
        · subst e; exact ⟨hc, hi, hz.1 h8.1⟩
        · exact hL j (by omega) hjn
    · refine go ?_
      refine ret1 ⟨i + 1, rfl, by omega, hL, fun _ => ?_, he3.trans he5⟩
      rintro ⟨_, _, h9⟩
      have h0 := hz.2 h9
      exact h8 ⟨h0, h05 h0⟩
  · refine go ?_
    have hkn : p.n - k = 0 := by omega
    rw [hkn] at hL ⊢
    exact ret1 ⟨0, rfl, by omega, hL, fun h => absurd rfl h, he3⟩
set_option maxHeartbeats 1000000 in
theorem impl_IsConsistent_ok {w : World} {vp : Value} {p : Pr} {lo hi' : Nat} [hp : Pres lo hi' w vp p] (hl : p.ord.length ≤ 2000000) :
    Calls Try.prog 9 #[vp] w (Ret fun v w' => ∃ b, v = .bool b ∧ (b = true ↔ IsGrp p) ∧ Ext w w') := by
  obtain ⟨vo, vpw, vc, ps, cs, css, rfl, h1, h2, h3⟩ := hp.ex
  refine enter (args := [.agg #[vo, vpw, vc]]) (l := [.tmp 2]) Try.func9 rfl rfl Try.ntmps9 (by simp) ?_
  refine go ?_
  refine st_box3 (by ((try simp only [ev_tmp, ev_const, ev_func, get_put, get_args, get_putL, get_putL_nil, Nat.reduceEqDiff, reduceIte, List.getD_cons_zero, List.getD_cons_succ, List.getD_nil]); first | done | with_reducible rfl)) (by first | exact True.intro | exact ⟨_, rfl, by ((try simp only [ev_tmp, ev_const, ev_func, get_put, get_args, get_putL, get_putL_nil, Nat.reduceEqDiff, reduceIte, List.getD_cons_zero, List.getD_cons_succ, List.getD_nil, Bool.not_true, Bool.not_false]); first | done | with_reducible rfl)⟩) fun w1 b he1 hb1 hs1 hc0 hc1 hc2 => ?_
  have hpp := hp.boxed he1 hc0 hc1 hc2
  refine go ?_
  refine rc (impl_IsPresentation_ok hl) (next := fun v5 w5 h5 => ?_)
  obtain ⟨b5, rfl, hb5, he5⟩ := h5
  refine go ?_
  refine sp (fun e5 => ?_) (fun e5 => ?_)
  · have hv := hb5.1 e5
    refine go ?_
    refine rc (consistentFrom_ok hv) (next := fun v6 w6 h6 => ?_)
    obtain ⟨i, rfl, hi, hL, hno, he6⟩ := h6
    refine go ?_
    refine ret1 ⟨_, rfl, ?_, (he1.trans he5).trans he6⟩
    rw [decide_eq_true_eq]
    constructor
    · intro h
      have : i = 0 := by omega
      subst this
      exact ⟨hv, hL⟩
    · intro h
      by_cases e : i = 0
      · omega
      · exact absurd (h.levs (i - 1) (by omega) (by omega)) (hno e)
  · refine go ?_
    refine ret1 ⟨_, rfl, ?_, he1.trans he5⟩
    simp only [Bool.false_eq_true, false_iff]
    intro h
    have := hb5.2 h.valid
    rw [e5] at this; cases this
end Go.Proofs.Ytjaneagaccefiaa

/-
  Walks: the program's test of subgroups (areSubgroups, IsSubgroup).
  Conditions: stated at each theorem.
-/
namespace Go.Proofs.Ytjaneagaccefiaa
open Go Go.Pc
theorem PresP.val {lo hi b : Nat} {w : World} {p : Pr} {vo vp vc : Value} {ps cs : List Value} {css : List (List Value)} (h1 : Ints lo hi w vo p.ord) (h2 : Pc.Rows lo hi w vp ps p.pow) (h3 : Rowss lo hi w vc cs css p.cnj) : Pres lo hi w (.agg #[vo, vp, vc]) p := ⟨⟨vo, vp, vc, ps, cs, css, rfl, h1, h2, h3⟩⟩
end Go.Proofs.Ytjaneagaccefiaa

/-
  Walks: the program's IsMember and IsSubset.
  Conditions: what the arguments read as.
-/
namespace Go.Proofs.Ytjaneagaccefiaa
open Go Go.Pc
end Go.Proofs.Ytjaneagaccefiaa

/-
  Walks: the program's generators, conjugates, conjugate subgroup, test of normality, test of elements.
  Conditions: stated at each theorem.
-/
namespace Go.Proofs.Ytjaneagaccefiaa
open Go Go.Pc
end Go.Proofs.Ytjaneagaccefiaa

/-
  Walks: the program's CosetRepresentative.
  Conditions: what the arguments read as.
-/
namespace Go.Proofs.Ytjaneagaccefiaa
open Go Go.Pc
end Go.Proofs.Ytjaneagaccefiaa

/-
  Walks: the program's order of a subgroup (sizeOf, SubgroupOrder).
  Conditions: stated at each theorem.
-/
namespace Go.Proofs.Ytjaneagaccefiaa
open Go Go.Pc
end Go.Proofs.Ytjaneagaccefiaa

/-
  Walks: the program's GeneratedSubgroup, ConjugateSubgroup, IsNormalSubgroup, SubgroupIndex, SubgroupDepths.
  Conditions: what the arguments read as.
-/
namespace Go.Proofs.Ytjaneagaccefiaa
open Go Go.Pc
end Go.Proofs.Ytjaneagaccefiaa

/-
  Walks: the program's CosetNumber, MemberElement, MemberExponents.
  Conditions: what the arguments read as.
-/
namespace Go.Proofs.Ytjaneagaccefiaa
open Go Go.Pc
end Go.Proofs.Ytjaneagaccefiaa

/-
  Walks: the program's order, index code, transversal; Transversal.
  Conditions: stated at each theorem.
-/
namespace Go.Proofs.Ytjaneagaccefiaa
open Go Go.Pc
end Go.Proofs.Ytjaneagaccefiaa

/-
  More rules: function values that capture variables; variables of one cell.
  Conditions: none; nothing of the program stands here.
-/
namespace Go.Pc
open Go Go.RowKit
section
variable {P : Program} {N : Nat} {ops : Array Oper} {K : Env → World → Prop} {ρ : Env} {w : World} {l : List Oper}
variable {ty : TypeId} {pos : String} {after : Array Edge} {g : Option (Nat × Bool)} {d : Nat}
end
end Go.Pc

/-
  Walks: the program's slices.Concat, closure under conjugation, commutator subgroup; SubgroupJoin, NormalClosure, CommutatorSubgroup.
  Conditions: stated at each theorem.
-/
namespace Go.Proofs.Ytjaneagaccefiaa
open Go Go.Pc
theorem SeqAt.ext {p : Pr} {bs b0 base : Nat} {av : Nat → Prop} {w w' : World} {vp vb : Value} {t : Tab p} (h : SeqAt bs b0 base av w vp vb t) (x : Ext w w') : SeqAt bs b0 base av w' vp vb t := by
  obtain ⟨c0, c1, hn, ho, us, hL, hnil⟩ := h
  exact ⟨c0.same (x.same _ _) x.size, c1.same (x.same _ _) x.size, hn, ho, us, hL.ext x, hnil⟩
end Go.Proofs.Ytjaneagaccefiaa

/-
  Walks: the program's element with a number, all elements, subgroups of all elements with a property; Center.
  Conditions: stated at each theorem.
-/
namespace Go.Proofs.Ytjaneagaccefiaa
open Go Go.Pc
end Go.Proofs.Ytjaneagaccefiaa

/-
  Orders of elements; the answers of PowerSubgroup and OrderSubgroup.
  Conditions: the tails at all levels are groups.
-/
namespace Go.Proofs.Ytjaneagaccefiaa
open Go Go.Pc
section
variable {p : Pr} [hc : ConAll p]
/-- The number is the order of the element. -/
def Per (x : El p) (K : Nat) : Prop := 1 ≤ K ∧ K ≤ 117649 ∧ Grp.pw x K = 1 ∧ ∀ m, Grp.pw x m = 1 → K ∣ m
def PerI (x y : El p) (d K : Nat) : Prop := Tl d y ∧ y = Grp.pw x K ∧ 1 ≤ K ∧ K ≤ 7 ^ d ∧ ∀ m, Grp.pw x m = 1 → K ∣ m
theorem PerI.start (x : El p) : PerI x x 0 1 := ⟨Tl.zero x, (Grp.pw_one x).symm, Nat.le_refl _, by simp, fun m _ => Nat.one_dvd m⟩
theorem PerI.done {x y : El p} {d K : Nat} (hd : d ≤ p.n) (h : PerI x y d K) (hy : y = 1) : Per x K := by
  obtain ⟨_, h2, h3, h4, h5⟩ := h
  have hn6 := hc.valid.n6
  have h6 : (7 : Nat) ^ d ≤ 7 ^ 6 := Nat.pow_le_pow_right (by omega) (by omega)
  have h7 : (7 : Nat) ^ 6 = 117649 := by decide
  exact ⟨h3, by omega, by rw [← h2, hy], h5⟩
theorem PerI.skip {x y : El p} {d K : Nat} (h : PerI x y d K) (h0 : co y d = 0) : PerI x y (d + 1) K := by
  obtain ⟨h1, h2, h3, h4, h5⟩ := h
  exact ⟨h1.succ h0, h2, h3, Nat.le_trans h4 (Nat.pow_le_pow_right (by omega) (by omega)), h5⟩
theorem dvd_prime {c o : Int} (ho : o = 2 ∨ o = 3 ∨ o = 5 ∨ o = 7) (hc : 0 ≤ c ∧ c < o) (h0 : c ≠ 0) (j : Nat) (h : ((j : Int) * c) % o = 0) : o.toNat ∣ j := by
  have hd : j % o.toNat = 0 := by
    have hcc : c = 1 ∨ c = 2 ∨ c = 3 ∨ c = 4 ∨ c = 5 ∨ c = 6 := by omega
    rcases ho with rfl | rfl | rfl | rfl <;> rcases hcc with rfl | rfl | rfl | rfl | rfl | rfl <;> simp only [Int.reduceToNat] <;> omega
  exact Nat.dvd_of_mod_eq_zero hd
theorem PerI.step {x y : El p} {d K : Nat} (hd : d < p.n) (h : PerI x y d K) (h0 : co y d ≠ 0) : PerI x (Grp.pw y (p.o d).toNat) (d + 1) (K * (p.o d).toNat) := by
  obtain ⟨h1, h2, h3, h4, h5⟩ := h
  have ho := hc.valid.opos hd
  have hr := co_rng y hd
  refine ⟨(h1.pw (by omega) _).succ ?_, by rw [Grp.pw_mul, ← h2], Nat.mul_pos h3 (by omega), ?_, fun m hm => ?_⟩
  · rw [co_pw hd h1, Int.toNat_of_nonneg (by omega)]
    exact Int.mul_emod_right _ _
  · rw [Nat.pow_succ]; exact Nat.mul_le_mul h4 (by omega)
  · obtain ⟨j, rfl⟩ := h5 m hm
    rw [Grp.pw_mul, ← h2] at hm
    have h6 := co_pw hd h1 j
    rw [hm, co_one] at h6
    exact Nat.mul_dvd_mul_left K (dvd_prime (hc.valid.prime d hd) hr h0 j h6.symm)
theorem Per.mod {x : El p} {K : Nat} (h : Per x K) (m : Nat) : Grp.pw x (m % K) = Grp.pw x m := by
  have e : Grp.pw x m = Grp.pw x (K * (m / K) + m % K) := by rw [Nat.div_add_mod]
  rw [e, Grp.pw_add, Grp.pw_mul, h.2.2.1, Grp.one_pw, Grp.one_mul]
theorem Per.mod_zero {x : El p} {K : Nat} (h : Per x K) (m : Nat) : m % K = 0 ↔ Grp.pw x m = 1 :=
  ⟨fun e => by rw [← h.mod, e, Grp.pw_zero], fun e => Nat.mod_eq_zero_of_dvd (h.2.2.2 m e)⟩
end
/-- The code of a group that is enumerated and an exponent. -/
def PcV (p : Pr) (k e : Int) : Prop := (¬ IsGrp p ∧ e = 1) ∨ (IsGrp p ∧ ((¬ (1 ≤ k ∧ k ≤ 1000000) ∧ e = 2) ∨ ((1 ≤ k ∧ k ≤ 1000000) ∧ ((128 < ordN p ∧ e = 3) ∨ (ordN p ≤ 128 ∧ e = 0)))))
/-- What a subgroup of powers is, with its code. -/
def PsV (p : Pr) (k : Int) (C : ConAll p → List (List Int)) (r : List (List Int)) (e : Int) : Prop := (¬ (1 ≤ k ∧ k ≤ 1000000) ∧ r = [] ∧ e = 2) ∨ ((1 ≤ k ∧ k ≤ 1000000) ∧ ((128 < ordN p ∧ r = [] ∧ e = 3) ∨ (ordN p ≤ 128 ∧ (∃ c : ConAll p, r = C c) ∧ e = 0)))
theorem PsV.uniq {p : Pr} {k : Int} {C : ConAll p → List (List Int)} (a b : List (List Int)) (c d : Int) (h : PsV p k C a c) (g : PsV p k C b d) : a = b ∧ c = d := by
  rcases h with ⟨h1, rfl, rfl⟩ | ⟨h1, ⟨h2, rfl, rfl⟩ | ⟨h2, ⟨_, rfl⟩, rfl⟩⟩ <;> rcases g with ⟨g1, rfl, rfl⟩ | ⟨g1, ⟨g2, rfl, rfl⟩ | ⟨g2, ⟨_, rfl⟩, rfl⟩⟩
  · exact ⟨rfl, rfl⟩
  · exact absurd g1 h1
  · exact absurd g1 h1
  · exact absurd h1 g1
  · exact ⟨rfl, rfl⟩
  · omega
  · exact absurd h1 g1
  · omega
  · exact ⟨rfl, rfl⟩
theorem PcV.zero {p : Pr} {k : Int} (h : PcV p k 0) : IsGrp p ∧ (1 ≤ k ∧ k ≤ 1000000) ∧ ordN p ≤ 128 := by
  rcases h with ⟨_, h2⟩ | ⟨h1, ⟨_, h2⟩ | ⟨h2, ⟨_, h3⟩ | ⟨h3, _⟩⟩⟩
  · omega
  · omega
  · omega
  · exact ⟨h1, h2, h3⟩
end Go.Proofs.Ytjaneagaccefiaa

/-
  Walks: the program's order of an element; PowerSubgroup, OrderSubgroup.
  Conditions: what the arguments read as.
-/
namespace Go.Proofs.Ytjaneagaccefiaa
open Go Go.Pc
end Go.Proofs.Ytjaneagaccefiaa

/-
  Plain mathematics: a presentation whose normal forms are told apart in a group that respects its relations is a group's.
  Conditions: none; nothing of the program stands here.
-/
namespace Go.Proofs.Ytjaneagaccefiaa
open Go Go.Pc Go.Pc.Grp
/-- A group that holds the normal forms of a presentation. -/
structure Emb (q : Pr) {K : Type} [Grp K] (c : Nat → K) : Prop where
  valid : Valid q
  P : ∀ j, j < q.n → pw (c j) (q.o j).toNat = phi c (q.w j) (j + 1) (q.n - (j + 1))
  C : ∀ j k, j < k → k < q.n → cj (c k) (c j) = phi c (q.c j k) (j + 1) (q.n - (j + 1))
  inj : ∀ x y, InR q x → InR q y → phi c x 0 q.n = phi c y 0 q.n → x = y
  inv : ∀ i x, i ≤ q.n → InR q x → ZU i x → ∃ y, InR q y ∧ ZU i y ∧ phi c y 0 q.n * phi c x 0 q.n = 1
section
variable {q : Pr} {K : Type} [Grp K] {c : Nat → K}
theorem phi_zu (c : Nat → K) {x : List Int} {i n : Nat} (hi : i ≤ n) (hz : ZU i x) : phi c x 0 n = phi c x i (n - i) := by
  have e : n = i + (n - i) := by omega
  have h := phi_split c x i 0 (n - i)
  rw [← e, Nat.zero_add] at h
  rw [h, phi_none c i 0 (fun j _ hj => .inl (hz j (by omega))), Grp.one_mul]
theorem Emb.mul (h : Emb q c) {i : Nat} (hi : i ≤ q.n) {x y : List Int} (hx : InR q x) (hy : InR q y) (zx : ZU i x) (zy : ZU i y) : phi c (atv q i x y) 0 q.n = phi c x 0 q.n * phi c y 0 q.n := by
  have hin := atv_in h.valid _ i rfl _ _ hx hy zx zy
  rw [phi_zu c hi hin.2, phi_zu c hi zx, phi_zu c hi zy]
  exact dyck c h.valid i (fun j _ hj => h.P j hj) (fun j k _ hj hk => h.C j k hj hk) _ i (Nat.le_refl _) rfl x y hx hy zx zy
theorem Emb.con (h : Emb q c) {i : Nat} (hi : i ≤ q.n) : Con q i where
  valid := h.valid
  assoc := fun x y z => by
    have h1 := atv_in h.valid _ i rfl _ _ x.inr y.inr x.zu y.zu
    have h2 := atv_in h.valid _ i rfl _ _ y.inr z.inr y.zu z.zu
    have h3 := atv_in h.valid _ i rfl _ _ h1.1 z.inr h1.2 z.zu
    have h4 := atv_in h.valid _ i rfl _ _ x.inr h2.1 x.zu h2.2
    apply T.ext
    refine h.inj _ _ h3.1 h4.1 ?_
    show phi c (atv q i (atv q i x.v y.v) z.v) 0 q.n = phi c (atv q i x.v (atv q i y.v z.v)) 0 q.n
    rw [h.mul hi h1.1 z.inr h1.2 z.zu, h.mul hi x.inr y.inr x.zu y.zu, h.mul hi x.inr h2.1 x.zu h2.2, h.mul hi y.inr z.inr y.zu z.zu, Grp.mul_assoc]
  inv := fun x => by
    obtain ⟨y, hy, zy, e⟩ := h.inv i x.v hi x.inr x.zu
    have h1 := atv_in h.valid _ i rfl _ _ hy x.inr zy x.zu
    refine ⟨⟨y, hy, zy⟩, T.ext ?_⟩
    refine h.inj _ _ h1.1 h.valid.zeros_in ?_
    show phi c (atv q i y x.v) 0 q.n = phi c (zeros q.n) 0 q.n
    rw [h.mul hi hy x.inr zy x.zu, e, phi_zero c _ _ fun j _ => zeros_getD _ _]
theorem cj_cj' {G : Type} [Grp G] (a b g : G) : cj (cj a g) (cj b g) = cj (cj a b) g := by
  rw [cj_cj, cj_cj, mul_cj]
theorem cj_self {G : Type} [Grp G] (a : G) : cj a a = a := by unfold cj; rw [inv_mul_cancel_left]
/-- The level's conditions hold. -/
theorem Emb.lev (h : Emb q c) {i : Nat} (hi : i < q.n) : Lev q i := by
  have hcon : Con q (i + 1) := h.con hi
  let up : T q (i + 1) → K := fun x => phi c x.v 0 q.n
  have upv : ∀ x : T q (i + 1), up x = phi c x.v 0 q.n := fun _ => rfl
  have upi : ∀ x y : T q (i + 1), up x = up y → x = y := fun x y e => T.ext (h.inj _ _ x.inr y.inr e)
  have upm : ∀ x y : T q (i + 1), up (x * y) = up x * up y := fun x y => h.mul (i := i + 1) hi x.inr y.inr x.zu y.zu
  have up1 : up 1 = 1 := Grp.mul_left_cancel (a := up 1) (by rw [← upm, Grp.one_mul, Grp.mul_one])
  have upp : ∀ (x : T q (i + 1)) k, up (pw x k) = pw (up x) k := fun x k => by
    induction k with
    | zero => exact up1
    | succ k ih => rw [pw_succ, upm, ih, pw_succ]
  have upn : ∀ x : T q (i + 1), up x⁻¹ = (up x)⁻¹ := fun x => eq_inv_of_mul (by rw [← upm, Grp.inv_mul, up1])
  have upc : ∀ x y : T q (i + 1), up (cj x y) = cj (up x) (up y) := fun x y => by unfold cj; rw [upm, upm, upn]
  have hom : ∀ x y, InR q x → InR q y → ZU (i + 1) x → ZU (i + 1) y → phi c (atv q (i + 1) x y) (i + 1) (q.n - (i + 1)) = phi c x (i + 1) (q.n - (i + 1)) * phi c y (i + 1) (q.n - (i + 1)) := fun x y hx hy zx zy =>
    dyck c h.valid (i + 1) (fun j _ hj => h.P j hj) (fun j k _ hj hk => h.C j k hj hk) _ (i + 1) (Nat.le_refl _) rfl x y hx hy zx zy
  have upg : ∀ x : T q (i + 1), up (Timg h.valid x) = cj (up x) (c i) := fun x => by
    have e := phi_rep_img c h.valid hi hom (fun k h1 h2 => h.C i k h1 h2) x.v 1
    rw [rep_succ, rep_zero, pw_one] at e
    rw [upv, upv, phi_zu c hi (Timg h.valid x).zu, phi_zu c hi x.zu]
    exact e
  have upr : ∀ (x : T q (i + 1)) k, up (rep k (Timg h.valid) x) = cj (up x) (pw (c i) k) := fun x k => by
    induction k with
    | zero => rw [rep_zero, pw_zero, cj_by_one]
    | succ k ih => rw [rep_succ, upg, ih, cj_cj, pw_succ]
  have upC : ∀ j (hj : i < j ∧ j < q.n), up (Tc h.valid hj) = cj (c j) (c i) := fun j hj => by
    rw [upv, phi_zu c hi (Tc h.valid hj).zu]
    exact (h.C i j hj.1 hj.2).symm
  have upW : ∀ j (hj : i ≤ j) (hn : j < q.n) hin hz, up (⟨q.w j, hin, hz⟩ : T q (i + 1)) = pw (c j) (q.o j).toNat := fun j hj hn hin hz => by
    rw [upv, h.P j hn]
    exact phi_zu c (by omega) (h.valid.w_zu j hn)
  have upG : ∀ j (hj : i + 1 ≤ j ∧ j < q.n), up (gen h.valid (i + 1) j hj) = c j := fun j hj => by
    rw [upv]
    have e : (gen h.valid (i + 1) j hj).v = unitv q j 1 := rfl
    have z : ZU j (unitv q j 1) := unitv_zu q (Nat.le_refl _) 1
    rw [e, phi_zu c (by omega) z, show q.n - j = (q.n - (j + 1)) + 1 by omega, phi]
    have g : (unitv q j 1).getD j 0 = 1 := Pc.getD_set_eq _ _ _ (by rw [h.valid.zeros_in.len]; exact hj.2)
    rw [g, phi_zero c _ _ (fun k hk => by rw [unitv, Pc.getD_set_ne _ _ _ _ (by omega), zeros_getD]), Grp.mul_one]
    exact pw_one _
  refine ⟨hcon, hi, ⟨fun j hj => upi _ _ ?_, fun j k hj hk hjk => upi _ _ ?_, upi _ _ ?_, fun j hj => upi _ _ ?_⟩⟩
  · rw [upp, upg, upC, upW j (by omega) hj.2, cj_pw]
  · rw [upc, upg, upC, upC, cj_cj']
    congr 1
    rw [upv, phi_zu c (by omega) (h.valid.c_zu j k hjk hk.2)]
    exact h.C j k hjk hk.2
  · rw [upg, show up (Tw h.valid hi) = pw (c i) (q.o i).toNat from upW i (Nat.le_refl _) hi _ _, cj_pw, cj_self]
  · rw [upr, upc, upG, show up (Tw h.valid hi) = pw (c i) (q.o i).toNat from upW i (Nat.le_refl _) hi _ _]
theorem Emb.grp (h : Emb q c) : IsGrp q := ⟨h.valid, fun _ _ hj => h.lev hj⟩
end
/-! ### the quotient by a normal subgroup -/
structure NSub (G : Type) [Grp G] where
  N : G → Prop
  sub : Pc.Sub N
  nrm : ∀ a b, N a → N (cj a b)
section
variable {G : Type} [Grp G] (S : NSub G)
theorem NSub.comm {a b : G} (h : S.N (a * b)) : S.N (b * a) := by
  have := S.nrm _ a h
  unfold cj at this
  rwa [Grp.mul_assoc, inv_mul_cancel_left] at this
def NSub.setoid : Setoid G where
  r x y := S.N (x⁻¹ * y)
  iseqv := ⟨fun x => by rw [Grp.inv_mul]; exact S.sub.one, fun {x y} h => by
    have := S.sub.inv _ h
    rwa [mul_inv_rev, Grp.inv_inv] at this, fun {x y z} h k => by
    have := S.sub.mul _ _ h k
    rwa [Grp.mul_assoc, mul_inv_cancel_left] at this⟩
def NSub.Q : Type := Quotient S.setoid
def NSub.qk (x : G) : S.Q := Quotient.mk S.setoid x
theorem NSub.eq {x y : G} : S.qk x = S.qk y ↔ S.N (x⁻¹ * y) := ⟨fun h => Quotient.exact h, fun h => Quotient.sound h⟩
instance NSub.grp : Grp S.Q where
  mul a b := Quotient.liftOn₂ a b (fun x y => S.qk (x * y)) fun x y x' y' h k => S.eq.2 (by
    have h1 : S.N (x⁻¹ * x') := h
    have k1 : S.N (y⁻¹ * y') := k
    have h2 := S.sub.mul _ _ (S.nrm _ y h1) k1
    have e : cj (x⁻¹ * x') y * (y⁻¹ * y') = (x * y)⁻¹ * (x' * y') := by
      unfold cj
      rw [mul_inv_rev]
      simp only [Grp.mul_assoc]
      rw [mul_inv_cancel_left]
    rwa [e] at h2)
  one := S.qk 1
  inv a := Quotient.liftOn a (fun x => S.qk x⁻¹) fun x y h => S.eq.2 (by
    have h1 : S.N (x⁻¹ * y) := h
    have h2 := S.sub.inv _ h1
    rw [mul_inv_rev, Grp.inv_inv] at h2
    have h3 := S.comm h2
    rwa [Grp.inv_inv])
  mul_assoc a b c := by
    induction a using Quotient.ind; induction b using Quotient.ind; induction c using Quotient.ind
    exact congrArg S.qk (Grp.mul_assoc _ _ _)
  one_mul a := by
    induction a using Quotient.ind
    exact congrArg S.qk (Grp.one_mul _)
  inv_mul a := by
    induction a using Quotient.ind
    exact congrArg S.qk (Grp.inv_mul _)
end
end Go.Proofs.Ytjaneagaccefiaa

/-
  Plain mathematics: the presentation of a quotient is a group's.
  Conditions: none; nothing of the program stands here.
-/
namespace Go.Proofs.Ytjaneagaccefiaa
open Go Go.Pc Go.Pc.Grp
section
variable {p : Pr} [hc : ConAll p] {ys : List (El p)}
theorem repEx (hs : SeqOk ys) (x : El p) : ∃ r, RepOf ys x r := by
  have hasc : ∀ i j (hi : i < ys.length) (hj : j < ys.length), i < j → lead (ys[i]).v < lead (ys[j]).v := fun i j hi hj hij => List.pairwise_iff_getElem.1 hs.asc i j hi hj hij
  have key : ∀ k, k ≤ ys.length → ∃ r : El p, (∀ H : El p → Prop, Pc.Sub H → (∀ y, y ∈ ys → H y) → H (x⁻¹ * r)) ∧ (∀ i (hi : i < ys.length), i < k → co r (lead (ys[i]).v) = 0) ∧ (∀ t, (∀ y, y ∈ ys → t < lead y.v) → co r t = co x t) := by
    intro k
    induction k with
    | zero => exact fun _ => ⟨x, fun H hH _ => by rw [Grp.inv_mul]; exact hH.one, fun i _ h => by omega, fun _ _ => rfl⟩
    | succ k ih =>
      intro hk
      have hkn : k < ys.length := by omega
      obtain ⟨r, h1, h2, h3⟩ := ih (by omega)
      have hm := List.getElem_mem hkn
      obtain ⟨hd, hy1⟩ := hs.lead1 _ hm
      have ht : Tl (lead (ys[k]).v) (ys[k]) := lead_tl _
      have hrr := co_rng r hd
      have hpt := ht.pw (Nat.le_of_lt hd) (p.o (lead (ys[k]).v) - co r (lead (ys[k]).v)).toNat
      refine ⟨r * pw (ys[k]) (p.o (lead (ys[k]).v) - co r (lead (ys[k]).v)).toNat, fun H hH hy => ?_, fun i hi hik => ?_, fun t hq => ?_⟩
      · rw [← Grp.mul_assoc]
        exact hH.mul _ _ (h1 H hH hy) (hH.pw (hy _ hm) _)
      · by_cases e : i = k
        · subst e
          rw [co_at r hd hpt, co_pw hd ht, hy1, Int.mul_one]
          by_cases h0 : co r (lead (ys[i]).v) = 0
          · have e1 : ((p.o (lead (ys[i]).v) - co r (lead (ys[i]).v)).toNat : Int) = p.o (lead (ys[i]).v) := by omega
            rw [e1, h0, Int.emod_self]; rfl
          · have e1 : ((p.o (lead (ys[i]).v) - co r (lead (ys[i]).v)).toNat : Int) = p.o (lead (ys[i]).v) - co r (lead (ys[i]).v) := by omega
            have e2 : (p.o (lead (ys[i]).v) - co r (lead (ys[i]).v)) % p.o (lead (ys[i]).v) = p.o (lead (ys[i]).v) - co r (lead (ys[i]).v) := Int.emod_eq_of_lt (by omega) (by omega)
            rw [e1, e2, show co r (lead (ys[i]).v) + (p.o (lead (ys[i]).v) - co r (lead (ys[i]).v)) = p.o (lead (ys[i]).v) by omega, Int.emod_self]
        · have hlt := hasc i k hi hkn (by omega)
          rw [co_low r hd hpt hlt]
          exact h2 i hi (by omega)
      · rw [co_low r hd hpt (hq _ hm)]
        exact h3 t hq
  obtain ⟨r, h1, h2, h3⟩ := key ys.length (Nat.le_refl _)
  refine ⟨r, h1, fun y hy => ?_, h3⟩
  obtain ⟨i, hi, rfl⟩ := List.getElem_of_mem hy
  exact h2 i hi hi
/-! ### the element with some exponents -/
/-! ### the quotient -/
end
end Go.Proofs.Ytjaneagaccefiaa

/-
  Plain mathematics: homomorphisms by images; automorphisms are one to one, and each comes back.
  Conditions: none; nothing of the program stands here.
-/
namespace Go.Proofs.Ytjaneagaccefiaa
open Go Go.Pc Go.Pc.Grp
/-- Of n + 1 numbers below n two are the same. -/
theorem pigeon : ∀ (n : Nat) (g : Nat → Nat), (∀ i, i ≤ n → g i < n) → ∃ a b, a < b ∧ b ≤ n ∧ g a = g b
  | 0, g, h => absurd (h 0 (Nat.le_refl _)) (Nat.not_lt_zero _)
  | n + 1, g, h => by
    by_cases e : ∃ a, a ≤ n ∧ g a = g (n + 1)
    · obtain ⟨a, ha, e⟩ := e
      exact ⟨a, n + 1, by omega, Nat.le_refl _, e⟩
    · obtain ⟨a, b, h1, h2, h3⟩ := pigeon n (fun i => if g (n + 1) < g i then g i - 1 else g i) (fun i hi => by
        have h1 := h i (by omega)
        have h2 := h (n + 1) (Nat.le_refl _)
        have h3 : g i ≠ g (n + 1) := fun k => e ⟨i, hi, k⟩
        split <;> omega)
      have ha : g a ≠ g (n + 1) := fun k => e ⟨a, by omega, k⟩
      have hb : g b ≠ g (n + 1) := fun k => e ⟨b, h2, k⟩
      refine ⟨a, b, h1, by omega, ?_⟩
      split at h3 <;> split at h3 <;> omega
def itF {α : Type} (f : α → α) : Nat → α → α
  | 0, x => x
  | k + 1, x => f (itF f k x)
theorem itF_add {α : Type} (f : α → α) (b : Nat) (x : α) : ∀ a, itF f (a + b) x = itF f a (itF f b x)
  | 0 => by rw [Nat.zero_add]; rfl
  | a + 1 => by rw [Nat.add_right_comm]; exact congrArg f (itF_add f b x a)
theorem itF_comm {α : Type} (f : α → α) (x : α) (k : Nat) : itF f (k + 1) x = itF f k (f x) := itF_add f 1 x k
theorem itF_mul {α : Type} {f : α → α} {m : Nat} {x : α} (h : itF f m x = x) : ∀ k, itF f (m * k) x = x
  | 0 => rfl
  | k + 1 => by rw [Nat.mul_succ, itF_add, h]; exact itF_mul h k
/-- What is onto a finite set brings each element back. -/
theorem period {α : Type} {f : α → α} {num : α → Nat} {n : Nat} (hn : ∀ x, num x < n) (hi : ∀ x y, num x = num y → x = y) (hs : ∀ y, ∃ x, f x = y) (x : α) : ∃ m, 1 ≤ m ∧ itF f m x = x := by
  obtain ⟨g, hg⟩ : ∃ g : α → α, ∀ y, f (g y) = y := ⟨fun y => Classical.choose (hs y), fun y => Classical.choose_spec (hs y)⟩
  have hk : ∀ k y, itF f k (itF g k y) = y := by
    intro k
    induction k with
    | zero => exact fun y => rfl
    | succ k ih =>
      intro y
      rw [itF_comm]
      show itF f k (f (g (itF g k y))) = y
      rw [hg]
      exact ih y
  obtain ⟨a, b, hab, _, e⟩ := pigeon n (fun i => num (itF g i x)) (fun i _ => hn _)
  have e' : itF g a x = itF g b x := hi _ _ e
  refine ⟨b - a, by omega, ?_⟩
  have h1 : itF g (b - a) x = x := by
    have h2 := congrArg (itF f a) e'
    have h3 : itF g b x = itF g a (itF g (b - a) x) := by
      rw [← itF_add, show a + (b - a) = b by omega]
    rw [h3, hk, hk] at h2
    exact h2.symm
  have h3 := hk (b - a) x
  rwa [h1] at h3
theorem periods {α : Type} {f : α → α} (h : ∀ x : α, ∃ m, 1 ≤ m ∧ itF f m x = x) : ∀ l : List α, ∃ m, 1 ≤ m ∧ ∀ x, x ∈ l → itF f m x = x
  | [] => ⟨1, Nat.le_refl _, fun x hx => absurd hx List.not_mem_nil⟩
  | y :: l => by
    obtain ⟨m, hm, h1⟩ := periods h l
    obtain ⟨k, hk, h2⟩ := h y
    refine ⟨m * k, Nat.mul_pos hm hk, fun x hx => ?_⟩
    rcases List.mem_cons.1 hx with rfl | hx
    · rw [Nat.mul_comm]; exact itF_mul h2 m
    · exact itF_mul (h1 x hx) k
theorem period_inj {α : Type} {f : α → α} (h : ∀ x : α, ∃ m, 1 ≤ m ∧ itF f m x = x) {x y : α} (e : f x = f y) : x = y := by
  obtain ⟨m, hm, k⟩ := periods h [x, y]
  have h1 := k x (by simp)
  have h2 := k y (by simp)
  obtain ⟨j, rfl⟩ : ∃ j, m = j + 1 := ⟨m - 1, by omega⟩
  rw [itF_comm, e] at h1
  rw [itF_comm, h1] at h2
  exact h2
/-! ### homomorphisms by images -/
theorem inR_nonneg {p : Pr} {x : List Int} (h : InR p x) (i : Nat) : 0 ≤ x.getD i 0 := by
  by_cases hi : i < p.n
  · exact (h.rng i hi).1
  · rw [List.getD_eq_getElem?_getD, List.getElem?_eq_none (by rw [h.len]; omega)]
    exact Int.le_refl _
section
variable {q : Pr} [hq : ConAll q]
theorem prodTo_phi (ys : List (El q)) {x : List Int} (h : ∀ i, 0 ≤ x.getD i 0) : ∀ k, prodTo ys x k = phi (fun j => ys.getD j 1) x 0 k
  | 0 => rfl
  | k + 1 => by
    rw [phi_last, Nat.zero_add]
    show prodTo ys x k * pwz (ys.getD k 1) (x.getD k 0) = _
    rw [pwz_of _ (h k), prodTo_phi ys h k]
theorem letV_neg (ys : List (El q)) {a : Int} (ha : a ≠ 0) : letV ys (-a) = (letV ys a)⁻¹ := by
  unfold letV
  by_cases h : 0 < a
  · rw [if_neg (by omega), if_pos h, show - -a - 1 = a - 1 by omega]
  · rw [if_pos (by omega), if_neg h, Grp.inv_inv]
theorem evalW_one (ys : List (El q)) (a : Int) : evalW ys [a] = letV ys a := by
  show 1 * letV ys a = _
  rw [Grp.one_mul]
theorem evalW_inv (ys : List (El q)) : ∀ w : List Int, (∀ a, a ∈ w → a ≠ 0) → evalW ys (invW w) * evalW ys w = 1
  | [], _ => Grp.one_mul _
  | l :: w, h => by
    have e1 : invW (l :: w) = invW w ++ [-l] := by simp [invW]
    have e2 : evalW ys (l :: w) = letV ys l * evalW ys w := by rw [← evalW_one, ← evalW_append]; rfl
    rw [e1, evalW_append, evalW_one, letV_neg ys (h l List.mem_cons_self), e2, Grp.mul_assoc, ← Grp.mul_assoc (letV ys l)⁻¹, Grp.inv_mul, Grp.one_mul]
    exact evalW_inv ys w fun a ha => h a (List.mem_cons_of_mem _ ha)
theorem evalW_rel (ys : List (El q)) {u v : List Int} (hv : ∀ a, a ∈ v → a ≠ 0) (h : evalW ys (u ++ invW v) = 1) : evalW ys u = evalW ys v := by
  rw [evalW_append] at h
  have h1 := evalW_inv ys v hv
  calc evalW ys u = evalW ys u * (evalW ys (invW v) * evalW ys v) := by rw [h1, Grp.mul_one]
    _ = (evalW ys u * evalW ys (invW v)) * evalW ys v := by rw [Grp.mul_assoc]
    _ = evalW ys v := by rw [h, Grp.one_mul]
theorem evalW_full (ys : List (El q)) {x : List Int} (h : ∀ i, 0 ≤ x.getD i 0) : evalW ys (wordV x) = phi (fun j => ys.getD j 1) x 0 x.length := by
  have h1 := evalW_word (ys := ys) (x := x) (fun i _ => h i) x.length (Nat.le_refl _)
  rw [List.take_length, prodTo_phi ys h] at h1
  exact h1
variable {p : Pr}
theorem relOk_mem {ys : List (El q)} (h : RelOk p ys) {w : List Int} (hw : w ∈ rels p) : evalW ys w = 1 := by
  obtain ⟨i, hi, rfl⟩ := List.getElem_of_mem hw
  have := h i hi
  rwa [List.getD_eq_getElem?_getD, List.getElem?_eq_getElem hi] at this
theorem relP_mem {i : Nat} (hi : i < p.n) : relP p i ∈ rels p := List.mem_append.2 (.inl (List.mem_map.2 ⟨i, List.mem_range.2 hi, rfl⟩))
theorem relC_mem {i k : Nat} (hi : i < p.n) (hk : k < p.n - 1 - i) : relC p i k ∈ rels p :=
  List.mem_append.2 (.inr (List.mem_flatMap.2 ⟨i, List.mem_range.2 hi, List.mem_map.2 ⟨k, List.mem_range.2 hk, rfl⟩⟩))
theorem img_P {ys : List (El q)} (hv : Valid p) (h : RelOk p ys) {j : Nat} (hj : j < p.n) : pw (ys.getD j 1) (p.o j).toNat = phi (fun j => ys.getD j 1) (p.w j) (j + 1) (p.n - (j + 1)) := by
  have hi := hv.w_in j hj
  have h1 := relOk_mem h (relP_mem hj)
  have h2 := evalW_rel ys (u := List.replicate (p.o j).toNat ((j : Int) + 1)) (v := wordV (p.w j)) (fun a ha => (letW_word hi.len a ha).1) h1
  rw [evalW_rep, evalW_full ys (inR_nonneg hi), hi.len, phi_zu _ (by omega) (hv.w_zu j hj)] at h2
  exact h2
theorem img_C {ys : List (El q)} (hv : Valid p) (h : RelOk p ys) {j k : Nat} (hjk : j < k) (hk : k < p.n) : cj (ys.getD k 1) (ys.getD j 1) = phi (fun j => ys.getD j 1) (p.c j k) (j + 1) (p.n - (j + 1)) := by
  have hi := hv.c_in j k hjk hk
  obtain ⟨m, rfl⟩ : ∃ m, k = j + 1 + m := ⟨k - (j + 1), by omega⟩
  have ec : (p.cnj.getD j []).getD m [] = p.c j (j + 1 + m) := by
    unfold Pr.c
    congr 1
    omega
  have h1 := relOk_mem h (relC_mem (i := j) (k := m) (by omega) (by omega))
  unfold relC at h1
  rw [ec] at h1
  have h2 := evalW_rel ys (v := wordV (p.c j (j + 1 + m))) (fun a ha => (letW_word hi.len a ha).1) h1
  rw [evalW_full ys (inR_nonneg hi), hi.len, phi_zu _ (by omega) (hv.c_zu j _ hjk hk)] at h2
  rw [← h2]
  show _ = ((1 * letV ys (-(j : Int) - 1)) * letV ys (((j + 1 + m : Nat) : Int) + 1)) * letV ys ((j : Int) + 1)
  have e1 : letV ys (-(j : Int) - 1) = (ys.getD j 1)⁻¹ := by
    unfold letV
    rw [if_neg (by omega), show (-(-(j : Int) - 1) - 1).toNat = j by omega]
  have e2 : letV ys (((j + 1 + m : Nat) : Int) + 1) = ys.getD (j + 1 + m) 1 := by
    unfold letV
    rw [if_pos (by omega), show ((((j + 1 + m : Nat) : Int) + 1) - 1).toNat = j + 1 + m by omega]
  have e3 : letV ys ((j : Int) + 1) = ys.getD j 1 := by
    unfold letV
    rw [if_pos (by omega), show ((j : Int) + 1 - 1).toNat = j by omega]
  rw [e1, e2, e3, Grp.one_mul, Grp.mul_assoc]
  rfl
theorem imgE_phi {ys : List (El q)} (hl : ys.length = p.n) {x : List Int} (hx : InR p x) : imgE ys x = phi (fun j => ys.getD j 1) x 0 p.n := by
  unfold imgE
  rw [prodTo_phi ys (inR_nonneg hx), hl]
variable [hc : ConAll p]
theorem img_hom {ys : List (El q)} (hl : ys.length = p.n) (h : RelOk p ys) (x y : El p) : imgE ys (x * y).v = imgE ys x.v * imgE ys y.v := by
  have hv := hc.valid
  have h1 := dyck (fun j => ys.getD j 1) hv 0 (fun j _ hj => img_P hv h hj) (fun j k _ hjk hk => img_C hv h hjk hk) p.n 0 (Nat.le_refl _) (Nat.sub_zero _) x.v y.v x.inr y.inr x.zu y.zu
  rw [imgE_phi hl (x * y).inr, imgE_phi hl x.inr, imgE_phi hl y.inr]
  exact h1
theorem img_unit {ys : List (El q)} (hl : ys.length = p.n) {i : Nat} (hi : i < p.n) : imgE ys (gOf p 0 i : El p).v = ys.getD i 1 := by
  have key : ∀ k, k ≤ p.n → prodTo ys (gOf p 0 i : El p).v k = if i < k then ys.getD i 1 else 1 := by
    intro k
    induction k with
    | zero => exact fun _ => rfl
    | succ k ih =>
      intro hk
      show prodTo ys _ k * pwz (ys.getD k 1) ((gOf p 0 i : El p).v.getD k 0) = _
      have e : (gOf p 0 i : El p).v.getD k 0 = if k = i then 1 else 0 := by
        have := co_gOf (p := p) (e := k) hi
        rw [show (gOf p 0 i : El p).v.getD k 0 = co (gOf p 0 i) k from rfl, this]
      rw [ih (by omega), e]
      by_cases h1 : k = i
      · subst h1
        rw [if_neg (Nat.lt_irrefl _), if_pos rfl, if_pos (Nat.lt_succ_self _), Grp.one_mul]
        exact Grp.one_mul _
      · rw [if_neg h1]
        have e0 : pwz (ys.getD k 1) 0 = 1 := rfl
        rw [e0, Grp.mul_one]
        by_cases h2 : i < k
        · rw [if_pos h2, if_pos (by omega)]
        · rw [if_neg h2, if_neg (by omega)]
  unfold imgE
  rw [key _ (by omega), if_pos (by omega)]
end
/-! ### numbers -/
section
variable {p : Pr} {l : List Nat}
end
/-! ### automorphisms -/
section
variable {p : Pr} [hc : ConAll p]
theorem full_gen {ys : List (El p)} (hs : SeqEl ys) (h : ordOf p ys = ordL p (List.range p.n)) (x : El p) : Gen (fun a : El p => a ∈ ys) x := by
  have hv := hc.valid
  have hord := ordOf_rng (ys := ys) (k := ys.length) (by have := hs.len; have := hv.n6; omega) (Nat.le_refl _) fun y hy => (hs.ok.lead1 y hy).1
  rw [List.take_length] at hord
  have hsp := ord_split hs.ok
  have hone : ordL p (freeL p ys p.n) = 1 := by
    rw [← h] at hsp
    have h2 : 1 * ordOf p ys = ordL p (freeL p ys p.n) * ordOf p ys := by rw [Int.one_mul]; exact hsp
    exact (Int.eq_of_mul_eq_mul_right (by omega) h2).symm
  have hnil : freeL p ys p.n = [] := by
    by_cases e : freeL p ys p.n = []
    · exact e
    · have h2 := (foldl_ge p.o (freeL p ys p.n) 1 (Int.le_refl _) fun d hd => (hv.opos (freeL_lt hd)).1).2 e
      have h3 : ordL p (freeL p ys p.n) = (freeL p ys p.n).foldl (fun a d => a * p.o d) 1 := rfl
      omega
  have hcov := (free_nil_iff ys p.n).1 hnil
  obtain ⟨r, hr⟩ := repEx hs.ok x
  have hr1 : r = 1 := T.ext (list_ext0 (by rw [r.inr.len, (1 : El p).inr.len]) fun d hd => by
    rw [r.inr.len] at hd
    obtain ⟨y, hy, e⟩ := hcov d hd
    have h1 : r.v.getD d 0 = 0 := by rw [← e]; exact hr.zero y hy
    rw [h1]
    exact (co_one d).symm)
  have h2 := hr.mem _ (Gen.sub _) (fun y hy => Gen.of (S := fun a : El p => a ∈ ys) y hy)
  rw [hr1, Grp.mul_one] at h2
  have h3 := Gen.inv _ h2
  rwa [Grp.inv_inv] at h3
theorem aut_onto {ys : List (El p)} (hl : ys.length = p.n) (h : RelOk p ys) (hf : ordOf p (canEls (Gen (fun a : El p => a ∈ ys))) = ordL p (List.range p.n)) (z : El p) : ∃ x : El p, imgE ys x.v = z := by
  have h1 := full_gen (seqEl_can (Gen.sub (fun a : El p => a ∈ ys))) hf z
  have e1 : imgE ys (1 : El p).v = 1 := by
    have h2 := img_hom hl h (1 : El p) 1
    rw [Grp.one_mul] at h2
    have h3 := congrArg (fun a => (imgE ys (1 : El p).v)⁻¹ * a) h2
    simp only [← Grp.mul_assoc, Grp.inv_mul, Grp.one_mul] at h3
    exact h3.symm
  have hS : Pc.Sub (fun z : El p => ∃ x : El p, imgE ys x.v = z) := ⟨⟨1, e1⟩, fun a b ⟨x, hx⟩ ⟨y, hy⟩ => ⟨x * y, by rw [img_hom hl h, hx, hy]⟩, fun a ⟨x, hx⟩ => ⟨x⁻¹, by
    have h2 := img_hom hl h x⁻¹ x
    rw [Grp.inv_mul, e1, hx] at h2
    exact Grp.eq_inv_of_mul h2.symm⟩⟩
  have h2 := (gen_can (Gen.sub (fun a : El p => a ∈ ys)) z).1 h1
  refine Gen.le hS (fun a ha => ?_) z h2
  obtain ⟨i, hi, rfl⟩ := List.getElem_of_mem ha
  refine ⟨gOf p 0 i, ?_⟩
  rw [img_unit hl (by omega)]
  simp [hi]
theorem aut_period {ys : List (El p)} (hl : ys.length = p.n) (h : RelOk p ys) (hf : ordOf p (canEls (Gen (fun a : El p => a ∈ ys))) = ordL p (List.range p.n)) (x : El p) : ∃ m, 1 ≤ m ∧ itF (fun x : El p => imgE ys x.v) m x = x := by
  obtain ⟨num, hn⟩ : ∃ num : El p → Nat, ∀ x, num x < ordN p ∧ x = allE p (num x) := ⟨fun x => Classical.choose (allE_surj x), fun x => Classical.choose_spec (allE_surj x)⟩
  exact period (num := num) (fun x => (hn x).1) (fun x y e => by rw [(hn x).2, (hn y).2, e]) (aut_onto hl h hf) x
theorem aut_inj {ys : List (El p)} (hl : ys.length = p.n) (h : RelOk p ys) (hf : ordOf p (canEls (Gen (fun a : El p => a ∈ ys))) = ordL p (List.range p.n)) {x y : El p} (e : imgE ys x.v = imgE ys y.v) : x = y :=
  period_inj (f := fun x : El p => imgE ys x.v) (aut_period hl h hf) e
/-- The images that an inverse automorphism has. -/
def InV (p : Pr) (xss r : List (List Int)) (e : Int) : Prop := (∃ (_ : ConAll p) (ys zs : List (El p)), xss = vecs ys ∧ zs.length = p.n ∧ (∀ i, i < p.n → imgE ys (zs.getD i 1).v = gOf p 0 i) ∧ r = vecs zs) ∧ e = 0
end
theorem InV.uniq {p : Pr} {xss : List (List Int)} (hI : IsoP p p xss) (a b : List (List Int)) (c d : Int) (h : InV p xss a c) (k : InV p xss b d) : a = b ∧ c = d := by
  obtain ⟨⟨hc, ys, zs, h1, h2, h3, rfl⟩, rfl⟩ := h
  obtain ⟨⟨kc, ys', zs', k1, k2, k3, rfl⟩, rfl⟩ := k
  obtain rfl := vecs_inj (h1.symm.trans k1)
  obtain ⟨_, hlen, _, hq, _, hC⟩ := hI
  rw [h1] at hC hlen
  obtain ⟨hR, hf⟩ := isoC_iff.1 hC
  have hl : ys.length = p.n := by simpa using hlen
  have e : zs = zs' := by
    refine List.ext_getElem (by omega) fun i hi hi' => ?_
    have e1 := h3 i (by omega)
    have e2 := k3 i (by omega)
    have e3 := aut_inj hl hR hf (e1.trans e2.symm)
    simpa [hi, hi'] using e3
  exact ⟨by rw [e], rfl⟩
end Go.Proofs.Ytjaneagaccefiaa

/-
  Classes of conjugate elements; the order of lists of numbers is the order of the elements' numbers; a sorted list of distinct elements is determined by its members.
  Conditions: the tails at all levels are groups.
-/
namespace Go.Proofs.Ytjaneagaccefiaa
open Go Go.Pc
/-! ### comparison of lists -/
section
variable {p : Pr} [hc : ConAll p]
/-! ### numbers of elements -/
/-! ### sorted lists -/
/-! ### classes -/
def Cnj (x y : El p) : Prop := ∃ z, y = Grp.cj x z
theorem Cnj.refl (x : El p) : Cnj x x := ⟨1, (Grp.cj_by_one x).symm⟩
theorem Cnj.symm {x y : El p} (h : Cnj x y) : Cnj y x := by
  obtain ⟨z, rfl⟩ := h
  exact ⟨z⁻¹, by rw [Grp.cj_cj, Grp.mul_inv, Grp.cj_by_one]⟩
theorem Cnj.trans {x y z : El p} (h : Cnj x y) (k : Cnj y z) : Cnj x z := by
  obtain ⟨a, rfl⟩ := h
  obtain ⟨b, rfl⟩ := k
  exact ⟨a * b, Grp.cj_cj _ _ _⟩
end
end Go.Proofs.Ytjaneagaccefiaa

/-
  Walk: the program's number of an element (numberOf).
  Conditions: stated at the theorem.
-/
namespace Go.Proofs.Ytjaneagaccefiaa
open Go Go.Pc
end Go.Proofs.Ytjaneagaccefiaa

/-
  Centralizers, normalizers, conjugators of subgroups: what the answers are.
  Conditions: none.
-/
namespace Go.Proofs.Ytjaneagaccefiaa
open Go Go.Pc
section
variable {p : Pr} [hc : ConAll p]
/-- The element commutes with all elements of a list. -/
def CenP (ys : List (El p)) (a : El p) : Prop := ∀ i (h : i < ys.length), a * ys[i] = ys[i] * a
/-- The element carries the elements of a list into a subgroup. -/
def CarP (ys zs : List (El p)) (a : El p) : Prop := ∀ i (h : i < ys.length), Gen (fun b : El p => b ∈ zs) (Grp.cj ys[i] a)
end
def CeV (p : Pr) (xss r : List (List Int)) (e : Int) : Prop := (∃ (_ : ConAll p) (ys : List (El p)), xss = vecs ys ∧ r = canon (Gen (fun a : El p => CenP ys a))) ∧ e = 0
theorem CeV.uniq {p : Pr} {xss : List (List Int)} (a b : List (List Int)) (c d : Int) (h : CeV p xss a c) (k : CeV p xss b d) : a = b ∧ c = d := by
  obtain ⟨⟨hc, ys, h2, h4⟩, h5⟩ := h
  obtain ⟨⟨hc', ys', k2, k4⟩, k5⟩ := k
  obtain rfl := vecs_inj (h2.symm.trans k2)
  exact ⟨by rw [h4, k4], by rw [h5, k5]⟩
def NzV (p : Pr) (xss r : List (List Int)) (e : Int) : Prop := (∃ (_ : ConAll p) (ys : List (El p)), xss = vecs ys ∧ r = canon (Gen (fun a : El p => CarP ys ys a))) ∧ e = 0
theorem NzV.uniq {p : Pr} {xss : List (List Int)} (a b : List (List Int)) (c d : Int) (h : NzV p xss a c) (k : NzV p xss b d) : a = b ∧ c = d := by
  obtain ⟨⟨hc, ys, h2, h4⟩, h5⟩ := h
  obtain ⟨⟨hc', ys', k2, k4⟩, k5⟩ := k
  obtain rfl := vecs_inj (h2.symm.trans k2)
  exact ⟨by rw [h4, k4], by rw [h5, k5]⟩
/-- The least element that carries a subgroup to another one. -/
def ScV (p : Pr) (xss yss : List (List Int)) (r : List Int) (e : Int) : Prop := ∃ (_ : ConAll p) (ys zs : List (El p)), xss = vecs ys ∧ yss = vecs zs ∧
  (((ordOf p ys ≠ ordOf p zs ∨ ∀ j, j < ordN p → ¬ CarP ys zs (allE p j)) ∧ r = [] ∧ e = 4) ∨ (ordOf p ys = ordOf p zs ∧ ∃ k, k < ordN p ∧ CarP ys zs (allE p k) ∧ (∀ j, j < k → ¬ CarP ys zs (allE p j)) ∧ r = (allE p k).v ∧ e = 0))
theorem ScV.uniq {p : Pr} {xss yss : List (List Int)} (a b : List Int) (c d : Int) (h : ScV p xss yss a c) (k : ScV p xss yss b d) : a = b ∧ c = d := by
  obtain ⟨hc, ys, zs, h2, h3, h4⟩ := h
  obtain ⟨hc', ys', zs', k2, k3, k4⟩ := k
  obtain rfl := vecs_inj (h2.symm.trans k2)
  obtain rfl := vecs_inj (h3.symm.trans k3)
  rcases h4 with ⟨h5, rfl, rfl⟩ | ⟨h5, i, hi, h6, h7, rfl, rfl⟩ <;> rcases k4 with ⟨k5, rfl, rfl⟩ | ⟨k5, j, hj, k6, k7, rfl, rfl⟩
  · exact ⟨rfl, rfl⟩
  · rcases h5 with h5 | h5
    · exact absurd k5 h5
    · exact absurd k6 (h5 j hj)
  · rcases k5 with k5 | k5
    · exact absurd h5 k5
    · exact absurd h6 (k5 i hi)
  · rcases Nat.lt_trichotomy i j with e | e | e
    · exact absurd h6 (k7 i e)
    · subst e; exact ⟨rfl, rfl⟩
    · exact absurd k6 (h7 j e)
/-- The index of the centre. -/
def CiV (p : Pr) (r e : Int) : Prop := (∃ (_ : ConAll p), r = idxOf p (canEls (Gen (fun a : El p => AbP [] a)))) ∧ e = 0
theorem CiV.uniq {p : Pr} (a b : Int) (c d : Int) (h : CiV p a c) (k : CiV p b d) : a = b ∧ c = d := by
  obtain ⟨⟨_, h1⟩, h2⟩ := h
  obtain ⟨⟨_, k1⟩, k2⟩ := k
  exact ⟨by rw [h1, k1], by rw [h2, k2]⟩
end Go.Proofs.Ytjaneagaccefiaa

/-
  Walks: the reference's order, index, transversal elements; Transversal.
  Conditions: stated at each theorem.
-/
namespace Go.Proofs.Ytjaneagaccefiaa
open Go Go.Pc
end Go.Proofs.Ytjaneagaccefiaa

/-
  Walks: the reference's element with a number, the elements above a subgroup; Center.
  Conditions: stated at each theorem.
-/
namespace Go.Proofs.Ytjaneagaccefiaa
open Go Go.Pc
end Go.Proofs.Ytjaneagaccefiaa

/-
  Walks: the reference's ElementCentralizer, SubgroupCentralizer, SubgroupNormalizer, SubgroupConjugator, CountInner.
  Conditions: stated at each theorem.
-/
namespace Go.Proofs.Ytjaneagaccefiaa
open Go Go.Pc
end Go.Proofs.Ytjaneagaccefiaa

/-
  Walks: the reference's ConsistencyFault, IsConsistent, PresentationOrder, Conjugate, Power.
  Conditions: stated at each theorem.
-/
namespace Go.Proofs.Ytjaneagaccefiaa
open Go Go.Pc
/-- What ConsistencyFault answers. -/
def FaO (p : Pr) (u : Value) (e : Int) : Prop := (Valid p ∧ FaultIs p u ∧ e = 0) ∨ (¬ Valid p ∧ u = faultV 0 0 0 0 ∧ e = 1)
theorem FaO.uniq {p : Pr} {u u' : Value} {e e' : Int} (h : FaO p u e) (h' : FaO p u' e') : u = u' ∧ e = e' := by
  rcases h with ⟨hv, h, rfl⟩ | ⟨hv, rfl, rfl⟩ <;> rcases h' with ⟨kv, k, rfl⟩ | ⟨kv, rfl, rfl⟩
  · exact ⟨h.uniq k, rfl⟩
  · exact absurd hv kv
  · exact absurd kv hv
  · exact ⟨rfl, rfl⟩
theorem FaultIs.form {p : Pr} {u : Value} (h : FaultIs p u) : ∃ k l f s : Int, u = faultV k l f s := by
  rcases h with ⟨h, _⟩ | ⟨k, f, s, i, _, _, _, h, _⟩
  · exact ⟨_, _, _, _, h⟩
  · exact ⟨_, _, _, _, h⟩
set_option maxHeartbeats 2000000 in
theorem spec_ConsistencyFault_ok {p : Pr} {w : World} {vp : Value} {lo hi : Nat} [hp : Pres lo hi w vp p] (hl : p.ord.length ≤ 2000000) :
    Calls Try.prog 7 #[vp] w (Ret fun v w' => ∃ (u : Value) (e : Int), v = .tuple #[u, .int .i64 e] ∧ FaO p u e ∧ Ext w w') := by
  obtain ⟨vo, vpw, vc, ps, cs, css, rfl, h1, h2, h3⟩ := hp.ex
  refine enter (args := [.agg #[vo, vpw, vc]]) (l := [.cell 2 31, .tmp 3]) Try.func7 rfl rfl Try.ntmps7 (by simp) ?_
  refine go ?_
  refine st_box3 (by ((try simp only [ev_tmp, ev_const, ev_func, get_put, get_args, get_putL, get_putL_nil, Nat.reduceEqDiff, reduceIte, List.getD_cons_zero, List.getD_cons_succ, List.getD_nil]); first | done | with_reducible rfl)) (by first | exact True.intro | exact ⟨_, rfl, by ((try simp only [ev_tmp, ev_const, ev_func, get_put, get_args, get_putL, get_putL_nil, Nat.reduceEqDiff, reduceIte, List.getD_cons_zero, List.getD_cons_succ, List.getD_nil, Bool.not_true, Bool.not_false]); first | done | with_reducible rfl)⟩) fun w1 b he1 hb1 hs1 hc0 hc1 hc2 => ?_
  refine st_alloc (by first | exact True.intro | exact ⟨_, rfl, by ((try simp only [ev_tmp, ev_const, ev_func, get_put, get_args, get_putL, get_putL_nil, Nat.reduceEqDiff, reduceIte, List.getD_cons_zero, List.getD_cons_succ, List.getD_nil, Bool.not_true, Bool.not_false]); first | done | with_reducible rfl)⟩) fun w2 br he2 hbr hs2 hbk2 => ?_
  have hE2 := he1.trans he2
  have hz1 := he1.size
  refine go ?_
  refine rc (spec_IsPresentation_ok (p := p) hl) (next := fun v5 w5 h5 => ?_)
  obtain ⟨b5, rfl, hb5, he5⟩ := h5
  have hbk5 : Blk w5 br _ := @Blk.ext _ _ _ _ he5 hbk2
  refine go ?_
  refine c_b (fun e5 => ?_) (fun e5 => ?_)
  · refine go ?_
    refine ra (v := faultV 0 0 0 0) (h := rd_build (by rfl) (fun _ => by kernel_rfl)) (next := ?_)
    refine st_store_agg (vs := [.int .i64 0, .int .i64 0, .int .i64 0, .int .i64 0]) (cs := _) (hb := hbk5) (by ((try simp only [ev_tmp, ev_const, ev_func, get_put, get_args, get_putL, get_putL_nil, Nat.reduceEqDiff, reduceIte, List.getD_cons_zero, List.getD_cons_succ, List.getD_nil]); first | done | with_reducible rfl)) (by ((try simp only [ev_tmp, ev_const, ev_func, get_put, get_args, get_putL, get_putL_nil, Nat.reduceEqDiff, reduceIte, List.getD_cons_zero, List.getD_cons_succ, List.getD_nil]); first | done | with_reducible rfl)) rfl rfl rfl (by first | exact True.intro | exact ⟨_, rfl, by ((try simp only [ev_tmp, ev_const, ev_func, get_put, get_args, get_putL, get_putL_nil, Nat.reduceEqDiff, reduceIte, List.getD_cons_zero, List.getD_cons_succ, List.getD_nil, Bool.not_true, Bool.not_false]); first | done | with_reducible rfl)⟩) fun w9 hc9 hs9 hb9 => ?_
    refine go ?_
    refine retc2 (b := br) (hb := hb9) ⟨_, _, rfl, .inr ⟨fun hv => ?_, rfl, rfl⟩, hc9.ext (hE2.trans he5) (by omega)⟩ rfl
    have := hb5.2 hv
    rw [this] at e5; cases e5
  · have hv := hb5.1 (by simpa using e5)
    refine go ?_
    refine rc (l08Fault_ok hv) (next := fun v6 w6 h6 => ?_)
    obtain ⟨h6, he6⟩ := h6
    obtain ⟨k, l, f, s, rfl⟩ := h6.form
    have hbk6 : Blk w6 br _ := @Blk.ext _ _ _ _ he6 hbk5
    refine go ?_
    refine st_store_agg (vs := [.int .i64 k, .int .i64 l, .int .i64 f, .int .i64 s]) (cs := _) (hb := hbk6) (by ((try simp only [ev_tmp, ev_const, ev_func, get_put, get_args, get_putL, get_putL_nil, Nat.reduceEqDiff, reduceIte, List.getD_cons_zero, List.getD_cons_succ, List.getD_nil]); first | done | with_reducible rfl)) (by ((try simp only [ev_tmp, ev_const, ev_func, get_put, get_args, get_putL, get_putL_nil, Nat.reduceEqDiff, reduceIte, List.getD_cons_zero, List.getD_cons_succ, List.getD_nil]); first | done | with_reducible rfl)) rfl rfl rfl (by first | exact True.intro | exact ⟨_, rfl, by ((try simp only [ev_tmp, ev_const, ev_func, get_put, get_args, get_putL, get_putL_nil, Nat.reduceEqDiff, reduceIte, List.getD_cons_zero, List.getD_cons_succ, List.getD_nil, Bool.not_true, Bool.not_false]); first | done | with_reducible rfl)⟩) fun w9 hc9 hs9 hb9 => ?_
    refine go ?_
    exact retc2 (b := br) (hb := hb9) ⟨_, _, rfl, .inl ⟨hv, h6, rfl⟩, hc9.ext ((hE2.trans he5).trans he6) (by omega)⟩ rfl
/-- What an operation on two elements answers. -/
def BinV (f : (p : Pr) → [ConAll p] → El p → El p → El p) (p : Pr) (xs ys : List Int) (r : List Int) (e : Int) : Prop := ∃ (_ : ConAll p) (x y : El p), xs = x.v ∧ ys = y.v ∧ r = (f p x y).v ∧ e = 0
theorem BinV.uniq {f : (p : Pr) → [ConAll p] → El p → El p → El p} {p : Pr} {xs ys : List Int} (a b : List Int) (c d : Int) (h : BinV f p xs ys a c) (k : BinV f p xs ys b d) : a = b ∧ c = d := by
  obtain ⟨_, x, y, h0, h1, rfl, rfl⟩ := h
  obtain ⟨_, x', y', k0, k1, rfl, rfl⟩ := k
  obtain rfl : x = x' := T.ext (h0.symm.trans k0)
  obtain rfl : y = y' := T.ext (h1.symm.trans k1)
  exact ⟨rfl, rfl⟩
/-- What a power answers. -/
def PwV (p : Pr) (xs : List Int) (k : Int) (r : List Int) (e : Int) : Prop := ∃ (_ : ConAll p) (x : El p), xs = x.v ∧ ((¬ (-1000000 ≤ k ∧ k ≤ 1000000) ∧ r = [] ∧ e = 2) ∨ ((-1000000 ≤ k ∧ k ≤ 1000000) ∧ r = (Grp.pwz x k).v ∧ e = 0))
theorem PwV.uniq {p : Pr} {xs : List Int} {k : Int} (a b : List Int) (c d : Int) (h : PwV p xs k a c) (g : PwV p xs k b d) : a = b ∧ c = d := by
  obtain ⟨_, x, h0, h⟩ := h
  obtain ⟨_, y, k0, g⟩ := g
  obtain rfl : x = y := T.ext (h0.symm.trans k0)
  rcases h with ⟨h1, rfl, rfl⟩ | ⟨h1, rfl, rfl⟩ <;> rcases g with ⟨k1, rfl, rfl⟩ | ⟨k1, rfl, rfl⟩
  · exact ⟨rfl, rfl⟩
  · exact absurd k1 h1
  · exact absurd h1 k1
  · exact ⟨rfl, rfl⟩
end Go.Proofs.Ytjaneagaccefiaa

/-
  Walks: the program's ConsistencyFault, ConsistentFrom, Multiply, Conjugate, Commutator, Power, ElementOrder, ElementNumber, ElementAt.
  Conditions: stated at each theorem.
-/
namespace Go.Proofs.Ytjaneagaccefiaa
open Go Go.Pc
set_option maxHeartbeats 2000000 in
theorem impl_ConsistencyFault_ok {p : Pr} {w : World} {vp : Value} {lo hi : Nat} [hp : Pres lo hi w vp p] (hl : p.ord.length ≤ 2000000) :
    Calls Try.prog 6 #[vp] w (Ret fun v w' => ∃ (u : Value) (e : Int), v = .tuple #[u, .int .i64 e] ∧ FaO p u e ∧ Ext w w') := by
  obtain ⟨vo, vpw, vc, ps, cs, css, rfl, h1, h2, h3⟩ := hp.ex
  refine enter (args := [.agg #[vo, vpw, vc]]) (l := [.cell 2 31, .tmp 3]) Try.func6 rfl rfl Try.ntmps6 (by simp) ?_
  refine go ?_
  refine st_box3 (by ((try simp only [ev_tmp, ev_const, ev_func, get_put, get_args, get_putL, get_putL_nil, Nat.reduceEqDiff, reduceIte, List.getD_cons_zero, List.getD_cons_succ, List.getD_nil]); first | done | with_reducible rfl)) (by first | exact True.intro | exact ⟨_, rfl, by ((try simp only [ev_tmp, ev_const, ev_func, get_put, get_args, get_putL, get_putL_nil, Nat.reduceEqDiff, reduceIte, List.getD_cons_zero, List.getD_cons_succ, List.getD_nil, Bool.not_true, Bool.not_false]); first | done | with_reducible rfl)⟩) fun w1 b he1 hb1 hs1 hc0 hc1 hc2 => ?_
  have hpp := hp.boxed he1 hc0 hc1 hc2
  refine st_alloc (by first | exact True.intro | exact ⟨_, rfl, by ((try simp only [ev_tmp, ev_const, ev_func, get_put, get_args, get_putL, get_putL_nil, Nat.reduceEqDiff, reduceIte, List.getD_cons_zero, List.getD_cons_succ, List.getD_nil, Bool.not_true, Bool.not_false]); first | done | with_reducible rfl)⟩) fun w2 br he2 hbr hs2 hbk2 => ?_
  have hE2 := he1.trans he2
  have hz1 := he1.size
  refine go ?_
  refine rc (impl_IsPresentation_ok (p := p) hl) (next := fun v5 w5 h5 => ?_)
  obtain ⟨b5, rfl, hb5, he5⟩ := h5
  have hbk5 : Blk w5 br _ := @Blk.ext _ _ _ _ he5 hbk2
  have hE5 := hE2.trans he5
  refine go ?_
  refine c_b (fun e5 => ?_) (fun e5 => ?_)
  · refine go ?_
    refine ra (v := faultV 0 0 0 0) (h := rd_build (by rfl) (fun _ => by kernel_rfl)) (next := ?_)
    refine st_store_agg (vs := [.int .i64 0, .int .i64 0, .int .i64 0, .int .i64 0]) (cs := _) (hb := hbk5) (by ((try simp only [ev_tmp, ev_const, ev_func, get_put, get_args, get_putL, get_putL_nil, Nat.reduceEqDiff, reduceIte, List.getD_cons_zero, List.getD_cons_succ, List.getD_nil]); first | done | with_reducible rfl)) (by ((try simp only [ev_tmp, ev_const, ev_func, get_put, get_args, get_putL, get_putL_nil, Nat.reduceEqDiff, reduceIte, List.getD_cons_zero, List.getD_cons_succ, List.getD_nil]); first | done | with_reducible rfl)) rfl rfl rfl (by first | exact True.intro | exact ⟨_, rfl, by ((try simp only [ev_tmp, ev_const, ev_func, get_put, get_args, get_putL, get_putL_nil, Nat.reduceEqDiff, reduceIte, List.getD_cons_zero, List.getD_cons_succ, List.getD_nil, Bool.not_true, Bool.not_false]); first | done | with_reducible rfl)⟩) fun w9 hc9 hs9 hb9 => ?_
    refine go ?_
    refine retc2 (b := br) (hb := hb9) ⟨_, _, rfl, .inr ⟨fun hv => ?_, rfl, rfl⟩, hc9.ext hE5 (by omega)⟩ rfl
    have := hb5.2 hv
    rw [this] at e5; cases e5
  have hv := hb5.1 (by simpa using e5)
  have hn6 := hv.n6
  refine go ?_
  refine rc (consistentFrom_ok (p := p) hv) (next := fun v6 w6 h6 => ?_)
  obtain ⟨i, rfl, hi6, hL, hno, he6⟩ := h6
  have hbk6 : Blk w6 br _ := @Blk.ext _ _ _ _ he6 hbk5
  have hE6 := hE5.trans he6
  refine go ?_
  refine c_if (fun h8 => ?_) (fun h8 => ?_)
  · refine go ?_
    refine ra (v := faultV 0 0 0 0) (h := rd_build (by rfl) (fun _ => by kernel_rfl)) (next := ?_)
    refine st_store_agg (vs := [.int .i64 0, .int .i64 0, .int .i64 0, .int .i64 0]) (cs := _) (hb := hbk6) (by ((try simp only [ev_tmp, ev_const, ev_func, get_put, get_args, get_putL, get_putL_nil, Nat.reduceEqDiff, reduceIte, List.getD_cons_zero, List.getD_cons_succ, List.getD_nil]); first | done | with_reducible rfl)) (by ((try simp only [ev_tmp, ev_const, ev_func, get_put, get_args, get_putL, get_putL_nil, Nat.reduceEqDiff, reduceIte, List.getD_cons_zero, List.getD_cons_succ, List.getD_nil]); first | done | with_reducible rfl)) rfl rfl rfl (by first | exact True.intro | exact ⟨_, rfl, by ((try simp only [ev_tmp, ev_const, ev_func, get_put, get_args, get_putL, get_putL_nil, Nat.reduceEqDiff, reduceIte, List.getD_cons_zero, List.getD_cons_succ, List.getD_nil, Bool.not_true, Bool.not_false]); first | done | with_reducible rfl)⟩) fun w9 hc9 hs9 hb9 => ?_
    refine go ?_
    obtain rfl : i = 0 := by omega
    exact retc2 (b := br) (hb := hb9) ⟨_, _, rfl, .inl ⟨hv, .inl ⟨rfl, hL⟩, rfl⟩, hc9.ext hE6 (by omega)⟩ rfl
  · obtain ⟨j, rfl⟩ : ∃ j, i = j + 1 := ⟨i - 1, by omega⟩
    have hc : Con p (j + 1) := Levs.con hv hL
    have hj : j < p.n := by omega
    refine go ?_
    refine rc (levelFault_ok (p := p) (i := j) hj ?_) (next := fun v7 w7 h7 => ?_)
    · omega
    obtain ⟨k7, l7, f7, s7, rfl, hz, hl7, h07, he7, hflt⟩ := h7
    have hbk7 : Blk w7 br _ := @Blk.ext _ _ _ _ he7 hbk6
    have hk7 : k7 ≠ 0 := fun e => hno (by omega) ⟨hc, hj, hz.1 e⟩
    refine go ?_
    refine st_store_agg (vs := [.int .i64 k7, .int .i64 l7, .int .i64 f7, .int .i64 s7]) (cs := _) (hb := hbk7) (by ((try simp only [ev_tmp, ev_const, ev_func, get_put, get_args, get_putL, get_putL_nil, Nat.reduceEqDiff, reduceIte, List.getD_cons_zero, List.getD_cons_succ, List.getD_nil]); first | done | with_reducible rfl)) (by ((try simp only [ev_tmp, ev_const, ev_func, get_put, get_args, get_putL, get_putL_nil, Nat.reduceEqDiff, reduceIte, List.getD_cons_zero, List.getD_cons_succ, List.getD_nil]); first | done | with_reducible rfl)) rfl rfl rfl (by first | exact True.intro | exact ⟨_, rfl, by ((try simp only [ev_tmp, ev_const, ev_func, get_put, get_args, get_putL, get_putL_nil, Nat.reduceEqDiff, reduceIte, List.getD_cons_zero, List.getD_cons_succ, List.getD_nil, Bool.not_true, Bool.not_false]); first | done | with_reducible rfl)⟩) fun w9 hc9 hs9 hb9 => ?_
    refine go ?_
    refine retc2 (b := br) (hb := hb9) ⟨_, _, rfl, .inl ⟨hv, .inr ⟨k7, f7, s7, j, hc, hj, hk7, ?_, hflt, hL⟩, rfl⟩, hc9.ext (hE6.trans he7) (by omega)⟩ rfl
    rw [hl7 hk7]
set_option maxHeartbeats 2000000 in
/-- For a valid presentation. -/
theorem ConsistentFrom_ok {p : Pr} (hv : Valid p) {w : World} {vp : Value} {lo hi : Nat} [hp : Pres lo hi w vp p] :
    Calls Try.prog 8 #[vp] w (Ret fun v w' => ∃ i : Nat, v = .tuple #[.int .i64 i, .int .i64 0] ∧ i ≤ p.n ∧ Levs p i ∧ (i ≠ 0 → ¬ Lev p (i - 1)) ∧ Ext w w') := by
  have hn6 := hv.n6
  have hol : p.ord.length = p.n := rfl
  obtain ⟨vo, vpw, vc, ps, cs, css, rfl, h1, h2, h3⟩ := hp.ex
  refine enter (args := [.agg #[vo, vpw, vc]]) (l := [.tmp 2, .tmp 3]) Try.func8 rfl rfl Try.ntmps8 (by simp) ?_
  refine go ?_
  refine st_box3 (by ((try simp only [ev_tmp, ev_const, ev_func, get_put, get_args, get_putL, get_putL_nil, Nat.reduceEqDiff, reduceIte, List.getD_cons_zero, List.getD_cons_succ, List.getD_nil]); first | done | with_reducible rfl)) (by first | exact True.intro | exact ⟨_, rfl, by ((try simp only [ev_tmp, ev_const, ev_func, get_put, get_args, get_putL, get_putL_nil, Nat.reduceEqDiff, reduceIte, List.getD_cons_zero, List.getD_cons_succ, List.getD_nil, Bool.not_true, Bool.not_false]); first | done | with_reducible rfl)⟩) fun w1 b he1 hb1 hs1 hc0 hc1 hc2 => ?_
  have hpp := hp.boxed he1 hc0 hc1 hc2
  refine go ?_
  refine rc (impl_IsPresentation_ok (p := p) (by omega)) (next := fun v5 w5 h5 => ?_)
  obtain ⟨b5, rfl, hb5, he5⟩ := h5
  have hb := hb5.2 hv
  subst hb
  refine go ?_
  refine c_b (fun e5 => ?_) (fun e5 => ?_)
  · cases e5
  refine go ?_
  refine rc (consistentFrom_ok (p := p) hv) (next := fun v6 w6 h6 => ?_)
  obtain ⟨i, rfl, hi6, hL, hno, he6⟩ := h6
  refine go ?_
  exact ret2 ⟨i, rfl, hi6, hL, hno, (he1.trans he5).trans he6⟩
theorem Per.pwz {p : Pr} [ConAll p] {x : El p} {K : Nat} (h : Per x K) (k : Int) : Grp.pw x (k % (K : Int)).toNat = Grp.pwz x k := by
  have hK : (0 : Int) < K := by have := h.1; omega
  have h0 := Int.emod_nonneg k (show (K : Int) ≠ 0 by omega)
  by_cases hk : 0 ≤ k
  · obtain ⟨m, rfl⟩ : ∃ m : Nat, k = m := ⟨k.toNat, by omega⟩
    rw [Grp.pwz_nat, ← h.mod m, ← Int.natCast_emod, Int.toNat_natCast]
  · obtain ⟨m, hm⟩ : ∃ m : Nat, k = -(m : Int) := ⟨(-k).toNat, by omega⟩
    subst hm
    rw [Grp.pwz_neg]
    obtain ⟨r, hr⟩ : ∃ r : Nat, (-(m : Int)) % (K : Int) = r := ⟨((-(m : Int)) % (K : Int)).toNat, by omega⟩
    rw [hr, Int.toNat_natCast]
    have hd : K ∣ r + m := by
      have h1 := Int.emod_add_mul_ediv (-(m : Int)) (K : Int)
      rw [hr] at h1
      have h2 : ((r + m : Nat) : Int) = (K : Int) * (-((-(m : Int)) / (K : Int))) := by rw [Int.mul_neg]; push_cast; omega
      exact Int.natCast_dvd_natCast.1 ⟨_, h2⟩
    have h3 : Grp.pw x (r + m) = 1 := (h.mod_zero _).1 (Nat.mod_eq_zero_of_dvd hd)
    rw [Grp.pw_add] at h3
    exact Grp.mul_right_cancel (c := Grp.pw x m) (by rw [h3, Grp.inv_mul])
end Go.Proofs.Ytjaneagaccefiaa

/-
  Plain mathematics: the tail of a presentation at an index; its levels pass where the presentation's do.
  Conditions: none; nothing of the program stands here.
-/
namespace Go.Proofs.Ytjaneagaccefiaa
open Go Go.Pc
/-- The tail of a presentation at an index. -/
def tailP (p : Pr) (k : Nat) : Pr := ⟨p.ord.drop k, (p.pow.drop k).map (List.drop k), (p.cnj.drop k).map (List.map (List.drop k))⟩
section
variable {p : Pr} {k : Nat}
theorem tail_n : (tailP p k).n = p.n - k := by simp [tailP, Pr.n]
theorem tail_o (i : Nat) : (tailP p k).o i = p.o (k + i) := by simp [tailP, Pr.o]
theorem getD_map_drop (l : List (List Int)) (i : Nat) : ((l.map (List.drop k)).getD i []) = (l.getD i []).drop k := by
  by_cases h : i < l.length
  · simp [h]
  · rw [List.getD_eq_getElem?_getD, List.getElem?_eq_none (by simp; omega), List.getD_eq_getElem?_getD, List.getElem?_eq_none (by omega)]; simp
theorem getD_map_mapdrop (l : List (List (List Int))) (i : Nat) : ((l.map (List.map (List.drop k))).getD i []) = (l.getD i []).map (List.drop k) := by
  by_cases h : i < l.length
  · simp [h]
  · rw [List.getD_eq_getElem?_getD, List.getElem?_eq_none (by simp; omega), List.getD_eq_getElem?_getD, List.getElem?_eq_none (by omega)]; simp
theorem getD_drop {α : Type} (l : List α) (i : Nat) (d : α) : (l.drop k).getD i d = l.getD (k + i) d := by
  simp [List.getD_eq_getElem?_getD]
theorem tail_w (i : Nat) : (tailP p k).w i = (p.w (k + i)).drop k := by
  show (((p.pow.drop k).map (List.drop k)).getD i []) = _
  rw [getD_map_drop, getD_drop]; rfl
theorem tail_c (i j : Nat) : (tailP p k).c i j = (p.c (k + i) (k + j)).drop k := by
  show ((((p.cnj.drop k).map (List.map (List.drop k))).getD i []).getD (j - i - 1) []) = _
  rw [getD_map_mapdrop, getD_map_drop, getD_drop, show j - i - 1 = k + j - (k + i) - 1 by omega]; rfl
theorem getD_app1 (a b : List Int) (i : Nat) (h : i < a.length) : (a ++ b).getD i 0 = a.getD i 0 := by simp [List.getD_eq_getElem?_getD, List.getElem?_append_left h]
theorem getD_app2 (a b : List Int) (i : Nat) (h : a.length ≤ i) : (a ++ b).getD i 0 = b.getD (i - a.length) 0 := by simp [List.getD_eq_getElem?_getD, List.getElem?_append_right h]
theorem zeros_drop : (zeros p.n).drop k = zeros (tailP p k).n := by
  rw [tail_n]; simp [zeros]
theorem set_drop (v : List Int) (i : Nat) (a : Int) : (v.set (k + i) a).drop k = (v.drop k).set i a := by
  rw [List.drop_set, if_neg (by omega), Nat.add_sub_cancel_left]
theorem rep_comm {α β : Type} {f : α → α} {g : β → β} {d : β → α} (h : ∀ x, f (d x) = d (g x)) (x : β) : ∀ q, rep q f (d x) = d (rep q g x)
  | 0 => rfl
  | q + 1 => by rw [rep_succ, rep_comm h x q, h, rep_succ]
theorem imgTo_tail {i : Nat} (h : ∀ a b, atv (tailP p k) (i + 1) (a.drop k) (b.drop k) = (atv p (k + (i + 1)) a b).drop k) (x : List Int) : ∀ m, imgTo (tailP p k) i (x.drop k) m = (imgTo p (k + i) x m).drop k
  | 0 => zeros_drop.symm
  | m + 1 => by
    rw [imgTo_succ, imgTo_succ, imgTo_tail h x m, getD_drop, show k + (i + 1 + m) = k + i + 1 + m by omega]
    refine rep_comm (d := List.drop k) (fun o => ?_) _ _
    rw [tail_c, h, Nat.add_assoc k i 1, show k + (i + 1) + m = k + (i + 1 + m) by omega]
theorem atv_tail : ∀ (m i : Nat), p.n - (k + i) = m → ∀ a b, atv (tailP p k) i (a.drop k) (b.drop k) = (atv p (k + i) a b).drop k
  | 0, i, hm, a, b => by
    have := tail_n (p := p) (k := k)
    rw [atv_end _ _ _ _ (by omega), atv_end _ _ _ _ (by omega), zeros_drop]
  | m + 1, i, hm, a, b => by
    have hn := tail_n (p := p) (k := k)
    have ih := atv_tail m (i + 1) (by omega)
    have hi : ∀ x : List Int, img (tailP p k) i (x.drop k) = (img p (k + i) x).drop k := fun x => by
      rw [img_eq, img_eq, hn, show p.n - k - (i + 1) = p.n - (k + i + 1) by omega]
      exact imgTo_tail ih x _
    rw [atv_eq _ _ _ _ (by omega), atv_eq _ _ _ _ (show k + i < p.n by omega), tail_o, getD_drop, getD_drop, tail_w, ← set_drop, ← set_drop, rep_comm (d := List.drop k) hi]
    split
    · rw [ih, ih, ← set_drop]; rfl
    · rw [ih, ← set_drop]; rfl
theorem img_tail (i : Nat) (x : List Int) : img (tailP p k) i (x.drop k) = (img p (k + i) x).drop k := by
  have hn := tail_n (p := p) (k := k)
  rw [img_eq, img_eq, hn, show p.n - k - (i + 1) = p.n - (k + i + 1) by omega]
  exact imgTo_tail (atv_tail _ _ rfl) x _
theorem InR.tail {v : List Int} (h : InR p v) : InR (tailP p k) (v.drop k) :=
  ⟨by rw [tail_n, List.length_drop, h.len], fun i hi => by rw [getD_drop, tail_o]; exact h.rng _ (by have := tail_n (p := p) (k := k); omega)⟩
theorem ZU.tail {v : List Int} {i : Nat} (h : ZU (k + i) v) : ZU i (v.drop k) := fun j hj => by rw [getD_drop]; exact h _ (by omega)
theorem InR.untail (hv : Valid p) (hk : k ≤ p.n) {x : List Int} (h : InR (tailP p k) x) : InR p (zeros k ++ x) := by
  have hn := tail_n (p := p) (k := k)
  refine ⟨by rw [List.length_append, zeros_len, h.len]; omega, fun i hi => ?_⟩
  by_cases e : i < k
  · have := hv.opos hi
    rw [getD_app1 _ _ _ (by rw [zeros_len]; exact e), zeros_getD]; omega
  · rw [getD_app2 _ _ _ (by rw [zeros_len]; omega), zeros_len]
    have := h.rng (i - k) (by omega)
    rwa [tail_o, show k + (i - k) = i by omega] at this
theorem ZU.untail {x : List Int} {i : Nat} (h : ZU i x) : ZU (k + i) (zeros k ++ x) := fun j hj => by
  by_cases e : j < k
  · rw [getD_app1 _ _ _ (by rw [zeros_len]; exact e), zeros_getD]
  · rw [getD_app2 _ _ _ (by rw [zeros_len]; omega), zeros_len]
    exact h _ (by omega)
theorem drop_pad (x : List Int) : (zeros k ++ x).drop k = x := by
  rw [List.drop_append_of_le_length (by rw [zeros_len]; omega), List.drop_of_length_le (by rw [zeros_len]; omega), List.nil_append]
theorem drop_inj {u v : List Int} (hu : InR p u) (hv : InR p v) (zu : ZU k u) (zv : ZU k v) (h : u.drop k = v.drop k) : u = v := by
  refine inr_ext hu hv fun i hi => ?_
  by_cases e : i < k
  · rw [zu i e, zv i e]
  · have := congrArg (fun l => l.getD (i - k) 0) h
    simp only [getD_drop] at this
    rwa [show k + (i - k) = i by omega] at this
theorem prod_drop : ∀ (l : List Int) (k : Nat), (∀ e, e ∈ l → 1 ≤ e) → (l.drop k).foldl (· * ·) 1 ≤ l.foldl (· * ·) 1 ∧ 1 ≤ l.foldl (· * ·) 1 := by
  have hf : ∀ (l : List Int) (a : Int), l.foldl (· * ·) a = a * l.foldl (· * ·) 1 := by
    intro l
    induction l with
    | nil => intro a; simp
    | cons x l ih => intro a; simp only [List.foldl_cons, Int.one_mul]; rw [ih (a * x), ih x, Int.mul_assoc]
  intro l
  induction l with
  | nil => intro k h; simp
  | cons x l ih =>
    intro k h
    have hx : 1 ≤ x := h x List.mem_cons_self
    have h2 := ih (k - 1) fun e he => h e (List.mem_cons_of_mem _ he)
    have e1 : (x :: l).foldl (· * ·) 1 = x * l.foldl (· * ·) 1 := by simp only [List.foldl_cons, Int.one_mul]; exact hf l x
    have h3 : l.foldl (· * ·) 1 ≤ x * l.foldl (· * ·) 1 := by
      have := Int.mul_le_mul_of_nonneg_right hx (show 0 ≤ l.foldl (· * ·) 1 by omega)
      omega
    rw [e1]
    cases k with
    | zero => rw [List.drop_zero, e1]; omega
    | succ k =>
      rw [List.drop_succ_cons]
      rw [Nat.add_sub_cancel] at h2
      omega
theorem tail_valid (hv : Valid p) (hk : k ≤ p.n) : Valid (tailP p k) := by
  have hn := tail_n (p := p) (k := k)
  have hn6 := hv.n6
  refine ⟨by omega, ?_, ?_, fun i hi => ?_, fun i hi => ?_, ?_, fun i hi => ?_, fun i hi => ?_, fun i j hij hj => ?_, fun i j hij hj => ?_⟩
  · rw [hn]; simp [tailP, hv.lenw]
  · rw [hn]; simp [tailP, hv.lenc]
  · show ((((p.cnj.drop k).map (List.map (List.drop k))).getD i [])).length = _
    rw [getD_map_mapdrop, getD_drop, List.length_map, hv.lenci _ (by omega), hn]; omega
  · rw [tail_o]; exact hv.prime _ (by omega)
  · have h1 := hv.prod
    have h2 := (prod_drop p.ord k fun e he => by
      obtain ⟨i, hi, rfl⟩ := List.getElem_of_mem he
      have := hv.opos (i := i) hi
      have e : p.o i = p.ord[i] := by simp [Pr.o, hi]
      omega).1
    exact Int.le_trans h2 h1
  · rw [tail_w]; exact InR.tail (hv.w_in _ (by omega))
  · rw [tail_w]; exact ZU.tail (by have := hv.w_zu (k + i) (by omega); rwa [Nat.add_assoc] at this)
  · rw [tail_c]; exact InR.tail (hv.c_in _ _ (by omega) (by omega))
  · rw [tail_c]; exact ZU.tail (by have := hv.c_zu (k + i) (k + j) (by omega) (by omega); rwa [Nat.add_assoc] at this)
variable {i : Nat}
/-- Down to the tail and back. -/
def dn (x : T p (k + i)) : T (tailP p k) i := ⟨x.v.drop k, InR.tail x.inr, ZU.tail x.zu⟩
def up (hv : Valid p) (hk : k ≤ p.n) (x : T (tailP p k) i) : T p (k + i) := ⟨zeros k ++ x.v, InR.untail hv hk x.inr, ZU.untail x.zu⟩
theorem dn_up (hv : Valid p) (hk : k ≤ p.n) (x : T (tailP p k) i) : dn (up hv hk x) = x := T.ext (drop_pad _)
theorem dn_inj {x y : T p (k + i)} (h : (dn x : T (tailP p k) i) = dn y) : x = y := T.ext (drop_inj x.inr y.inr (x.zu.mono (by omega)) (y.zu.mono (by omega)) (congrArg T.v h))
theorem dn_mul (hv : Valid p) (hq : Valid (tailP p k)) (x y : T p (k + i)) : (dn (tmul hv x y) : T (tailP p k) i) = tmul hq (dn x) (dn y) := T.ext (atv_tail _ _ rfl _ _).symm
theorem dn_one (hv : Valid p) (hq : Valid (tailP p k)) : (dn (tone hv (k + i)) : T (tailP p k) i) = tone hq i := T.ext zeros_drop
theorem con_dn (hk : k ≤ p.n) (h : Con p (k + i)) : Con (tailP p k) i := by
  have hv := h.valid
  have hq := tail_valid hv hk
  refine ⟨hq, fun a b c => ?_, fun a => ?_⟩
  · have := congrArg (fun x => (dn x : T (tailP p k) i)) (h.assoc (up hv hk a) (up hv hk b) (up hv hk c))
    simpa only [dn_mul hv hq, dn_up] using this
  · obtain ⟨b, hb⟩ := h.inv (up hv hk a)
    refine ⟨dn b, ?_⟩
    have := congrArg (fun x => (dn x : T (tailP p k) i)) hb
    simpa only [dn_mul hv hq, dn_up, dn_one hv hq] using this
theorem con_up (hv : Valid p) (hk : k ≤ p.n) (h : Con (tailP p k) i) : Con p (k + i) := by
  have hq := h.valid
  refine ⟨hv, fun a b c => dn_inj (k := k) ?_, fun a => ?_⟩
  · simp only [dn_mul hv hq]
    exact h.assoc _ _ _
  · obtain ⟨b, hb⟩ := h.inv (dn a)
    refine ⟨up hv hk b, dn_inj (k := k) ?_⟩
    rw [dn_mul hv hq, dn_up, dn_one hv hq]
    exact hb
theorem dn_pw [hp : Con p (k + i)] [hq : Con (tailP p k) i] (x : T p (k + i)) : ∀ q, (dn (Grp.pw x q) : T (tailP p k) i) = Grp.pw (dn x) q
  | 0 => dn_one hp.valid hq.valid
  | q + 1 => by
    rw [Grp.pw_succ, Grp.pw_succ, ← dn_pw x q]
    exact dn_mul hp.valid hq.valid _ _
theorem chk_tail (hk : k ≤ p.n) (hi : i < (tailP p k).n) (hi' : k + i < p.n) [hp : Con p (k + i + 1)] [hq : Con (tailP p k) (i + 1)] : Chk (tailP p k) i hi ↔ Chk p (k + i) hi' := by
  have hn := tail_n (p := p) (k := k)
  have hv := hp.valid
  have hqv := hq.valid
  have inj : ∀ {u v : List Int}, InR p u → InR p v → ZU (k + i + 1) u → ZU (k + i + 1) v → (u.drop k = v.drop k ↔ u = v) := fun hu hv zu zv => ⟨drop_inj hu hv (zu.mono (by omega)) (zv.mono (by omega)), fun h => by rw [h]⟩
  have hw := hv.w_in (k + i) hi'
  have hwz := hv.w_zu (k + i) hi'
  have himg := fun x => img_in hv (k + i) x
  have hat := fun {a b : List Int} (ha : InR p a) (hb : InR p b) (za : ZU (k + i + 1) a) (zb : ZU (k + i + 1) b) => atv_in hv _ (k + i + 1) rfl a b ha hb za zb
  have tat := fun a b => atv_tail (p := p) (k := k) _ (i + 1) rfl a b
  have hLP : ∀ j, LP (tailP p k) i j ↔ LP p (k + i) (k + j) := fun j => by
    constructor
    · intro h hj
      have hj' : i < j ∧ j < (tailP p k).n := ⟨by omega, by omega⟩
      have h0 := h hj'
      have e := congrArg T.v (dn_pw (k := k) (i := i + 1) (Tc hv hj) ((tailP p k).o j).toNat)
      have e2 : (dn (Tc hv hj) : T (tailP p k) (i + 1)) = Tc hqv hj' := T.ext (tail_c i j).symm
      rw [e2] at e
      rw [← e, tail_w, img_tail, tail_o] at h0
      exact (inj (Grp.pw (Tc hv hj) _).inr (himg _).1 (Grp.pw (Tc hv hj) _).zu (himg _).2).1 h0
    · intro h hj
      have hj' : k + i < k + j ∧ k + j < p.n := ⟨by omega, by omega⟩
      have h0 := h hj'
      have e := congrArg T.v (dn_pw (k := k) (i := i + 1) (Tc hv hj') ((tailP p k).o j).toNat)
      have e2 : (dn (Tc hv hj') : T (tailP p k) (i + 1)) = Tc hqv hj := T.ext (tail_c i j).symm
      rw [e2] at e
      rw [← e, tail_w, img_tail, tail_o, ← h0]; rfl
  have hLC : ∀ j l, LC (tailP p k) i j l ↔ LC p (k + i) (k + j) (k + l) := fun j l => by
    constructor
    · intro h h1 h2 h3
      have h0 := h (by omega) (by omega) (by omega)
      have c1 := hv.c_in (k + i) (k + j) (by omega) (by omega)
      have c2 := hv.c_in (k + i) (k + l) (by omega) (by omega)
      have z1 := hv.c_zu (k + i) (k + j) (by omega) (by omega)
      have z2 := hv.c_zu (k + i) (k + l) (by omega) (by omega)
      rw [tail_c, tail_c, tail_c, img_tail, tat, tat] at h0
      have g1 := hat c2 c1 z2 z1
      have g2 := hat c1 (himg (p.c (k + j) (k + l))).1 z1 (himg (p.c (k + j) (k + l))).2
      exact (inj g1.1 g2.1 g1.2 g2.2).1 h0
    · intro h h1 h2 h3
      have h0 := h (by omega) (by omega) (by omega)
      rw [tail_c, tail_c, tail_c, img_tail, tat, tat]
      exact congrArg (List.drop k) h0
  have hF : img (tailP p k) i ((tailP p k).w i) = (tailP p k).w i ↔ img p (k + i) (p.w (k + i)) = p.w (k + i) := by
    rw [tail_w, img_tail]
    exact inj (himg _).1 hw (himg _).2 hwz
  have hLI : ∀ j, LI (tailP p k) i j ↔ LI p (k + i) (k + j) := fun j => by
    have hu : ∀ hj : k + j < p.n, (unitv p (k + j) 1).drop k = unitv (tailP p k) j 1 := fun hj => by
      unfold unitv; rw [set_drop, zeros_drop]
    have hr : ∀ (x : List Int) q, rep q (img (tailP p k) i) (x.drop k) = (rep q (img p (k + i)) x).drop k := fun x q => rep_comm (d := List.drop k) (img_tail i) x q
    constructor
    · intro h h1 h2
      have h0 := h (by omega) (by omega)
      have u1 := unitv_in hv (j := k + j) (k := 1) (by omega) (fun h => by have := hv.opos h; omega)
      have u2 := unitv_zu p (i := k + i + 1) (j := k + j) (by omega) 1
      have hin := rep_inv (fun v => InR p v ∧ ZU (k + i + 1) v) (fun x _ => himg x) ⟨u1, u2⟩ (p.o (k + i)).toNat
      rw [tail_o, tail_w, ← hu h2, hr, tat, tat] at h0
      have g1 := hat hw hin.1 hwz hin.2
      have g2 := hat u1 hw u2 hwz
      exact (inj g1.1 g2.1 g1.2 g2.2).1 h0
    · intro h h1 h2
      have h0 := h (by omega) (by omega)
      rw [tail_o, tail_w, ← hu (by omega), hr, tat, tat]
      exact congrArg (List.drop k) h0
  rw [chk_iff hi, chk_iff hi', hF]
  refine ⟨fun ⟨a, b, c, d⟩ => ⟨fun j hj => ?_, fun j l h1 h2 h3 => ?_, c, fun j h1 h2 => ?_⟩, fun ⟨a, b, c, d⟩ => ⟨fun j => (hLP j).2 (a _), fun j l => (hLC j l).2 (b _ _), c, fun j => (hLI j).2 (d _)⟩⟩
  · obtain ⟨j, rfl⟩ : ∃ j', j = k + j' := ⟨j - k, by omega⟩
    exact (hLP j).1 (a j) hj
  · obtain ⟨j, rfl⟩ : ∃ j', j = k + j' := ⟨j - k, by omega⟩
    obtain ⟨l, rfl⟩ : ∃ j', l = k + j' := ⟨l - k, by omega⟩
    exact (hLC j l).1 (b j l) h1 h2 h3
  · obtain ⟨j, rfl⟩ : ∃ j', j = k + j' := ⟨j - k, by omega⟩
    exact (hLI j).1 (d j) h1 h2
theorem lev_tail (hv : Valid p) (hk : k ≤ p.n) : Lev (tailP p k) i ↔ Lev p (k + i) := by
  have hn := tail_n (p := p) (k := k)
  constructor
  · rintro ⟨hc, hi, h⟩
    have hp : Con p (k + i + 1) := con_up (k := k) (i := i + 1) hv hk hc
    exact ⟨hp, by omega, (chk_tail hk hi (by omega)).1 h⟩
  · rintro ⟨hp, hi', h⟩
    have hc : Con (tailP p k) (i + 1) := con_dn (k := k) (i := i + 1) hk hp
    exact ⟨hc, by omega, (chk_tail hk (by omega) hi').2 h⟩
/-- The tail at an index is a group's presentation exactly if all levels from there on pass. -/
theorem tail_grp (hv : Valid p) (hk : k ≤ p.n) : IsGrp (tailP p k) ↔ Levs p k := by
  have hn := tail_n (p := p) (k := k)
  constructor
  · intro h j h1 h2
    obtain ⟨j, rfl⟩ : ∃ j', j = k + j' := ⟨j - k, by omega⟩
    exact (lev_tail hv hk).1 (h.levs j (Nat.zero_le _) (by omega))
  · intro h
    exact ⟨tail_valid hv hk, fun j _ hj => (lev_tail hv hk).2 (h _ (by omega) (by omega))⟩
end
end Go.Proofs.Ytjaneagaccefiaa

/-
  Walks: the program's tailOf, TailPresentation.
  Conditions: the presentation is valid, the index lies in it.
-/
namespace Go.Proofs.Ytjaneagaccefiaa
open Go Go.Pc
set_option maxHeartbeats 8000000 in
theorem tailOf_ok {p : Pr} (hv : Valid p) {k : Nat} (hk : k ≤ p.n) {w : World} {vp : Value} {lo hi : Nat} [hp : PresP lo hi w vp p] :
    Calls Try.prog 19 #[vp, .int .i64 k] w (Ret fun v w' => Ext w w' ∧ PresO w.heap.size w'.heap.size w' v (tailP p k)) := by
  have hn6 := hv.n6
  have hol : p.ord.length = p.n := rfl
  have hpl : p.pow.length = p.n := hv.lenw
  have hcl : p.cnj.length = p.n := hv.lenc
  replace hp := hp.wide
  obtain ⟨gP, oP, uo, upw, uc, ups, ucs, ucss, rfl, hgP, hgP2, kc0, kc1, kc2, kh1, kh2, kh3⟩ := hp.ex
  refine enter (args := [.pointer (some ⟨gP, oP, none⟩), .int .i64 k]) (l := [.cell 4 28]) Try.func19 rfl rfl Try.ntmps19 (by simp) ?_
  refine go ?_
  refine st_alloc (by first | exact True.intro | exact ⟨_, rfl, by ((try simp only [ev_tmp, ev_const, ev_func, get_put, get_args, get_putL, get_putL_nil, Nat.reduceEqDiff, reduceIte, List.getD_cons_zero, List.getD_cons_succ, List.getD_nil, Bool.not_true, Bool.not_false]); first | done | with_reducible rfl)⟩) fun w1 br he1 hbr hs1 hbk1 => ?_
  have hz1 := he1.size
  have hcut := (@Ints.ext _ _ _ _ _ _ he1 kh1).cut (l := k) (k := p.ord.length) (by omega) (by omega)
  have hce : (p.ord.take p.ord.length).drop k = p.ord.drop k := by rw [List.take_length]
  rw [hce] at hcut
  refine go ?_
  refine rc (cloneI_ok (xs := p.ord.drop k) (by rw [List.length_drop]; omega)) (next := fun v2 w2 h => ?_)
  obtain ⟨he2, hf2⟩ := h
  have hz2 := he2.size
  refine go ?_
  refine ra (v := .agg #[v2, nilv, nilv]) (h := rd_build (by simp only [ev_tmp, ev_const, ev_func, get_put, get_args, get_putL, get_putL_nil, Nat.reduceEqDiff, reduceIte, List.getD_cons_zero, List.getD_cons_succ, List.getD_nil, List.map_toArray, List.map_cons, List.map_nil]; rfl) (fun _ => ?_)) (next := ?_)
  · obtain ⟨A, c, rfl, _⟩ := hf2.ints.sl.ex
    kernel_rfl
  refine st_alloc (by first | exact True.intro | exact ⟨_, rfl, by ((try simp only [ev_tmp, ev_const, ev_func, get_put, get_args, get_putL, get_putL_nil, Nat.reduceEqDiff, reduceIte, List.getD_cons_zero, List.getD_cons_succ, List.getD_nil, Bool.not_true, Bool.not_false]); first | done | with_reducible rfl)⟩) fun w4 bo he4 hbo hs4 hbk4 => ?_
  refine st_store_agg (vs := [v2, nilv, nilv]) (cs := _) (hb := hbk4) (by ((try simp only [ev_tmp, ev_const, ev_func, get_put, get_args, get_putL, get_putL_nil, Nat.reduceEqDiff, reduceIte, List.getD_cons_zero, List.getD_cons_succ, List.getD_nil]); first | done | with_reducible rfl)) (by ((try simp only [ev_tmp, ev_const, ev_func, get_put, get_args, get_putL, get_putL_nil, Nat.reduceEqDiff, reduceIte, List.getD_cons_zero, List.getD_cons_succ, List.getD_nil]); first | done | with_reducible rfl)) rfl rfl (by simp [hf2.ints.sl.one]; rfl) (by first | exact True.intro | exact ⟨_, rfl, by ((try simp only [ev_tmp, ev_const, ev_func, get_put, get_args, get_putL, get_putL_nil, Nat.reduceEqDiff, reduceIte, List.getD_cons_zero, List.getD_cons_succ, List.getD_nil, Bool.not_true, Bool.not_false]); first | done | with_reducible rfl)⟩) fun w5 hc5 hs5 hb5 => ?_
  have hx25 : Ext w2 w5 := hc5.ext he4 (by omega)
  have hE5 : Ext w1 w5 := he2.trans hx25
  have hz5 := hx25.size
  have hf5 : Fr w1.heap.size w5 v2 (p.ord.drop k) := hf2.ext' hx25
  have hlt5 : p.ord.drop k ≠ [] → ∀ b, v2.ownBlock = some b → b < w2.heap.size := fun hn b hb => by
    obtain ⟨g, e1, _, e3⟩ := hf2.block hn
    rw [hb] at e1; injection e1 with e1
    omega
  have hT5 : Tri 2 24 25 24 w5.heap.size w5 nilv [] nilv [] nilv [] := Tri.nil _ _ _ _ _ _ (Nat.le_refl _)
  refine go ?_
  refine r_for (p.n - k) (fun i ρ w' => ∃ vq vc rp gs, Has ρ [(0, .pointer (some ⟨gP, oP, none⟩)), (1, .int .i64 k), (4, .pointer (some ⟨br, 0, none⟩)), (5, .pointer (some ⟨bo, 0, none⟩)), (6, .int .i64 (k + i : Nat))] ∧ Ext w1 w' ∧ Fr w1.heap.size w' v2 (p.ord.drop k) ∧ Blk w' bo [v2, vq, vc] ∧ Tri 2 24 25 24 w5.heap.size w' nilv [] vq rp vc gs ∧ rp.map (·.2) = ((p.pow.drop k).map (List.drop k)).take i ∧ (gs.map fun q => q.2.map (·.2)) = ((p.cnj.drop k).map (List.map (List.drop k))).take i) ?_ ?_
  · refine ⟨nilv, nilv, [], [], ?_, hE5, hf5, hb5, hT5, rfl, rfl⟩
    exact hasP
  clear hbk4 hb5 hT5 hf5 hcut
  rintro i ρ w6 hi ⟨vp6, vc6, rp, gs, hH, he6, hf6, hb6, hT6, hrp, hgs⟩
  refine rwp_has hH fun ρ0 => ?_
  have hz6 := he6.size
  have hlo6 := hT6.lo
  have hrl : rp.length = i := by have := congrArg List.length hrp; simp at this; omega
  have hgl : gs.length = i := by have := congrArg List.length hgs; simp at this; omega
  refine go ?_
  refine c_if (fun h4 => ?_) (fun h4 => ?_)
  · have hin : k + i < p.n := by omega
    have hwl : (p.pow.getD (k + i) []).length = p.n := (hv.w_in _ hin).len
    have hcil := hv.lenci (k + i) hin
    have hccl : ∀ j, j < p.n - 1 - (k + i) → ((p.cnj.getD (k + i) []).getD j []).length = p.n := fun j hj => by
      have := (hv.c_in (k + i) (k + i + 1 + j) (by omega) (by omega)).len
      unfold Pr.c at this
      rwa [show k + i + 1 + j - (k + i) - 1 = j by omega] at this
    obtain ⟨b', hb', hvb'⟩ := own_some' vp6 w5.heap.size w6.heap.size hlo6 (fun g h => (hT6.p.own.lt g h).1)
    have ap1 : Apart 0 w.heap.size b' := ⟨.inr (by omega)⟩
    have ap2 : Apart gP (gP + 1) b' := ⟨.inr (by omega)⟩
    have ap3 : Apart bo (bo + 1) b' := ⟨.inr (by omega)⟩
    have k1 : Cell w6 bo 1 vp6 := hb6.cell rfl
    have hE6 : Ext w w6 := he1.trans he6
    refine go ?_
    refine z_order b' (List.range 16) (h := fun w7 he7 _ => ?_)
    have hz7 := he7.size
    have hE7 := hE6.trans he7
    have hrow7 : Ints 0 w.heap.size w7 (Pc.rowAt upw ups (k + i)) (p.pow.getD (k + i) []) := (kh2.vals.at_ (k + i)).same (hE7.same _ _)
    have hcut7 := hrow7.cut (l := k) (k := (p.pow.getD (k + i) []).length) (by omega) (Nat.le_refl _)
    have hce7 : ((p.pow.getD (k + i) []).take (p.pow.getD (k + i) []).length).drop k = (p.pow.getD (k + i) []).drop k := by rw [List.take_length]
    rw [hce7] at hcut7
    have hlen7 : Len w7 (Pc.rowAt upw ups (k + i)) (p.pow.getD (k + i) []).length := hrow7.toLen
    refine zgo ?_
    refine za (v := Pc.cut (Pc.rowAt upw ups (k + i)) k (p.pow.getD (k + i) []).length) (h := ⟨fun w' _ => rd_slice_l (hl := ⟨hlen7.ex⟩) (by ((try simp only [ev_tmp, ev_const, ev_func, get_put, get_args, get_putL, get_putL_nil, Nat.reduceEqDiff, reduceIte, List.getD_cons_zero, List.getD_cons_succ, List.getD_nil]); first | done | with_reducible rfl)) (by ((try simp only [ev_tmp, ev_const, ev_func, get_put, get_args, get_putL, get_putL_nil, Nat.reduceEqDiff, reduceIte, List.getD_cons_zero, List.getD_cons_succ, List.getD_nil]); first | done | with_reducible rfl)) (by omega) (by omega)⟩) (next := ?_)
    refine zc (cloneI_ok (xs := (p.pow.getD (k + i) []).drop k) (by rw [List.length_drop]; omega)) (next := fun v8 w8 h => ?_)
    obtain ⟨he8, hf8⟩ := h
    have hx8 := he7.trans he8
    refine z_grow (hT6.p.grow hT6.lo) hx8 (hf8.mono hz7) hT6.lo (by omega) hvb' (next := fun v9 v10 w10 hG10 hx10 hz10 hst10 => ?_)
    have hb10 : Blk w10 bo [v2, vp6, vc6] := Blk.gstep (@Blk.ext _ _ _ _ hx8 hb6) hst10 (hT6.pb (by omega))
    have hf10 : Fr w1.heap.size w10 v2 (p.ord.drop k) := (hf6.ext' hx8).wr hst10.wrt fun hn b hb hb' => by have := hlt5 hn b hb; have := (hT6.p.own.lt b hb').1; omega
    refine zgo ?_
    refine z_stfld (bo := bo) (m := 1) (cs := [v2, vp6, vc6]) hb10 hG10.lst.own.toSl.one (by simp) (next := fun w11 hc11 hs11 hb11 => ?_)
    have hT11 := hT6.fieldP hx8 (hf8.mono hz7) hG10 hst10 hc11 (by omega)
    have hE11 : Ext w1 w11 := hc11.ext (hx10 w1 (he6.trans hx8) (by omega)) (by omega)
    have hb11' : Blk w11 bo [v2, v10, vc6] := hb11
    have hf11 : Fr w1.heap.size w11 v2 (p.ord.drop k) := hf10.wr (.one (B := fun g => g = bo) rfl hc11) fun hn b hb e => by have := hlt5 hn b hb; omega
    have hz11 := hE11.size
    have hE11w : Ext w w11 := he1.trans hE11
    clear hT6 hb6 hb10 k1 hG10 hx10 hst10 hf10 hb11 hf6 hvb' ap1 ap2 ap3 hrow7 hcut7 hlen7
    -- the conjugates
    have hR11 : Pc.Rows 0 w.heap.size w11 (Pc.rowAt uc ucs (k + i)) (ucss.getD (k + i) []) (p.cnj.getD (k + i) []) := (kh3.vals.at_ (k + i)).same (hE11w.same _ _)
    have hRl := hR11.vals.len
    refine go ?_
    refine r_for (p.cnj.getD (k + i) []).length (fun j ρ w' => ∃ vl rs, Has ρ [(0, .pointer (some ⟨gP, oP, none⟩)), (1, .int .i64 k), (4, .pointer (some ⟨br, 0, none⟩)), (5, .pointer (some ⟨bo, 0, none⟩)), (6, .int .i64 (k + i : Nat)), (7, vl), (49, Pc.rowAt uc ucs (k + i)), (50, .int .i64 (p.cnj.getD (k + i) []).length), (51, .int .i64 j)] ∧ Ext w11 w' ∧ GrowL 24 w11.heap.size w' vl rs ∧ rs.map (·.2) = ((p.cnj.getD (k + i) []).map (List.drop k)).take j) ?_ ?_
    · refine ⟨nilv, [], ?_, Ext.refl _, GrowL.nil _ _ _ (Nat.le_refl _), rfl⟩
      exact hasP
    rintro j ρ w12 hj ⟨vl, rs, hH, he12, hG12, hrs12⟩
    refine rwp_has hH fun ρ0 => ?_
    have hz12 := he12.size
    have hE12 := hE11w.trans he12
    have hrsl : rs.length = j := by have := congrArg List.length hrs12; rw [List.length_map, List.length_take, List.length_map] at this; omega
    have hR12 : Pc.Rows 0 w.heap.size w12 (Pc.rowAt uc ucs (k + i)) (ucss.getD (k + i) []) (p.cnj.getD (k + i) []) := hR11.same (he12.same _ _)
    refine go ?_
    refine c_if (fun h5 => ?_) (fun h5 => ?_)
    · have hjl : j < (p.cnj.getD (k + i) []).length := by omega
      have hxl := hccl j (by omega)
      have hx12 : Ints 0 w.heap.size w12 (Pc.rowAt (Pc.rowAt uc ucs (k + i)) (ucss.getD (k + i) []) j) ((p.cnj.getD (k + i) []).getD j []) := hR12.vals.at_ j
      have hcut12 := hx12.cut (l := k) (k := ((p.cnj.getD (k + i) []).getD j []).length) (by omega) (Nat.le_refl _)
      have hce12 : (((p.cnj.getD (k + i) []).getD j []).take ((p.cnj.getD (k + i) []).getD j []).length).drop k = ((p.cnj.getD (k + i) []).getD j []).drop k := by rw [List.take_length]
      rw [hce12] at hcut12
      have hlen12 : Len w12 (Pc.rowAt (Pc.rowAt uc ucs (k + i)) (ucss.getD (k + i) []) j) ((p.cnj.getD (k + i) []).getD j []).length := hx12.toLen
      refine go ?_
      refine rc (cloneI_ok (xs := ((p.cnj.getD (k + i) []).getD j []).drop k) (by rw [List.length_drop]; omega)) (next := fun v13 w13 h => ?_)
      obtain ⟨he13, hf13⟩ := h
      refine go ?_
      refine st_grow hG12 he13 hf13 hz12 (by omega) (next := fun v14 v15 w15 hG15 hx15 hz15 hst15 => ?_)
      refine go ?_
      refine forQ_normal (by omega) ⟨v15, _, ?_, hx15 w11 (he12.trans he13) (Nat.le_refl _), hG15, ?_⟩
      · exact hasP
      · have key : ∀ (L : List (List Int)) (h : j < L.length), (L.map (List.drop k)).take (j + 1) = (L.map (List.drop k)).take j ++ [(L.getD j []).drop k] := fun L h => by
          rw [List.take_succ_eq_append_getElem (by simpa using h)]; simp [h]
        rw [key _ hjl, List.map_append, hrs12]; rfl
    · obtain rfl : j = (p.cnj.getD (k + i) []).length := by omega
      rw [List.take_of_length_le (by simp)] at hrs12
      have hT12 := hT11.ext he12
      have hb12 : Blk w12 bo [v2, v10, vc6] := @Blk.ext _ _ _ _ he12 hb11'
      have hf12 : Fr w1.heap.size w12 v2 (p.ord.drop k) := hf11.ext' he12
      have k2 : Cell w12 bo 2 vc6 := hb12.cell rfl
      have hL := GrL.of hG12
      refine go ?_
      refine st_growu (sb := w5.heap.size) hT12.c.own hG12.lst.own.toSl.cells hG12.lst.own.toSl.one hT12.lo (by rw [List.length_map]; omega) (next := fun v17 v18 w18 hO18 hx18 hz18 hst18 => ?_)
      have hb18 : Blk w18 bo [v2, v10, vc6] := Blk.gstep hb12 hst18 (hT12.cb (by omega))
      have hf18 : Fr w1.heap.size w18 v2 (p.ord.drop k) := hf12.wr hst18.wrt fun hn b hb hb' => by have := hlt5 hn b hb; have := (hT12.c.own.lt b hb').1; omega
      clear k2
      refine go ?_
      refine st_store_fld (h := hb18) (by ((try simp only [ev_tmp, ev_const, ev_func, get_put, get_args, get_putL, get_putL_nil, Nat.reduceEqDiff, reduceIte, List.getD_cons_zero, List.getD_cons_succ, List.getD_nil]); first | done | with_reducible rfl)) (by ((try simp only [ev_tmp, ev_const, ev_func, get_put, get_args, get_putL, get_putL_nil, Nat.reduceEqDiff, reduceIte, List.getD_cons_zero, List.getD_cons_succ, List.getD_nil]); first | done | with_reducible rfl)) hO18.toSl.one (by simp) (by first | exact True.intro | exact ⟨_, rfl, by ((try simp only [ev_tmp, ev_const, ev_func, get_put, get_args, get_putL, get_putL_nil, Nat.reduceEqDiff, reduceIte, List.getD_cons_zero, List.getD_cons_succ, List.getD_nil, Bool.not_true, Bool.not_false]); first | done | with_reducible rfl)⟩) fun w19 hc19 hs19 hb19 => ?_
      have hT19 := hT11.fieldC he12 hL hO18 hst18 hc19 (by omega)
      have hE19 : Ext w1 w19 := hc19.ext (hx18 w1 (hE11.trans he12) (by omega)) (by omega)
      have hf19 : Fr w1.heap.size w19 v2 (p.ord.drop k) := hf18.wr (.one (B := fun g => g = bo) rfl hc19) fun hn b hb e => by have := hlt5 hn b hb; omega
      refine go ?_
      refine forQ_normal (by omega) ⟨v10, v18, _, _, ?_, hE19, hf19, hb19, hT19, ?_, ?_⟩
      · rw [show k + (i + 1) = k + i + 1 from rfl]
        exact hasP
      · rw [List.take_succ_eq_append_getElem (by simp; omega), List.map_append, hrp]
        simp [show k + i < p.pow.length by omega]
      · rw [List.take_succ_eq_append_getElem (by simp; omega), List.map_append, hgs]
        simp only [List.map_cons, List.map_nil, hrs12]
        simp [show k + i < p.cnj.length by omega]
  · obtain rfl : i = p.n - k := by omega
    have hbr6 : Blk w6 br _ := @Blk.ext _ _ _ _ he6 hbk1
    have hP := hT6.presO hf6 (by omega) (fun hn b hb => by have := hlt5 hn b hb; omega)
    rw [hrp, hgs, List.take_of_length_le (by simp; omega), List.take_of_length_le (by simp; omega)] at hP
    have o3 := hP.pres.one3
    refine go ?_
    refine ra (v := .agg #[v2, vp6, vc6]) (h := rd_load_blk (hb := hb6) (by ((try simp only [ev_tmp, ev_const, ev_func, get_put, get_args, get_putL, get_putL_nil, Nat.reduceEqDiff, reduceIte, List.getD_cons_zero, List.getD_cons_succ, List.getD_nil]); first | done | with_reducible rfl)) rfl) (next := ?_)
    refine st_store_agg (vs := [v2, vp6, vc6]) (cs := _) (hb := hbr6) (by ((try simp only [ev_tmp, ev_const, ev_func, get_put, get_args, get_putL, get_putL_nil, Nat.reduceEqDiff, reduceIte, List.getD_cons_zero, List.getD_cons_succ, List.getD_nil]); first | done | with_reducible rfl)) (by ((try simp only [ev_tmp, ev_const, ev_func, get_put, get_args, get_putL, get_putL_nil, Nat.reduceEqDiff, reduceIte, List.getD_cons_zero, List.getD_cons_succ, List.getD_nil]); first | done | with_reducible rfl)) rfl rfl (by simp [o3.1, o3.2.1, o3.2.2]) (by first | exact True.intro | exact ⟨_, rfl, by ((try simp only [ev_tmp, ev_const, ev_func, get_put, get_args, get_putL, get_putL_nil, Nat.reduceEqDiff, reduceIte, List.getD_cons_zero, List.getD_cons_succ, List.getD_nil, Bool.not_true, Bool.not_false]); first | done | with_reducible rfl)⟩) fun w7 hc7 hs7 hb7 => ?_
    refine go ?_
    have hE7 : Ext w w7 := hc7.ext (he1.trans he6) (by omega)
    refine retc (b := br) (hb := hb7) ⟨hE7, ?_⟩ rfl
    have hP7 := hP.wr (.one (B := fun g => g = br) rfl hc7) (fun g hg => .inl (by omega))
    rw [hs7]
    exact hP7.sub (by omega) (Nat.le_refl _)
set_option maxHeartbeats 4000000 in
theorem TailPresentation_ok {p : Pr} (hv : Valid p) {k : Nat} (hk : k ≤ p.n) {w : World} {vp : Value} {lo hi : Nat} [hp : Pres lo hi w vp p] :
    Calls Try.prog 10 #[vp, .int .i64 k] w (Ret fun v w' => ∃ u, v = .tuple #[u, .int .i64 0] ∧ Ext w w' ∧ Pres w.heap.size w'.heap.size w' u (tailP p k)) := by
  have hn6 := hv.n6
  have hol : p.ord.length = p.n := rfl
  obtain ⟨vo, vpw, vc, ps, cs, css, rfl, h1, h2, h3⟩ := hp.ex
  refine enter (args := [.agg #[vo, vpw, vc], .int .i64 k]) (l := [.cell 4 28, .tmp 5]) Try.func10 rfl rfl Try.ntmps10 (by simp) ?_
  refine go ?_
  refine st_box3 (by ((try simp only [ev_tmp, ev_const, ev_func, get_put, get_args, get_putL, get_putL_nil, Nat.reduceEqDiff, reduceIte, List.getD_cons_zero, List.getD_cons_succ, List.getD_nil]); first | done | with_reducible rfl)) (by first | exact True.intro | exact ⟨_, rfl, by ((try simp only [ev_tmp, ev_const, ev_func, get_put, get_args, get_putL, get_putL_nil, Nat.reduceEqDiff, reduceIte, List.getD_cons_zero, List.getD_cons_succ, List.getD_nil, Bool.not_true, Bool.not_false]); first | done | with_reducible rfl)⟩) fun w1 b he1 hb1 hs1 hc0 hc1 hc2 => ?_
  have hpp := hp.boxed he1 hc0 hc1 hc2
  refine st_alloc (by first | exact True.intro | exact ⟨_, rfl, by ((try simp only [ev_tmp, ev_const, ev_func, get_put, get_args, get_putL, get_putL_nil, Nat.reduceEqDiff, reduceIte, List.getD_cons_zero, List.getD_cons_succ, List.getD_nil, Bool.not_true, Bool.not_false]); first | done | with_reducible rfl)⟩) fun w2 br he2 hbr hs2 hbk2 => ?_
  have hE2 := he1.trans he2
  have hz1 := he1.size
  refine go ?_
  refine rc (impl_IsPresentation_ok (p := p) (by omega)) (next := fun v5 w5 h5 => ?_)
  obtain ⟨b5, rfl, hb5, he5⟩ := h5
  have hb := hb5.2 hv
  subst hb
  have hE5 := hE2.trans he5
  refine go ?_
  refine c_b (fun e5 => ?_) (fun e5 => ?_)
  · cases e5
  refine go ?_
  refine rc (inside_ok (n := k) (l := 0) (h := p.ord.length)) (next := fun v6 w6 h6 => ?_)
  obtain ⟨b6, rfl, hb6, he6⟩ := h6
  have hb := hb6.2 (by omega)
  subst hb
  refine go ?_
  refine c_b (fun e6 => ?_) (fun e6 => ?_)
  · cases e6
  refine go ?_
  refine rc (tailOf_ok (p := p) hv hk) (next := fun v7 w7 h7 => ?_)
  obtain ⟨he7, hP7⟩ := h7
  have hP7 := hP7.pres
  obtain ⟨xo, xp, xc, qs, ds, dss, rfl, _⟩ := hP7.ex
  have o3 := hP7.one3
  have hE6 := hE5.trans he6
  have hbk7 : Blk w7 br [nilv, nilv, nilv] := @Blk.ext _ _ _ _ ((he5.trans he6).trans he7) hbk2
  have hz6 := (he5.trans he6).size
  refine go ?_
  refine st_store_agg (vs := [xo, xp, xc]) (cs := _) (hb := hbk7) (by ((try simp only [ev_tmp, ev_const, ev_func, get_put, get_args, get_putL, get_putL_nil, Nat.reduceEqDiff, reduceIte, List.getD_cons_zero, List.getD_cons_succ, List.getD_nil]); first | done | with_reducible rfl)) (by ((try simp only [ev_tmp, ev_const, ev_func, get_put, get_args, get_putL, get_putL_nil, Nat.reduceEqDiff, reduceIte, List.getD_cons_zero, List.getD_cons_succ, List.getD_nil]); first | done | with_reducible rfl)) rfl rfl (by simp [o3.1, o3.2.1, o3.2.2]) (by first | exact True.intro | exact ⟨_, rfl, by ((try simp only [ev_tmp, ev_const, ev_func, get_put, get_args, get_putL, get_putL_nil, Nat.reduceEqDiff, reduceIte, List.getD_cons_zero, List.getD_cons_succ, List.getD_nil, Bool.not_true, Bool.not_false]); first | done | with_reducible rfl)⟩) fun wz hcz hsz hBz => ?_
  refine go ?_
  refine retc2 (b := br) (hb := hBz) ⟨_, rfl, hcz.ext (hE6.trans he7) (by omega), (hP7.same fun g h4 h5 h6 => hcz.by_.block g h6 (fun e => by injection e with e; omega)).mono (by have := hE6.size; omega) hcz.size⟩ rfl
end Go.Proofs.Ytjaneagaccefiaa

/-
  Walks: the statements' own big, likeInts, mul9, size9.
  Conditions: stated at each theorem.
-/
namespace Go.Proofs.Ytjaneagaccefiaa
open Go Go.Pc
theorem big_ok {w : World} {v : Value} {us : List Value} {lo hi : Nat} (hs : Sl lo hi w v us) :
    Calls Try.prog 4 #[v] w (Ret fun v' w' => v' = .bool (decide ((us.length : Int) > 4096)) ∧ Ext w w') := by
  have hl := hs.toLen
  refine enter (args := [v]) (l := [.tmp 2]) Try.func4 rfl rfl Try.ntmps4 (by simp) ?_
  refine go ?_
  exact ret1 ⟨rfl, Ext.refl _⟩
end Go.Proofs.Ytjaneagaccefiaa

/-
  Arguments that read as slices of integers, slices of slices, slices of slices of slices: what the calculus knows of them.
  Conditions: none; nothing of the program stands here.
-/
namespace Go.Pc
open Go Go.RowKit Go.Deep Go.ChangeShapes Go.WideShapes
section
variable {H : Type} {enc : TypeId × Value → H} {P : Program} {w : World} {base : Nat} {held : Bool} {fuel : Nat} {v : Value} {x : DataW H × List MemPlace}
theorem Rows.nil_ (w : World) : Rows 0 w.heap.size w nilv [] [] :=
  ⟨⟨⟨none, 0, rfl, Nat.le_refl _, by omega, fun k u hu => by simp at hu⟩⟩, rfl, fun i => by simpa using (Ints.nil_ w).mono (Nat.le_refl 0) (Nat.zero_le _)⟩
end
end Go.Pc

/-
  Arguments that read as slices of bytes: what the calculus knows of them.
  Conditions: none; nothing of the program stands here.
-/
namespace Go.Pc
open Go Go.RowKit Go.Deep Go.ChangeShapes Go.WideShapes
theorem bytes_of_trod {H : Type} {enc : TypeId × Value → H} {P : Program} {w : World} {base : Nat} {held : Bool} {fuel : Nat} {v : Value} {x : DataW H × List MemPlace} {t e : TypeId} (ht : P.underlying t = some (.slice e)) (he : P.underlying e = some (.int .u8)) (hc : P.cellsOf e = 1) (h : DataW.trod enc P w base (fun _ => true) held fuel t [v] = some x) :
    ∃ xs : List Int, Sl 0 w.heap.size w v (xs.map (Value.int .u8)) ∧ ∀ c, c ∈ xs → 0 ≤ c ∧ c < 256 := by
  rcases open_ints ht he hc h with ⟨hcs, _⟩ | ⟨a, len, cap, zs, hcs, _, hl, hm, hz, _, hcell, hwf⟩
  · have : v = nilv := by simpa using hcs
    subst this
    exact ⟨[], ⟨none, 0, rfl, Nat.le_refl _, by omega, fun k u hu => by simp at hu⟩, fun c h => (by cases h)⟩
  · have : v = .slice (some a) len cap := by simpa using hcs
    subst this
    simp only [if_true] at hz
    have hlen : (zs.take len).length = len := by rw [List.length_take]; omega
    refine ⟨zs.take len, ⟨some a, cap, by rw [List.length_map, hlen], by rw [List.length_map, hlen]; omega, by simp only [maxLen] at hm; omega, fun k u hu => ?_⟩, fun c hcm => ?_⟩
    · rw [List.getElem?_map, List.getElem?_take] at hu
      split at hu
      · have hk : k < zs.length := by omega
        have hck := hcell k hk
        rw [List.getElem?_eq_getElem hk] at hu
        simp only [Option.map_some, Option.some.injEq] at hu
        have e : zs.getD k 0 = zs[k] := by simp [hk]
        rw [e, hu] at hck
        exact ⟨a, rfl, Nat.zero_le _, by have := block_lt hck; rwa [add_block] at this, hck⟩
      · cases hu
    · have hcz := List.mem_of_mem_take hcm
      obtain ⟨j, hj, rfl⟩ := List.getElem_of_mem hcz
      have := range_u8 hwf j
      simp [hj] at this
      omega
end Go.Pc
