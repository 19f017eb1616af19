/-
  Texts of one proof, put together by program: Hms, Tup, Hmi, Ow3, SlN, Sh3, Cat, Apz, W53, W54, Sh4, Ow4, Ow5, Copy, W51, W52, W14, W15, W16b, W17, W18, W30, W55, W56, W57.
  Conditions: those told at each part.
-/
import Derived.Test.YtflniifngfiekaaB3
import Derived.Lib.AppendZeros
import Derived.Lib.AppendZerosOnto
import Derived.Laws.CopyRow
set_option linter.unusedVariables false
set_option linter.unusedSimpArgs false
set_option linter.unusedSectionVars false
set_option linter.constructorNameAsVariable false
set_option linter.unnecessarySimpa false
set_option linter.deprecated false
/-
  Lists of homomorphisms: of the call's own, and as they read; marks on all their numbers.
  Conditions: none; nothing of the program stands here.
-/
namespace Go.Proofs.Ytflniifngfiekaa
open Go Go.Pc
/-- One homomorphism's lists, as they lie. -/
structure HE where
  vo : Value
  od : List Int
  vp : Value
  rp : List (Value × List Int)
  vc : Value
  gs : List (Value × List (Value × List Int))
  uo : Value
  oe : List Int
  up : Value
  rq : List (Value × List Int)
  uc : Value
  hs : List (Value × List (Value × List Int))
  vi : Value
  ri : List (Value × List Int)
namespace HE
def cells (h : HE) : List Value := [h.vo, h.vp, h.vc, h.uo, h.up, h.uc, h.vi]
def rows (h : HE) : List (Value × List Int) := (h.vo, h.od) :: (h.rp ++ (flat h.gs ++ ((h.uo, h.oe) :: (h.rq ++ (flat h.hs ++ h.ri)))))
def p (h : HE) : Pr := ⟨h.od, h.rp.map (·.2), h.gs.map fun q => q.2.map (·.2)⟩
def q (h : HE) : Pr := ⟨h.oe, h.rq.map (·.2), h.hs.map fun q => q.2.map (·.2)⟩
def x (h : HE) : List (List Int) := h.ri.map (·.2)
def val (h : HE) : Pr × Pr × List (List Int) := (h.p, h.q, h.x)
def mark (k : Int) (h : HE) : HE :=
  { h with
    od := marks k h.od.length
    rp := mkR (k + h.od.length) h.rp
    gs := mkC (k + h.od.length + tot (h.rp.map (·.2))) h.gs
    oe := marks (k + h.od.length + tot (h.rp.map (·.2)) + tot ((flat h.gs).map (·.2))) h.oe.length
    rq := mkR (k + h.od.length + tot (h.rp.map (·.2)) + tot ((flat h.gs).map (·.2)) + h.oe.length) h.rq
    hs := mkC (k + h.od.length + tot (h.rp.map (·.2)) + tot ((flat h.gs).map (·.2)) + h.oe.length + tot (h.rq.map (·.2))) h.hs
    ri := mkR (k + h.od.length + tot (h.rp.map (·.2)) + tot ((flat h.gs).map (·.2)) + h.oe.length + tot (h.rq.map (·.2)) + tot ((flat h.hs).map (·.2))) h.ri }
structure Ok (A : Nat → Prop) (w : World) (h : HE) : Prop where
  p : SpA A w h.vp (h.rp.map (·.1))
  c : CubO A w h.vc h.gs
  q : SpA A w h.up (h.rq.map (·.1))
  d : CubO A w h.uc h.hs
  i : SpA A w h.vi (h.ri.map (·.1))
variable {A A' B : Nat → Prop} {w w' : World} {h : HE}
theorem Ok.wr (o : Ok A w h) (k : Wrt B w w') (hb : ∀ b, B b → A b) : Ok A w' h := ⟨o.p.wr k hb, o.c.wr k hb, o.q.wr k hb, o.d.wr k hb, o.i.wr k hb⟩
theorem Ok.weak (o : Ok A w h) (hb : ∀ b, A' b → A b) : Ok A' w h := ⟨o.p.weak hb, ⟨o.c.sp0.weak hb, fun q hq => (o.c.sp q hq).weak hb⟩, o.q.weak hb, ⟨o.d.sp0.weak hb, fun q hq => (o.d.sp q hq).weak hb⟩, o.i.weak hb⟩
theorem cub_mk {v : Value} {k : Int} {gs : List (Value × List (Value × List Int))} (o : CubO A w v gs) : CubO A w v (mkC k gs) :=
  ⟨by rw [mkC_fst]; exact o.sp0, fun q hq => by
    obtain ⟨q', h1, h2, h3⟩ := mkC_mem hq
    rw [h2, h3]
    exact o.sp _ h1⟩
theorem Ok.mark (o : Ok A w h) (k : Int) : Ok A w (h.mark k) :=
  ⟨by rw [show (h.mark k).rp.map (·.1) = h.rp.map (·.1) from mkR_fst _ _]; exact o.p, cub_mk o.c, by rw [show (h.mark k).rq.map (·.1) = h.rq.map (·.1) from mkR_fst _ _]; exact o.q, cub_mk o.d, by rw [show (h.mark k).ri.map (·.1) = h.ri.map (·.1) from mkR_fst _ _]; exact o.i⟩
end HE
def allR (es : List HE) : List (Value × List Int) := es.flatMap HE.rows
def allC (es : List HE) : List Value := es.flatMap HE.cells
theorem allR_append (es fs : List HE) : allR (es ++ fs) = allR es ++ allR fs := by simp [allR]
/-- A list of homomorphisms of the call's own. -/
structure HomsO (e s t : Nat) (w : World) (v : Value) (es : List HE) : Prop where
  own : OwnS e s w v es.length (allC es)
  vt : ∀ b, v.ownBlock = some b → b < t ∧ ¬ BlkOf (allR es) b
  rows : RowsO s w (allR es)
  lt : ∀ b, BlkOf (allR es) b → b < t
  ok : ∀ h, h ∈ es → HE.Ok (fun b => BlkOf (allR es) b ∨ b < s ∨ t ≤ b) w h
/-- A list of homomorphisms that is read. -/
class HomsV (lo hi : outParam Nat) (w : World) (v : Value) (ks : outParam (List (Pr × Pr × List (List Int)))) : Prop where
  ex : ∃ us, SlS lo hi w v ks.length us ∧ ∀ i (hi' : i < ks.length), HomV lo hi w (.agg #[us.getD (i * 7 + 0) nilv, us.getD (i * 7 + 1) nilv, us.getD (i * 7 + 2) nilv, us.getD (i * 7 + 3) nilv, us.getD (i * 7 + 4) nilv, us.getD (i * 7 + 5) nilv, us.getD (i * 7 + 6) nilv]) ks[i].1 ks[i].2.1 ks[i].2.2
section
variable {B : Nat → Prop} {e s t lo hi lo' hi' : Nat} {w w' : World} {v : Value} {es : List HE} {ks : List (Pr × Pr × List (List Int))}
theorem HomsO.wr (h : HomsO e s t w v es) (k : Wrt B w w') (hb : ∀ b, B b → b < s ∨ t ≤ b) : HomsO e s t w' v es :=
  ⟨h.own.wr k fun b e1 hB => by
    have h1 := h.own.lt b e1
    have h2 := (h.vt b e1).1
    have := hb b hB; omega, h.vt, h.rows.wr k fun b e1 hB => by
    have h1 := (h.rows.blk e1).1
    have h2 := h.lt b e1
    have := hb b hB; omega, h.lt, fun x hx => (h.ok x hx).wr k fun b hB => .inr (hb b hB)⟩
theorem RowsO.part {s : Nat} {w : World} {rs L : List (Value × List Int)} (h : RowsO s w L) (hs : rs.Sublist L) : RowsO s w rs := ⟨fun r hr => h.fr r (hs.mem hr), h.sep.sublist hs⟩
theorem HE.parts (h : HE) : [(h.vo, h.od)].Sublist h.rows ∧ h.rp.Sublist h.rows ∧ (flat h.gs).Sublist h.rows ∧ [(h.uo, h.oe)].Sublist h.rows ∧ h.rq.Sublist h.rows ∧ (flat h.hs).Sublist h.rows ∧ h.ri.Sublist h.rows := by
  have k1 : (h.rp ++ (flat h.gs ++ ((h.uo, h.oe) :: (h.rq ++ (flat h.hs ++ h.ri))))).Sublist h.rows := List.sublist_cons_self _ _
  have k2 : (flat h.gs ++ ((h.uo, h.oe) :: (h.rq ++ (flat h.hs ++ h.ri)))).Sublist h.rows := (List.sublist_append_right _ _).trans k1
  have k3 : ((h.uo, h.oe) :: (h.rq ++ (flat h.hs ++ h.ri))).Sublist h.rows := (List.sublist_append_right _ _).trans k2
  have k4 : (h.rq ++ (flat h.hs ++ h.ri)).Sublist h.rows := (List.sublist_cons_self _ _).trans k3
  have k5 : (flat h.hs ++ h.ri).Sublist h.rows := (List.sublist_append_right _ _).trans k4
  exact ⟨List.singleton_sublist.2 List.mem_cons_self, (List.sublist_append_left _ _).trans k1, (List.sublist_append_left _ _).trans k2, (List.singleton_sublist.2 List.mem_cons_self).trans k3, (List.sublist_append_left _ _).trans k4, (List.sublist_append_left _ _).trans k5, (List.sublist_append_right _ _).trans k5⟩
/-- What one homomorphism of the list reads as. -/
theorem HE.reads {A : Nat → Prop} {h : HE} (hR : RowsO s w h.rows) (o : HE.Ok A w h) : Ints 0 w.heap.size w h.vo h.od ∧ Pc.Rows 0 w.heap.size w h.vp (h.rp.map (·.1)) (h.rp.map (·.2)) ∧ Rowss 0 w.heap.size w h.vc (h.gs.map (·.1)) (h.gs.map fun q => q.2.map (·.1)) (h.gs.map fun q => q.2.map (·.2)) ∧
    Ints 0 w.heap.size w h.uo h.oe ∧ Pc.Rows 0 w.heap.size w h.up (h.rq.map (·.1)) (h.rq.map (·.2)) ∧ Rowss 0 w.heap.size w h.uc (h.hs.map (·.1)) (h.hs.map fun q => q.2.map (·.1)) (h.hs.map fun q => q.2.map (·.2)) ∧ Pc.Rows 0 w.heap.size w h.vi (h.ri.map (·.1)) (h.ri.map (·.2)) := by
  obtain ⟨s1, s2, s3, s4, s5, s6, s7⟩ := h.parts
  exact ⟨((RowsO.part hR s1).fr _ List.mem_cons_self).ints.wide, (RowsO.part hR s2).rows o.p.sl, rowss_of_cub (A := fun _ => True) (s := 0) o.c.sp0.sl (Nat.zero_le _) fun q hq => (RowsO.ofFlat (RowsO.part hR s3) hq).rows (o.c.sp q hq).sl,
    ((RowsO.part hR s4).fr _ List.mem_cons_self).ints.wide, (RowsO.part hR s5).rows o.q.sl, rowss_of_cub (A := fun _ => True) (s := 0) o.d.sp0.sl (Nat.zero_le _) fun q hq => (RowsO.ofFlat (RowsO.part hR s6) hq).rows (o.d.sp q hq).sl, (RowsO.part hR s7).rows o.i.sl⟩
theorem HomsV.same (h : HomsV lo hi w v ks) (k : Same lo hi w w') (hs : w.heap.size ≤ w'.heap.size) : HomsV lo hi w' v ks := by
  obtain ⟨us, h1, h2⟩ := h.ex
  exact ⟨us, h1.same k hs, fun i hi => (h2 i hi).same k⟩
theorem HomsV.wide (h : HomsV lo hi w v ks) : HomsV 0 w.heap.size w v ks := by
  obtain ⟨us, h1, h2⟩ := h.ex
  exact ⟨us, h1.wide, fun i hi => (h2 i hi).wide⟩
instance (priority := low) HomsV.ext [x : Ext w w'] [h : HomsV lo hi w v ks] : HomsV lo hi w' v ks := h.same (x.same _ _) x.size
theorem HomsV.toLen (h : HomsV lo hi w v ks) : Len w v ks.length := by
  obtain ⟨us, h1, _⟩ := h.ex
  exact h1.toLen
end
end Go.Proofs.Ytflniifngfiekaa

/-
  Lists of elements by their numbers; how many of them are images of a homomorphism.
  Conditions: none.
-/
namespace Go.Proofs.Ytflniifngfiekaa
open Go Go.Pc
/-- The number of lists of elements, or a number beyond the limit. -/
def tupC (N : Nat) : Nat → Nat
  | 0 => 1
  | k + 1 => if tupC N k ≤ 4096 then tupC N k * N else tupC N k
section
variable {q : Pr} [hc : ConAll q]
/-- The list of n elements with a number. -/
def tupE (q : Pr) [hc : ConAll q] (n t : Nat) : List (El q) := (List.range n).map fun i => allE q (t / ordN q ^ (n - 1 - i) % ordN q)
open Classical in
/-- How many of the first lists are images of a homomorphism. -/
noncomputable def cntH (p q : Pr) [hc : ConAll q] : Nat → Nat
  | 0 => 0
  | k + 1 => cntH p q k + if RelOk p (tupE q p.n k) then 1 else 0
end
/-- The answer of CountHoms. -/
def ChV (p q : Pr) (r e : Int) : Prop := ∃ _ : ConAll q, (4096 < tupC (ordN q) p.n ∧ r = 0 ∧ e = 3) ∨ (tupC (ordN q) p.n ≤ 4096 ∧ r = (cntH p q (tupC (ordN q) p.n) : Nat) ∧ e = 0)
theorem ChV.uniq {p q : Pr} (a b c d : Int) (h : ChV p q a c) (k : ChV p q b d) : a = b ∧ c = d := by
  obtain ⟨_, h⟩ := h
  obtain ⟨_, k⟩ := k
  rcases h with ⟨h1, rfl, rfl⟩ | ⟨h1, rfl, rfl⟩ <;> rcases k with ⟨k1, rfl, rfl⟩ | ⟨k1, rfl, rfl⟩
  · exact ⟨rfl, rfl⟩
  · omega
  · omega
  · exact ⟨rfl, rfl⟩
end Go.Proofs.Ytflniifngfiekaa

/-
  Lists of homomorphisms while they grow, with the lists of images that are still to be used; the answer of AllHoms.
  Conditions: none; nothing of the program stands here.
-/
namespace Go.Proofs.Ytflniifngfiekaa
open Go Go.Pc
section
variable {A B : Nat → Prop} {e s t a b c lo hi : Nat} {w w' w0 w1 w2 w3 : World} {v v' u : Value} {us : List Value} {xs : List Int} {rs qs : List (Value × List Int)} {p q : Pr}
theorem RowsO.perm (h : RowsO s w rs) (k : rs.Perm qs) : RowsO s w qs :=
  ⟨fun r hr => h.fr r (k.mem_iff.2 hr), (k.pairwise_iff (fun h => fun h1 h2 e => h h2 h1 e.symm)).1 h.sep⟩
theorem RowsO.join (h : RowsO s w rs) (k : RowsO s w qs) (hd : ∀ b, BlkOf rs b → ¬ BlkOf qs b) : RowsO s w (rs ++ qs) :=
  ⟨fun r hr => (List.mem_append.1 hr).elim (h.fr r) (k.fr r), List.pairwise_append.2 ⟨h.sep, k.sep, fun r hr q hq h1 h2 e => by
    obtain ⟨b, e1, _⟩ := (h.fr r hr).block h1
    exact hd b ⟨r, hr, h1, e1⟩ ⟨q, hq, h2, by rw [← e]; exact e1⟩⟩⟩
theorem BlkOf.perm {b : Nat} (h : BlkOf rs b) (k : rs.Perm qs) : BlkOf qs b := by
  obtain ⟨r, h1, h2, h3⟩ := h
  exact ⟨r, k.mem_iff.1 h1, h2, h3⟩
theorem RowsO.set {i : Nat} (h : RowsO s w rs) (hi : i < rs.length) (x : Ext w w') (hs : s ≤ w.heap.size) (hu : Fr w.heap.size w' u xs) : RowsO s w' (rs.set i (u, xs)) := by
  have h1 : RowsO s w (rs.take i ++ rs.drop (i + 1)) := RowsO.part h (by rw [← List.eraseIdx_eq_take_drop_succ]; exact List.eraseIdx_sublist _ _)
  refine RowsO.perm (h1.cons x hs hu) ?_
  rw [List.set_eq_take_append_cons_drop, if_pos hi]
  exact List.perm_middle.symm
theorem blkOf_set {i b : Nat} (h : BlkOf (rs.set i (u, xs)) b) : BlkOf rs b ∨ (xs ≠ [] ∧ u.ownBlock = some b) := by
  obtain ⟨r, hr, hn, e⟩ := h
  rcases List.mem_or_eq_of_mem_set hr with hr | rfl
  · exact .inl ⟨r, hr, hn, e⟩
  · exact .inr ⟨hn, e⟩
theorem SpA.inn (h : SpA A w v us) (hs : Sl s t w v us) : SpA (fun b => A b ∨ b < s ∨ t ≤ b) w v us := by
  obtain ⟨lo, hi, h1, h2⟩ := h
  obtain ⟨X, c, rfl, hc, hm, hcell⟩ := h1.ex
  obtain ⟨X', c', hv, _, _, hcell'⟩ := hs.ex
  refine ⟨max lo s, min hi t, ⟨⟨X, c, rfl, hc, hm, fun i u hu => ?_⟩⟩, fun b hb => ?_⟩
  · obtain ⟨a, hA, e1, e2, e3⟩ := hcell i u hu
    obtain ⟨a', hA', g1, g2, g3⟩ := hcell' i u hu
    injection hv with hv _ _
    rw [hA, hA'] at hv; injection hv with hv; subst hv
    exact ⟨a, hA, by omega, by omega, e3⟩
  · rcases hb with hb | hb
    · have := h2 b hb; omega
    · omega
theorem HomV.mono {lo' hi' : Nat} {xss : List (List Int)} (h : HomV lo hi w v p q xss) (h1 : lo' ≤ lo) (h2 : hi ≤ hi') : HomV lo' hi' w v p q xss := by
  obtain ⟨a0, a1, a2, a3, a4, a5, a6, us, rfl, hp, hq, hx⟩ := h.ex
  exact ⟨⟨a0, a1, a2, a3, a4, a5, a6, us, rfl, hp.mono h1 h2, hq.mono h1 h2, hx.mono h1 h2⟩⟩
/-- What the spines of a growing list of homomorphisms lie apart from. -/
def Av (s : Nat) (w : World) (v : Value) (R : List (Value × List Int)) (b : Nat) : Prop := BlkOf R b ∨ v.ownBlock = some b ∨ b < s ∨ w.heap.size ≤ b
/-- A list of homomorphisms that grows; lists of images that are still to be used. -/
structure InvA (e s : Nat) (w : World) (v : Value) (es : List HE) (gs : List (Value × List (Value × List Int))) : Prop where
  own : OwnS e s w v es.length (allC es)
  rows : RowsO s w (allR es ++ flat gs)
  off : ∀ b, v.ownBlock = some b → ¬ BlkOf (allR es ++ flat gs) b
  ok : ∀ h, h ∈ es → HE.Ok (Av s w v (allR es ++ flat gs)) w h
  sp : ∀ q, q ∈ gs → SpA (Av s w v (allR es ++ flat gs)) w q.1 (q.2.map (·.1))
theorem InvA.start {eo ei : Nat} {vg : Value} {gs : List (Value × List (Value × List Int))} (h : GrC eo ei t w vg gs) (hs : s ≤ t) : InvA e s w nilv [] gs :=
  ⟨OwnS.nil _ _ _, by simpa [allR] using h.rows.mono hs, fun b hb => (by cases hb), fun h hh => (by cases hh), fun q hq => (h.inn q hq).spA fun b hb hA => by
    have h1 := (h.inn q hq).lt b hb
    rcases hA with hA | hA | hA
    · exact h.offi q hq b hb (by simpa [allR] using hA)
    · cases hA
    · omega⟩
theorem InvA.done {es : List HE} (h : InvA e s w v es []) : HomsO e s w.heap.size w v es := by
  have e0 : allR es ++ flat [] = allR es := by simp [flat]
  have hR := h.rows
  have hok := h.ok
  have hoff := h.off
  rw [e0] at hR hok hoff
  exact ⟨h.own, fun b hb => ⟨(h.own.lt b hb).2, hoff b hb⟩, hR, fun b hb => (hR.blk hb).2, fun x hx => (hok x hx).weak fun b hb => by
    rcases hb with hb | hb
    · exact .inl hb
    · exact .inr (.inr hb)⟩
theorem InvA.ext {es : List HE} {gs : List (Value × List (Value × List Int))} (h : InvA e s w v es gs) (x : Ext w w') : InvA e s w' v es gs := by
  have z := x.size
  have hA : ∀ b, Av s w' v (allR es ++ flat gs) b → Av s w v (allR es ++ flat gs) b := fun b hb => by
    rcases hb with hb | hb | hb | hb
    · exact .inl hb
    · exact .inr (.inl hb)
    · exact .inr (.inr (.inl hb))
    · exact .inr (.inr (.inr (by omega)))
  exact ⟨h.own.ext x, h.rows.ext x, h.off, fun y hy => ((h.ok y hy).wr (.ofExt (B := fun _ => False) x) fun b hb => hb.elim).weak hA, fun q hq => ((h.sp q hq).wr (.ofExt (B := fun _ => False) x) fun b hb => hb.elim).weak hA⟩
theorem HE.Ok.grow {A' : Nat → Prop} {h : HE} (o : HE.Ok A w h) (x : Ext w w') (hA : ∀ b, A' b → A b ∨ w.heap.size ≤ b) : HE.Ok A' w' h :=
  ⟨SpA.grow o.p x hA, ⟨SpA.grow o.c.sp0 x hA, fun q hq => SpA.grow (o.c.sp q hq) x hA⟩, SpA.grow o.q x hA, ⟨SpA.grow o.d.sp0 x hA, fun q hq => SpA.grow (o.d.sp q hq) x hA⟩, SpA.grow o.i x hA⟩
theorem presO_parts {y0 y1 y2 : Value} (h : PresO a b w (.agg #[y0, y1, y2]) p) : ∃ rp gs, RowsO a w ((y0, p.ord) :: (rp ++ flat gs)) ∧ (∀ g, BlkOf ((y0, p.ord) :: (rp ++ flat gs)) g → g < b) ∧
    SpA (fun g => BlkOf ((y0, p.ord) :: (rp ++ flat gs)) g ∨ g < a ∨ b ≤ g) w y1 (rp.map (·.1)) ∧ CubO (fun g => BlkOf ((y0, p.ord) :: (rp ++ flat gs)) g ∨ g < a ∨ b ≤ g) w y2 gs ∧ p = ⟨p.ord, rp.map (·.2), gs.map fun q => q.2.map (·.2)⟩ := by
  obtain ⟨vo, vp, vc, rp, gs, e, hO, hl, hs, hc, h1, h2, h3, h4, h5⟩ := h.ex
  injection e with e
  have f : ∀ i, (#[y0, y1, y2] : Array Value).getD i undef = (#[vo, vp, vc] : Array Value).getD i undef := fun i => by rw [e]
  obtain rfl : y0 = vo := by simpa using f 0
  obtain rfl : y1 = vp := by simpa using f 1
  obtain rfl : y2 = vc := by simpa using f 2
  refine ⟨rp, gs, hO, hl, SpA.inn hs h4.sl, ⟨SpA.inn hc.sp0 h5.sl, fun q hq => ?_⟩, by rw [← h1, ← h2]⟩
  obtain ⟨i, hi, rfl⟩ := List.getElem_of_mem hq
  have h6 := (h5.vals.at_ i).sl
  have e1 : (gs.map (·.1)).getD i nilv = gs[i].1 := by simp [hi]
  have e2 : (gs.map fun q => q.2.map (·.1)).getD i [] = gs[i].2.map (·.1) := by simp [hi]
  rw [e1, e2] at h6
  exact SpA.inn (hc.sp _ hq) h6
set_option maxHeartbeats 1000000 in
/-- One more homomorphism, with the next list of images. -/
theorem InvA.push {b' : Nat} {es : List HE} {gs : List (Value × List (Value × List Int))} {g : Value × List (Value × List Int)} {y0 y1 y2 y3 y4 y5 : Value} {n : Nat} {cs : List Value} (I : InvA e s w0 v es (g :: gs)) (x : Ext w0 w2) (hs : s ≤ w0.heap.size)
    (hP : PresO a b w2 (.agg #[y0, y1, y2]) p) (hQ : PresO b' c w2 (.agg #[y3, y4, y5]) q) (ha : w0.heap.size ≤ a) (hb : b ≤ b') (hc : c ≤ w2.heap.size) (hab : a ≤ b) (hbc : b' ≤ c)
    (ho : OwnS e s w3 v' n cs) (hn : n = es.length + 1) (hcs : cs = allC es ++ [y0, y1, y2, y3, y4, y5, g.1]) (hst : Pc.GStep w2 w3 v v') : ∃ h : HE, h.val = (p, q, g.2.map (·.2)) ∧ InvA e s w3 v' (es ++ [h]) gs := by
  obtain ⟨rp, gP, hO1, hl1, hs1, hc1, ep⟩ := presO_parts hP
  obtain ⟨rq, gQ, hO2, hl2, hs2, hc2, eq⟩ := presO_parts hQ
  subst hn hcs
  have zx := x.size
  have hW := hst.wrt
  have z3 := hW.size
  refine ⟨⟨y0, p.ord, y1, rp, y2, gP, y3, q.ord, y4, rq, y5, gQ, g.1, g.2⟩, ?_, ?_⟩
  · unfold HE.val HE.p HE.q HE.x
    exact Prod.ext ep.symm (Prod.ext eq.symm rfl)
  generalize hR1 : (y0, p.ord) :: (rp ++ flat gP) = R1 at *
  generalize hR2 : (y3, q.ord) :: (rq ++ flat gQ) = R2 at *
  have hrow : HE.rows ⟨y0, p.ord, y1, rp, y2, gP, y3, q.ord, y4, rq, y5, gQ, g.1, g.2⟩ = R1 ++ (R2 ++ g.2) := by
    rw [← hR1, ← hR2]
    simp only [HE.rows, List.append_assoc, List.cons_append]
  have hB1 : ∀ k, BlkOf R1 k → a ≤ k ∧ k < b := fun k hk => ⟨(hO1.blk hk).1, hl1 k hk⟩
  have hB2 : ∀ k, BlkOf R2 k → b' ≤ k ∧ k < c := fun k hk => ⟨(hO2.blk hk).1, hl2 k hk⟩
  have h12 : RowsO w0.heap.size w2 (R1 ++ R2) := RowsO.join (hO1.mono ha) (hO2.mono (by omega)) fun k h1 h2 => by
    have := hB1 k h1; have := hB2 k h2; omega
  have hR := I.rows.append x hs h12
  have hfl : flat (g :: gs) = g.2 ++ flat gs := flat_cons _ _
  have hperm : ((allR es ++ flat (g :: gs)) ++ (R1 ++ R2)).Perm (allR (es ++ [⟨y0, p.ord, y1, rp, y2, gP, y3, q.ord, y4, rq, y5, gQ, g.1, g.2⟩]) ++ flat gs) := by
    rw [allR_append, show allR [(⟨y0, p.ord, y1, rp, y2, gP, y3, q.ord, y4, rq, y5, gQ, g.1, g.2⟩ : HE)] = R1 ++ (R2 ++ g.2) by rw [← hrow]; simp [allR], hfl]
    simp only [List.append_assoc]
    refine List.Perm.append_left _ ?_
    have h1 := List.perm_append_comm (l₁ := g.2 ++ flat gs) (l₂ := R1 ++ R2)
    simpa only [List.append_assoc] using h1
  have hR' := RowsO.perm hR hperm
  have hblk : ∀ k, BlkOf (allR (es ++ [⟨y0, p.ord, y1, rp, y2, gP, y3, q.ord, y4, rq, y5, gQ, g.1, g.2⟩]) ++ flat gs) k → BlkOf (allR es ++ flat (g :: gs)) k ∨ BlkOf R1 k ∨ BlkOf R2 k := fun k hk => by
    have := BlkOf.perm hk hperm.symm
    rcases blkOf_append'.1 this with h | h
    · exact .inl h
    · exact .inr (blkOf_append'.1 h)
  generalize hnew : allR (es ++ [⟨y0, p.ord, y1, rp, y2, gP, y3, q.ord, y4, rq, y5, gQ, g.1, g.2⟩]) ++ flat gs = RN at *
  have hold : ∀ k, BlkOf (allR es ++ flat (g :: gs)) k → s ≤ k ∧ k < w0.heap.size := fun k hk => I.rows.blk hk
  have hv0 : ∀ k, v.ownBlock = some k → k < w0.heap.size := fun k hk => (I.own.lt k hk).2
  have hoffN : ∀ k, v.ownBlock = some k → ¬ BlkOf RN k := fun k hk hB => by
    have h0 := hv0 k hk
    rcases hblk k hB with h | h | h
    · exact I.off k hk h
    · have := hB1 k h; omega
    · have := hB2 k h; omega
  have hA2 : ∀ k, (Av s w3 v' RN k ∨ v.ownBlock = some k) → (BlkOf (allR es ++ flat (g :: gs)) k ∨ v.ownBlock = some k ∨ k < s) ∨ BlkOf R1 k ∨ BlkOf R2 k ∨ w2.heap.size ≤ k := fun k hk => by
    rcases hk with (hk | hk | hk | hk) | hk
    · rcases hblk k hk with h | h | h
      · exact .inl (.inl h)
      · exact .inr (.inl h)
      · exact .inr (.inr (.inl h))
    · rcases hst.new hk with h | h
      · exact .inl (.inr (.inl h))
      · exact .inr (.inr (.inr h))
    · exact .inl (.inr (.inr hk))
    · exact .inr (.inr (.inr (by omega)))
    · exact .inl (.inr (.inl hk))
  have hA0 : ∀ k, (Av s w3 v' RN k ∨ v.ownBlock = some k) → Av s w0 v (allR es ++ flat (g :: gs)) k ∨ w0.heap.size ≤ k := fun k hk => by
    rcases hA2 k hk with (h | h | h) | h | h | h
    · exact .inl (.inl h)
    · exact .inl (.inr (.inl h))
    · exact .inl (.inr (.inr (.inl h)))
    · have := hB1 k h; exact .inr (by omega)
    · have := hB2 k h; exact .inr (by omega)
    · exact .inr (by omega)
  have hAP : ∀ k, (Av s w3 v' RN k ∨ v.ownBlock = some k) → BlkOf R1 k ∨ k < a ∨ b ≤ k := fun k hk => by
    rcases hA2 k hk with (h | h | h) | h | h | h
    · have := hold k h; exact .inr (.inl (by omega))
    · have := hv0 k h; exact .inr (.inl (by omega))
    · exact .inr (.inl (by omega))
    · exact .inl h
    · have := hB2 k h; exact .inr (.inr (by omega))
    · exact .inr (.inr (by omega))
  have hAQ : ∀ k, (Av s w3 v' RN k ∨ v.ownBlock = some k) → BlkOf R2 k ∨ k < b' ∨ c ≤ k := fun k hk => by
    rcases hA2 k hk with (h | h | h) | h | h | h
    · have := hold k h; exact .inr (.inl (by omega))
    · have := hv0 k h; exact .inr (.inl (by omega))
    · exact .inr (.inl (by omega))
    · have := hB1 k h; exact .inr (.inl (by omega))
    · exact .inl h
    · exact .inr (.inr (by omega))
  refine ⟨by simpa [allC, HE.cells] using ho, ?_, fun k hk hB => ?_, fun h hh => ?_, fun r hr => ?_⟩
  · rw [hnew]; exact hR'.wr hW fun k hk hB => hoffN k hB hk
  · rw [hnew] at hB
    rcases hst.new hk with h | h
    · exact hoffN k h hB
    · rcases hblk k hB with h1 | h1 | h1
      · have := hold k h1; omega
      · have := hB1 k h1; omega
      · have := hB2 k h1; omega
  · rw [hnew]
    rcases List.mem_append.1 hh with hh | hh
    · exact (((I.ok h hh).grow x hA0).wr hW fun k hk => .inr hk).weak fun k hk => .inl hk
    · obtain rfl := List.mem_singleton.1 hh
      exact ⟨((hs1.weak hAP).wr hW fun k hk => .inr hk).weak fun k hk => .inl hk,
        ⟨((hc1.sp0.weak hAP).wr hW fun k hk => .inr hk).weak fun k hk => .inl hk, fun q hq => (((hc1.sp q hq).weak hAP).wr hW fun k hk => .inr hk).weak fun k hk => .inl hk⟩,
        ((hs2.weak hAQ).wr hW fun k hk => .inr hk).weak fun k hk => .inl hk,
        ⟨((hc2.sp0.weak hAQ).wr hW fun k hk => .inr hk).weak fun k hk => .inl hk, fun q hq => (((hc2.sp q hq).weak hAQ).wr hW fun k hk => .inr hk).weak fun k hk => .inl hk⟩,
        ((SpA.grow (I.sp g List.mem_cons_self) x hA0).wr hW fun k hk => .inr hk).weak fun k hk => .inl hk⟩
  · rw [hnew]
    exact ((SpA.grow (I.sp r (List.mem_cons_of_mem _ hr)) x hA0).wr hW fun k hk => .inr hk).weak fun k hk => .inl hk
/-- A list of homomorphisms that grows and is only read. -/
structure InvS (e s : Nat) (w : World) (v : Value) (ks : List (Pr × Pr × List (List Int))) : Prop where
  ex : ∃ us, OwnS e s w v ks.length us ∧ ∀ i (hi : i < ks.length), ∃ lo hi, s ≤ lo ∧ hi ≤ w.heap.size ∧ (∀ b, v.ownBlock = some b → b < lo ∨ hi ≤ b) ∧ HomV lo hi w (.agg #[us.getD (i * 7 + 0) nilv, us.getD (i * 7 + 1) nilv, us.getD (i * 7 + 2) nilv, us.getD (i * 7 + 3) nilv, us.getD (i * 7 + 4) nilv, us.getD (i * 7 + 5) nilv, us.getD (i * 7 + 6) nilv]) ks[i].1 ks[i].2.1 ks[i].2.2
theorem InvS.nil (e s : Nat) (w : World) : InvS e s w nilv [] := ⟨[], OwnS.nil _ _ _, fun i hi => absurd hi (by simp)⟩
theorem InvS.ext {ks : List (Pr × Pr × List (List Int))} (h : InvS e s w v ks) (x : Ext w w') : InvS e s w' v ks := by
  obtain ⟨us, h1, h2⟩ := h.ex
  refine ⟨us, h1.ext x, fun i hi => ?_⟩
  obtain ⟨lo, hi', k1, k2, k3, k4⟩ := h2 i hi
  exact ⟨lo, hi', k1, Nat.le_trans k2 x.size, k3, k4.same (x.same _ _)⟩
theorem InvS.push {ks : List (Pr × Pr × List (List Int))} {us cs : List Value} {n : Nat} {u0 u1 u2 u3 u4 u5 u6 : Value} {xss : List (List Int)} (h1 : OwnS e s w0 v ks.length us) (h2 : ∀ i (hi : i < ks.length), ∃ lo hi, s ≤ lo ∧ hi ≤ w0.heap.size ∧ (∀ b, v.ownBlock = some b → b < lo ∨ hi ≤ b) ∧ HomV lo hi w0 (.agg #[us.getD (i * 7 + 0) nilv, us.getD (i * 7 + 1) nilv, us.getD (i * 7 + 2) nilv, us.getD (i * 7 + 3) nilv, us.getD (i * 7 + 4) nilv, us.getD (i * 7 + 5) nilv, us.getD (i * 7 + 6) nilv]) ks[i].1 ks[i].2.1 ks[i].2.2)
    (x : Ext w0 w2) (hs : s ≤ w0.heap.size) (hV : HomV w0.heap.size w2.heap.size w2 (.agg #[u0, u1, u2, u3, u4, u5, u6]) p q xss)
    (ho : OwnS e s w3 v' n cs) (hn : n = ks.length + 1) (hcs : cs = us ++ [u0, u1, u2, u3, u4, u5, u6]) (hst : Pc.GStep w2 w3 v v') : InvS e s w3 v' (ks ++ [(p, q, xss)]) := by
  subst hn hcs
  have hW := hst.wrt
  have z3 := hW.size
  have zx := x.size
  have hl := h1.len
  refine ⟨us ++ [u0, u1, u2, u3, u4, u5, u6], by simpa using ho, fun i hi => ?_⟩
  by_cases hin : i < ks.length
  · obtain ⟨lo, hi', k1, k2, k3, k4⟩ := h2 i hin
    have e1 : ∀ f, f < 7 → (us ++ [u0, u1, u2, u3, u4, u5, u6]).getD (i * 7 + f) nilv = us.getD (i * 7 + f) nilv := fun f hf => by
      rw [List.getD_eq_getElem?_getD, List.getD_eq_getElem?_getD, List.getElem?_append_left (by omega)]
    refine ⟨lo, hi', k1, by omega, fun b hb => ?_, ?_⟩
    · rcases hst.new hb with h | h
      · exact k3 b h
      · exact .inr (by omega)
    · rw [e1 0 (by omega), e1 1 (by omega), e1 2 (by omega), e1 3 (by omega), e1 4 (by omega), e1 5 (by omega), e1 6 (by omega), List.getElem_append_left hin]
      exact (k4.same (x.same _ _)).same (hW.same fun b hb => k3 b hb)
  · have hi2 : i = ks.length := by simp at hi; omega
    have e1 : ∀ f, f < 7 → (us ++ [u0, u1, u2, u3, u4, u5, u6]).getD (i * 7 + f) nilv = [u0, u1, u2, u3, u4, u5, u6].getD f nilv := fun f hf => by
      rw [List.getD_eq_getElem?_getD, List.getD_eq_getElem?_getD, List.getElem?_append_right (by omega), show i * 7 + f - us.length = f by omega]
    refine ⟨w0.heap.size, w2.heap.size, hs, by omega, fun b hb => ?_, ?_⟩
    · rcases hst.new hb with h | h
      · exact .inl (h1.lt b h).2
      · exact .inr h
    · rw [e1 0 (by omega), e1 1 (by omega), e1 2 (by omega), e1 3 (by omega), e1 4 (by omega), e1 5 (by omega), e1 6 (by omega)]
      subst hi2
      rw [List.getElem_append_right (Nat.le_refl _)]
      simp only [Nat.sub_self, List.getElem_cons_zero]
      exact hV.same (hW.same fun b hb => .inl (h1.lt b hb).2)
end
theorem HomsV.mono {lo hi lo' hi' : Nat} {w : World} {v : Value} {ks : List (Pr × Pr × List (List Int))} (h : HomsV lo hi w v ks) (h1 : lo' ≤ lo) (h2 : hi ≤ hi') : HomsV lo' hi' w v ks := by
  obtain ⟨us, k1, k2⟩ := h.ex
  exact ⟨us, k1.mono h1 h2, fun i hi => HomV.mono (k2 i hi) h1 h2⟩
/-! ### the answer -/
open Classical in
/-- The lists of images of the first k tuples that respect the relators. -/
noncomputable def imgL (p q : Pr) [hc : ConAll q] : Nat → List (List (List Int))
  | 0 => []
  | k + 1 => imgL p q k ++ if RelOk p (tupE q p.n k) then [vecs (tupE q p.n k)] else []
section
variable {p q : Pr} [hc : ConAll q]
end
/-- The answer of AllHoms. -/
def AhV (p q : Pr) (r : List (Pr × Pr × List (List Int))) (e : Int) : Prop := ∃ _ : ConAll q, ((4096 < tupC (ordN q) p.n ∨ 200 < cntH p q (tupC (ordN q) p.n)) ∧ r = [] ∧ e = 3) ∨ (tupC (ordN q) p.n ≤ 4096 ∧ cntH p q (tupC (ordN q) p.n) ≤ 200 ∧ (r = (imgL p q (tupC (ordN q) p.n)).map fun x => (p, q, x)) ∧ e = 0)
theorem AhV.uniq {p q : Pr} (a b : List (Pr × Pr × List (List Int))) (c d : Int) (h : AhV p q a c) (k : AhV p q b d) : a = b ∧ c = d := by
  obtain ⟨_, h⟩ := h
  obtain ⟨_, k⟩ := k
  rcases h with ⟨h1, rfl, rfl⟩ | ⟨h1, h2, rfl, rfl⟩ <;> rcases k with ⟨k1, rfl, rfl⟩ | ⟨k1, k2, rfl, rfl⟩
  · exact ⟨rfl, rfl⟩
  · omega
  · omega
  · exact ⟨rfl, rfl⟩
end Go.Proofs.Ytflniifngfiekaa

/-
  Presentations of the call's own, spines and rows: rows are put into their lists, numbers into rows; regions whose last operation stores.
  Conditions: none; nothing of the program stands here.
-/
namespace Go.Pc
open Go Go.RowKit Go.Proofs.Ytflniifngfiekaa
section
variable {P : Program} {N : Nat} {ops : Array Oper} {π : List Nat} {S : World → Prop} {K : Env → World → Prop} {ρ : Env} {w w0 w1 w00 : World} {l : List Oper}
variable {i : Nat} {op : Op} {ty ty2 : TypeId} {pos pos2 : String} {after after2 : Array Edge} {g g2 : Option (Nat × Bool)} {d d2 : Nat}
/-- The store of a value into a list of the call's own, the last operation of a drawn region. -/
theorem l_store_val {e b t m bytes : Nat} {x y : Operand} {v u z : Value} {us : List Value} [he : ElT P t 1 bytes z] (h : Own e b w v us) (hu : u.oneCell' = true) (hm : m < us.length)
    (next : ∀ w', Chg b w w' → w'.heap.size = w.heap.size → Own e b w' v (us.set m u) → K ρ w')
    (hi : opAt ops π i = some ⟨none, .store t x y, ty, pos, after, g⟩ := by exact rfl) (hx : ev ρ x = eptr v m := by ((try simp only [ev_tmp, ev_const, ev_func, get_put, get_args, get_putL, get_putL_nil, Nat.reduceEqDiff, reduceIte, List.getD_cons_zero, List.getD_cons_succ, List.getD_nil]); first | done | with_reducible rfl)) (hy : ev ρ y = u := by ((try simp only [ev_tmp, ev_const, ev_func, get_put, get_args, get_putL, get_putL_nil, Nat.reduceEqDiff, reduceIte, List.getD_cons_zero, List.getD_cons_succ, List.getD_nil]); first | done | with_reducible rfl)) (hg : Wants ops ρ g := by first | exact True.intro | exact ⟨_, rfl, by ((try simp only [ev_tmp, ev_const, ev_func, get_put, get_args, get_putL, get_putL_nil, Nat.reduceEqDiff, reduceIte, List.getD_cons_zero, List.getD_cons_succ, List.getD_nil, Bool.not_true, Bool.not_false]); first | done | with_reducible rfl)⟩)
    (hn : nextOk ops π i = true := by decide +kernel) (hl : lastOf ops π = some (π.getD i 0) := by decide +kernel) (hd : doneOk ops π (i + 1) = true := by decide +kernel) : dops P N ops π S K i ρ w := by
  have hs := setCell_own h (m := m) u
  exact dt_lastw hi hn hl hd hg (wr_store (P := P) (ρ := ρ) (ty := ty) (t := t) (h := h) hx hy hu hm) (next _ hs.2.1 hs.2.2 hs.1)
/-- A call that may write one block. -/
theorem zcc {b : Nat} {f : FuncId} {args : Array Value} {R : Value → World → Prop} (hc : Calls P f args w (Ret R)) (hR : ∀ v w', R v w' → Chg b w w') (hi : opAt ops π i = some ⟨some d, op, ty, pos, after, g⟩ := by exact rfl) (hn : nextOk ops π i = true := by decide +kernel) (hd : d < N := by decide)
    (ho : Cl P op ty ρ f args := by ((first | refine cl_func ?_ | refine cl_fval ((by ((try simp only [ev_tmp, ev_const, ev_func, get_put, get_args, get_putL, get_putL_nil, Nat.reduceEqDiff, reduceIte, List.getD_cons_zero, List.getD_cons_succ, List.getD_nil]); first | done | with_reducible rfl))) ?_); ((try simp only [List.map_toArray, List.map_cons, List.map_nil, ev_tmp, ev_const, ev_func, get_put, get_args, get_putL, get_putL_nil, Nat.reduceEqDiff, reduceIte, List.getD_cons_zero, List.getD_cons_succ, List.getD_nil]); first | done | with_reducible rfl | rfl))) (hg : Wants ops ρ g := by first | exact True.intro | exact ⟨_, rfl, by ((try simp only [ev_tmp, ev_const, ev_func, get_put, get_args, get_putL, get_putL_nil, Nat.reduceEqDiff, reduceIte, List.getD_cons_zero, List.getD_cons_succ, List.getD_nil, Bool.not_true, Bool.not_false]); first | done | with_reducible rfl)⟩) (next : ∀ v w', R v w' → dops P N ops π (Chg b w0) K (i + 1) (put ρ d v) w') : dops P N ops π (Chg b w0) K i ρ w :=
  dt_call hi hn hd hg ho hc fun v w' h => ⟨fun hS => hS.trans (hR v w' h), next v w' h⟩
end
section
variable {B : Nat → Prop} {e e' eo ep ec ei s b i j : Nat} {w w' w0 w1 w2 : World} {v u vo vp vc : Value} {us : List Value} {xs ord : List Int} {rs rp : List (Value × List Int)} {gs : List (Value × List (Value × List Int))} {q : Value × List (Value × List Int)}
/-- What the three lists take up. -/
def F3 (vo vp : Value) (rp : List (Value × List Int)) (vc : Value) (gs : List (Value × List (Value × List Int))) (b : Nat) : Prop := vo.ownBlock = some b ∨ FL vp rp b ∨ FC vc gs b
theorem Tri.f3 (h : Tri eo ep ec ei s w vo ord vp rp vc gs) {b : Nat} (hb : F3 vo vp rp vc gs b) : s ≤ b ∧ b < w.heap.size := by
  rcases hb with hb | hb | hb
  · exact h.o.lt b hb
  · exact h.p.lt hb
  · exact h.c.lt hb
theorem Tri.wrd (h : Tri eo ep ec ei s w vo ord vp rp vc gs) (k : Wrt B w w') (hB : ∀ b, F3 vo vp rp vc gs b → ¬ B b) : Tri eo ep ec ei s w' vo ord vp rp vc gs :=
  ⟨h.o.wr k fun b hb => hB b (.inl hb), h.p.wr k fun b hb => hB b (.inr (.inl hb)), h.c.wr k fun b hb => hB b (.inr (.inr hb)), h.op, h.oc, h.pc, Nat.le_trans h.lo k.size⟩
theorem FL.set (h : FL v (rs.set i (u, xs)) b) : FL v rs b ∨ (xs ≠ [] ∧ u.ownBlock = some b) := by
  rcases h with h | h
  · exact .inl (.inl h)
  · exact (blkOf_set h).imp .inr id
/-- A fresh row is put into a list of rows. -/
theorem GrL.set (h : GrL e s w0 v rs) (hi : i < rs.length) (hvb : v.ownBlock = some b) (x : Ext w0 w1) (hs : s ≤ w0.heap.size) (hu : Fr w0.heap.size w1 u xs) (c : Chg b w1 w2) (ho : Own e b w2 v ((rs.map (·.1)).set i u)) : GrL e s w2 v (rs.set i (u, xs)) := by
  have hsb := (h.own.lt b hvb)
  have hnew : ∀ g, BlkOf (rs.set i (u, xs)) g → g ≠ b := fun g hg e => by
    subst e
    rcases blkOf_set hg with hg | ⟨hn, hg⟩
    · exact h.off g hvb hg
    · obtain ⟨k, e1, e2, _⟩ := hu.block hn
      rw [hg] at e1; injection e1 with e1
      omega
  refine ⟨?_, (RowsO.set h.rows hi x hs hu).wr (.one (B := fun g => g = b) rfl c) fun g hg => hnew g hg, fun g hg hB => ?_⟩
  · rw [List.map_set]
    exact ho.toN.mono hsb.1
  · rw [hvb] at hg; injection hg with hg
    exact hnew g hB hg.symm
theorem Tri.setP (h : Tri eo ep ec ei s w0 vo ord vp rp vc gs) (hi : i < rp.length) (hvb : vp.ownBlock = some b) (x : Ext w0 w1) (hu : Fr w0.heap.size w1 u xs) (c : Chg b w1 w2) (ho : Own ep b w2 vp ((rp.map (·.1)).set i u)) : Tri eo ep ec ei s w2 vo ord vp (rp.set i (u, xs)) vc gs := by
  have h1 := h.ext x
  have k : Wrt (fun g => g = b) w1 w2 := .one (B := fun g => g = b) rfl c
  have hub : ∀ g, xs ≠ [] → u.ownBlock = some g → w0.heap.size ≤ g := fun g hn e => by
    obtain ⟨k, e1, e2, _⟩ := hu.block hn
    rw [e] at e1; injection e1 with e1
    omega
  refine ⟨h1.o.wr k fun g hg e => h.op g hg (.inl (e ▸ hvb)), h.p.set hi hvb x h.lo hu c ho, h1.c.wr k fun g hg e => h.pc g (.inl (e ▸ hvb)) hg, fun g hg hB => ?_, h.oc, fun g hg hB => ?_, Nat.le_trans h1.lo c.size⟩
  · rcases FL.set hB with hB | ⟨hn, hB⟩
    · exact h.op g hg hB
    · have := hub g hn hB; have := (h.o.lt g hg).2; omega
  · rcases FL.set hg with hg | ⟨hn, hg⟩
    · exact h.pc g hg hB
    · have := hub g hn hg; have := (h.c.lt hB).2; omega
/-- The inner spines lie apart. -/
def Sep (gs : List (Value × List (Value × List Int))) : Prop := gs.Pairwise fun a b => ∀ g, a.1.ownBlock = some g → b.1.ownBlock ≠ some g
theorem flat_set : ∀ (gs : List (Value × List (Value × List Int))) (i : Nat) (hi : i < gs.length) (j : Nat) (r : Value × List Int), j < gs[i].2.length → ∃ k, k < (flat gs).length ∧ flat (gs.set i (gs[i].1, gs[i].2.set j r)) = (flat gs).set k r
  | [], i, hi, _, _, _ => by simp at hi
  | q :: gs, 0, _, j, r, hj => by
    have hj : j < q.2.length := hj
    refine ⟨j, by simp [flat]; omega, ?_⟩
    simp [flat, List.set_append, hj]
  | q :: gs, i + 1, hi, j, r, hj => by
    obtain ⟨k, h1, h2⟩ := flat_set gs i (by simpa using hi) j r (by simpa using hj)
    refine ⟨q.2.length + k, by simp only [flat, List.map_cons, List.flatten_cons, List.length_append]; simp only [flat] at h1; omega, ?_⟩
    simp only [flat, List.getElem_cons_succ, List.set_cons_succ, List.map_cons, List.flatten_cons] at h2 ⊢
    rw [h2, List.set_append_right _ _ (by omega), Nat.add_sub_cancel_left]
theorem sep_ne (h : Sep gs) {i j : Nat} (hi : i < gs.length) (hj : j < gs.length) (hne : i ≠ j) : ∀ g, gs[i].1.ownBlock = some g → gs[j].1.ownBlock ≠ some g := fun g h1 h2 => by
  rcases Nat.lt_or_gt_of_ne hne with hl | hl
  · exact List.pairwise_iff_getElem.1 h i j hi hj hl g h1 h2
  · exact List.pairwise_iff_getElem.1 h j i hj hi hl g h2 h1
/-- A fresh row is put into an inner list. -/
theorem GrC.set (h : GrC ec ei s w0 vc gs) (hsp : Sep gs) (hi : i < gs.length) (hj : j < gs[i].2.length) (hvb : gs[i].1.ownBlock = some b) (x : Ext w0 w1) (hs : s ≤ w0.heap.size) (hu : Fr w0.heap.size w1 u xs) (c : Chg b w1 w2) (ho : Own ei b w2 gs[i].1 ((gs[i].2.map (·.1)).set j u)) :
    GrC ec ei s w2 vc (gs.set i (gs[i].1, gs[i].2.set j (u, xs))) ∧ Sep (gs.set i (gs[i].1, gs[i].2.set j (u, xs))) ∧ (∀ g, FC vc (gs.set i (gs[i].1, gs[i].2.set j (u, xs))) g → FC vc gs g ∨ (xs ≠ [] ∧ u.ownBlock = some g)) := by
  have k : Wrt (fun g => g = b) w1 w2 := .one (B := fun g => g = b) rfl c
  obtain ⟨kf, hkf, hfl⟩ := flat_set gs i hi j (u, xs) hj
  have hmi := List.getElem_mem hi
  have hbl := (h.inn _ hmi).lt b hvb
  have hub : ∀ g, xs ≠ [] → u.ownBlock = some g → w0.heap.size ≤ g := fun g hn e => by
    obtain ⟨k, e1, e2, _⟩ := hu.block hn
    rw [e] at e1; injection e1 with e1
    omega
  have hfn : ∀ g, BlkOf (flat (gs.set i (gs[i].1, gs[i].2.set j (u, xs)))) g → BlkOf (flat gs) g ∨ (xs ≠ [] ∧ u.ownBlock = some g) := fun g hg => by
    rw [hfl] at hg; exact blkOf_set hg
  have hsame : ∀ m, ∀ hm : m < (gs.set i (gs[i].1, gs[i].2.set j (u, xs))).length, ((gs.set i (gs[i].1, gs[i].2.set j (u, xs)))[m]).1 = (gs[m]'(by simpa using hm)).1 := fun m hm => by
    rw [List.getElem_set]
    split
    · rename_i e; subst e; rfl
    · rfl
  have hin : ∀ q, q ∈ gs.set i (gs[i].1, gs[i].2.set j (u, xs)) → ∃ m, ∃ hm : m < gs.length, q.1 = gs[m].1 := fun q hq => by
    obtain ⟨m, hm, rfl⟩ := List.getElem_of_mem hq
    exact ⟨m, by simpa using hm, hsame m hm⟩
  have hr := (RowsO.set h.rows hkf x hs hu).wr k fun g hg e => by
    subst e
    rcases blkOf_set hg with hg | ⟨hn, hg⟩
    · exact h.offi _ hmi g hvb hg
    · have := hub g hn hg; omega
  rw [← hfl] at hr
  have hmap : (gs.set i (gs[i].1, gs[i].2.set j (u, xs))).map (·.1) = gs.map (·.1) := by
    rw [List.map_set]
    refine List.ext_getElem (by simp) fun m h1 h2 => ?_
    rw [List.getElem_set]
    split
    · rename_i e; subst e; simp
    · rfl
  refine ⟨⟨?_, fun q hq => ?_, hr, fun g hg => ⟨fun hB => ?_, fun q hq e => ?_⟩, fun q hq g hg hB => ?_⟩, ?_, fun g hg => ?_⟩
  · rw [hmap]
    exact (@OwnN.ext _ _ _ _ _ _ x h.own).wr k fun g hg e => (h.off g hg).2 _ hmi (e ▸ hvb)
  · obtain ⟨m, hm, rfl⟩ := List.getElem_of_mem hq
    have hm' : m < gs.length := by simpa using hm
    rw [List.getElem_set]
    split
    · rename_i e; subst e
      rw [List.map_set]
      exact ho.toN.mono hbl.1
    · rename_i e
      exact (@OwnN.ext _ _ _ _ _ _ x (h.inn _ (List.getElem_mem hm'))).wr k fun g hg e2 => sep_ne hsp hi hm' e g (e2 ▸ hvb) hg
  · rcases hfn g hB with hB | ⟨hn, hB⟩
    · exact (h.off g hg).1 hB
    · have := hub g hn hB; have := (h.own.lt g hg).2; omega
  · obtain ⟨m, hm, e1⟩ := hin q hq
    rw [e1] at e
    exact (h.off g hg).2 _ (List.getElem_mem hm) e
  · obtain ⟨m, hm, e1⟩ := hin q hq
    rw [e1] at hg
    rcases hfn g hB with hB | ⟨hn, hB⟩
    · exact h.offi _ (List.getElem_mem hm) g hg hB
    · have := hub g hn hB; have := ((h.inn _ (List.getElem_mem hm)).lt g hg).2; omega
  · refine List.pairwise_iff_getElem.2 fun m n h1 h2 hmn => ?_
    rw [hsame m h1, hsame n h2]
    exact List.pairwise_iff_getElem.1 hsp m n (by simpa using h1) (by simpa using h2) hmn
  · rcases hg with hg | ⟨q, hq, hg⟩ | hg
    · exact .inl (.inl hg)
    · obtain ⟨m, hm, e1⟩ := hin q hq
      rw [e1] at hg
      exact .inl (.inr (.inl ⟨_, List.getElem_mem hm, hg⟩))
    · exact (hfn g hg).imp (fun h => .inr (.inr h)) id
theorem Tri.setC (h : Tri eo ep ec ei s w0 vo ord vp rp vc gs) (hsp : Sep gs) (hi : i < gs.length) (hj : j < gs[i].2.length) (hvb : gs[i].1.ownBlock = some b) (x : Ext w0 w1) (hu : Fr w0.heap.size w1 u xs) (c : Chg b w1 w2) (ho : Own ei b w2 gs[i].1 ((gs[i].2.map (·.1)).set j u)) :
    Tri eo ep ec ei s w2 vo ord vp rp vc (gs.set i (gs[i].1, gs[i].2.set j (u, xs))) ∧ Sep (gs.set i (gs[i].1, gs[i].2.set j (u, xs))) := by
  have h1 := h.ext x
  have k : Wrt (fun g => g = b) w1 w2 := .one (B := fun g => g = b) rfl c
  have hFb : FC vc gs b := .inr (.inl ⟨_, List.getElem_mem hi, hvb⟩)
  obtain ⟨hC, hS, hF⟩ := h.c.set hsp hi hj hvb x h.lo hu c ho
  have hub : ∀ g, xs ≠ [] → u.ownBlock = some g → w0.heap.size ≤ g := fun g hn e => by
    obtain ⟨k, e1, e2, _⟩ := hu.block hn
    rw [e] at e1; injection e1 with e1
    omega
  refine ⟨⟨h1.o.wr k fun g hg e => h.oc g hg (e ▸ hFb), h1.p.wr k fun g hg e => h.pc g hg (e ▸ hFb), hC, h.op, fun g hg hB => ?_, fun g hg hB => ?_, Nat.le_trans h1.lo c.size⟩, hS⟩
  · rcases hF g hB with hB | ⟨hn, hB⟩
    · exact h.oc g hg hB
    · have := hub g hn hB; have := (h.o.lt g hg).2; omega
  · rcases hF g hB with hB | ⟨hn, hB⟩
    · exact h.pc g hg hB
    · have := hub g hn hB; have := (h.p.lt hg).2; omega
theorem sep_nil : Sep [] := List.Pairwise.nil
theorem sep_push (h : Sep gs) (hl : ∀ q, q ∈ gs → ∀ g, q.1.ownBlock = some g → g < b) (hu : ∀ g, u.ownBlock = some g → b ≤ g) : Sep (gs ++ [(u, rs)]) :=
  List.pairwise_append.2 ⟨h, List.pairwise_singleton _ _, fun a ha c hc g h1 h2 => by
    rw [List.mem_singleton.1 hc] at h2
    have := hl a ha g h1
    have := hu g h2
    omega⟩
theorem Chg.gstep {bs : Nat} {v' : Value} {w5 w7 : World} (c : Chg bs w0 w5) (k : GStep w5 w7 v v') (hb : ∀ g, v.ownBlock = some g → w0.heap.size ≤ g) : Chg bs w0 w7 := by
  obtain ⟨w6, x, hg, _⟩ := k.ex
  exact (c.grow x).app hg hb
end
end Go.Pc

/-
  Lists that are written out: buildSlice of any number of parts, each of one cell.
  Conditions: none; nothing of the program stands here.
-/
namespace Go.Pc
open Go Go.RowKit
theorem fill_ones : ∀ (us : List Value) (k : Nat) (C : Array Value), (∀ u, u ∈ us → u.cells = #[u]) → k + us.length ≤ C.size → ∃ C' : Array Value, Instr.fill (fun i => some (i * 1, 1)) C ((us.zipIdx k).map fun x => (x.2, x.1)) = some C' ∧ C'.size = C.size ∧ ∀ j, C'[j]? = if k ≤ j ∧ j < k + us.length then us[j - k]? else C[j]?
  | [], k, C, _, _ => ⟨C, rfl, rfl, fun j => by rw [if_neg (by simp)]⟩
  | u :: us, k, C, hu, hk => by
    have h1 := hu u List.mem_cons_self
    have hk1 : k < C.size := by simp at hk; omega
    obtain ⟨C', e1, e2, e3⟩ := fill_ones us (k + 1) (C.setIfInBounds k u) (fun v hv => hu v (List.mem_cons_of_mem _ hv)) (by simp at hk ⊢; omega)
    refine ⟨C', ?_, by rw [e2]; simp, fun j => ?_⟩
    · rw [List.zipIdx_cons, List.map_cons, Instr.fill]
      simp only [Nat.mul_one, h1]
      rw [if_neg (by simp; omega)]
      simpa using e1
    · rw [e3 j]
      by_cases hj : k + 1 ≤ j ∧ j < k + 1 + us.length
      · rw [if_pos hj, if_pos (by simp; omega), show j - k = (j - (k + 1)) + 1 by omega, List.getElem?_cons_succ]
      · rw [if_neg hj]
        by_cases e : j = k
        · subst e
          rw [if_pos (by simp), Nat.sub_self, List.getElem?_cons_zero]
          simp [hk1]
        · rw [if_neg (by simp; omega), Array.getElem?_setIfInBounds]
          rw [if_neg (fun h => e h.symm)]
section
variable {P : Program} {N : Nat} {ops : Array Oper} {π : List Nat} {S : World → Prop} {K : Env → World → Prop} {ρ : Env} {w w0 w00 : World} {l : List Oper}
variable {i : Nat} {ty : TypeId} {pos : String} {after : Array Edge} {g : Option (Nat × Bool)} {d : Nat}
theorem run_sliceN {t e bytes n : Nat} {parts : Array (Nat × Operand)} {us : List Value} {z : Value} [ht : SlT P t e] [he : ElT P e 1 bytes z] (hp : parts.map (fun x => (x.1, ev ρ x.2)) = (us.zipIdx.map fun x => (x.2, x.1)).toArray) (hn : n = us.length) (hu : ∀ u, u ∈ us → u.cells = #[u]) (hz : z.cells = #[z]) (hl : n ≤ 1000) (w : World) :
    ∃ v w', Ex P (.buildSlice t n parts) ty ρ w v w' ∧ Ext w w' ∧ w'.heap.size = w.heap.size + 1 ∧ Own e w.heap.size w' v us := by
  subst hn
  obtain ⟨i, hi, hs, hby, hz'⟩ := he.ex
  have hC : ∃ C0 : Array Value, C0.size = us.length ∧ ∀ zc, (if us.length * 1 = 0 then zc = #[] else zc = z.cells) → ((Array.range (us.length * 1)).map (zc[· % zc.size]!)) = C0 := by
    by_cases h0 : us.length = 0
    · exact ⟨#[], by simp [h0], fun zc _ => by simp [h0]⟩
    · refine ⟨(Array.range us.length).map fun _ => z, by simp, fun zc hzc => ?_⟩
      rw [if_neg (by omega), hz] at hzc
      subst hzc
      refine Array.ext (by simp) fun j h1 h2 => ?_
      simp
      rw [Nat.mod_one]
      rfl
  obtain ⟨C0, hC1, hC2⟩ := hC
  obtain ⟨C', e1, e2, e3⟩ := fill_ones us 0 C0 hu (by omega)
  have hCe : C' = us.toArray := by
    refine Array.ext (by simp; omega) fun j h1 h2 => ?_
    have h3 : j < us.length := by simpa using h2
    have h4 := e3 j
    rw [if_pos ⟨Nat.zero_le _, by omega⟩, Nat.sub_zero] at h4
    simpa [h1, h3] using h4
  subst hCe
  refine ⟨.slice (some ⟨w.heap.size, 0, none⟩) us.length us.length, w.alloc (.cells us.toArray e), ⟨fun _ _ _ _ => ?_⟩, Ext.alloc _ _, by simp, own_alloc w us e (by simp only [maxLen]; omega)⟩
  have hpp : parts.map (fun x : Nat × Operand => match x with | (i, x) => (i, ev ρ x)) = (us.zipIdx.map fun x => (x.2, x.1)).toArray := hp
  by_cases h0 : us.length = 0
  · have h00 : us = [] := List.eq_nil_of_length_eq_zero h0
    subst h00
    simp only [List.length_nil] at *
    have hq := hC2 #[] (by simp)
    simp only [execOp, hpp]
    simp [Instr.buildSlice, run_underlying ht.eq, sizeOf, typeInfo, hi, hs, Instr.fill, newRow]
    exact congrArg (fun a => w.alloc (Obj.cells a e)) (Array.eq_empty_of_size_eq_zero (by simp))
  · have hq := hC2 z.cells (by rw [if_neg (by omega)])
    simp only [execOp, hpp]
    simp only [Nat.mul_one] at hq e1
    simp [Instr.buildSlice, run_underlying ht.eq, sizeOf, typeInfo, hi, hs, zeroValue, hz', h0, show ¬ 2 ^ 24 < us.length by omega, hq, e1, newRow]
theorem st_sliceN {t e bytes n : Nat} {parts : Array (Nat × Operand)} {us : List Value} {z : Value} [ht : SlT P t e] [he : ElT P e 1 bytes z] (next : ∀ w' v, Ext w w' → w'.heap.size = w.heap.size + 1 → Own e w.heap.size w' v us → rops P N ops K l (put ρ d v) w')
    (hp : parts.map (fun x => (x.1, ev ρ x.2)) = (us.zipIdx.map fun x => (x.2, x.1)).toArray := by ((try simp only [ev_tmp, ev_const, ev_func, get_put, get_args, get_putL, get_putL_nil, Nat.reduceEqDiff, reduceIte, List.getD_cons_zero, List.getD_cons_succ, List.getD_nil, List.map_toArray, List.map_cons, List.map_nil]); rfl)) (hn : n = us.length := by rfl) (hu : ∀ u, u ∈ us → u.cells = #[u] := by repeat' (first | exact List.forall_mem_nil _ | refine List.forall_mem_cons.2 ⟨rfl, ?_⟩)) (hz : z.cells = #[z] := by rfl) (hl : n ≤ 1000 := by decide) (hg : Wants ops ρ g := by first | exact True.intro | exact ⟨_, rfl, by ((try simp only [ev_tmp, ev_const, ev_func, get_put, get_args, get_putL, get_putL_nil, Nat.reduceEqDiff, reduceIte, List.getD_cons_zero, List.getD_cons_succ, List.getD_nil, Bool.not_true, Bool.not_false]); first | done | with_reducible rfl)⟩) :
    rops P N ops K (⟨some d, .buildSlice t n parts, ty, pos, after, g⟩ :: l) ρ w := by
  obtain ⟨v, w', h1, h2, h3, h4⟩ := run_sliceN (P := P) (ρ := ρ) (ty := ty) (t := t) hp hn hu hz hl w
  exact st_ex hg h1 (next w' v h2 h3 h4)
theorem z_sliceN {b t e bytes n : Nat} {parts : Array (Nat × Operand)} {us : List Value} {z : Value} [ht : SlT P t e] [he : ElT P e 1 bytes z] (next : ∀ w' v, Ext w w' → w'.heap.size = w.heap.size + 1 → Own e w.heap.size w' v us → dops P N ops π (Chg b w00) K (i + 1) (put ρ d v) w')
    (hi : opAt ops π i = some ⟨some d, .buildSlice t n parts, ty, pos, after, g⟩ := by exact rfl) (hp : parts.map (fun x => (x.1, ev ρ x.2)) = (us.zipIdx.map fun x => (x.2, x.1)).toArray := by ((try simp only [ev_tmp, ev_const, ev_func, get_put, get_args, get_putL, get_putL_nil, Nat.reduceEqDiff, reduceIte, List.getD_cons_zero, List.getD_cons_succ, List.getD_nil, List.map_toArray, List.map_cons, List.map_nil]); rfl)) (hn' : n = us.length := by rfl) (hu : ∀ u, u ∈ us → u.cells = #[u] := by repeat' (first | exact List.forall_mem_nil _ | refine List.forall_mem_cons.2 ⟨rfl, ?_⟩)) (hz : z.cells = #[z] := by rfl) (hl : n ≤ 1000 := by decide)
    (hn : nextOk ops π i = true := by decide +kernel) (hd : d < N := by decide) (hg : Wants ops ρ g := by first | exact True.intro | exact ⟨_, rfl, by ((try simp only [ev_tmp, ev_const, ev_func, get_put, get_args, get_putL, get_putL_nil, Nat.reduceEqDiff, reduceIte, List.getD_cons_zero, List.getD_cons_succ, List.getD_nil, Bool.not_true, Bool.not_false]); first | done | with_reducible rfl)⟩) : dops P N ops π (Chg b w00) K i ρ w := by
  obtain ⟨v, w', h1, h2, h3, h4⟩ := run_sliceN (P := P) (ρ := ρ) (ty := ty) (t := t) hp hn' hu hz hl w
  exact dt_ex hi hn hd hg h1 (fun hS => hS.grow h2) (next w' v h2 h3 h4)
end
end Go.Pc

/-
  Presentations of the call's own whose lists have the lengths of a presentation's.
  Conditions: none.
-/
namespace Go.Proofs.Ytflniifngfiekaa
open Go Go.Pc
abbrev RL := List (Value × List Int)
/-- The lengths of the lists of a presentation. -/
structure Sh3 (ord : List Int) (rp : RL) (gs : List (Value × RL)) : Prop where
  lp : rp.length = ord.length
  lg : gs.length = ord.length
  li : ∀ i (h : i < gs.length), gs[i].2.length = ord.length - 1 - i
  lr : ∀ r, r ∈ rp → r.2.length = ord.length
  lc : ∀ q, q ∈ gs → ∀ r, r ∈ q.2 → r.2.length = ord.length
/-- A presentation of the call's own, apart from some blocks. -/
structure O3 (X : Nat → Prop) (s : Nat) (w : World) (vo vp vc : Value) (ord : List Int) (rp : RL) (gs : List (Value × RL)) : Prop where
  tri : Tri 2 24 25 24 s w vo ord vp rp vc gs
  sep : Pc.Sep gs
  off : ∀ b, F3 vo vp rp vc gs b → ¬ X b
def prOf (ord : List Int) (rp : RL) (gs : List (Value × RL)) : Pr := ⟨ord, rp.map (·.2), gs.map fun q => q.2.map (·.2)⟩
section
variable {X Y B : Nat → Prop} {s s' b i j : Nat} {w w' w0 w1 w2 : World} {v u vo vp vc vo' vp' vc' : Value} {xs ord : List Int} {rp rs : RL} {gs : List (Value × RL)}
theorem O3.wr (h : O3 X s w vo vp vc ord rp gs) (k : Wrt B w w') (hB : ∀ b, B b → X b ∨ b < s) : O3 X s w' vo vp vc ord rp gs :=
  ⟨h.tri.wrd k fun b hb hb' => by
    rcases hB b hb' with h1 | h1
    · exact h.off b hb h1
    · have := (h.tri.f3 hb).1; omega, h.sep, h.off⟩
theorem O3.ext (h : O3 X s w vo vp vc ord rp gs) (x : Ext w w') : O3 X s w' vo vp vc ord rp gs := h.wr (.ofExt (B := fun _ => False) x) fun b hb => hb.elim
theorem O3.chg (h : O3 X s w vo vp vc ord rp gs) (c : Chg b w w') (hb : X b ∨ b < s) : O3 X s w' vo vp vc ord rp gs := h.wr (.one (B := fun g => g = b) rfl c) fun g e => e ▸ hb
theorem O3.weak (h : O3 X s w vo vp vc ord rp gs) (hY : ∀ b, Y b → X b ∨ b < s ∨ w.heap.size ≤ b) : O3 Y s w vo vp vc ord rp gs :=
  ⟨h.tri, h.sep, fun b hb hb' => by
    have := h.tri.f3 hb
    rcases hY b hb' with h1 | h1 | h1
    · exact h.off b hb h1
    · omega
    · omega⟩
theorem O3.pres (h : O3 X s w vo vp vc ord rp gs) : Pres s w.heap.size w (.agg #[vo, vp, vc]) (prOf ord rp gs) := h.tri.pres.pres
theorem O3.ints (h : O3 X s w vo vp vc ord rp gs) : Ints s w.heap.size w vo ord := h.tri.o.toFr.ints
theorem O3.rows (h : O3 X s w vo vp vc ord rp gs) : Pc.Rows s w.heap.size w vp (rp.map (·.1)) (rp.map (·.2)) := Pc.Rows.ofOwn h.tri.p.own h.tri.p.rows.fr h.tri.lo
theorem O3.rowss (h : O3 X s w vo vp vc ord rp gs) : Pc.Rowss s w.heap.size w vc (gs.map (·.1)) (gs.map fun q => q.2.map (·.1)) (gs.map fun q => q.2.map (·.2)) := h.tri.rowss
theorem O3.lo (h : O3 X s w vo vp vc ord rp gs) : s ≤ w.heap.size := h.tri.lo
theorem O3.one3 (h : O3 X s w vo vp vc ord rp gs) : ([vo, vp, vc] : List Value).all (·.oneCell') = true := by
  have o := h.pres.one3
  simp [o.1, o.2.1, o.2.2]
/-- The spine of the powers. -/
theorem O3.ownP (h : O3 X s w vo vp vc ord rp gs) (hn : rp ≠ []) : ∃ b, s ≤ b ∧ ¬ X b ∧ vp.ownBlock = some b ∧ Own 24 b w vp (rp.map (·.1)) := by
  obtain ⟨b, h1, h2, h3⟩ := h.tri.p.own.toOwn (by simpa using hn)
  exact ⟨b, h1, h.off b (.inr (.inl (.inl h2))), h2, h3⟩
theorem O3.setP (h : O3 X s w0 vo vp vc ord rp gs) (hi : i < rp.length) (hvb : vp.ownBlock = some b) (x : Ext w0 w1) (hu : Fr w0.heap.size w1 u xs) (hX : ∀ b, X b → b < w0.heap.size) (c : Chg b w1 w2) (ho : Own 24 b w2 vp ((rp.map (·.1)).set i u)) : O3 X s w2 vo vp vc ord (rp.set i (u, xs)) gs := by
  refine ⟨h.tri.setP hi hvb x hu c ho, h.sep, fun g hg hx => ?_⟩
  rcases hg with hg | hg | hg
  · exact h.off g (.inl hg) hx
  · rcases FL.set hg with hg | ⟨hn, hg⟩
    · exact h.off g (.inr (.inl hg)) hx
    · obtain ⟨k, e1, e2, _⟩ := hu.block hn
      rw [hg] at e1; injection e1 with e1
      have := hX g hx; omega
  · exact h.off g (.inr (.inr hg)) hx
/-- The spine of one list of conjugates. -/
theorem O3.ownC (h : O3 X s w vo vp vc ord rp gs) (hi : i < gs.length) (hn : gs[i].2 ≠ []) : ∃ b, s ≤ b ∧ ¬ X b ∧ gs[i].1.ownBlock = some b ∧ Own 24 b w gs[i].1 (gs[i].2.map (·.1)) := by
  obtain ⟨b, h1, h2, h3⟩ := (h.tri.c.inn _ (List.getElem_mem hi)).toOwn (by simpa using hn)
  exact ⟨b, h1, h.off b (.inr (.inr (.inr (.inl ⟨_, List.getElem_mem hi, h2⟩)))), h2, h3⟩
theorem O3.setC (h : O3 X s w0 vo vp vc ord rp gs) (hi : i < gs.length) (hj : j < gs[i].2.length) (hvb : gs[i].1.ownBlock = some b) (x : Ext w0 w1) (hu : Fr w0.heap.size w1 u xs) (hX : ∀ b, X b → b < w0.heap.size) (c : Chg b w1 w2) (ho : Own 24 b w2 gs[i].1 ((gs[i].2.map (·.1)).set j u)) : O3 X s w2 vo vp vc ord rp (gs.set i (gs[i].1, gs[i].2.set j (u, xs))) := by
  obtain ⟨h1, h2⟩ := h.tri.setC h.sep hi hj hvb x hu c ho
  obtain ⟨_, _, hF⟩ := h.tri.c.set h.sep hi hj hvb x h.lo hu c ho
  refine ⟨h1, h2, fun g hg hx => ?_⟩
  rcases hg with hg | hg | hg
  · exact h.off g (.inl hg) hx
  · exact h.off g (.inr (.inl hg)) hx
  · rcases hF g hg with hg | ⟨hn, hg⟩
    · exact h.off g (.inr (.inr hg)) hx
    · obtain ⟨k, e1, e2, _⟩ := hu.block hn
      rw [hg] at e1; injection e1 with e1
      have := hX g hx; omega
theorem O3.pushP (h : O3 X s w0 vo vp vc ord rp gs) (x01 : Ext w0 w1) (hu : Fr w0.heap.size w1 u xs) (hG : GrowL 24 s w2 vp' (rp ++ [(u, xs)])) (hst : Pc.GStep w1 w2 vp vp') (hX : ∀ b, X b → b < w0.heap.size) : O3 X s w2 vo vp' vc ord (rp ++ [(u, xs)]) gs := by
  refine ⟨h.tri.pushP x01 hu hG hst, h.sep, fun g hg hx => ?_⟩
  rcases hg with hg | hg | hg
  · exact h.off g (.inl hg) hx
  · rcases FL.push hu x01 hst hg with hg | hg
    · exact h.off g (.inr (.inl hg)) hx
    · have := hX g hx; omega
  · exact h.off g (.inr (.inr hg)) hx
theorem O3.pushC (h : O3 X s w0 vo vp vc ord rp gs) (x01 : Ext w0 w1) (hL : GrL 24 w0.heap.size w1 u rs) (hO : OwnN 25 s w2 vc' (gs.map (·.1) ++ [u])) (hst : Pc.GStep w1 w2 vc vc') (hX : ∀ b, X b → b < w0.heap.size) : O3 X s w2 vo vp vc' ord rp (gs ++ [(u, rs)]) := by
  obtain ⟨w5, x5, hg, ha⟩ := hst.ex
  refine ⟨h.tri.pushC x01 hL x5 hO hg ha, sep_push (b := w0.heap.size) h.sep (fun q hq g hb => ((h.tri.c.inn q hq).lt g hb).2) (fun g hb => (hL.own.lt g hb).1), fun g hg hx => ?_⟩
  rcases hg with hg | hg | hg
  · exact h.off g (.inl hg) hx
  · exact h.off g (.inr (.inl hg)) hx
  · rcases FC.push hL x01 x5 ha hg with hg | hg
    · exact h.off g (.inr (.inr hg)) hx
    · have := hX g hx; omega
theorem O3.start (ho : OwnN 2 s w vo (ord.map (Value.int .i64))) (hs : s ≤ w.heap.size) (hX : ∀ b, X b → b < s ∨ w.heap.size ≤ b) : O3 X s w vo nilv nilv ord [] [] := by
  have hn : ∀ b, ¬ FL nilv [] b := fun b hb => by
    rcases hb with hb | ⟨r, hr, _⟩
    · cases hb
    · cases hr
  have hn2 : ∀ b, ¬ FC nilv [] b := fun b hb => by
    rcases hb with hb | ⟨q, hq, _⟩ | ⟨r, hr, _⟩
    · cases hb
    · cases hq
    · cases hr
  refine ⟨⟨ho, ⟨OwnN.nil _ _ _, RowsO.nil _ _, fun b h => (by cases h)⟩, GrC.nil _ _ _ _, fun b _ h => hn b h, fun b _ h => hn2 b h, fun b h => (hn b h).elim, hs⟩, sep_nil, fun b hb hx => ?_⟩
  rcases hb with hb | hb | hb
  · have := ho.lt b hb
    rcases hX b hx with h1 | h1 <;> omega
  · exact hn b hb
  · exact hn2 b hb
theorem Sh3.setP (h : Sh3 ord rp gs) (hl : xs.length = ord.length) : Sh3 ord (rp.set i (u, xs)) gs :=
  ⟨by simp [h.lp], h.lg, h.li, fun r hr => by
    rcases List.mem_or_eq_of_mem_set hr with hr | rfl
    · exact h.lr r hr
    · exact hl, h.lc⟩
theorem Sh3.setC (h : Sh3 ord rp gs) (hi : i < gs.length) (hl : xs.length = ord.length) : Sh3 ord rp (gs.set i (gs[i].1, gs[i].2.set j (u, xs))) :=
  ⟨h.lp, by simp [h.lg], fun k hk => by
    have hk' : k < gs.length := by simpa using hk
    rw [List.getElem_set]
    split
    · rename_i e; subst e
      have := h.li i hi
      simpa using this
    · exact h.li k hk', h.lr, fun q hq r hr => by
    rcases List.mem_or_eq_of_mem_set hq with hq | rfl
    · exact h.lc q hq r hr
    · rcases List.mem_or_eq_of_mem_set hr with hr | rfl
      · exact h.lc _ (List.getElem_mem hi) r hr
      · exact hl⟩
/-- The lengths, of a presentation. -/
structure ShP (p : Pr) : Prop where
  pow : p.pow.length = p.ord.length
  cnj : p.cnj.length = p.ord.length
  cnji : ∀ i, i < p.ord.length → (p.cnj.getD i []).length = p.ord.length - 1 - i
  pl : ∀ i, i < p.ord.length → (p.pow.getD i []).length = p.ord.length
  cl : ∀ i j, i < p.ord.length → j < p.ord.length - 1 - i → ((p.cnj.getD i []).getD j []).length = p.ord.length
theorem Sh3.shP (h : Sh3 ord rp gs) : ShP (prOf ord rp gs) := by
  refine ⟨by simp [prOf, h.lp], by simp [prOf, h.lg], fun i hi => ?_, fun i hi => ?_, fun i j hi hj => ?_⟩
  · have hi' : i < gs.length := by rw [h.lg]; exact hi
    have := h.li i hi'
    simp [prOf, hi', this]
  · have hi' : i < rp.length := by rw [h.lp]; exact hi
    simpa [prOf, hi'] using h.lr _ (List.getElem_mem hi')
  · have hi' : i < gs.length := by rw [h.lg]; exact hi
    have hj' : j < gs[i].2.length := by rw [h.li i hi']; exact hj
    simpa [prOf, hi', hj'] using h.lc _ (List.getElem_mem hi') _ (List.getElem_mem hj')
end
end Go.Proofs.Ytflniifngfiekaa

/-
  More rules: lists put together ('append(u, v...)', slices.Grow), in plain and in drawn regions.
  Conditions: none; nothing of the program stands here.
-/
namespace Go.Pc
open Go Go.RowKit
section
variable {av : Nat → Prop} {e base : Nat} {w w' : World} {v v' : Value} {us vs : List Value} {xss yss : List (List Int)}
theorem RowsAp.append (h : RowsAp av w us xss) (k : RowsAp av w vs yss) : RowsAp av w (us ++ vs) (xss ++ yss) := by
  refine ⟨by simp [h.len, k.len], fun i => ?_⟩
  by_cases hi : i < us.length
  · have e1 : (us ++ vs).getD i nilv = us.getD i nilv := by simp [List.getElem?_append_left hi]
    have e2 : (xss ++ yss).getD i [] = xss.getD i [] := by simp [List.getElem?_append_left (show i < xss.length by rw [← h.len]; exact hi)]
    rw [e1, e2]; exact h.at_ i
  · have e1 : (us ++ vs).getD i nilv = vs.getD (i - us.length) nilv := by simp [List.getElem?_append_right (Nat.le_of_not_lt hi)]
    have e2 : (xss ++ yss).getD i [] = yss.getD (i - us.length) [] := by rw [h.len]; simp [List.getElem?_append_right (show xss.length ≤ i by rw [← h.len]; omega)]
    rw [e1, e2]; exact k.at_ _
end
section
variable {P : Program} {N : Nat} {ops : Array Oper} {π : List Nat} {K : Env → World → Prop} {ρ : Env} {w w0 w1 : World} {l : List Oper}
variable {i : Nat} {ty : TypeId} {pos : String} {after : Array Edge} {g : Option (Nat × Bool)} {d : Nat}
theorem rd_cap_nil {x : Operand} {t e : Nat} (h : ev ρ x = nilv) [ht : SlT P t e] : Rd P (.call { callee := .builtin .cap, args := #[x], argTypes := #[t] }) ty ρ w (.int .i64 0) := by
  constructor; intro _ _ _ _
  simp [execOp, resolve, invoke, builtin, h, Builtin.cap_, run_underlying ht.eq, goInt, IntWalk.i64_in]
/-- append(nil, make(.., n)...): then cut to no element. -/
theorem st_appz {t tn e bytes n : Nat} {z : Value} {s x : Operand} [ht : SlT P t e] [he : ElT P e 1 bytes z] (htn : P.underlying tn = some (.int .i64)) (hs : ev ρ s = nilv) (hx : ev ρ x = .int .i64 n) (hn : 0 < n) (hn2 : n ≤ 1000000) (hby : bytes ≤ 100) (hz : z.cells = #[z]) (hg : Wants ops ρ g)
    (next : ∀ w' v, Ext w w' → Len w' v n → Own e w.heap.size w' (cutTo v 0) [] → rops P N ops K l (put ρ d v) w') : rops P N ops K (⟨some d, .call { callee := .builtin .append, args := #[s, x], argTypes := #[t, tn] }, ty, pos, after, g⟩ :: l) ρ w := by
  obtain ⟨i, hi, hsz, hbt, hz'⟩ := he.ex
  have hb : n * i.bytes ≤ 1000000 * 100 := Nat.mul_le_mul hn2 (by omega)
  have hr := Lib.run_append_nil_zeros (P := P) w t tn ty e i z .i64 .i64 ht.eq htn hi hz' n hn (by omega) (by omega) (by omega)
  have hcap := grownCap_ge w n 0 e
  have hcm : grownCap w n 0 e ≤ maxLen := grownCap_le_maxLen w _ 0 e (by simp [maxLen]; omega)
  refine st_ex (v := .slice (some ⟨w.heap.size, 0, none⟩) n (grownCap w n 0 e)) (w' := w.drew.alloc (.cells (Builtin.zeroCells z.cells n ++ Builtin.zeroCells z.cells (grownCap w n 0 e - n)) e)) hg ⟨fun _ _ _ _ => ?_⟩ (next _ _ ((Ext.drew w).trans (Ext.alloc _ _)) ⟨⟨_, _, rfl, hcap, by simp only [maxLen] at hcm; omega, fun _ => ⟨_, rfl⟩⟩⟩ ?_)
  · simp [execOp, resolve, invoke, builtin, hs, hx, hr]
  · refine ⟨_, _, rfl, heap_alloc_new w.drew _, Nat.zero_le _, hcm, ?_, rfl⟩
    simp [size_zeroCells, hz]; omega
/-- An append to a list that is new since the drawn region began. -/
theorem d_append {s x : Operand} {t e bytes lo hi' base : Nat} {z v y : Value} {us news : List Value} [ht : SlT P t e] [he : ElT P e 1 bytes z] [hv : OwnN e base w v us] [hy : Sl lo hi' w y news] (hi : opAt ops π i = some ⟨some d, .call { callee := .builtin .append, args := #[s, x], argTypes := #[t, t] }, ty, pos, after, g⟩ := by exact rfl)
    (hs : ev ρ s = v) (hx : ev ρ x = y) (hz : z.cells.size = 1) (h1 : ∀ u ∈ news, u.oneCell' = true) (hb : (us.length + news.length) * bytes ≤ 140737488355328) (hl : us.length + news.length ≤ maxLen) (hbase : base ≤ w.heap.size) (hvb : ∀ g, v.ownBlock = some g → w0.heap.size ≤ g)
    (next : ∀ v' w', OwnN e base w' v' (us ++ news) → w.grownBy w' v.ownBlock → (v'.ownBlock = v.ownBlock ∨ v'.ownBlock = some w.heap.size) → dops P N ops π (Ext w0) K (i + 1) (put ρ d v') w')
    (hn : nextOk ops π i = true := by decide +kernel) (hd : d < N := by decide) (hg : Wants ops ρ g := by first | exact True.intro | exact ⟨_, rfl, by ((try simp only [ev_tmp, ev_const, ev_func, get_put, get_args, get_putL, get_putL_nil, Nat.reduceEqDiff, reduceIte, List.getD_cons_zero, List.getD_cons_succ, List.getD_nil, Bool.not_true, Bool.not_false]); first | done | with_reducible rfl)⟩) :
    dops P N ops π (Ext w0) K i ρ w := by
  obtain ⟨v', w', hrun, h2, h3, h4⟩ := run_append (P := P) (ty := ty) ht.eq he hz hv hy h1 hb hl hbase
  have hex : Ex P (.call { callee := .builtin .append, args := #[s, x], argTypes := #[t, t] }) ty ρ w v' w' := by
    constructor; intro _ _ _ _
    simp [execOp, resolve, invoke, builtin, hs, hx, hrun]
  exact dt_ex hi hn hd hg hex (fun hS => hS.app h3 hvb) (next v' w' h2 h3 h4)
end
end Go.Pc

/-
  'append(u, make([]T, n)...)' to a list of the call's own: zeros are put behind it.
  Conditions: none; nothing of the program stands here.
-/
namespace Go.Pc
open Go Go.RowKit
section
variable {P : Program} {N : Nat} {ops : Array Oper} {K : Env → World → Prop} {ρ : Env} {w : World} {l : List Oper}
variable {ty : TypeId} {pos : String} {after : Array Edge} {g : Option (Nat × Bool)} {d : Nat}
theorem zeroCells_one {z : Value} (hz : z.cells = #[z]) (n : Nat) : Builtin.zeroCells z.cells n = (List.replicate n z).toArray := by
  rw [hz]
  refine Array.ext (by simp [Builtin.zeroCells]) fun j h1 h2 => ?_
  simp [Builtin.zeroCells, Nat.mod_one]
theorem run_appz {t tn e bytes n base : Nat} {z v : Value} {us : List Value} (ht : P.underlying t = some (.slice e)) (htn : P.underlying tn = some (.int .i64)) (he : ElT P e 1 bytes z) (hz : z.cells = #[z]) (h1 : z.oneCell' = true) (hv : OwnN e base w v us) (hn2 : us.length + n ≤ 1000000) (hby : bytes ≤ 100) (hbase : base ≤ w.heap.size) :
    ∃ v' w', (Builtin.append_ #[t, tn] ty #[v, .int .i64 n]).run P w = .ok v' w' ∧ OwnN e base w' v' (us ++ List.replicate n z) ∧ w.grownBy w' v.ownBlock ∧ (v'.ownBlock = v.ownBlock ∨ v'.ownBlock = some w.heap.size) := by
  obtain ⟨i, hi, hsz, hbt, hz'⟩ := he.ex
  have hb : (us.length + n) * i.bytes ≤ 1000000 * 100 := Nat.mul_le_mul hn2 (by omega)
  have hbn : n * i.bytes ≤ 1000000 * 100 := Nat.mul_le_mul (by omega) (by omega)
  have hw : IntKind.i64.wrap (n : Int) = n := by rw [IntKind.wrap_i64]; omega
  have hzn := zeroCells_one hz n
  have h48i : ¬ (281474976710656 < (n : Int) * (i.bytes : Int)) := by rw [← Int.natCast_mul]; omega
  by_cases h0 : n = 0
  · subst h0
    have hw0 : IntKind.i64.wrap 0 = 0 := by decide
    refine ⟨v, w, ?_, by simpa using hv, World.grownBy.refl w _, .inl rfl⟩
    rcases hv.own.2 with ⟨rfl, _⟩ | ⟨gb, cap, cur, rfl, _, _, hnc, _⟩
    · simp [Builtin.append_, run_underlying ht, run_underlying htn, sizeOf, typeInfo, hi, asInt, asIntOf, hw0]
    · simp [Builtin.append_, run_underlying ht, run_underlying htn, sizeOf, typeInfo, hi, asInt, asIntOf, hw0, hnc, storeCells]
  have h63 : us.length + n ≤ maxLen := by simp only [maxLen]; omega
  have grown : ∀ (old : Nat), old < us.length + n → ∀ (row : Option Nat), OwnN e base (w.drew.alloc (.cells (us.toArray ++ (List.replicate n z).toArray ++ Builtin.zeroCells z.cells (grownCap w (us.length + n) old e - (us.length + n))) e)) (.slice (some ⟨w.heap.size, 0, none⟩) (us.length + n) (grownCap w (us.length + n) old e)) (us ++ List.replicate n z) ∧
      w.grownBy (w.drew.alloc (.cells (us.toArray ++ (List.replicate n z).toArray ++ Builtin.zeroCells z.cells (grownCap w (us.length + n) old e - (us.length + n))) e)) row := by
    intro old ho row
    have hge := grownCap_ge w (us.length + n) old e
    have hcm : grownCap w (us.length + n) old e ≤ maxLen := grownCap_le_maxLen w (us.length + n) old e h63
    refine ⟨⟨⟨by simp, .inr ⟨w.heap.size, _, _, by simp, hbase, heap_alloc_new w.drew _, by simp; omega, hcm, ?_, ?_⟩⟩⟩, ⟨rfl, rfl, rfl, by simp, fun k hk _ => heap_alloc_old w.drew _ hk⟩⟩
    · simp only [Array.size_append, List.size_toArray, size_zeroCells, hz, List.length_replicate, List.length_cons, List.length_nil, Nat.zero_add, Nat.mul_one]
      omega
    · simp only [Array.toList_append, List.append_assoc]
      rw [← List.append_assoc, show (us ++ List.replicate n z).length * 1 = (us ++ List.replicate n z).length by omega]
      exact List.take_left
  rcases hv.own.2 with ⟨rfl, hl0⟩ | ⟨gb, cap, cur, rfl, hbg, hgb, hnc, hcm, hcs, htake⟩
  · have hus : us = [] := List.eq_nil_of_length_eq_zero hl0
    subst hus
    have hr := Lib.run_append_nil_zeros (P := P) w t tn ty e i z .i64 .i64 ht htn hi hz' n (by omega) (by omega) (by omega) (by omega)
    have hg := grown 0 (by simp; omega) (Value.ownBlock (.slice none 0 0))
    simp only [List.length_nil, Nat.zero_add, List.nil_append, ← hzn, Array.empty_append] at hg hr ⊢
    exact ⟨_, _, hr, hg.1, hg.2, .inr rfl⟩
  · by_cases hroom : us.length + n ≤ cap
    · have hst := run_storeCells_at P gb us.length e (List.replicate n z) 0 cur w hgb (by simp; omega) (fun u hu => by rw [(List.mem_replicate.1 hu).2]; exact h1)
      simp only [Nat.add_zero] at hst
      have hneg : ¬ ((n : Int) < 0) := by omega
      refine ⟨.slice (some ⟨gb, 0, none⟩) (us.length + n) cap, w.setRow gb (cur.toList.take us.length ++ List.replicate n z ++ cur.toList.drop (us.length + (List.replicate n z).length)).toArray, ?_, ⟨⟨by simp, .inr ⟨gb, cap, _, by simp, hbg, setRow_heap w gb cur _ e _ hgb, by simp; omega, hcm, ?_, ?_⟩⟩⟩, ⟨rfl, rfl, rfl, by simp, fun k _ hk => setRow_other w gb k _ (fun e => hk (by simp [Value.ownBlock, e]))⟩, .inl rfl⟩
      · simp [Builtin.append_, run_underlying ht, run_underlying htn, sizeOf, typeInfo, zeroValue, hi, hz', hsz, asInt, asIntOf, hw, hneg, h48i, h0, hroom, hzn, Addr.add_lit]
        simp at hst
        simp [hst]
      · simp only [List.size_toArray, List.length_append, List.length_take, List.length_drop, Array.length_toList, List.length_replicate]
        omega
      · have : us.length * 1 = us.length := by omega
        rw [this] at htake
        rw [htake]
        simp only [List.length_append]
        rw [show (us.length + (List.replicate n z).length) * 1 = (us ++ List.replicate n z).length by simp]
        exact List.take_left
    · have holds : ∀ j u, us[j]? = some u → w.drew.cell? ((⟨gb, 0, none⟩ : Addr).add j) = some u := fun j u hu => by
        have := hv.own.cells (g := gb) rfl j u hu
        simpa using this
      have hfc := run_firstCells_some (P := P) w.drew i.size us.length ⟨gb, 0, none⟩ us.length cap us (by rw [hsz]; omega) holds
      have hr := Lib.run_append_grow_zeros (P := P) w t tn ty e i z .i64 .i64 ht htn hi hz' (some ⟨gb, 0, none⟩) us.length cap us hfc n (by omega) (by omega) (by omega) (by omega) (by omega) (growslice_fits (by omega) (by omega))
      have hg := grown cap (by omega) (Value.ownBlock (.slice (some ⟨gb, 0, none⟩) us.length cap))
      rw [hzn] at hr
      exact ⟨_, _, hr, hg.1, hg.2, .inr rfl⟩
theorem st_appz2 {t tn e bytes n base : Nat} {z v : Value} {us : List Value} {s x : Operand} [ht : SlT P t e] [he : ElT P e 1 bytes z] (hv : OwnN e base w v us) (hbase : base ≤ w.heap.size) (hn2 : us.length + n ≤ 1000000)
    (next : ∀ v' w', OwnN e base w' v' (us ++ List.replicate n z) → (∀ wb, Ext wb w → wb.heap.size ≤ base → Ext wb w') → rops P N ops K l (put ρ d v') w')
    (htn : P.underlying tn = some (.int .i64) := by kernel_rfl) (hs : ev ρ s = v := by ((try simp only [ev_tmp, ev_const, ev_func, get_put, get_args, get_putL, get_putL_nil, Nat.reduceEqDiff, reduceIte, List.getD_cons_zero, List.getD_cons_succ, List.getD_nil]); first | done | with_reducible rfl)) (hx : ev ρ x = .int .i64 n := by ((try simp only [ev_tmp, ev_const, ev_func, get_put, get_args, get_putL, get_putL_nil, Nat.reduceEqDiff, reduceIte, List.getD_cons_zero, List.getD_cons_succ, List.getD_nil]); first | done | with_reducible rfl)) (hz : z.cells = #[z] := by rfl) (h1 : z.oneCell' = true := by rfl) (hby : bytes ≤ 100 := by decide) (hg : Wants ops ρ g := by first | exact True.intro | exact ⟨_, rfl, by ((try simp only [ev_tmp, ev_const, ev_func, get_put, get_args, get_putL, get_putL_nil, Nat.reduceEqDiff, reduceIte, List.getD_cons_zero, List.getD_cons_succ, List.getD_nil, Bool.not_true, Bool.not_false]); first | done | with_reducible rfl)⟩) :
    rops P N ops K (⟨some d, .call { callee := .builtin .append, args := #[s, x], argTypes := #[t, tn] }, ty, pos, after, g⟩ :: l) ρ w := by
  obtain ⟨v', w', hrun, h2, h3, h4⟩ := run_appz (P := P) (ty := ty) ht.eq htn he hz h1 hv hn2 hby hbase
  have hex : Ex P (.call { callee := .builtin .append, args := #[s, x], argTypes := #[t, tn] }) ty ρ w v' w' := by
    constructor; intro _ _ _ _
    simp [execOp, resolve, invoke, builtin, hs, hx, hrun]
  exact st_ex hg hex (next v' w' h2 fun wb hb1 hb2 => hb1.app h3 (fun k hk => by have := (hv.lt k hk).1; omega))
end
end Go.Pc

/-
  Walks: the reference's l07Trivial, l01Own with its list's ownership.
  Conditions: stated at each theorem.
-/
namespace Go.Proofs.Ytflniifngfiekaa
open Go Go.Pc
section
variable {P : Program} {N : Nat} {ops : Array Oper} {π : List Nat} {S : World → Prop} {K : Env → World → Prop} {ρ : Env} {w w0 w00 : World}
variable {i : Nat} {ty : TypeId} {pos : String} {after : Array Edge} {g : Option (Nat × Bool)} {d : Nat}
theorem z_make_int {b t e n : Nat} {x y : Operand} {k : Int} [ht : SlT P t e] [he : ElT P e 1 8 (.int .i64 0)] [hm : NatOf k n] (h0 : 0 ≤ k) (h1 : k ≤ 17592186044416)
    (next : ∀ w' v, Ext w w' → w'.heap.size = w.heap.size + 1 → OwnI e w.heap.size w' v (List.replicate n 0) → dops P N ops π (Chg b w0) K (i + 1) (put ρ d v) w')
    (hi : opAt ops π i = some ⟨some d, .makeSlice t x y, ty, pos, after, g⟩ := by exact rfl) (h : ev ρ x = .int .i64 k := by ((try simp only [ev_tmp, ev_const, ev_func, get_put, get_args, get_putL, get_putL_nil, Nat.reduceEqDiff, reduceIte, List.getD_cons_zero, List.getD_cons_succ, List.getD_nil]); first | done | with_reducible rfl)) (h' : ev ρ y = .int .i64 k := by ((try simp only [ev_tmp, ev_const, ev_func, get_put, get_args, get_putL, get_putL_nil, Nat.reduceEqDiff, reduceIte, List.getD_cons_zero, List.getD_cons_succ, List.getD_nil]); first | done | with_reducible rfl)) (hn : nextOk ops π i = true := by decide +kernel) (hd : d < N := by decide) (hg : Wants ops ρ g := by first | exact True.intro | exact ⟨_, rfl, by ((try simp only [ev_tmp, ev_const, ev_func, get_put, get_args, get_putL, get_putL_nil, Nat.reduceEqDiff, reduceIte, List.getD_cons_zero, List.getD_cons_succ, List.getD_nil, Bool.not_true, Bool.not_false]); first | done | with_reducible rfl)⟩) : dops P N ops π (Chg b w0) K i ρ w := by
  have hn' : k = (n : Int) := by have := hm.eq; omega
  refine dt_ex hi hn hd hg (ex_make (n := n) h h' rfl h0 (by omega) (by omega)) (fun hS => hS.grow (Ext.alloc _ _)) (next _ _ (Ext.alloc _ _) (by simp) ⟨?_⟩)
  have := own_alloc w (List.replicate n (Value.int .i64 0)) e (by simp [maxLen]; omega)
  simpa using this
end
theorem O3.mono {X : Nat → Prop} {s s' : Nat} {w : World} {vo vp vc : Value} {ord : List Int} {rp : RL} {gs : List (Value × RL)} (h : O3 X s w vo vp vc ord rp gs) (hs : s' ≤ s) : O3 X s' w vo vp vc ord rp gs :=
  ⟨⟨h.tri.o.mono hs, ⟨h.tri.p.own.mono hs, h.tri.p.rows.mono hs, h.tri.p.off⟩, ⟨h.tri.c.own.mono hs, fun q hq => (h.tri.c.inn q hq).mono hs, h.tri.c.rows.mono hs, h.tri.c.off, h.tri.c.offi⟩, h.tri.op, h.tri.oc, h.tri.pc, Nat.le_trans hs h.tri.lo⟩, h.sep, h.off⟩
theorem O3.pBlk {X : Nat → Prop} {s b : Nat} {w : World} {vo vp vc : Value} {ord : List Int} {rp : RL} {gs : List (Value × RL)} (h : O3 X s w vo vp vc ord rp gs) (hX : X b) (hb : b < w.heap.size) : ∃ b', s ≤ b' ∧ (∀ g, vp.ownBlock = some g → g = b') ∧ b ≠ b' := by
  have hlo := h.lo
  cases e : vp.ownBlock with
  | none => exact ⟨w.heap.size, hlo, fun g e2 => (by cases e2), by omega⟩
  | some g => exact ⟨g, (h.tri.p.own.lt g e).1, fun g' e2 => by injection e2 with e2; exact e2.symm, fun e2 => h.off g (.inr (.inl (.inl e))) (e2 ▸ hX)⟩
set_option maxHeartbeats 400000 in
theorem l01OwnN_ok {w : World} {v : Value} {xs : List Int} {lo hi : Nat} [hx : Ints lo hi w v xs] (hl : xs.length ≤ 2000000) :
    Calls Try.prog 36 #[v] w (Ret fun v' w' => Ext w w' ∧ OwnN 2 w.heap.size w' v' (xs.map (Value.int .i64))) := by
  refine enter (args := [v]) (l := [.tmp 2]) Try.func36 rfl rfl Try.ntmps36 (by simp) ?_
  refine go ?_
  refine st_slice0 (by first | exact True.intro | exact ⟨_, rfl, by ((try simp only [ev_tmp, ev_const, ev_func, get_put, get_args, get_putL, get_putL_nil, Nat.reduceEqDiff, reduceIte, List.getD_cons_zero, List.getD_cons_succ, List.getD_nil, Bool.not_true, Bool.not_false]); first | done | with_reducible rfl)⟩) fun w1 v1 he1 hs1 ho1 => ?_
  refine go ?_
  have hN := ho1.toN
  have hsl : Sl lo hi w1 v _ := Sl.ext (h := hx.sl)
  refine st_append (hv := hN) (hy := hsl) (by ((try simp only [ev_tmp, ev_const, ev_func, get_put, get_args, get_putL, get_putL_nil, Nat.reduceEqDiff, reduceIte, List.getD_cons_zero, List.getD_cons_succ, List.getD_nil]); first | done | with_reducible rfl)) (by ((try simp only [ev_tmp, ev_const, ev_func, get_put, get_args, get_putL, get_putL_nil, Nat.reduceEqDiff, reduceIte, List.getD_cons_zero, List.getD_cons_succ, List.getD_nil]); first | done | with_reducible rfl)) rfl (oneCells xs) (by simp; omega) (by simp [maxLen]; omega) (by omega) (by first | exact True.intro | exact ⟨_, rfl, by ((try simp only [ev_tmp, ev_const, ev_func, get_put, get_args, get_putL, get_putL_nil, Nat.reduceEqDiff, reduceIte, List.getD_cons_zero, List.getD_cons_succ, List.getD_nil, Bool.not_true, Bool.not_false]); first | done | with_reducible rfl)⟩) fun v2 w2 ho2 hg2 ha2 => ?_
  refine go ?_
  have hN2 : OwnN 2 w.heap.size w2 v2 (xs.map (Value.int .i64)) := by simpa using ho2
  refine ret1 ⟨?_, hN2⟩
  obtain ⟨cap, cur, hv1, _⟩ := ho1.ex
  exact ⟨he1.below.grown hg2 (by omega) (fun k hk => by rw [hv1] at hk; simp [Value.ownBlock] at hk; omega)⟩
set_option maxHeartbeats 8000000 in
theorem l07Trivial_ok {w : World} {vl : Value} {xs : List Int} {lo hi : Nat} [hx : Ints lo hi w vl xs] (hl : xs.length ≤ 100) :
    Calls Try.prog 58 #[vl] w (Ret fun v w' => ∃ vo vp vc rp gs, v = .agg #[vo, vp, vc] ∧ Ext w w' ∧ O3 (fun _ => False) w.heap.size w' vo vp vc xs rp gs ∧ Sh3 xs rp gs) := by
  refine enter (args := [vl]) (l := [.cell 2 28]) Try.func58 rfl rfl Try.ntmps58 (by simp) ?_
  refine go ?_
  refine st_alloc (by first | exact True.intro | exact ⟨_, rfl, by ((try simp only [ev_tmp, ev_const, ev_func, get_put, get_args, get_putL, get_putL_nil, Nat.reduceEqDiff, reduceIte, List.getD_cons_zero, List.getD_cons_succ, List.getD_nil, Bool.not_true, Bool.not_false]); first | done | with_reducible rfl)⟩) fun w1 br he1 hbr hs1 hbk1 => ?_
  have hz1 := he1.size
  refine go ?_
  refine rc (l01OwnN_ok (xs := xs) (by omega)) (next := fun v2 w2 h2 => ?_)
  obtain ⟨he2, hO2⟩ := h2
  have hz2 := he2.size
  refine go ?_
  refine ra (v := .agg #[v2, nilv, nilv]) (h := rd_build (by simp only [ev_tmp, ev_const, ev_func, get_put, get_args, get_putL, get_putL_nil, Nat.reduceEqDiff, reduceIte, List.getD_cons_zero, List.getD_cons_succ, List.getD_nil, List.map_toArray, List.map_cons, List.map_nil]; rfl) (fun _ => ?_)) (next := ?_)
  · obtain ⟨A, c, rfl, _⟩ := hO2.toSl.ex
    kernel_rfl
  refine st_alloc (by first | exact True.intro | exact ⟨_, rfl, by ((try simp only [ev_tmp, ev_const, ev_func, get_put, get_args, get_putL, get_putL_nil, Nat.reduceEqDiff, reduceIte, List.getD_cons_zero, List.getD_cons_succ, List.getD_nil, Bool.not_true, Bool.not_false]); first | done | with_reducible rfl)⟩) fun w3 bo he3 hbo hs3 hbk3 => ?_
  have hz3 := he3.size
  refine st_store_agg (vs := [v2, nilv, nilv]) (cs := _) (hb := hbk3) (by ((try simp only [ev_tmp, ev_const, ev_func, get_put, get_args, get_putL, get_putL_nil, Nat.reduceEqDiff, reduceIte, List.getD_cons_zero, List.getD_cons_succ, List.getD_nil]); first | done | with_reducible rfl)) (by ((try simp only [ev_tmp, ev_const, ev_func, get_put, get_args, get_putL, get_putL_nil, Nat.reduceEqDiff, reduceIte, List.getD_cons_zero, List.getD_cons_succ, List.getD_nil]); first | done | with_reducible rfl)) rfl ?_ ?_ (by first | exact True.intro | exact ⟨_, rfl, by ((try simp only [ev_tmp, ev_const, ev_func, get_put, get_args, get_putL, get_putL_nil, Nat.reduceEqDiff, reduceIte, List.getD_cons_zero, List.getD_cons_succ, List.getD_nil, Bool.not_true, Bool.not_false]); first | done | with_reducible rfl)⟩) fun w4 hc4 hs4 hB4 => ?_
  · rfl
  · simp [hO2.toSl.one]; rfl
  have hE4 : Ext w1 w4 := hc4.ext (he2.trans he3) (by omega)
  have hO4 : O3 (fun b => b = bo) w1.heap.size w4 v2 nilv nilv xs [] [] := ((O3.start (X := fun b => b = bo) hO2 (by omega) (fun b hb => .inr (by omega))).ext he3).chg hc4 (.inl rfl)
  have hz4 := hE4.size
  refine go ?_
  refine r_for xs.length (fun i ρ w' => ∃ vp vc rp gs, Has ρ [(2, .pointer (some ⟨br, 0, none⟩)), (3, .int .i64 xs.length), (4, .pointer (some ⟨bo, 0, none⟩)), (5, .int .i64 i)] ∧ Ext w1 w' ∧ Blk w' bo [v2, vp, vc] ∧ O3 (fun b => b = bo) w1.heap.size w' v2 vp vc xs rp gs ∧ rp.length = i ∧ gs.length = i ∧ (∀ j (h : j < gs.length), gs[j].2.length = xs.length - 1 - j) ∧ (∀ r, r ∈ rp → r.2.length = xs.length) ∧ (∀ q, q ∈ gs → ∀ r, r ∈ q.2 → r.2.length = xs.length)) ?_ ?_
  · refine ⟨nilv, nilv, [], [], ?_, hE4, hB4, hO4, rfl, rfl, fun j h => by simp at h, fun r hr => (by cases hr), fun q hq => (by cases hq)⟩
    exact hasP
  clear hB4 hO4
  rintro i ρ w5 hi ⟨vp, vc, rp, gs, hH, hE5, hB5, hO5, hrl, hgl, hli, hlr, hlc⟩
  refine rwp_has hH fun ρ0 => ?_
  have hz5 := hE5.size
  have hbo5 := hB5.lt
  refine go ?_
  refine c_if (fun h6 => ?_) (fun h6 => ?_)
  · have hin : i < xs.length := by omega
    obtain ⟨b', hb', hvb', hbb⟩ := hO5.pBlk (b := bo) rfl hbo5
    have ap1 : Apart bo (bo + 1) b' := ⟨by omega⟩
    have c1 : Cell w5 bo 1 vp := hB5.cell rfl
    refine go ?_
    refine d_post (fun ρ' w' => ∃ vp' rp', Has ρ' [(2, .pointer (some ⟨br, 0, none⟩)), (3, .int .i64 xs.length), (4, .pointer (some ⟨bo, 0, none⟩)), (5, .int .i64 i)] ∧ Ext w1 w' ∧ Blk w' bo [v2, vp', vc] ∧ O3 (fun b => b = bo) w1.heap.size w' v2 vp' vc xs rp' gs ∧ rp'.length = i + 1 ∧ (∀ r, r ∈ rp' → r.2.length = xs.length)) ?_ ?_
    · refine z_order b' (List.range 8) (h := fun w6 he6 _ => ?_)
      have hO6 := hO5.ext he6
      have hz6 := he6.size
      refine zgo ?_
      refine z_make_int (n := xs.length) (k := (xs.length : Int)) (by omega) (by omega) (next := fun w7 v7 he7 hs7 ho7 => ?_)
      have hB7 : Blk w7 bo [v2, vp, vc] := @Blk.ext _ _ _ _ (he6.trans he7) hB5
      have hf7 := ho7.toFr (Nat.le_refl _)
      refine z_grow (hO6.tri.p.grow hO6.lo) he7 hf7 hO6.lo (by omega) hvb' (next := fun v8 v9 w9 hG9 hx9 hz9 hst9 => ?_)
      have hO9 := hO6.pushP he7 hf7 hG9 hst9 (fun b hb => by omega)
      have hB9 : Blk w9 bo [v2, vp, vc] := Blk.wr hB7 hst9.wrt fun e => hO6.off bo (.inr (.inl (.inl e))) rfl
      have hE9 : Ext w1 w9 := hx9 w1 ((hE5.trans he6).trans he7) (Nat.le_refl _)
      refine zgo ?_
      refine z_stfld (bo := bo) (m := 1) (cs := [v2, vp, vc]) hB9 hO9.tri.p.own.toSl.one (by simp) (next := fun w10 hc10 hs10 hB10 => ?_)
      refine ⟨rfl, v9, _, ?_, hc10.ext hE9 (by omega), hB10, hO9.chg hc10 (.inl rfl), by simp [hrl], fun r hr => ?_⟩
      · exact hasP
      · rcases List.mem_append.1 hr with hr | hr
        · exact hlr r hr
        · rw [List.mem_singleton.1 hr]; simp
    rintro ρ' w6 ⟨vp6, rp6, hH6, hE6, hB6, hO6, hrl6, hlr6⟩
    refine thn_normal (rwp_has hH6 fun ρ1 => ?_)
    have hz6 := hE6.size
    have hbo6 := hB6.lt
    refine go ?_
    refine st_slice0 (by first | exact True.intro | exact ⟨_, rfl, by ((try simp only [ev_tmp, ev_const, ev_func, get_put, get_args, get_putL, get_putL_nil, Nat.reduceEqDiff, reduceIte, List.getD_cons_zero, List.getD_cons_succ, List.getD_nil, Bool.not_true, Bool.not_false]); first | done | with_reducible rfl)⟩) fun w7 v7 he7 hs7 ho7 => ?_
    have hG7 : GrowL 24 w6.heap.size w7 v7 [] := GrowL.start ho7 (Nat.le_refl _)
    clear ho7
    refine go ?_
    refine r_for (xs.length - 1 - i) (fun k ρ w' => ∃ vr rs, Has ρ [(2, .pointer (some ⟨br, 0, none⟩)), (3, .int .i64 xs.length), (4, .pointer (some ⟨bo, 0, none⟩)), (5, .int .i64 i), (6, vr), (7, .int .i64 ((i : Int) + 1 + k))] ∧ Ext w6 w' ∧ GrowL 24 w6.heap.size w' vr rs ∧ rs.length = k ∧ (∀ r, r ∈ rs → r.2.length = xs.length)) ?_ ?_
    · refine ⟨v7, [], ?_, he7, hG7, rfl, fun r hr => (by cases hr)⟩
      exact hasP
    clear hG7
    rintro k ρ w8 hk ⟨vr, rs, hH8, he8, hG8, hrk, hrr⟩
    refine rwp_has hH8 fun ρ2 => ?_
    have hz8 := he8.size
    refine go ?_
    refine c_if (fun h9 => ?_) (fun h9 => ?_)
    · refine go ?_
      refine rc (l07Unit_ok (n := xs.length) (i := i + 1 + k) rfl (by push_cast; rfl) (by omega) (by omega)) (next := fun v10 w10 h10 => ?_)
      obtain ⟨he10, hf10⟩ := h10
      refine go ?_
      refine st_grow hG8 he10 hf10 (by omega) (by omega) (next := fun v11 v12 w12 hG12 hx12 hz12 hgs12 => ?_)
      refine go ?_
      refine forQ_normal (by omega) ⟨v12, _, ?_, hx12 w6 (he8.trans he10) (Nat.le_refl _), hG12, by simp [hrk], fun r hr => ?_⟩
      · exact hasP
      · rcases List.mem_append.1 hr with hr | hr
        · exact hrr r hr
        · rw [List.mem_singleton.1 hr]; simp [zeros]
    · have hB8 : Blk w8 bo [v2, vp6, vc] := @Blk.ext _ _ _ _ he8 hB6
      have c2 : Cell w8 bo 2 vc := hB8.cell rfl
      have hO8 := hO6.ext he8
      have hL8 := GrL.of hG8
      refine go ?_
      refine st_growu (u := vr) hO8.tri.c.own hL8.own.toSl.cells hL8.own.toSl.one hO8.lo (by rw [List.length_map]; omega) (fun v13 v14 w14 ho14 hx14 hz14 hst14 => ?_)
      have hO14 := hO6.pushC he8 hL8 ho14 hst14 (fun b hb => by omega)
      have hB14 : Blk w14 bo [v2, vp6, vc] := Blk.wr hB8 hst14.wrt fun e => hO8.off bo (.inr (.inr (.inl e))) rfl
      refine go ?_
      refine st_store_fld (m := 2) (h := hB14) (by ((try simp only [ev_tmp, ev_const, ev_func, get_put, get_args, get_putL, get_putL_nil, Nat.reduceEqDiff, reduceIte, List.getD_cons_zero, List.getD_cons_succ, List.getD_nil]); first | done | with_reducible rfl)) (by ((try simp only [ev_tmp, ev_const, ev_func, get_put, get_args, get_putL, get_putL_nil, Nat.reduceEqDiff, reduceIte, List.getD_cons_zero, List.getD_cons_succ, List.getD_nil]); first | done | with_reducible rfl)) ho14.toSl.one (by simp) (by first | exact True.intro | exact ⟨_, rfl, by ((try simp only [ev_tmp, ev_const, ev_func, get_put, get_args, get_putL, get_putL_nil, Nat.reduceEqDiff, reduceIte, List.getD_cons_zero, List.getD_cons_succ, List.getD_nil, Bool.not_true, Bool.not_false]); first | done | with_reducible rfl)⟩) fun w15 hc15 hs15 hB15 => ?_
      have hE14 : Ext w1 w14 := hx14 w1 (hE6.trans he8) (Nat.le_refl _)
      refine go ?_
      refine forQ_normal (by omega) ⟨vp6, v14, rp6, _, ?_, hc15.ext hE14 (by omega), hB15, hO14.chg hc15 (.inl rfl), hrl6, by simp [hgl], fun j h => ?_, hlr6, fun q hq r hr => ?_⟩
      · exact hasP
      · by_cases e : j < gs.length
        · rw [List.getElem_append_left e]; exact hli j e
        · have e2 : j = gs.length := by simp at h; omega
          subst e2
          simp [hrk]; omega
      · rcases List.mem_append.1 hq with hq | hq
        · exact hlc q hq r hr
        · rw [List.mem_singleton.1 hq] at hr; exact hrr r hr
  · obtain rfl : i = xs.length := by omega
    have hbr5 : Blk w5 br _ := @Blk.ext _ _ _ _ hE5 hbk1
    have hzz := hE5.size
    refine go ?_
    refine ra (v := .agg #[v2, vp, vc]) (h := rd_load_blk (hb := hB5) (by ((try simp only [ev_tmp, ev_const, ev_func, get_put, get_args, get_putL, get_putL_nil, Nat.reduceEqDiff, reduceIte, List.getD_cons_zero, List.getD_cons_succ, List.getD_nil]); first | done | with_reducible rfl)) rfl) (next := ?_)
    refine st_store_agg (vs := [v2, vp, vc]) (cs := _) (hb := hbr5) (by ((try simp only [ev_tmp, ev_const, ev_func, get_put, get_args, get_putL, get_putL_nil, Nat.reduceEqDiff, reduceIte, List.getD_cons_zero, List.getD_cons_succ, List.getD_nil]); first | done | with_reducible rfl)) (by ((try simp only [ev_tmp, ev_const, ev_func, get_put, get_args, get_putL, get_putL_nil, Nat.reduceEqDiff, reduceIte, List.getD_cons_zero, List.getD_cons_succ, List.getD_nil]); first | done | with_reducible rfl)) rfl ?_ hO5.one3 (by first | exact True.intro | exact ⟨_, rfl, by ((try simp only [ev_tmp, ev_const, ev_func, get_put, get_args, get_putL, get_putL_nil, Nat.reduceEqDiff, reduceIte, List.getD_cons_zero, List.getD_cons_succ, List.getD_nil, Bool.not_true, Bool.not_false]); first | done | with_reducible rfl)⟩) fun w6 hc6 hs6 hB6 => ?_
    · rfl
    refine go ?_
    refine retc (b := br) (hb := hB6) ⟨v2, vp, vc, rp, gs, rfl, hc6.ext (he1.trans hE5) (by omega), ((hO5.chg hc6 (.inr (by omega))).weak (fun b hb => hb.elim)).mono (by omega), ⟨hrl, hgl, hli, hlr, hlc⟩⟩ rfl
end Go.Proofs.Ytflniifngfiekaa

/-
  Walks: the reference's l07Factors, l01Power, l07Digits, l07Shift.
  Conditions: stated at each theorem.
-/
namespace Go.Proofs.Ytflniifngfiekaa
open Go Go.Pc
def Grp4 (e : Int) : Prop := e = 2 ∨ e = 3 ∨ e = 5 ∨ e = 7
theorem Grp4.le {e : Int} (h : Grp4 e) : 2 ≤ e ∧ e ≤ 7 := by rcases h with h | h | h | h <;> omega
theorem div_pow {m d t : Nat} (hd : 2 ≤ d) (h : m * 2 ^ t ≤ 729) : m / d * 2 ^ (t + 1) ≤ 729 := by
  have h1 : m / d * d ≤ m := Nat.div_mul_le_self m d
  have h2 : m / d * 2 ≤ m / d * d := Nat.mul_le_mul_left _ hd
  calc m / d * 2 ^ (t + 1) = m / d * 2 * 2 ^ t := by rw [Nat.pow_succ, Nat.mul_comm (2 ^ t) 2, Nat.mul_assoc]
    _ ≤ m * 2 ^ t := Nat.mul_le_mul_right _ (by omega)
    _ ≤ 729 := h
theorem len_pow {m t : Nat} (hm : 1 ≤ m) (h : m * 2 ^ t ≤ 729) : t ≤ 9 := by
  rcases Nat.lt_or_ge t 10 with h1 | h1
  · omega
  · have h2 : 2 ^ 10 ≤ 2 ^ t := Nat.pow_le_pow_right (by omega) h1
    have h3 : 1 * 2 ^ t ≤ m * 2 ^ t := Nat.mul_le_mul_right _ hm
    omega
set_option maxHeartbeats 4000000 in
theorem l07Factors_ok {w : World} {n : Int} (h1 : 1 ≤ n) (h2 : n ≤ 729) :
    Calls Try.prog 77 #[.int .i64 n] w (Ret fun v w' => ∃ (vl : Value) (xs : List Int) (b : Bool), v = .tuple #[vl, .bool b] ∧ Ext w w' ∧ Fr w.heap.size w' vl xs ∧ xs.length ≤ 9 ∧ ∀ e, e ∈ xs → Grp4 e) := by
  refine enter (args := [.int .i64 n]) (l := [.tmp 2, .tmp 3]) Try.func77 rfl rfl Try.ntmps77 (by simp) ?_
  refine go ?_
  refine st_slice0 (by first | exact True.intro | exact ⟨_, rfl, by ((try simp only [ev_tmp, ev_const, ev_func, get_put, get_args, get_putL, get_putL_nil, Nat.reduceEqDiff, reduceIte, List.getD_cons_zero, List.getD_cons_succ, List.getD_nil, Bool.not_true, Bool.not_false]); first | done | with_reducible rfl)⟩) fun w1 v1 he1 hs1 ho1 => ?_
  have hg1 : GrowI 2 w.heap.size w1 v1 [] := GrowI.start ho1 (Nat.le_refl _)
  clear ho1
  refine go ?_
  refine r_for 6 (fun k ρ w' => ∃ (m : Nat) (vl : Value) (xs : List Int), Has ρ [(0, .int .i64 m), (4, vl), (5, .int .i64 ((k : Int) + 2))] ∧ Ext w w' ∧ GrowI 2 w.heap.size w' vl xs ∧ 1 ≤ m ∧ m * 2 ^ xs.length ≤ 729 ∧ ∀ e, e ∈ xs → Grp4 e) ?_ ?_
  · refine ⟨n.toNat, v1, [], ?_, he1, hg1, by omega, by simp; omega, fun e he => (by cases he)⟩
    have : n = (n.toNat : Int) := by omega
    rw [← this]
    exact hasP
  clear hg1
  rintro k ρ w2 hk ⟨m, vl, xs, hH, hx2, hg2, hm1, hm2, hp2⟩
  refine rwp_has hH fun ρ0 => ?_
  have hl2 := len_pow hm1 hm2
  refine go ?_
  refine c_if (fun h3 => ?_) (fun h3 => ?_)
  · refine go ?_
    refine r_loop (fun m ρ w' => ∃ (vl : Value) (xs : List Int), Has ρ [(0, .int .i64 m), (4, vl), (5, .int .i64 ((k : Int) + 2))] ∧ Ext w w' ∧ GrowI 2 w.heap.size w' vl xs ∧ 1 ≤ m ∧ m * 2 ^ xs.length ≤ 729 ∧ ∀ e, e ∈ xs → Grp4 e) m ?_ ?_
    · refine ⟨vl, xs, ?_, hx2, hg2, hm1, hm2, hp2⟩
      exact hasP
    clear hg2 hm1 hm2 hp2 hx2 hl2
    rintro m ρ w4 ⟨vl, xs, hH4, hx4, hg4, hm1, hm2, hp4⟩
    refine rwp_has hH4 fun ρ1 => ?_
    have hl4 := len_pow hm1 hm2
    have hm3 : m ≤ 729 := by
      have : 1 ≤ 2 ^ xs.length := Nat.one_le_two_pow
      have := Nat.mul_le_mul_left m this
      omega
    refine go ?_
    refine rc l01Prime_ok (next := fun v5 w5 h5 => ?_)
    obtain ⟨b, rfl, hb, he5⟩ := h5
    have hx5 := hx4.trans he5
    have hg5 : GrowI 2 w.heap.size w5 vl xs := @GrowI.ext _ _ _ _ _ _ he5 hg4
    have hz5 := hx5.size
    cases b
    · refine go ?_
      refine forQ_normal (by omega) ⟨m, vl, xs, ?_, hx5, hg5, hm1, hm2, hp4⟩
      exact hasP
    · have hpr : Grp4 ((k : Int) + 2) := hb.1 rfl
      refine go ?_
      refine c_if (fun h6 => ?_) (fun h6 => ?_)
      · refine go ?_
        refine st_growi hg5 (by omega) (by omega) (next := fun v7 v8 w8 hg8 hx8 hz8 hst8 => ?_)
        refine go ?_
        have hk2 : 2 ≤ k + 2 := by omega
        have hlt : m / (k + 2) < m := Nat.div_lt_self (by omega) (by omega)
        have hdm : (m : Int) % ((k : Int) + 2) = 0 := h6
        have hpos : 1 ≤ m / (k + 2) := by
          have h7 : m % (k + 2) = 0 := by
            have : ((m % (k + 2) : Nat) : Int) = 0 := by push_cast; exact hdm
            omega
          exact Nat.div_pos (Nat.le_of_dvd (by omega) (Nat.dvd_of_mod_eq_zero h7)) (by omega)
        refine loopQ_normal (n := m) (m := m / (k + 2)) hlt ⟨v8, xs ++ [(k : Int) + 2], ?_, hx8 w hx5 (Nat.le_refl _), hg8, hpos, ?_, fun e he => ?_⟩
        · have : (m : Int) / ((k : Int) + 2) = ((m / (k + 2) : Nat) : Int) := by push_cast; rfl
          rw [← this]
          exact hasP
        · rw [List.length_append]; exact div_pow hk2 hm2
        · rcases List.mem_append.1 he with he | he
          · exact hp4 e he
          · rw [List.mem_singleton.1 he]; exact hpr
      · refine go ?_
        refine forQ_normal (by omega) ⟨m, vl, xs, ?_, hx5, hg5, hm1, hm2, hp4⟩
        exact hasP
  · refine go ?_
    exact ret2 ⟨vl, xs, _, rfl, hx2, hg2.fr, hl2, hp2⟩
set_option maxHeartbeats 4000000 in
theorem l01Power_ok {w : World} {a e m : Int} (h1 : 1 ≤ m) (h2 : m ≤ 1000) (ha : 0 ≤ a) (ha2 : a < m) (he0 : 0 ≤ e) (he1 : e ≤ 1000) :
    Calls Try.prog 79 #[.int .i64 a, .int .i64 e, .int .i64 m] w (Ret fun v w' => ∃ r : Int, v = .int .i64 r ∧ Ext w w' ∧ 0 ≤ r ∧ r < m) := by
  refine enter (args := [.int .i64 a, .int .i64 e, .int .i64 m]) (l := [.tmp 6]) Try.func79 rfl rfl Try.ntmps79 (by simp) ?_
  refine go ?_
  refine r_loop (fun k ρ w' => ∃ a r : Int, Has ρ [(0, .int .i64 a), (1, .int .i64 k), (2, .int .i64 m), (7, .int .i64 r)] ∧ Ext w w' ∧ k ≤ 1000 ∧ 0 ≤ a ∧ a < m ∧ 0 ≤ r ∧ r < m) e.toNat ?_ ?_
  · refine ⟨a, 1 % m, ?_, Ext.refl _, by omega, ha, ha2, Int.emod_nonneg _ (by omega), Int.emod_lt_of_pos _ (by omega)⟩
    rw [show ((e.toNat : Nat) : Int) = e by omega]
    exact hasP
  clear ha ha2
  rintro k ρ w2 ⟨a, r, hH, hx2, hk1000, ha, ha2, hr, hr2⟩
  refine rwp_has hH fun ρ0 => ?_
  have hb : ∀ x y : Int, 0 ≤ x → x < m → 0 ≤ y → y < m → 0 ≤ x * y ∧ x * y ≤ 1000000 := fun x y hx hx' hy hy' => by
    refine ⟨Int.mul_nonneg hx hy, ?_⟩
    have h3 : x * y ≤ 1000 * y := Int.mul_le_mul_of_nonneg_right (by omega) hy
    omega
  have hra := hb r a hr hr2 ha ha2
  have haa := hb a a ha ha2 ha ha2
  have hdv : ((k / 2 : Nat) : Int) = (k : Int) / 2 := by omega
  refine go ?_
  refine c_if (fun h3 => ?_) (fun h3 => ?_)
  · refine go ?_
    refine c_if (fun h4 => ?_) (fun h4 => ?_)
    · refine go ?_
      refine ra (h := rd_mul (by ((try simp only [ev_tmp, ev_const, ev_func, get_put, get_args, get_putL, get_putL_nil, Nat.reduceEqDiff, reduceIte, List.getD_cons_zero, List.getD_cons_succ, List.getD_nil]); first | done | with_reducible rfl)) (by ((try simp only [ev_tmp, ev_const, ev_func, get_put, get_args, get_putL, get_putL_nil, Nat.reduceEqDiff, reduceIte, List.getD_cons_zero, List.getD_cons_succ, List.getD_nil]); first | done | with_reducible rfl)) (by omega)) (next := ?_)
      refine go ?_
      refine ra (h := rd_mul (by ((try simp only [ev_tmp, ev_const, ev_func, get_put, get_args, get_putL, get_putL_nil, Nat.reduceEqDiff, reduceIte, List.getD_cons_zero, List.getD_cons_succ, List.getD_nil]); first | done | with_reducible rfl)) (by ((try simp only [ev_tmp, ev_const, ev_func, get_put, get_args, get_putL, get_putL_nil, Nat.reduceEqDiff, reduceIte, List.getD_cons_zero, List.getD_cons_succ, List.getD_nil]); first | done | with_reducible rfl)) (by omega)) (next := ?_)
      refine go ?_
      refine loopQ_normal (m := k / 2) (Nat.div_lt_self (by omega) (by omega)) ⟨a * a % m, r * a % m, ?_, hx2, by omega, Int.emod_nonneg _ (by omega), Int.emod_lt_of_pos _ (by omega), Int.emod_nonneg _ (by omega), Int.emod_lt_of_pos _ (by omega)⟩
      rw [hdv]
      exact hasP
    · refine go ?_
      refine ra (h := rd_mul (by ((try simp only [ev_tmp, ev_const, ev_func, get_put, get_args, get_putL, get_putL_nil, Nat.reduceEqDiff, reduceIte, List.getD_cons_zero, List.getD_cons_succ, List.getD_nil]); first | done | with_reducible rfl)) (by ((try simp only [ev_tmp, ev_const, ev_func, get_put, get_args, get_putL, get_putL_nil, Nat.reduceEqDiff, reduceIte, List.getD_cons_zero, List.getD_cons_succ, List.getD_nil]); first | done | with_reducible rfl)) (by omega)) (next := ?_)
      refine go ?_
      refine loopQ_normal (m := k / 2) (Nat.div_lt_self (by omega) (by omega)) ⟨a * a % m, r, ?_, hx2, by omega, Int.emod_nonneg _ (by omega), Int.emod_lt_of_pos _ (by omega), hr, hr2⟩
      rw [hdv]
      exact hasP
  · refine go ?_
    exact ret1 ⟨r, rfl, hx2, hr, hr2⟩
set_option maxHeartbeats 4000000 in
theorem l07Digits_ok {w : World} {v : Value} {xs : List Int} {k x : Int} {lo hi : Nat} [hx : Ints lo hi w v xs] (hl : xs.length ≤ 1000) (ho : ∀ i, i < xs.length → 1 ≤ xs.getD i 0) (hk : 0 ≤ k) (hk2 : k ≤ 1000) (h0 : 0 ≤ x) (h1 : x ≤ 1000000) :
    Calls Try.prog 78 #[v, .int .i64 k, .int .i64 x] w (Ret fun v' w' => ∃ ys : List Int, Ext w w' ∧ Fr w.heap.size w' v' ys ∧ ys.length = xs.length) := by
  have hlen := hx.toLen
  refine enter (args := [v, .int .i64 k, .int .i64 x]) (l := [.tmp 6]) Try.func78 rfl rfl Try.ntmps78 (by simp) ?_
  refine go ?_
  refine st_make_int (n := xs.length) (by ((try simp only [ev_tmp, ev_const, ev_func, get_put, get_args, get_putL, get_putL_nil, Nat.reduceEqDiff, reduceIte, List.getD_cons_zero, List.getD_cons_succ, List.getD_nil]); first | done | with_reducible rfl)) (by ((try simp only [ev_tmp, ev_const, ev_func, get_put, get_args, get_putL, get_putL_nil, Nat.reduceEqDiff, reduceIte, List.getD_cons_zero, List.getD_cons_succ, List.getD_nil]); first | done | with_reducible rfl)) (by omega) (by omega) (by first | exact True.intro | exact ⟨_, rfl, by ((try simp only [ev_tmp, ev_const, ev_func, get_put, get_args, get_putL, get_putL_nil, Nat.reduceEqDiff, reduceIte, List.getD_cons_zero, List.getD_cons_succ, List.getD_nil, Bool.not_true, Bool.not_false]); first | done | with_reducible rfl)⟩) fun w1 v1 he1 hs1 ho1 => ?_
  have hz1 := he1.size
  refine go ?_
  refine r_for (xs.length - k.toNat) (fun j ρ w' => ∃ (x : Int) (ys : List Int), Has ρ [(0, v), (2, .int .i64 x), (7, v1), (8, .int .i64 (k + j))] ∧ Ext w w' ∧ OwnI 2 w.heap.size w' v1 ys ∧ ys.length = xs.length ∧ 0 ≤ x ∧ x ≤ 1000000) ?_ ?_
  · refine ⟨x, _, ?_, he1, ho1, by simp, h0, h1⟩
    exact hasP
  clear ho1 h0 h1
  rintro j ρ w2 hj ⟨x, ys, hH, hx2, ho2, hyl, h0, h1⟩
  refine rwp_has hH fun ρ0 => ?_
  obtain ⟨i, hi⟩ : ∃ i : Nat, k + j = i := ⟨(k + j).toNat, by omega⟩
  rw [hi]
  refine go ?_
  refine c_if (fun h3 => ?_) (fun h3 => ?_)
  · have hoi := ho i (by omega)
    have hq : x / xs.getD i 0 ≤ x := Int.ediv_le_self _ h0
    have hq0 : 0 ≤ x / xs.getD i 0 := Int.ediv_nonneg h0 (by omega)
    refine go ?_
    refine st_store_int (by ((try simp only [ev_tmp, ev_const, ev_func, get_put, get_args, get_putL, get_putL_nil, Nat.reduceEqDiff, reduceIte, List.getD_cons_zero, List.getD_cons_succ, List.getD_nil]); first | done | with_reducible rfl)) (by ((try simp only [ev_tmp, ev_const, ev_func, get_put, get_args, get_putL, get_putL_nil, Nat.reduceEqDiff, reduceIte, List.getD_cons_zero, List.getD_cons_succ, List.getD_nil]); first | done | with_reducible rfl)) ?_ (by first | exact True.intro | exact ⟨_, rfl, by ((try simp only [ev_tmp, ev_const, ev_func, get_put, get_args, get_putL, get_putL_nil, Nat.reduceEqDiff, reduceIte, List.getD_cons_zero, List.getD_cons_succ, List.getD_nil, Bool.not_true, Bool.not_false]); first | done | with_reducible rfl)⟩) fun w3 hc3 hs3 ho3 => ?_
    · omega
    have hx3 := hc3.ext hx2 (by omega)
    refine go ?_
    refine forQ_normal (by omega) ⟨_, _, ?_, hx3, ho3, by simp [hyl], hq0, by omega⟩
    rw [show k + ((j + 1 : Nat) : Int) = i + 1 by omega]
    exact hasP
  · refine go ?_
    exact ret1 ⟨ys, hx2, ho2.toFr (Nat.le_refl _), hyl⟩
set_option maxHeartbeats 4000000 in
theorem l07Shift_ok {w : World} {v : Value} {xs : List Int} {m n : Nat} {km kn : Int} {lo hi : Nat} [hx : Ints lo hi w v xs] (hkm : km = m) (hkn : kn = n) (hl : xs.length ≤ 1000) (hm : m ≤ 1000) (hn : n ≤ 1000) :
    Calls Try.prog 70 #[.int .i64 km, v, .int .i64 kn] w (Ret fun v' w' => ∃ ys : List Int, Ext w w' ∧ Fr w.heap.size w' v' ys ∧ ys.length = m + xs.length + n) := by
  subst hkm hkn
  refine enter (args := [.int .i64 m, v, .int .i64 n]) (l := [.tmp 6]) Try.func70 rfl rfl Try.ntmps70 (by simp) ?_
  refine go ?_
  refine st_make_int (n := m) (by ((try simp only [ev_tmp, ev_const, ev_func, get_put, get_args, get_putL, get_putL_nil, Nat.reduceEqDiff, reduceIte, List.getD_cons_zero, List.getD_cons_succ, List.getD_nil]); first | done | with_reducible rfl)) (by ((try simp only [ev_tmp, ev_const, ev_func, get_put, get_args, get_putL, get_putL_nil, Nat.reduceEqDiff, reduceIte, List.getD_cons_zero, List.getD_cons_succ, List.getD_nil]); first | done | with_reducible rfl)) (by omega) (by omega) (by first | exact True.intro | exact ⟨_, rfl, by ((try simp only [ev_tmp, ev_const, ev_func, get_put, get_args, get_putL, get_putL_nil, Nat.reduceEqDiff, reduceIte, List.getD_cons_zero, List.getD_cons_succ, List.getD_nil, Bool.not_true, Bool.not_false]); first | done | with_reducible rfl)⟩) fun w1 v1 he1 hs1 ho1 => ?_
  have hz1 := he1.size
  refine go ?_
  have hN := ho1.own.toN
  have hsl : Sl lo hi w1 v _ := Sl.ext (h := hx.sl)
  refine st_append (hv := hN) (hy := hsl) (by ((try simp only [ev_tmp, ev_const, ev_func, get_put, get_args, get_putL, get_putL_nil, Nat.reduceEqDiff, reduceIte, List.getD_cons_zero, List.getD_cons_succ, List.getD_nil]); first | done | with_reducible rfl)) (by ((try simp only [ev_tmp, ev_const, ev_func, get_put, get_args, get_putL, get_putL_nil, Nat.reduceEqDiff, reduceIte, List.getD_cons_zero, List.getD_cons_succ, List.getD_nil]); first | done | with_reducible rfl)) rfl (oneCells xs) (by simp; omega) (by simp [maxLen]; omega) (by omega) (by first | exact True.intro | exact ⟨_, rfl, by ((try simp only [ev_tmp, ev_const, ev_func, get_put, get_args, get_putL, get_putL_nil, Nat.reduceEqDiff, reduceIte, List.getD_cons_zero, List.getD_cons_succ, List.getD_nil, Bool.not_true, Bool.not_false]); first | done | with_reducible rfl)⟩) fun v2 w2 ho2 hg2 ha2 => ?_
  have hx2 : Ext w w2 := Ext.app he1 hg2 fun k hk => (hN.lt k hk).1
  have ho2' : OwnN 2 w.heap.size w2 v2 ((List.replicate m 0 ++ xs).map (Value.int .i64)) := by simpa using ho2
  have hz2 := hx2.size
  refine go ?_
  refine st_appz2 (n := n) (z := .int .i64 0) ho2' (by omega) (by simp; omega) (next := fun v3 w3 ho3 hx3 => ?_)
  refine go ?_
  have ho3' : OwnN 2 w.heap.size w3 v3 ((List.replicate m 0 ++ xs ++ List.replicate n 0).map (Value.int .i64)) := by simpa using ho3
  refine ret1 ⟨_, hx3 w hx2 (Nat.le_refl _), ho3'.toFr, by simp; omega⟩
end Go.Proofs.Ytflniifngfiekaa

/-
  A presentation of the call's own in a variable, and one that is a result.
  Conditions: none.
-/
namespace Go.Proofs.Ytflniifngfiekaa
open Go Go.Pc
section
variable {P : Program} {N : Nat} {ρ : Env} {w : World}
/-- What holds behind a piece of code that ends normally. -/
theorem r_mid {Q : Post} {c : Code} (R : Env → World → Prop) (h : rwp P N c (fun e ρ w => e = .normal ∧ R ρ w) ρ w) (hk : ∀ ρ w, R ρ w → Q .normal ρ w) : rwp P N c Q ρ w :=
  rwp_mono h fun e ρ w he => by
    obtain ⟨rfl, hr⟩ := he
    exact hk ρ w hr
end
structure PBx (s : Nat) (w : World) (b : Nat) (ord : List Int) : Prop where
  ex : ∃ vo vp vc rp gs, Blk w b [vo, vp, vc] ∧ O3 (fun g => g = b) s w vo vp vc ord rp gs ∧ Sh3 ord rp gs
/-- The same, apart from some blocks. -/
structure PBy (Y : Nat → Prop) (s : Nat) (w : World) (b : Nat) (ord : List Int) : Prop where
  ex : ∃ vo vp vc rp gs, Blk w b [vo, vp, vc] ∧ O3 (fun g => g = b ∨ Y g) s w vo vp vc ord rp gs ∧ Sh3 ord rp gs
structure NewP (s : Nat) (w : World) (v : Value) (ord : List Int) : Prop where
  ex : ∃ vo vp vc rp gs, v = .agg #[vo, vp, vc] ∧ O3 (fun _ => False) s w vo vp vc ord rp gs ∧ Sh3 ord rp gs
def Few (n : Nat) (ord : List Int) : Prop := ord.length ≤ n ∧ ∀ e, e ∈ ord → Grp4 e
section
variable {s b c n m : Nat} {w w' : World} {v : Value} {ord xs : List Int}
theorem PBx.ext (h : PBx s w b ord) (x : Ext w w') : PBx s w' b ord := by
  obtain ⟨vo, vp, vc, rp, gs, h1, h2, h3⟩ := h.ex
  exact ⟨vo, vp, vc, rp, gs, @Blk.ext _ _ _ _ x h1, h2.ext x, h3⟩
theorem PBx.chg (h : PBx s w b ord) (k : Chg c w w') (hc : c < s) (hb : c ≠ b) : PBx s w' b ord := by
  obtain ⟨vo, vp, vc, rp, gs, h1, h2, h3⟩ := h.ex
  exact ⟨vo, vp, vc, rp, gs, h1.wr (.one (B := fun g => g = c) rfl k) fun e => hb e.symm, h2.chg k (.inr hc), h3⟩
theorem PBx.lt (h : PBx s w b ord) : b < w.heap.size := by
  obtain ⟨vo, vp, vc, rp, gs, h1, h2, h3⟩ := h.ex
  exact h1.lt
theorem NewP.ext (h : NewP s w v ord) (x : Ext w w') : NewP s w' v ord := by
  obtain ⟨vo, vp, vc, rp, gs, h1, h2, h3⟩ := h.ex
  exact ⟨vo, vp, vc, rp, gs, h1, h2.ext x, h3⟩
theorem NewP.chg (h : NewP s w v ord) (k : Chg c w w') (hc : c < s) : NewP s w' v ord := by
  obtain ⟨vo, vp, vc, rp, gs, h1, h2, h3⟩ := h.ex
  exact ⟨vo, vp, vc, rp, gs, h1, h2.chg k (.inr hc), h3⟩
theorem NewP.mono {s' : Nat} (h : NewP s w v ord) (hs : s' ≤ s) : NewP s' w v ord := by
  obtain ⟨vo, vp, vc, rp, gs, h1, h2, h3⟩ := h.ex
  exact ⟨vo, vp, vc, rp, gs, h1, h2.mono hs, h3⟩
theorem NewP.nil (hs : s ≤ w.heap.size) : NewP s w (.agg #[nilv, nilv, nilv]) [] :=
  ⟨nilv, nilv, nilv, [], [], rfl, O3.start (OwnN.nil _ _ _) hs fun b hb => hb.elim, ⟨rfl, rfl, fun i hi => absurd hi (Nat.not_lt_zero _), fun r hr => (by cases hr), fun q hq => (by cases hq)⟩⟩
theorem NewP.lo (h : NewP s w v ord) : s ≤ w.heap.size := by
  obtain ⟨vo, vp, vc, rp, gs, h1, h2, h3⟩ := h.ex
  exact h2.lo
theorem NewP.of {vo vp vc : Value} {rp : RL} {gs : List (Value × RL)} (h : O3 (fun _ => False) s w vo vp vc ord rp gs) (k : Sh3 ord rp gs) : NewP s w (.agg #[vo, vp, vc]) ord := ⟨vo, vp, vc, rp, gs, rfl, h, k⟩
variable {i j bq : Nat} {u vo vp vc : Value} {rp : RL} {gs : List (Value × RL)} {w0 w1 w2 : World} {ys : List Int}
theorem O3.rowC {X : Nat → Prop} (h : O3 X s w vo vp vc ord rp gs) (hi : i < gs.length) : Pc.rowAt vc (gs.map (·.1)) i = gs[i].1 := by simp [Pc.rowAt, hi]
/-- The spine of one list of conjugates, as it is read. -/
theorem O3.ownC' {X : Nat → Prop} (h : O3 X s w vo vp vc ord rp gs) (hi : i < gs.length) (hn : 0 < gs[i].2.length) : ∃ b, s ≤ b ∧ ¬ X b ∧ gs[i].1.ownBlock = some b ∧ Own 24 b w (Pc.rowAt vc (gs.map (·.1)) i) (gs[i].2.map (·.1)) := by
  obtain ⟨b, h1, h2, h3, h4⟩ := h.ownC hi (fun e => by rw [e] at hn; simp at hn)
  exact ⟨b, h1, h2, h3, (h.rowC hi).symm ▸ h4⟩
theorem Sh3.lenC (h : Sh3 ord rp gs) (hi : i < gs.length) : ((gs.map fun q => q.2.map (·.2)).getD i []).length = ord.length - 1 - i := by
  have := h.li i hi
  simp [hi, this]
theorem PBx.putP (hB : Blk w0 b [vo, vp, vc]) (hO : O3 (fun g => g = b) s w0 vo vp vc ord rp gs) (hS : Sh3 ord rp gs) (hi : i < rp.length) (hvb : vp.ownBlock = some bq) (hq : ¬ bq = b) (x : Ext w0 w1) (hu : Fr w0.heap.size w1 u ys) (hl : ys.length = ord.length) (c : Chg bq w1 w2) (ho : Own 24 bq w2 vp ((rp.map (·.1)).set i u)) : PBx s w2 b ord := by
  have hb := hB.lt
  exact ⟨vo, vp, vc, _, gs, (@Blk.ext _ _ _ _ x hB).wr (.one (B := fun g => g = bq) rfl c) fun e => hq e.symm, hO.setP hi hvb x hu (fun g e => by subst e; exact hb) c ho, hS.setP hl⟩
theorem PBx.putC (hB : Blk w0 b [vo, vp, vc]) (hO : O3 (fun g => g = b) s w0 vo vp vc ord rp gs) (hS : Sh3 ord rp gs) (hi : i < gs.length) (hj : j < gs[i].2.length) (hvb : gs[i].1.ownBlock = some bq) (hq : ¬ bq = b) (x : Ext w0 w1) (hu : Fr w0.heap.size w1 u ys) (hl : ys.length = ord.length) (c : Chg bq w1 w2) (ho : Own 24 bq w2 (Pc.rowAt vc (gs.map (·.1)) i) ((gs[i].2.map (·.1)).set j u)) : PBx s w2 b ord := by
  have hb := hB.lt
  exact ⟨vo, vp, vc, rp, _, (@Blk.ext _ _ _ _ x hB).wr (.one (B := fun g => g = bq) rfl c) fun e => hq e.symm, hO.setC hi hj hvb x hu (fun g e => by subst e; exact hb) c (hO.rowC hi ▸ ho), hS.setC hi hl⟩
theorem PBy.ext {Y : Nat → Prop} (h : PBy Y s w b ord) (x : Ext w w') : PBy Y s w' b ord := by
  obtain ⟨vo, vp, vc, rp, gs, h1, h2, h3⟩ := h.ex
  exact ⟨vo, vp, vc, rp, gs, @Blk.ext _ _ _ _ x h1, h2.ext x, h3⟩
theorem PBy.toX {Y : Nat → Prop} (h : PBy Y s w b ord) : PBx s w b ord := by
  obtain ⟨vo, vp, vc, rp, gs, h1, h2, h3⟩ := h.ex
  exact ⟨vo, vp, vc, rp, gs, h1, h2.weak fun g e => .inl (.inl e), h3⟩
theorem PBx.toY {Y : Nat → Prop} (h : PBx s w b ord) (hY : ∀ g, Y g → w.heap.size ≤ g) : PBy Y s w b ord := by
  obtain ⟨vo, vp, vc, rp, gs, h1, h2, h3⟩ := h.ex
  exact ⟨vo, vp, vc, rp, gs, h1, h2.weak fun g e => e.elim .inl fun e => .inr (.inr (hY g e)), h3⟩
theorem PBy.putC {Y : Nat → Prop} (hB : Blk w0 b [vo, vp, vc]) (hO : O3 (fun g => g = b ∨ Y g) s w0 vo vp vc ord rp gs) (hS : Sh3 ord rp gs) (hY : ∀ g, Y g → g < w0.heap.size) (hi : i < gs.length) (hj : j < gs[i].2.length) (hvb : gs[i].1.ownBlock = some bq) (hq : ¬ bq = b) (x : Ext w0 w1) (hu : Fr w0.heap.size w1 u ys) (hl : ys.length = ord.length) (c : Chg bq w1 w2) (ho : Own 24 bq w2 (Pc.rowAt vc (gs.map (·.1)) i) ((gs[i].2.map (·.1)).set j u)) : PBy Y s w2 b ord := by
  have hb := hB.lt
  exact ⟨vo, vp, vc, rp, _, (@Blk.ext _ _ _ _ x hB).wr (.one (B := fun g => g = bq) rfl c) fun e => hq e.symm, hO.setC hi hj hvb x hu (fun g e => e.elim (fun e => by subst e; exact hb) (hY g)) c (hO.rowC hi ▸ ho), hS.setC hi hl⟩
theorem Few.nil : Few n [] := ⟨Nat.zero_le _, fun e he => (by cases he)⟩
theorem Few.app (h : Few n ord) (k : Few m xs) : Few (n + m) (ord ++ xs) := ⟨by have := h.1; have := k.1; simp; omega, fun e he => by
  rcases List.mem_append.1 he with he | he
  · exact h.2 e he
  · exact k.2 e he⟩
theorem Few.one (h : Few n ord) {i : Nat} (hi : i < ord.length) : 1 ≤ ord.getD i 0 := by
  have := (h.2 _ (List.getElem_mem hi)).le
  simp [hi]; omega
end
end Go.Proofs.Ytflniifngfiekaa

/-
  Rows of any age are put into the lists of a presentation of the call's own: their blocks are none of the presentation's.
  Conditions: none.
-/
namespace Go.Proofs.Ytflniifngfiekaa
open Go Go.Pc
section
variable {X : Nat → Prop} {e s b i j eo ep ec ei : Nat} {w w2 : World} {v u vo vp vc : Value} {xs ord : List Int} {rs rp : RL} {gs : List (Value × RL)}
theorem RowsO.set2 (h : Pc.RowsO s w rs) (hi : i < rs.length) (hu : Fr s w u xs) (hn : ∀ g, xs ≠ [] → u.ownBlock = some g → ¬ Pc.BlkOf rs g) : Pc.RowsO s w (rs.set i (u, xs)) := by
  refine ⟨fun r hr => ?_, List.pairwise_iff_getElem.2 fun m n h1 h2 hmn => ?_⟩
  · rcases List.mem_or_eq_of_mem_set hr with hr | rfl
    · exact h.fr r hr
    · exact hu
  · have h1' : m < rs.length := by simpa using h1
    have h2' : n < rs.length := by simpa using h2
    intro a1 a2 e
    rw [List.getElem_set] at a1 e
    rw [List.getElem_set] at a2 e
    by_cases em : i = m
    · subst em
      rw [if_pos rfl] at a1 e
      rw [if_neg (by omega)] at a2 e
      obtain ⟨g, e1, _, _⟩ := (h.fr _ (List.getElem_mem h2')).block a2
      exact hn g a1 (e.trans e1) ⟨_, List.getElem_mem h2', a2, e1⟩
    · rw [if_neg em] at a1 e
      by_cases en : i = n
      · subst en
        rw [if_pos rfl] at a2 e
        obtain ⟨g, e1, _, _⟩ := (h.fr _ (List.getElem_mem h1')).block a1
        exact hn g a2 (e.symm.trans e1) ⟨_, List.getElem_mem h1', a1, e1⟩
      · rw [if_neg en] at a2 e
        exact List.pairwise_iff_getElem.1 h.sep m n h1' h2' hmn a1 a2 e
theorem GrL.set2 (h : Pc.GrL e s w v rs) (hi : i < rs.length) (hvb : v.ownBlock = some b) (hu : Fr s w u xs) (hn : ∀ g, xs ≠ [] → u.ownBlock = some g → ¬ Pc.FL v rs g) (c : Chg b w w2) (ho : Own e b w2 v ((rs.map (·.1)).set i u)) : Pc.GrL e s w2 v (rs.set i (u, xs)) := by
  have hsb := (h.own.lt b hvb)
  have hnew : ∀ g, Pc.BlkOf (rs.set i (u, xs)) g → g ≠ b := fun g hg e => by
    subst e
    rcases blkOf_set hg with hg | ⟨hx, hg⟩
    · exact h.off g hvb hg
    · exact hn g hx hg (.inl hvb)
  refine ⟨?_, (RowsO.set2 h.rows hi hu fun g hx hg hb => hn g hx hg (.inr hb)).wr (.one (B := fun g => g = b) rfl c) fun g hg => hnew g hg, fun g hg hB => ?_⟩
  · rw [List.map_set]
    exact ho.toN.mono hsb.1
  · rw [hvb] at hg; injection hg with hg
    exact hnew g hB hg.symm
theorem O3.setP2 (h : O3 X s w vo vp vc ord rp gs) (hi : i < rp.length) (hvb : vp.ownBlock = some b) (hu : Fr s w u xs) (hn : ∀ g, xs ≠ [] → u.ownBlock = some g → ¬ F3 vo vp rp vc gs g ∧ ¬ X g) (c : Chg b w w2) (ho : Own 24 b w2 vp ((rp.map (·.1)).set i u)) : O3 X s w2 vo vp vc ord (rp.set i (u, xs)) gs := by
  have k : Wrt (fun g => g = b) w w2 := .one (B := fun g => g = b) rfl c
  have t := h.tri
  refine ⟨⟨t.o.wr k fun g hg e => t.op g hg (.inl (e ▸ hvb)), GrL.set2 t.p hi hvb hu (fun g hx hg hb => (hn g hx hg).1 (.inr (.inl hb))) c ho, t.c.wr k fun g hg e => t.pc g (.inl (e ▸ hvb)) hg, fun g hg hB => ?_, t.oc, fun g hg hB => ?_, Nat.le_trans t.lo c.size⟩, h.sep, fun g hg hx => ?_⟩
  · rcases FL.set hB with hB | ⟨hx, hB⟩
    · exact t.op g hg hB
    · exact (hn g hx hB).1 (.inl hg)
  · rcases FL.set hg with hg | ⟨hx, hg⟩
    · exact t.pc g hg hB
    · exact (hn g hx hg).1 (.inr (.inr hB))
  · rcases hg with hg | hg | hg
    · exact h.off g (.inl hg) hx
    · rcases FL.set hg with hg | ⟨hx2, hg⟩
      · exact h.off g (.inr (.inl hg)) hx
      · exact (hn g hx2 hg).2 hx
    · exact h.off g (.inr (.inr hg)) hx
theorem GrC.set2 (h : Pc.GrC ec ei s w vc gs) (hsp : Pc.Sep gs) (hi : i < gs.length) (hj : j < gs[i].2.length) (hvb : gs[i].1.ownBlock = some b) (hu : Fr s w u xs) (hn : ∀ g, xs ≠ [] → u.ownBlock = some g → ¬ Pc.FC vc gs g) (c : Chg b w w2) (ho : Own ei b w2 gs[i].1 ((gs[i].2.map (·.1)).set j u)) :
    Pc.GrC ec ei s w2 vc (gs.set i (gs[i].1, gs[i].2.set j (u, xs))) ∧ Pc.Sep (gs.set i (gs[i].1, gs[i].2.set j (u, xs))) ∧ (∀ g, Pc.FC vc (gs.set i (gs[i].1, gs[i].2.set j (u, xs))) g → Pc.FC vc gs g ∨ (xs ≠ [] ∧ u.ownBlock = some g)) := by
  have k : Wrt (fun g => g = b) w w2 := .one (B := fun g => g = b) rfl c
  obtain ⟨kf, hkf, hfl⟩ := flat_set gs i hi j (u, xs) hj
  have hmi := List.getElem_mem hi
  have hbl := (h.inn _ hmi).lt b hvb
  have hfn : ∀ g, Pc.BlkOf (flat (gs.set i (gs[i].1, gs[i].2.set j (u, xs)))) g → Pc.BlkOf (flat gs) g ∨ (xs ≠ [] ∧ u.ownBlock = some g) := fun g hg => by
    rw [hfl] at hg; exact blkOf_set hg
  have hsame : ∀ m, ∀ hm : m < (gs.set i (gs[i].1, gs[i].2.set j (u, xs))).length, ((gs.set i (gs[i].1, gs[i].2.set j (u, xs)))[m]).1 = (gs[m]'(by simpa using hm)).1 := fun m hm => by
    rw [List.getElem_set]
    split
    · rename_i e; subst e; rfl
    · rfl
  have hin : ∀ q, q ∈ gs.set i (gs[i].1, gs[i].2.set j (u, xs)) → ∃ m, ∃ hm : m < gs.length, q.1 = gs[m].1 := fun q hq => by
    obtain ⟨m, hm, rfl⟩ := List.getElem_of_mem hq
    exact ⟨m, by simpa using hm, hsame m hm⟩
  have hr := (RowsO.set2 h.rows hkf hu fun g hx hg hb => hn g hx hg (.inr (.inr hb))).wr k fun g hg e => by
    subst e
    rcases blkOf_set hg with hg | ⟨hx, hg⟩
    · exact h.offi _ hmi g hvb hg
    · exact hn g hx hg (.inr (.inl ⟨_, hmi, hvb⟩))
  rw [← hfl] at hr
  have hmap : (gs.set i (gs[i].1, gs[i].2.set j (u, xs))).map (·.1) = gs.map (·.1) := by
    rw [List.map_set]
    refine List.ext_getElem (by simp) fun m h1 h2 => ?_
    rw [List.getElem_set]
    split
    · rename_i e; subst e; simp
    · rfl
  refine ⟨⟨?_, fun q hq => ?_, hr, fun g hg => ⟨fun hB => ?_, fun q hq e => ?_⟩, fun q hq g hg hB => ?_⟩, ?_, fun g hg => ?_⟩
  · rw [hmap]
    exact h.own.wr k fun g hg e => (h.off g hg).2 _ hmi (e ▸ hvb)
  · obtain ⟨m, hm, rfl⟩ := List.getElem_of_mem hq
    have hm' : m < gs.length := by simpa using hm
    rw [List.getElem_set]
    split
    · rename_i e; subst e
      rw [List.map_set]
      exact ho.toN.mono hbl.1
    · rename_i e
      exact (h.inn _ (List.getElem_mem hm')).wr k fun g hg e2 => sep_ne hsp hi hm' e g (e2 ▸ hvb) hg
  · rcases hfn g hB with hB | ⟨hx, hB⟩
    · exact (h.off g hg).1 hB
    · exact hn g hx hB (.inl hg)
  · obtain ⟨m, hm, e1⟩ := hin q hq
    rw [e1] at e
    exact (h.off g hg).2 _ (List.getElem_mem hm) e
  · obtain ⟨m, hm, e1⟩ := hin q hq
    rw [e1] at hg
    rcases hfn g hB with hB | ⟨hx, hB⟩
    · exact h.offi _ (List.getElem_mem hm) g hg hB
    · exact hn g hx hB (.inr (.inl ⟨_, List.getElem_mem hm, hg⟩))
  · refine List.pairwise_iff_getElem.2 fun m n h1 h2 hmn => ?_
    rw [hsame m h1, hsame n h2]
    exact List.pairwise_iff_getElem.1 hsp m n (by simpa using h1) (by simpa using h2) hmn
  · rcases hg with hg | ⟨q, hq, hg⟩ | hg
    · exact .inl (.inl hg)
    · obtain ⟨m, hm, e1⟩ := hin q hq
      rw [e1] at hg
      exact .inl (.inr (.inl ⟨_, List.getElem_mem hm, hg⟩))
    · exact (hfn g hg).imp (fun h => .inr (.inr h)) id
theorem O3.setC2 (h : O3 X s w vo vp vc ord rp gs) (hi : i < gs.length) (hj : j < gs[i].2.length) (hvb : gs[i].1.ownBlock = some b) (hu : Fr s w u xs) (hn : ∀ g, xs ≠ [] → u.ownBlock = some g → ¬ F3 vo vp rp vc gs g ∧ ¬ X g) (c : Chg b w w2) (ho : Own 24 b w2 gs[i].1 ((gs[i].2.map (·.1)).set j u)) : O3 X s w2 vo vp vc ord rp (gs.set i (gs[i].1, gs[i].2.set j (u, xs))) := by
  have k : Wrt (fun g => g = b) w w2 := .one (B := fun g => g = b) rfl c
  have t := h.tri
  have hFb : Pc.FC vc gs b := .inr (.inl ⟨_, List.getElem_mem hi, hvb⟩)
  obtain ⟨hC, hS, hF⟩ := GrC.set2 t.c h.sep hi hj hvb hu (fun g hx hg hb => (hn g hx hg).1 (.inr (.inr hb))) c ho
  refine ⟨⟨t.o.wr k fun g hg e => t.oc g hg (e ▸ hFb), t.p.wr k fun g hg e => t.pc g hg (e ▸ hFb), hC, t.op, fun g hg hB => ?_, fun g hg hB => ?_, Nat.le_trans t.lo c.size⟩, hS, fun g hg hx => ?_⟩
  · rcases hF g hB with hB | ⟨hx, hB⟩
    · exact t.oc g hg hB
    · exact (hn g hx hB).1 (.inl hg)
  · rcases hF g hB with hB | ⟨hx, hB⟩
    · exact t.pc g hg hB
    · exact (hn g hx hB).1 (.inr (.inl hg))
  · rcases hg with hg | hg | hg
    · exact h.off g (.inl hg) hx
    · exact h.off g (.inr (.inl hg)) hx
    · rcases hF g hg with hg | ⟨hx2, hg⟩
      · exact h.off g (.inr (.inr hg)) hx
      · exact (hn g hx2 hg).2 hx
/-- A row that is older than the presentation. -/
theorem PBx.putP2 {s0 : Nat} (hB : Blk w b [vo, vp, vc]) (hO : O3 (fun g => g = b) s w vo vp vc ord rp gs) (hS : Sh3 ord rp gs) (hi : i < rp.length) {bq : Nat} (hvb : vp.ownBlock = some bq) (hq : ¬ bq = b) (hu : Fr s0 w u xs) (hs0 : s0 ≤ s) (hbs : s ≤ b) (hold : ∀ g, xs ≠ [] → u.ownBlock = some g → g < s) (hl : xs.length = ord.length) (c : Chg bq w w2) (ho : Own 24 bq w2 vp ((rp.map (·.1)).set i u)) : PBx s0 w2 b ord :=
  ⟨vo, vp, vc, _, gs, hB.wr (.one (B := fun g => g = bq) rfl c) fun e => hq e.symm, O3.setP2 (hO.mono hs0) hi hvb hu (fun g hx hg => ⟨fun hf => by have h1 := (hO.tri.f3 hf).1; have h2 := hold g hx hg; omega, fun e => by have h2 := hold g hx hg; omega⟩) c ho, hS.setP hl⟩
theorem PBx.putC2 {s0 : Nat} (hB : Blk w b [vo, vp, vc]) (hO : O3 (fun g => g = b) s w vo vp vc ord rp gs) (hS : Sh3 ord rp gs) (hi : i < gs.length) (hj : j < gs[i].2.length) {bq : Nat} (hvb : gs[i].1.ownBlock = some bq) (hq : ¬ bq = b) (hu : Fr s0 w u xs) (hs0 : s0 ≤ s) (hbs : s ≤ b) (hold : ∀ g, xs ≠ [] → u.ownBlock = some g → g < s) (hl : xs.length = ord.length) (c : Chg bq w w2) (ho : Own 24 bq w2 (Pc.rowAt vc (gs.map (·.1)) i) ((gs[i].2.map (·.1)).set j u)) : PBx s0 w2 b ord :=
  ⟨vo, vp, vc, rp, _, hB.wr (.one (B := fun g => g = bq) rfl c) fun e => hq e.symm, O3.setC2 (hO.mono hs0) hi hj hvb hu (fun g hx hg => ⟨fun hf => by have h1 := (hO.tri.f3 hf).1; have h2 := hold g hx hg; omega, fun e => by have h2 := hold g hx hg; omega⟩) c (hO.rowC hi ▸ ho), hS.setC hi hl⟩
end
end Go.Proofs.Ytflniifngfiekaa

/-
  A number is put into a row of a presentation of the call's own.
  Conditions: none.
-/
namespace Go.Proofs.Ytflniifngfiekaa
open Go Go.Pc
section
variable {X : Nat → Prop} {e s b i j : Nat} {w w2 : World} {v u vo vp vc : Value} {xs ys ord : List Int} {rs rp : RL} {gs : List (Value × RL)}
theorem blk_row (hi : i < rs.length) (hx : rs[i].2 ≠ []) {g : Nat} (h : Pc.BlkOf (rs.set i (rs[i].1, ys)) g) : Pc.BlkOf rs g := by
  rcases blkOf_set h with h | ⟨_, h⟩
  · exact h
  · exact ⟨_, List.getElem_mem hi, hx, h⟩
theorem RowsO.row (h : Pc.RowsO s w rs) (hi : i < rs.length) (hx : rs[i].2 ≠ []) (hb : rs[i].1.ownBlock = some b) (c : Chg b w w2) (hu : Fr s w2 rs[i].1 ys) : Pc.RowsO s w2 (rs.set i (rs[i].1, ys)) := by
  have hne : ∀ m, ∀ hm : m < rs.length, m ≠ i → rs[m].2 ≠ [] → rs[m].1.ownBlock ≠ some b := fun m hm hmi hn e => by
    rcases Nat.lt_or_gt_of_ne hmi with hl | hl
    · exact List.pairwise_iff_getElem.1 h.sep m i hm hi hl hn hx (e.trans hb.symm)
    · exact List.pairwise_iff_getElem.1 h.sep i m hi hm hl hx hn (hb.trans e.symm)
  refine ⟨fun r hr => ?_, List.pairwise_iff_getElem.2 fun m n h1 h2 hmn => ?_⟩
  · obtain ⟨m, hm, rfl⟩ := List.getElem_of_mem hr
    have hm' : m < rs.length := by simpa using hm
    rw [List.getElem_set]
    split
    · exact hu
    · rename_i hne'
      exact (h.fr _ (List.getElem_mem hm')).chg c fun hn => hne m hm' (fun e => hne' e.symm) hn
  · have h1' : m < rs.length := by simpa using h1
    have h2' : n < rs.length := by simpa using h2
    have hs := List.pairwise_iff_getElem.1 h.sep m n h1' h2' hmn
    rw [List.getElem_set, List.getElem_set]
    by_cases em : i = m
    · subst em
      rw [if_pos rfl, if_neg (by omega)]
      exact fun _ hn => hs hx hn
    · rw [if_neg em]
      by_cases en : i = n
      · subst en
        rw [if_pos rfl]
        exact fun hn _ => hs hn hx
      · rw [if_neg en]
        exact hs
theorem map_row (hi : i < rs.length) : ((rs.set i (rs[i].1, ys)).map (·.1)) = rs.map (·.1) := by
  rw [List.map_set]
  refine List.ext_getElem (by simp) fun m h1 h2 => ?_
  rw [List.getElem_set]
  split
  · rename_i e; subst e; simp
  · rfl
theorem O3.rowP (h : O3 X s w vo vp vc ord rp gs) (hi : i < rp.length) (hx : rp[i].2 ≠ []) (hb : rp[i].1.ownBlock = some b) (c : Chg b w w2) (hu : Fr s w2 rp[i].1 ys) : O3 X s w2 vo vp vc ord (rp.set i (rp[i].1, ys)) gs := by
  have k : Wrt (fun g => g = b) w w2 := .one (B := fun g => g = b) rfl c
  have t := h.tri
  have hB : Pc.BlkOf rp b := ⟨_, List.getElem_mem hi, hx, hb⟩
  have hF : ∀ g, Pc.FL vp (rp.set i (rp[i].1, ys)) g → Pc.FL vp rp g := fun g hg => hg.imp id (blk_row hi hx)
  refine ⟨⟨t.o.wr k fun g hg e => t.op g hg (.inr (e ▸ hB)), ⟨?_, RowsO.row t.p.rows hi hx hb c hu, fun g hg hb' => t.p.off g hg (blk_row hi hx hb')⟩, t.c.wr k fun g hg e => t.pc g (.inr (e ▸ hB)) hg, fun g hg hf => t.op g hg (hF g hf), t.oc, fun g hf hg => t.pc g (hF g hf) hg, Nat.le_trans t.lo c.size⟩, h.sep, fun g hg hx' => ?_⟩
  · rw [map_row hi]
    exact t.p.own.wr k fun g hg e => t.p.off g hg (e ▸ hB)
  · rcases hg with hg | hg | hg
    · exact h.off g (.inl hg) hx'
    · exact h.off g (.inr (.inl (hF g hg))) hx'
    · exact h.off g (.inr (.inr hg)) hx'
theorem flat_set2 : ∀ (gs : List (Value × RL)) (i : Nat) (hi : i < gs.length) (j : Nat) (hj : j < gs[i].2.length), ∃ k, ∃ hk : k < (flat gs).length, (flat gs)[k] = gs[i].2[j] ∧ ∀ r, flat (gs.set i (gs[i].1, gs[i].2.set j r)) = (flat gs).set k r
  | [], i, hi, _, _ => by simp at hi
  | q :: gs, 0, _, j, hj => by
    have hj : j < q.2.length := hj
    refine ⟨j, by simp [flat]; omega, by simp [flat, List.getElem_append_left hj], fun r => ?_⟩
    simp [flat, List.set_append, hj]
  | q :: gs, i + 1, hi, j, hj => by
    obtain ⟨k, h1, h2, h3⟩ := flat_set2 gs i (by simpa using hi) j (by simpa using hj)
    refine ⟨q.2.length + k, by simp only [flat, List.map_cons, List.flatten_cons, List.length_append]; simp only [flat] at h1; omega, ?_, fun r => ?_⟩
    · simp only [flat, List.map_cons, List.flatten_cons] at h2 ⊢
      rw [List.getElem_append_right (by omega)]
      simpa using h2
    · have h4 := h3 r
      simp only [flat, List.getElem_cons_succ, List.set_cons_succ, List.map_cons, List.flatten_cons] at h4 ⊢
      rw [h4, List.set_append_right _ _ (by omega), Nat.add_sub_cancel_left]
theorem O3.rowQ (h : O3 X s w vo vp vc ord rp gs) (hi : i < gs.length) (hj : j < gs[i].2.length) (hx : gs[i].2[j].2 ≠ []) (hb : gs[i].2[j].1.ownBlock = some b) (c : Chg b w w2) (hu : Fr s w2 gs[i].2[j].1 ys) : O3 X s w2 vo vp vc ord rp (gs.set i (gs[i].1, gs[i].2.set j (gs[i].2[j].1, ys))) := by
  have kw : Wrt (fun g => g = b) w w2 := .one (B := fun g => g = b) rfl c
  have t := h.tri
  obtain ⟨k, hk, hke, hfl⟩ := flat_set2 gs i hi j hj
  have hfl := hfl (gs[i].2[j].1, ys)
  have hkr : (gs[i].2[j].1, ys) = ((flat gs)[k].1, ys) := by rw [hke]
  have hxk : (flat gs)[k].2 ≠ [] := by rw [hke]; exact hx
  have hbk : (flat gs)[k].1.ownBlock = some b := by rw [hke]; exact hb
  have huk : Fr s w2 (flat gs)[k].1 ys := by rw [hke]; exact hu
  have hB : Pc.BlkOf (flat gs) b := ⟨_, List.getElem_mem hk, hxk, hbk⟩
  have hfn : ∀ g, Pc.BlkOf (flat (gs.set i (gs[i].1, gs[i].2.set j (gs[i].2[j].1, ys)))) g → Pc.BlkOf (flat gs) g := fun g hg => by
    rw [hfl, hkr] at hg
    exact blk_row hk hxk hg
  have hr := RowsO.row t.c.rows hk hxk hbk c huk
  rw [← hkr, ← hfl] at hr
  have hsame : ∀ m, ∀ hm : m < (gs.set i (gs[i].1, gs[i].2.set j (gs[i].2[j].1, ys))).length, ((gs.set i (gs[i].1, gs[i].2.set j (gs[i].2[j].1, ys)))[m]).1 = (gs[m]'(by simpa using hm)).1 ∧ ((gs.set i (gs[i].1, gs[i].2.set j (gs[i].2[j].1, ys)))[m]).2.map (·.1) = (gs[m]'(by simpa using hm)).2.map (·.1) := fun m hm => by
    rw [List.getElem_set]
    split
    · rename_i e; subst e
      exact ⟨rfl, map_row hj⟩
    · exact ⟨rfl, rfl⟩
  have hin : ∀ q, q ∈ gs.set i (gs[i].1, gs[i].2.set j (gs[i].2[j].1, ys)) → ∃ m, ∃ hm : m < gs.length, q.1 = gs[m].1 ∧ q.2.map (·.1) = gs[m].2.map (·.1) := fun q hq => by
    obtain ⟨m, hm, rfl⟩ := List.getElem_of_mem hq
    exact ⟨m, by simpa using hm, hsame m hm⟩
  have hmap : (gs.set i (gs[i].1, gs[i].2.set j (gs[i].2[j].1, ys))).map (·.1) = gs.map (·.1) := by
    rw [List.map_set]
    refine List.ext_getElem (by simp) fun m h1 h2 => ?_
    rw [List.getElem_set]
    split
    · rename_i e; subst e; simp
    · rfl
  have hF : ∀ g, Pc.FC vc (gs.set i (gs[i].1, gs[i].2.set j (gs[i].2[j].1, ys))) g → Pc.FC vc gs g := fun g hg => by
    rcases hg with hg | ⟨q, hq, hg⟩ | hg
    · exact .inl hg
    · obtain ⟨m, hm, e1, _⟩ := hin q hq
      rw [e1] at hg
      exact .inr (.inl ⟨_, List.getElem_mem hm, hg⟩)
    · exact .inr (.inr (hfn g hg))
  refine ⟨⟨t.o.wr kw fun g hg e => t.oc g hg (.inr (.inr (e ▸ hB))), t.p.wr kw fun g hg e => t.pc g hg (.inr (.inr (e ▸ hB))), ⟨?_, fun q hq => ?_, hr, fun g hg => ⟨fun hb' => (t.c.off g hg).1 (hfn g hb'), fun q hq e => ?_⟩, fun q hq g hg hb' => ?_⟩, t.op, fun g hg hf => t.oc g hg (hF g hf), fun g hg hf => t.pc g hg (hF g hf), Nat.le_trans t.lo c.size⟩, ?_, fun g hg hx' => ?_⟩
  · rw [hmap]
    exact t.c.own.wr kw fun g hg e => (t.c.off g hg).1 (e ▸ hB)
  · obtain ⟨m, hm, e1, e2⟩ := hin q hq
    rw [e1, e2]
    exact (t.c.inn _ (List.getElem_mem hm)).wr kw fun g hg e => t.c.offi _ (List.getElem_mem hm) g hg (e ▸ hB)
  · obtain ⟨m, hm, e1, _⟩ := hin q hq
    rw [e1] at e
    exact (t.c.off g hg).2 _ (List.getElem_mem hm) e
  · obtain ⟨m, hm, e1, _⟩ := hin q hq
    rw [e1] at hg
    exact t.c.offi _ (List.getElem_mem hm) g hg (hfn g hb')
  · refine List.pairwise_iff_getElem.2 fun m n h1 h2 hmn => ?_
    rw [(hsame m h1).1, (hsame n h2).1]
    exact List.pairwise_iff_getElem.1 h.sep m n (by simpa using h1) (by simpa using h2) hmn
  · rcases hg with hg | hg | hg
    · exact h.off g (.inl hg) hx'
    · exact h.off g (.inr (.inl hg)) hx'
    · exact h.off g (.inr (.inr (hF g hg))) hx'
end
end Go.Proofs.Ytflniifngfiekaa

/-
  The builtin copy into a list of the call's own; operations on literal words.
  Conditions: none; nothing of the program stands here.
-/
namespace Go.Pc
open Go Go.RowKit
section
variable {P : Program} {N : Nat} {ops : Array Oper} {π : List Nat} {K : Env → World → Prop} {ρ : Env} {w w0 : World} {l : List Oper}
variable {i : Nat} {ty : TypeId} {pos : String} {after : Array Edge} {g : Option (Nat × Bool)} {d : Nat}
theorem rd_conv {x : Operand} {n m : Int} {k k' : IntKind} {src dst : TypeId} {u : TypeDesc} (hx : ev ρ x = .int k n) (hs : P.underlying src = some u) (hd : P.underlying dst = some (.int k')) (hv : k'.wrap n = m) : Rd P (.convert src dst x) ty ρ w (.int k' m) := by
  constructor; intro _ _ _ _
  simp [execOp, hx, convert, run_underlying hs, run_underlying hd, Conv.intToInt, hv]
end
end Go.Pc

/-
  Walks: the reference's source of numbers (l01Next, l01Pick, l01Number).
  Conditions: stated at each theorem: the source lies in a block of its own.
-/
namespace Go.Proofs.Ytflniifngfiekaa
open Go Go.Pc
/-- A source of numbers in block bs. -/
structure Src (w : World) (bs : Nat) : Prop where
  ex : ∃ (vc : Value) (n at_ : Nat) (seed : Int) (lo : Nat) (cs : List Int), Blk w bs [vc, .int .i64 at_, .int .i64 seed] ∧ Sl lo bs w vc (cs.map (Value.int .u8)) ∧ (∀ c, c ∈ cs → 0 ≤ c ∧ c < 256) ∧ cs.length = n ∧ at_ ≤ n ∧ n ≤ 1000000 ∧ 0 ≤ seed ∧ seed < 2147483647
section
variable {B : Nat → Prop} {w w' : World} {bs : Nat}
theorem Src.lt (h : Src w bs) : bs < w.heap.size := by
  obtain ⟨_, _, _, _, _, _, h1, _⟩ := h.ex
  exact h1.lt
theorem Src.wr (h : Src w bs) (k : Wrt B w w') (hB : ∀ b, B b → bs < b) : Src w' bs := by
  obtain ⟨vc, n, a, seed, lo, cs, h1, h2, h3⟩ := h.ex
  exact ⟨vc, n, a, seed, lo, cs, h1.wr k fun hb => by have := hB bs hb; omega, h2.same (k.same fun b hb => by have := hB b hb; omega), h3⟩
theorem Src.ext (h : Src w bs) (x : Ext w w') : Src w' bs := h.wr (.ofExt (B := fun _ => False) x) fun b hb => hb.elim
end
theorem srcElT {P : Program} {e size bytes : Nat} {z : Value} (h : (P.info? e).map (fun i => (i.size, i.bytes, i.zero)) = some (size, bytes, some z)) : ElT P e size bytes z := by
  cases hx : P.info? e with
  | none => rw [hx] at h; cases h
  | some i => rw [hx] at h; simp at h; exact ⟨⟨i, hx, h.1, h.2.1, h.2.2⟩⟩
instance : ElT Try.prog 3 1 8 (.int .i64 0) := srcElT (by kernel_rfl)
set_option maxHeartbeats 4000000 in
theorem l01Next_ok {w : World} {bs : Nat} {n : Int} (hs : Src w bs) :
    Calls Try.prog 27 #[.pointer (some ⟨bs, 0, none⟩), .int .i64 n] w (Ret fun v w' => ∃ k : Int, v = .int .i64 k ∧ Chg bs w w' ∧ Src w' bs ∧ 0 ≤ k ∧ (k = 0 ∨ k < n) ∧ w'.heap.size = w.heap.size) := by
  obtain ⟨vc, N, a, seed, lo, cs, hB, hS, hcs, hcl, haN, hN, hs0, hs1⟩ := hs.ex
  have c0 : Cell w bs 0 vc := hB.cell rfl
  have c1 : Cell w bs 1 (.int .i64 a) := hB.cell rfl
  have c2 : Cell w bs 2 (.int .i64 seed) := hB.cell rfl
  refine enter (args := [.pointer (some ⟨bs, 0, none⟩), .int .i64 n]) (l := [.tmp 4]) Try.func27 rfl rfl Try.ntmps27 (by simp) ?_
  refine go ?_
  refine c_if (fun h1 => ?_) (fun h1 => ?_)
  · refine go ?_
    exact ret1 ⟨0, rfl, Chg.refl _ _, hs, Int.le_refl _, .inl rfl, rfl⟩
  have hm : -9223372036854775808 ≤ seed * 48271 ∧ seed * 48271 ≤ 9223372036854775807 := by omega
  refine go ?_
  refine ra (h := rd_mul (by ((try simp only [ev_tmp, ev_const, ev_func, get_put, get_args, get_putL, get_putL_nil, Nat.reduceEqDiff, reduceIte, List.getD_cons_zero, List.getD_cons_succ, List.getD_nil]); first | done | with_reducible rfl)) (by ((try simp only [ev_tmp, ev_const, ev_func, get_put, get_args, get_putL, get_putL_nil, Nat.reduceEqDiff, reduceIte, List.getD_cons_zero, List.getD_cons_succ, List.getD_nil]); first | done | with_reducible rfl)) hm) (next := ?_)
  refine go ?_
  obtain ⟨s2, hs2⟩ : ∃ s2, (seed * 48271 + 71) % 2147483647 = s2 := ⟨_, rfl⟩
  have hs2r : 0 ≤ s2 ∧ s2 < 2147483647 := by omega
  rw [hs2]
  refine st_store_fld (m := 2) (h := hB) (by ((try simp only [ev_tmp, ev_const, ev_func, get_put, get_args, get_putL, get_putL_nil, Nat.reduceEqDiff, reduceIte, List.getD_cons_zero, List.getD_cons_succ, List.getD_nil]); first | done | with_reducible rfl)) (by ((try simp only [ev_tmp, ev_const, ev_func, get_put, get_args, get_putL, get_putL_nil, Nat.reduceEqDiff, reduceIte, List.getD_cons_zero, List.getD_cons_succ, List.getD_nil]); first | done | with_reducible rfl)) rfl (by simp) (by first | exact True.intro | exact ⟨_, rfl, by ((try simp only [ev_tmp, ev_const, ev_func, get_put, get_args, get_putL, get_putL_nil, Nat.reduceEqDiff, reduceIte, List.getD_cons_zero, List.getD_cons_succ, List.getD_nil, Bool.not_true, Bool.not_false]); first | done | with_reducible rfl)⟩) fun w2 hc2 hz2 hB2 => ?_
  have hB2 : Blk w2 bs [vc, .int .i64 a, .int .i64 s2] := hB2
  have hS2 := hS.same (hc2.same (.inr (Nat.le_refl _)))
  have d0 : Cell w2 bs 0 vc := hB2.cell rfl
  have d1 : Cell w2 bs 1 (.int .i64 a) := hB2.cell rfl
  have d2 : Cell w2 bs 2 (.int .i64 s2) := hB2.cell rfl
  have hlen2 := hS2.toLen
  rw [List.length_map, hcl] at hlen2
  clear c0 c1 c2
  refine go ?_
  refine d_region fun w3 he3 hz3 => ?_
  have hlen3 := (hS2.same (he3.same _ _)).toLen
  rw [List.length_map, hcl] at hlen3
  refine dgo ?_
  refine d_end (h := ?_)
  have hB3 : Blk w3 bs [vc, .int .i64 a, .int .i64 s2] := @Blk.ext _ _ _ _ he3 hB2
  have hS3 := hS2.same (he3.same _ _)
  have hc3 := hc2.grow he3
  refine go ?_
  refine c_if (fun h4 => ?_) (fun h4 => ?_)
  · have haL : a < (cs.map (Value.int .u8)).length := by rw [List.length_map, hcl]; omega
    have hra : Pc.rowAt vc (cs.map (Value.int .u8)) a = .int .u8 (cs.getD a 0) := by
      have : a < cs.length := by omega
      simp [Pc.rowAt, this]
    have hcr : 0 ≤ cs.getD a 0 ∧ cs.getD a 0 < 256 := by
      have h : a < cs.length := by omega
      have := hcs _ (List.getElem_mem h)
      simpa [h] using this
    refine go ?_
    refine d_region fun w4 he4 hz4 => ?_
    have hS4 := hS3.same (he4.same _ _)
    have hlen4 := hS4.toLen
    rw [List.length_map, hcl] at hlen4
    refine dgo ?_
    refine da (v := Pc.rowAt vc (cs.map (Value.int .u8)) a) (h := rs_load_sl (us := cs.map (Value.int .u8)) (by ((try simp only [ev_tmp, ev_const, ev_func, get_put, get_args, get_putL, get_putL_nil, Nat.reduceEqDiff, reduceIte, List.getD_cons_zero, List.getD_cons_succ, List.getD_nil]); first | done | with_reducible rfl)) haL) (next := ?_)
    rw [hra]
    refine da (v := .int .i64 (cs.getD a 0)) (h := ⟨fun _ _ => rd_conv (u := .int .u8) (by ((try simp only [ev_tmp, ev_const, ev_func, get_put, get_args, get_putL, get_putL_nil, Nat.reduceEqDiff, reduceIte, List.getD_cons_zero, List.getD_cons_succ, List.getD_nil]); first | done | with_reducible rfl)) (by kernel_rfl) (by kernel_rfl) (IntWalk.i64_in _ (by omega))⟩) (next := ?_)
    refine dgo ?_
    refine d_end (h := ?_)
    have hB4 : Blk w4 bs [vc, .int .i64 a, .int .i64 s2] := @Blk.ext _ _ _ _ he4 hB3
    have hc4 := hc3.grow he4
    have e1 : Cell w4 bs 1 (.int .i64 a) := hB4.cell rfl
    refine go ?_
    refine st_store_fld (m := 1) (h := hB4) (by ((try simp only [ev_tmp, ev_const, ev_func, get_put, get_args, get_putL, get_putL_nil, Nat.reduceEqDiff, reduceIte, List.getD_cons_zero, List.getD_cons_succ, List.getD_nil]); first | done | with_reducible rfl)) (by ((try simp only [ev_tmp, ev_const, ev_func, get_put, get_args, get_putL, get_putL_nil, Nat.reduceEqDiff, reduceIte, List.getD_cons_zero, List.getD_cons_succ, List.getD_nil]); first | done | with_reducible rfl)) rfl (by simp) (by first | exact True.intro | exact ⟨_, rfl, by ((try simp only [ev_tmp, ev_const, ev_func, get_put, get_args, get_putL, get_putL_nil, Nat.reduceEqDiff, reduceIte, List.getD_cons_zero, List.getD_cons_succ, List.getD_nil, Bool.not_true, Bool.not_false]); first | done | with_reducible rfl)⟩) fun w5 hc5 hz5 hB5 => ?_
    have hB5 : Blk w5 bs [vc, .int .i64 ((a + 1 : Nat) : Int), .int .i64 s2] := hB5
    have hS5 := hS4.same (hc5.same (.inr (Nat.le_refl _)))
    have hsr5 : Src w5 bs := ⟨vc, N, a + 1, s2, lo, cs, hB5, hS5, hcs, hcl, by omega, hN, hs2r⟩
    have hc45 := hc4.trans hc5
    have f0 : Cell w5 bs 0 vc := hB5.cell rfl
    have f1 : Cell w5 bs 1 (.int .i64 ((a + 1 : Nat) : Int)) := hB5.cell rfl
    clear e1
    have hzz : w5.heap.size = w.heap.size := by omega
    have fin : ∀ {y : Int}, 0 ≤ y → 0 ≤ y % n ∧ (y % n = 0 ∨ y % n < n) := fun {y} hy => ⟨Int.emod_nonneg _ (by omega), .inr (Int.emod_lt_of_pos _ (by omega))⟩
    refine go ?_
    refine spd (fun h6 => ?_) (fun h6 => ?_)
    · refine go ?_
      refine c_if (fun h7 => ?_) (fun h7 => ?_)
      · refine go ?_
        refine d_region fun w6 he6 hz6 => ?_
        have hS6 := hS5.same (he6.same _ _)
        have hlen6 := hS6.toLen
        rw [List.length_map, hcl] at hlen6
        refine dgo ?_
        rw [Nat.add_sub_cancel]
        refine da (v := Pc.rowAt vc (cs.map (Value.int .u8)) a) (h := rs_load_sl (us := cs.map (Value.int .u8)) (by ((try simp only [ev_tmp, ev_const, ev_func, get_put, get_args, get_putL, get_putL_nil, Nat.reduceEqDiff, reduceIte, List.getD_cons_zero, List.getD_cons_succ, List.getD_nil]); first | done | with_reducible rfl)) haL) (next := ?_)
        rw [hra]
        refine da (v := .int .i64 (cs.getD a 0)) (h := ⟨fun _ _ => rd_conv (u := .int .u8) (by ((try simp only [ev_tmp, ev_const, ev_func, get_put, get_args, get_putL, get_putL_nil, Nat.reduceEqDiff, reduceIte, List.getD_cons_zero, List.getD_cons_succ, List.getD_nil]); first | done | with_reducible rfl)) (by kernel_rfl) (by kernel_rfl) (IntWalk.i64_in _ (by omega))⟩) (next := ?_)
        refine dgo ?_
        refine d_end (h := ?_)
        obtain ⟨q1, q2⟩ := fin (y := cs.getD a 0) hcr.1
        refine go ?_
        exact ret1 ⟨_, rfl, hc45.grow he6, hsr5.ext he6, q1, q2, by omega⟩
      · refine go ?_
        obtain ⟨q1, q2⟩ := fin (y := s2 / 47 + cs.getD a 0) (by omega)
        exact ret1 ⟨_, rfl, hc45, hsr5, q1, q2, hzz⟩
    · refine go ?_
      obtain ⟨q1, q2⟩ := fin (y := s2 / 47 + cs.getD a 0) (by omega)
      exact ret1 ⟨_, rfl, hc45, hsr5, q1, q2, hzz⟩
  · have hsr3 : Src w3 bs := ⟨vc, N, a, s2, lo, cs, hB3, hS3, hcs, hcl, haN, hN, hs2r⟩
    refine go ?_
    refine ret1 ⟨_, rfl, hc3, hsr3, Int.emod_nonneg _ (by omega), .inr (Int.emod_lt_of_pos _ (by omega)), by omega⟩
set_option maxHeartbeats 1000000 in
theorem l01Pick_ok {w : World} {bs : Nat} {vl : Value} {xs : List Int} {lo hi : Nat} (hs : Src w bs) [hx : Ints lo hi w vl xs] (h0 : 0 < xs.length) (h1 : xs.length ≤ 1000000) (hbs : bs < lo ∨ hi ≤ bs) :
    Calls Try.prog 30 #[.pointer (some ⟨bs, 0, none⟩), vl] w (Ret fun v w' => ∃ k : Int, v = .int .i64 k ∧ Chg bs w w' ∧ Src w' bs ∧ k ∈ xs ∧ w'.heap.size = w.heap.size) := by
  refine enter (args := [.pointer (some ⟨bs, 0, none⟩), vl]) (l := [.tmp 4]) Try.func30 rfl rfl Try.ntmps30 (by simp) ?_
  refine go ?_
  refine rc (l01Next_ok hs) (next := fun v2 w2 h2 => ?_)
  obtain ⟨k, rfl, hc2, hs2, hk0, hk1, hz2⟩ := h2
  have hx2 : Ints lo hi w2 vl xs := hx.same (hc2.same (by omega))
  obtain ⟨m, rfl⟩ : ∃ m : Nat, k = m := ⟨k.toNat, by omega⟩
  have hm : m < xs.length := by omega
  refine go ?_
  refine ret1 ⟨_, rfl, hc2, hs2, ?_, hz2⟩
  simp [hm]
end Go.Proofs.Ytflniifngfiekaa

/-
  Walks: the reference's l01From, l01Number, l07Vectors.
  Conditions: stated at each theorem.
-/
namespace Go.Proofs.Ytflniifngfiekaa
open Go Go.Pc
set_option maxHeartbeats 4000000 in
theorem l01From_ok {w : World} {vc : Value} {cs : List Int} {lo hi : Nat} (hS : Sl lo hi w vc (cs.map (Value.int .u8))) (hcs : ∀ c, c ∈ cs → 0 ≤ c ∧ c < 256) (hl : cs.length ≤ 1000000) :
    Calls Try.prog 11 #[vc] w (Ret fun v w' => ∃ bs, v = .pointer (some ⟨bs, 0, none⟩) ∧ Ext w w' ∧ Src w' bs ∧ w.heap.size ≤ bs) := by
  replace hS := hS.wide
  have hlen := hS.toLen
  rw [List.length_map] at hlen
  refine enter (args := [vc]) (l := [.tmp 2]) Try.func11 rfl rfl Try.ntmps11 (by simp) ?_
  refine go ?_
  refine ra (v := .agg #[vc, .int .i64 0, .int .i64 76001]) (h := rd_build (by simp only [ev_tmp, ev_const, ev_func, get_put, get_args, get_putL, get_putL_nil, Nat.reduceEqDiff, reduceIte, List.getD_cons_zero, List.getD_cons_succ, List.getD_nil, List.map_toArray, List.map_cons, List.map_nil]; rfl) (fun _ => ?_)) (next := ?_)
  · obtain ⟨A, c, rfl, _⟩ := hS.ex
    kernel_rfl
  refine st_box (vs := [vc, .int .i64 0, .int .i64 76001]) (by ((try simp only [ev_tmp, ev_const, ev_func, get_put, get_args, get_putL, get_putL_nil, Nat.reduceEqDiff, reduceIte, List.getD_cons_zero, List.getD_cons_succ, List.getD_nil]); first | done | with_reducible rfl)) (by first | exact True.intro | exact ⟨_, rfl, by ((try simp only [ev_tmp, ev_const, ev_func, get_put, get_args, get_putL, get_putL_nil, Nat.reduceEqDiff, reduceIte, List.getD_cons_zero, List.getD_cons_succ, List.getD_nil, Bool.not_true, Bool.not_false]); first | done | with_reducible rfl)⟩) fun w1 bs he1 hb1 hs1 hB1 => ?_
  refine go ?_
  refine r_for 64 (fun k ρ w' => ∃ seed : Int, Has ρ [(0, vc), (3, .pointer (some ⟨bs, 0, none⟩)), (4, .int .i64 k)] ∧ Chg bs w1 w' ∧ Blk w' bs [vc, .int .i64 0, .int .i64 seed] ∧ 0 ≤ seed ∧ seed < 2147483647) ?_ ?_
  · refine ⟨76001, ?_, Chg.refl _ _, hB1, by omega, by omega⟩
    exact hasP
  clear hB1
  rintro k ρ w2 hk ⟨seed, hH, hch2, hB2, hs0, hs1'⟩
  refine rwp_has hH fun ρ0 => ?_
  have hx2 : Ext w w2 := hch2.ext he1 (by omega)
  have hS2 := hS.same (hx2.same _ _)
  have hlen2 := hS2.toLen
  rw [List.length_map] at hlen2
  have fin : Src w2 bs := ⟨vc, cs.length, 0, seed, 0, cs, hB2, hS2.mono (Nat.le_refl _) (by omega), hcs, rfl, Nat.zero_le _, hl, hs0, hs1'⟩
  refine go ?_
  refine spd (fun h3 => ?_) (fun h3 => ?_)
  · refine go ?_
    refine c_if (fun h4 => ?_) (fun h4 => ?_)
    · have hkl : k < (cs.map (Value.int .u8)).length := by rw [List.length_map]; omega
      have hra : Pc.rowAt vc (cs.map (Value.int .u8)) k = .int .u8 (cs.getD k 0) := by
        have : k < cs.length := by omega
        simp [Pc.rowAt, this]
      have hcr : 0 ≤ cs.getD k 0 ∧ cs.getD k 0 < 256 := by
        have h : k < cs.length := by omega
        have := hcs _ (List.getElem_mem h)
        simpa [h] using this
      have c2 : Cell w2 bs 2 (.int .i64 seed) := hB2.cell rfl
      have hm : -9223372036854775808 ≤ seed * 71 ∧ seed * 71 ≤ 9223372036854775807 := by omega
      refine go ?_
      refine d_region fun w5 he5 hz5 => ?_
      have hS5 := hS2.same (he5.same _ _)
      have hlen5 := hS5.toLen
      rw [List.length_map] at hlen5
      have hB5 : Blk w5 bs [vc, .int .i64 0, .int .i64 seed] := @Blk.ext _ _ _ _ he5 hB2
      refine dgo ?_
      refine da (h := rs_mul (by ((try simp only [ev_tmp, ev_const, ev_func, get_put, get_args, get_putL, get_putL_nil, Nat.reduceEqDiff, reduceIte, List.getD_cons_zero, List.getD_cons_succ, List.getD_nil]); first | done | with_reducible rfl)) (by ((try simp only [ev_tmp, ev_const, ev_func, get_put, get_args, get_putL, get_putL_nil, Nat.reduceEqDiff, reduceIte, List.getD_cons_zero, List.getD_cons_succ, List.getD_nil]); first | done | with_reducible rfl)) hm) (next := ?_)
      refine dgo ?_
      refine da (v := Pc.rowAt vc (cs.map (Value.int .u8)) k) (h := rs_load_sl (us := cs.map (Value.int .u8)) (by ((try simp only [ev_tmp, ev_const, ev_func, get_put, get_args, get_putL, get_putL_nil, Nat.reduceEqDiff, reduceIte, List.getD_cons_zero, List.getD_cons_succ, List.getD_nil]); first | done | with_reducible rfl)) hkl) (next := ?_)
      rw [hra]
      refine da (v := .int .i64 (cs.getD k 0)) (h := ⟨fun _ _ => rd_conv (u := .int .u8) (by ((try simp only [ev_tmp, ev_const, ev_func, get_put, get_args, get_putL, get_putL_nil, Nat.reduceEqDiff, reduceIte, List.getD_cons_zero, List.getD_cons_succ, List.getD_nil]); first | done | with_reducible rfl)) (by kernel_rfl) (by kernel_rfl) (IntWalk.i64_in _ (by omega))⟩) (next := ?_)
      refine dgo ?_
      refine z_stfld (bo := bs) (m := 2) (cs := [vc, .int .i64 0, .int .i64 seed]) hB5 rfl (by simp) (next := fun w6 hc6 hz6 hB6 => ?_)
      refine go ?_
      refine forQ_normal (by omega) ⟨_, ?_, (hch2.grow he5).trans hc6, hB6, Int.emod_nonneg _ (by omega), Int.emod_lt_of_pos _ (by omega)⟩
      exact hasP
    · refine go ?_
      exact ret1 ⟨bs, rfl, hx2, fin, by omega⟩
  · refine go ?_
    exact ret1 ⟨bs, rfl, hx2, fin, by omega⟩
theorem src_growI {e s bs : Nat} {w w' : World} {v : Value} {xs : List Int} (h : GrowI e s w v xs) (c : Chg bs w w') (hb : bs < s) : GrowI e s w' v xs :=
  ⟨h.own.other c fun e => by have := (h.own.lt _ e).1; omega⟩
set_option maxHeartbeats 4000000 in
theorem l07Vectors_ok {p : Pr} {w : World} {bs : Nat} {vp : Value} {lo hi : Nat} [hp : Pres lo hi w vp p] (hs : Src w bs) (hbs : bs < lo) (hl : p.ord.length ≤ 1000) :
    Calls Try.prog 13 #[.pointer (some ⟨bs, 0, none⟩), vp] w (Ret fun v w' => ∃ xs : List Int, Chg bs w w' ∧ Src w' bs ∧ Fr w.heap.size w' v xs ∧ xs.length ≤ 1001) := by
  have hb := hs.lt
  obtain ⟨vo, vpw, vc, ps, cs, css, rfl, h1, h2, h3⟩ := hp.ex
  have ap1 : Apart lo hi bs := ⟨.inl hbs⟩
  refine enter (args := [.pointer (some ⟨bs, 0, none⟩), .agg #[vo, vpw, vc]]) (l := [.tmp 4]) Try.func13 rfl rfl Try.ntmps13 (by simp) ?_
  refine go ?_
  refine st_box3 (by ((try simp only [ev_tmp, ev_const, ev_func, get_put, get_args, get_putL, get_putL_nil, Nat.reduceEqDiff, reduceIte, List.getD_cons_zero, List.getD_cons_succ, List.getD_nil]); first | done | with_reducible rfl)) (by first | exact True.intro | exact ⟨_, rfl, by ((try simp only [ev_tmp, ev_const, ev_func, get_put, get_args, get_putL, get_putL_nil, Nat.reduceEqDiff, reduceIte, List.getD_cons_zero, List.getD_cons_succ, List.getD_nil, Bool.not_true, Bool.not_false]); first | done | with_reducible rfl)⟩) fun w1 b he1 hb1 hs1 hc0 hc1 hc2 => ?_
  have ap2 : Apart b (b + 1) bs := ⟨.inl (by omega)⟩
  have hz1 := he1.size
  refine go ?_
  refine st_slice0 (by first | exact True.intro | exact ⟨_, rfl, by ((try simp only [ev_tmp, ev_const, ev_func, get_put, get_args, get_putL, get_putL_nil, Nat.reduceEqDiff, reduceIte, List.getD_cons_zero, List.getD_cons_succ, List.getD_nil, Bool.not_true, Bool.not_false]); first | done | with_reducible rfl)⟩) fun w2 v2 he2 hs2 ho2 => ?_
  have hz2 := he2.size
  have hg2 : GrowI 2 w1.heap.size w2 v2 [] := GrowI.start ho2 (Nat.le_refl _)
  have hE2 := he1.trans he2
  clear ho2
  refine go ?_
  refine r_for p.ord.length (fun k ρ w' => ∃ (vl : Value) (xs : List Int), Has ρ [(0, .pointer (some ⟨bs, 0, none⟩)), (3, .pointer (some ⟨b, 0, none⟩)), (5, vl), (6, .int .i64 k)] ∧ Chg bs w1 w' ∧ Src w' bs ∧ GrowI 2 w1.heap.size w' vl xs ∧ xs.length = k) ?_ ?_
  · refine ⟨v2, [], ?_, Chg.ofExt he2, hs.ext hE2, hg2, rfl⟩
    exact hasP
  clear hg2
  rintro k ρ w3 hk ⟨vl, xs, hH, hch3, hs3, hg3, hxl⟩
  refine rwp_has hH fun ρ0 => ?_
  have hz3 := hch3.size
  have hcw : Chg bs w w3 := (Chg.ofExt he1).trans hch3
  refine go ?_
  refine c_if (fun h4 => ?_) (fun h4 => ?_)
  · refine go ?_
    refine rc (l01Next_ok hs3) (next := fun v5 w5 h5 => ?_)
    obtain ⟨k5, rfl, hc5, hs5, hk50, hk51, hz5⟩ := h5
    have hg5 := src_growI hg3 hc5 (by omega)
    refine go ?_
    refine st_growi hg5 (by omega) (by omega) (next := fun v6 v7 w7 hg7 hx7 hz7 hst7 => ?_)
    have hlt : ∀ g, vl.ownBlock = some g → w1.heap.size ≤ g := fun g hg => (hg5.own.lt g hg).1
    refine go ?_
    refine forQ_normal (by omega) ⟨v7, _, ?_, (hch3.trans hc5).gstep hst7 hlt, hs5.wr hst7.wrt (fun g hg => by have := hlt g hg; omega), hg7, by simp [hxl]⟩
    exact hasP
  obtain rfl : k = p.ord.length := by omega
  have hf3 := hg3.fr
  have hi3 := hf3.ints
  refine go ?_
  refine rc (l01Next_ok hs3) (next := fun v5 w5 h5 => ?_)
  obtain ⟨k5, rfl, hc5, hs5, hk50, hk51, hz5⟩ := h5
  have hg5 := src_growI hg3 hc5 (by omega)
  have hc05 := hcw.trans hc5
  have hf5 := hg5.fr
  have hi5 := hf5.ints
  refine go ?_
  refine c_if (fun h6 => ?_) (fun h6 => ?_)
  · refine go ?_
    refine spd (fun h7 => ?_) (fun h7 => ?_)
    · refine go ?_
      refine rc (l01Next_ok hs5) (next := fun v8 w8 h8 => ?_)
      obtain ⟨k8, rfl, hc8, hs8, hk80, hk81, hz8⟩ := h8
      have hg8 := src_growI hg5 hc8 (by omega)
      have hc08 := hc05.trans hc8
      refine go ?_
      refine c_if (fun h9 => ?_) (fun h9 => ?_)
      · have hne : p.ord ≠ [] := fun e => by rw [e] at hxl; simp at hxl; rw [hxl] at h7; simp at h7
        have hpl : 0 < p.ord.length := List.length_pos_iff.2 hne
        obtain ⟨te, bx, hbx, hox⟩ := hg8.fr.own (by intro e; rw [e] at hxl; simp at hxl; omega)
        refine go ?_
        refine st_sliceN (us := [.int .i64 (p.ord.getD 0 0), .int .i64 (-1)]) (next := fun w9 v9 he9 hz9 ho9 => ?_)
        have ho9' : OwnI 2 w8.heap.size w9 v9 [p.ord.getD 0 0, -1] := ⟨ho9⟩
        have hi9 : Ints w8.heap.size w9.heap.size w9 v9 _ := (ho9'.toFr (Nat.le_refl _)).ints
        refine go ?_
        refine rc (l01Pick_ok (hs8.ext he9) (xs := [p.ord.getD 0 0, -1]) (by simp) (by simp) (.inl ?_)) (next := fun v10 w10 h10 => ?_)
        · omega
        obtain ⟨k10, rfl, hc10, hs10, hm10, hz10⟩ := h10
        have hox10 : OwnI te bx w10 vl xs := ⟨(@Own.ext _ _ _ _ _ _ he9 hox.own).chg' hc10 (by omega)⟩
        have hi10 : Ints bx (bx + 1) w10 vl xs := ⟨hox10.own.toSl⟩
        have hlx := hox10.own.lt
        refine go ?_
        refine st_store_int (h := hox10) (by ((try simp only [ev_tmp, ev_const, ev_func, get_put, get_args, get_putL, get_putL_nil, Nat.reduceEqDiff, reduceIte, List.getD_cons_zero, List.getD_cons_succ, List.getD_nil]); first | done | with_reducible rfl)) (by ((try simp only [ev_tmp, ev_const, ev_func, get_put, get_args, get_putL, get_putL_nil, Nat.reduceEqDiff, reduceIte, List.getD_cons_zero, List.getD_cons_succ, List.getD_nil]); first | done | with_reducible rfl)) (by omega) (by first | exact True.intro | exact ⟨_, rfl, by ((try simp only [ev_tmp, ev_const, ev_func, get_put, get_args, get_putL, get_putL_nil, Nat.reduceEqDiff, reduceIte, List.getD_cons_zero, List.getD_cons_succ, List.getD_nil, Bool.not_true, Bool.not_false]); first | done | with_reducible rfl)⟩) fun w11 hc11 hs11 ho11 => ?_
        refine go ?_
        refine ret1 ⟨_, ((hc08.grow he9).trans hc10).app (ob := some bx) hc11.by_ (fun g e => by injection e with e; omega), hs10.wr (.one (B := fun g => g = bx) rfl hc11) (fun g e => by omega), ho11.toFr (by omega), by simp; omega⟩
      · refine go ?_
        refine st_growi hg8 (by omega) (by omega) (next := fun v9 v10 w10 hg10 hx10 hz10 hst10 => ?_)
        have hlt : ∀ g, vl.ownBlock = some g → w1.heap.size ≤ g := fun g hg => (hg8.own.lt g hg).1
        refine go ?_
        refine ret1 ⟨_, hc08.gstep hst10 (fun g hg => by have := hlt g hg; omega), hs8.wr hst10.wrt (fun g hg => by have := hlt g hg; omega), hg10.fr.mono (by omega), by simp; omega⟩
    · refine go ?_
      refine st_growi hg5 (by omega) (by omega) (next := fun v9 v10 w10 hg10 hx10 hz10 hst10 => ?_)
      have hlt : ∀ g, vl.ownBlock = some g → w1.heap.size ≤ g := fun g hg => (hg5.own.lt g hg).1
      refine go ?_
      refine ret1 ⟨_, hc05.gstep hst10 (fun g hg => by have := hlt g hg; omega), hs5.wr hst10.wrt (fun g hg => by have := hlt g hg; omega), hg10.fr.mono (by omega), by simp; omega⟩
  · refine go ?_
    exact ret1 ⟨_, hc05, hs5, hf5.mono (by omega), by omega⟩
end Go.Proofs.Ytflniifngfiekaa

/-
  Walks: the reference's IsMember and IsSubset.
  Conditions: what the arguments read as.
-/
namespace Go.Proofs.Ytflniifngfiekaa
open Go Go.Pc
end Go.Proofs.Ytflniifngfiekaa

/-
  Walks: the reference's CosetRepresentative.
  Conditions: what the arguments read as.
-/
namespace Go.Proofs.Ytflniifngfiekaa
open Go Go.Pc
end Go.Proofs.Ytflniifngfiekaa

/-
  Walks: the reference's closure under conjugation, its test of normality (l13Stable, l13Normal).
  Conditions: the tails at all levels are groups; the lists are those told.
-/
namespace Go.Proofs.Ytflniifngfiekaa
open Go Go.Pc
/-- One round: the elements, and their conjugates. -/
structure Rnd {p : Pr} [ConAll p] (os bs ls : List (El p)) (i j : Nat) : Prop where
  mem : ∀ a, a ∈ ls → a ∈ os ∨ ∃ o, o ∈ os ∧ ∃ b, b ∈ bs ∧ a = Grp.cj o b
  old : ∀ o, o ∈ os → o ∈ ls
  rows : ∀ i' (h : i' < bs.length), i' < i → ∀ o, o ∈ os → Grp.cj o bs[i'] ∈ ls
  part : ∀ (h : i < bs.length) j' (h' : j' < os.length), j' < j → Grp.cj os[j'] bs[i] ∈ ls
  len : ls.length ≤ 6 + i * 6 + j
theorem Rnd.step {p : Pr} [ConAll p] {os bs ls : List (El p)} {i j : Nat} (h : Rnd os bs ls i j) (hi : i < bs.length) (hj : j < os.length) : Rnd os bs (ls ++ [Grp.cj os[j] bs[i]]) i (j + 1) where
  mem a ha := by
    rcases List.mem_append.1 ha with ha | ha
    · exact h.mem a ha
    · exact .inr ⟨_, List.getElem_mem hj, _, List.getElem_mem hi, List.mem_singleton.1 ha⟩
  old o ho := List.mem_append_left _ (h.old o ho)
  rows i' h1 h2 o ho := List.mem_append_left _ (h.rows i' h1 h2 o ho)
  part h1 j' h2 h3 := by
    by_cases e : j' = j
    · subst e; simp
    · exact List.mem_append_left _ (h.part h1 j' h2 (by omega))
  len := by have := h.len; simp only [List.length_append, List.length_singleton]; omega
theorem Rnd.next {p : Pr} [ConAll p] {os bs ls : List (El p)} {i : Nat} (h : Rnd os bs ls i os.length) (hi : i < bs.length) (h6 : os.length ≤ 6) : Rnd os bs ls (i + 1) 0 where
  mem := h.mem
  old := h.old
  rows i' h1 h2 o ho := by
    by_cases e : i' = i
    · subst e
      obtain ⟨j, hj, rfl⟩ := List.getElem_of_mem ho
      exact h.part h1 j hj hj
    · exact h.rows i' h1 (by omega) o ho
  part h1 j' h2 h3 := absurd h3 (Nat.not_lt_zero _)
  len := by have := h.len; omega
end Go.Proofs.Ytflniifngfiekaa

/-
  Walks: the reference's GeneratedSubgroup, ConjugateSubgroup, IsNormalSubgroup, SubgroupIndex, SubgroupDepths.
  Conditions: what the arguments read as.
-/
namespace Go.Proofs.Ytflniifngfiekaa
open Go Go.Pc
end Go.Proofs.Ytflniifngfiekaa

/-
  Walks: the reference's CosetNumber, MemberElement, MemberExponents.
  Conditions: what the arguments read as.
-/
namespace Go.Proofs.Ytflniifngfiekaa
open Go Go.Pc
end Go.Proofs.Ytflniifngfiekaa

/-
  Walks: the reference's words, relators and values of words (l07Word, l06Invert, l07Relators, l10Eval, l16Relators, l10Elements).
  Conditions: stated at each theorem.
-/
namespace Go.Proofs.Ytflniifngfiekaa
open Go Go.Pc
theorem app_repl (w : List Int) (m : Nat) (a : Int) : (w ++ List.replicate m a) ++ [a] = w ++ List.replicate (m + 1) a := by
  rw [List.append_assoc]
  congr 1
  exact (List.replicate_succ' (n := m) (a := a)).symm
set_option maxHeartbeats 2000000 in
theorem l07Word_ok {e : List Int} {w : World} {vx : Value} {lo hi : Nat} [hx : Ints lo hi w vx e] (hl : e.length ≤ 100) (hr : ∀ i, i < e.length → 0 ≤ e.getD i 0 ∧ e.getD i 0 ≤ 100) :
    Calls Try.prog 23 #[vx] w (Ret fun v w' => Ext w w' ∧ GrowI 2 w.heap.size w' v (wordV e)) := by
  have hwl : ∀ k, (wordV (e.take k)).length ≤ 10000 := fun k => by
    have h1 := wordA_len (b := 100) (e.take k) 0 fun x hx => by
      obtain ⟨i, hi, rfl⟩ := List.getElem_of_mem (List.mem_of_mem_take hx)
      have := (hr i hi).2
      simpa [hi] using this
    have h2 : (e.take k).length * 100 ≤ 100 * 100 := Nat.mul_le_mul_right _ (by rw [List.length_take]; omega)
    exact Nat.le_trans h1 h2
  refine enter (args := [vx]) (l := [.tmp 2]) Try.func23 rfl rfl Try.ntmps23 (by simp) ?_
  refine go ?_
  refine st_slice0 (by first | exact True.intro | exact ⟨_, rfl, by ((try simp only [ev_tmp, ev_const, ev_func, get_put, get_args, get_putL, get_putL_nil, Nat.reduceEqDiff, reduceIte, List.getD_cons_zero, List.getD_cons_succ, List.getD_nil, Bool.not_true, Bool.not_false]); first | done | with_reducible rfl)⟩) fun w0 v0 he0 hs0 ho0 => ?_
  refine go ?_
  refine r_for e.length (fun k ρ w' => ∃ vl, Has ρ [(0, vx), (3, vl), (4, .int .i64 k)] ∧ Ext w w' ∧ GrowI 2 w.heap.size w' vl (wordV (e.take k))) ?_ ?_
  · refine ⟨v0, ?_, he0, GrowI.start ho0 (Nat.le_refl _)⟩
    exact hasP
  clear ho0
  rintro k ρ w2 hk ⟨vl, hH, he2, hG2⟩
  refine rwp_has hH fun ρ0 => ?_
  refine go ?_
  refine c_if (fun h4 => ?_) (fun h4 => ?_)
  · have hkn : k < e.length := by omega
    have hrk := hr k hkn
    have hst := wordV_take hkn
    have hwk := hwl k
    refine go ?_
    refine r_for (e.getD k 0).toNat (fun j ρ w' => ∃ vl, Has ρ [(0, vx), (3, vl), (4, .int .i64 k), (5, .int .i64 j)] ∧ Ext w w' ∧ GrowI 2 w.heap.size w' vl (wordV (e.take k) ++ List.replicate j ((k : Int) + 1))) ?_ ?_
    · refine ⟨vl, ?_, he2, by simpa using hG2⟩
      exact hasP
    clear hG2 he2
    rintro j ρ w3 hj ⟨vl, hH3, he3, hG3⟩
    refine rwp_has hH3 fun ρ1 => ?_
    have hz3 := he3.size
    refine go ?_
    refine c_if (fun h5 => ?_) (fun h5 => ?_)
    · refine go ?_
      refine st_growi hG3 hz3 (by simp only [List.length_append, List.length_replicate]; omega) (next := fun v4 v5 w5 hG5 hx5 hz5 hgs5 => ?_)
      refine go ?_
      refine forQ_normal (by omega) ⟨v5, ?_, hx5 w he3 (Nat.le_refl _), ?_⟩
      · exact hasP
      · rw [← app_repl]; exact hG5
    · obtain rfl : j = (e.getD k 0).toNat := by omega
      rw [← hst] at hG3
      refine go ?_
      refine forQ_normal (by omega) ⟨vl, ?_, he3, hG3⟩
      exact hasP
  · obtain rfl : k = e.length := by omega
    rw [List.take_length] at hG2
    refine go ?_
    exact ret1 ⟨he2, hG2⟩
end Go.Proofs.Ytflniifngfiekaa

/-
  Walks: the reference's CyclicPresentation, l07Heisenberg.
  Conditions: stated at each theorem.
-/
namespace Go.Proofs.Ytflniifngfiekaa
open Go Go.Pc
set_option maxHeartbeats 8000000 in
theorem spec_CyclicPresentation_ok {w : World} {n : Int} (h1 : 1 ≤ n) (h2 : n ≤ 729) :
    Calls Try.prog 65 #[.int .i64 n] w (Ret fun v w' => ∃ (u : Value) (e : Int) (ord : List Int), v = .tuple #[u, .int .i64 e] ∧ Ext w w' ∧ NewP w.heap.size w' u ord ∧ Few 9 ord) := by
  refine enter (args := [.int .i64 n]) (l := [.cell 2 28, .tmp 3]) Try.func65 rfl rfl Try.ntmps65 (by simp) ?_
  refine go ?_
  refine st_alloc (by first | exact True.intro | exact ⟨_, rfl, by ((try simp only [ev_tmp, ev_const, ev_func, get_put, get_args, get_putL, get_putL_nil, Nat.reduceEqDiff, reduceIte, List.getD_cons_zero, List.getD_cons_succ, List.getD_nil, Bool.not_true, Bool.not_false]); first | done | with_reducible rfl)⟩) fun w1 br he1 hbr hs1 hbk1 => ?_
  have hz1 := he1.size
  refine go ?_
  refine rc l01In_ok (next := fun v2 w2 h => ?_)
  obtain ⟨b2, rfl, hb2, he2⟩ := h
  have hx2 := he1.trans he2
  have hz2 := hx2.size
  have hz12 := he2.size
  refine go ?_
  refine c_b (fun e2 => ?_) (fun e2 => ?_)
  · rw [hb2.2 ⟨h1, h2⟩] at e2; cases e2
  refine go ?_
  refine rc (l07Factors_ok h1 h2) (next := fun v3 w3 h => ?_)
  obtain ⟨vl, xs, ok, rfl, he3, hf3, hl3, hp3⟩ := h
  have hx3 := hx2.trans he3
  have hz3 := hx3.size
  have hz23 := he3.size
  have hi3 := hf3.ints
  have hbr3 : Blk w3 br _ := @Blk.ext _ _ _ _ (he2.trans he3) hbk1
  have hnil : ∀ w', Ext w w' → NewP w.heap.size w' (.agg #[nilv, nilv, nilv]) [] := fun w' hx => NewP.nil hx.size
  refine go ?_
  refine c_b (fun e4 => ?_) (fun e4 => ?_)
  · refine go ?_
    refine ra (v := .agg #[nilv, nilv, nilv]) (h := rd_build (by simp only [ev_tmp, ev_const, ev_func, get_put, get_args, get_putL, get_putL_nil, Nat.reduceEqDiff, reduceIte, List.getD_cons_zero, List.getD_cons_succ, List.getD_nil, List.map_toArray, List.map_cons, List.map_nil]; rfl) (fun _ => (by kernel_rfl))) (next := ?_)
    refine st_store_agg (vs := [nilv, nilv, nilv]) (cs := _) (hb := hbr3) (by ((try simp only [ev_tmp, ev_const, ev_func, get_put, get_args, get_putL, get_putL_nil, Nat.reduceEqDiff, reduceIte, List.getD_cons_zero, List.getD_cons_succ, List.getD_nil]); first | done | with_reducible rfl)) (by ((try simp only [ev_tmp, ev_const, ev_func, get_put, get_args, get_putL, get_putL_nil, Nat.reduceEqDiff, reduceIte, List.getD_cons_zero, List.getD_cons_succ, List.getD_nil]); first | done | with_reducible rfl)) rfl ?_ rfl (by first | exact True.intro | exact ⟨_, rfl, by ((try simp only [ev_tmp, ev_const, ev_func, get_put, get_args, get_putL, get_putL_nil, Nat.reduceEqDiff, reduceIte, List.getD_cons_zero, List.getD_cons_succ, List.getD_nil, Bool.not_true, Bool.not_false]); first | done | with_reducible rfl)⟩) fun w6 hc6 hs6 hB6 => ?_
    · rfl
    refine go ?_
    have hx6 := hc6.ext hx3 (by omega)
    refine retc2 (b := br) (hb := hB6) ⟨_, _, [], rfl, hx6, hnil _ hx6, Few.nil⟩ rfl
  · refine go ?_
    refine c_if (fun h3 => ?_) (fun h3 => ?_)
    · refine go ?_
      refine ra (v := .agg #[nilv, nilv, nilv]) (h := rd_build (by simp only [ev_tmp, ev_const, ev_func, get_put, get_args, get_putL, get_putL_nil, Nat.reduceEqDiff, reduceIte, List.getD_cons_zero, List.getD_cons_succ, List.getD_nil, List.map_toArray, List.map_cons, List.map_nil]; rfl) (fun _ => (by kernel_rfl))) (next := ?_)
      refine st_store_agg (vs := [nilv, nilv, nilv]) (cs := _) (hb := hbr3) (by ((try simp only [ev_tmp, ev_const, ev_func, get_put, get_args, get_putL, get_putL_nil, Nat.reduceEqDiff, reduceIte, List.getD_cons_zero, List.getD_cons_succ, List.getD_nil]); first | done | with_reducible rfl)) (by ((try simp only [ev_tmp, ev_const, ev_func, get_put, get_args, get_putL, get_putL_nil, Nat.reduceEqDiff, reduceIte, List.getD_cons_zero, List.getD_cons_succ, List.getD_nil]); first | done | with_reducible rfl)) rfl ?_ rfl (by first | exact True.intro | exact ⟨_, rfl, by ((try simp only [ev_tmp, ev_const, ev_func, get_put, get_args, get_putL, get_putL_nil, Nat.reduceEqDiff, reduceIte, List.getD_cons_zero, List.getD_cons_succ, List.getD_nil, Bool.not_true, Bool.not_false]); first | done | with_reducible rfl)⟩) fun w6 hc6 hs6 hB6 => ?_
      · rfl
      refine go ?_
      have hx6 := hc6.ext hx3 (by omega)
      refine retc2 (b := br) (hb := hB6) ⟨_, _, [], rfl, hx6, hnil _ hx6, Few.nil⟩ rfl
    · refine go ?_
      refine rc (l07Trivial_ok (xs := xs) (by omega)) (next := fun v4 w4 h => ?_)
      obtain ⟨vo4, vp4, vc4, rp4, gs4, rfl, he4, hO4, hS4⟩ := h
      have hz4 := he4.size
      refine go ?_
      refine st_alloc (by first | exact True.intro | exact ⟨_, rfl, by ((try simp only [ev_tmp, ev_const, ev_func, get_put, get_args, get_putL, get_putL_nil, Nat.reduceEqDiff, reduceIte, List.getD_cons_zero, List.getD_cons_succ, List.getD_nil, Bool.not_true, Bool.not_false]); first | done | with_reducible rfl)⟩) fun w5 bp he5 hbp hs5 hbk5 => ?_
      have hz5 := he5.size
      refine st_store_agg (vs := [vo4, vp4, vc4]) (cs := _) (hb := hbk5) (by ((try simp only [ev_tmp, ev_const, ev_func, get_put, get_args, get_putL, get_putL_nil, Nat.reduceEqDiff, reduceIte, List.getD_cons_zero, List.getD_cons_succ, List.getD_nil]); first | done | with_reducible rfl)) (by ((try simp only [ev_tmp, ev_const, ev_func, get_put, get_args, get_putL, get_putL_nil, Nat.reduceEqDiff, reduceIte, List.getD_cons_zero, List.getD_cons_succ, List.getD_nil]); first | done | with_reducible rfl)) rfl ?_ hO4.one3 (by first | exact True.intro | exact ⟨_, rfl, by ((try simp only [ev_tmp, ev_const, ev_func, get_put, get_args, get_putL, get_putL_nil, Nat.reduceEqDiff, reduceIte, List.getD_cons_zero, List.getD_cons_succ, List.getD_nil, Bool.not_true, Bool.not_false]); first | done | with_reducible rfl)⟩) fun w6 hc6 hs6 hB6 => ?_
      · rfl
      have hE6 : Ext w4 w6 := hc6.ext he5 (by omega)
      have hx6 : Ext w w6 := (hx3.trans he4).trans hE6
      have hP6 : PBx w3.heap.size w6 bp xs := ⟨vo4, vp4, vc4, rp4, gs4, hB6, (hO4.weak fun b hb => .inr (.inr (by omega))).ext hE6, hS4⟩
      have hi6 : Ints _ _ w6 vl xs := @Ints.ext _ _ _ _ _ _ (he4.trans hE6) hi3
      refine go ?_
      refine r_for (xs.length) (fun i ρ w' => Has ρ [(2, .pointer (some ⟨br, 0, none⟩)), (4, vl), (6, .pointer (some ⟨bp, 0, none⟩)), (7, .int .i64 i)] ∧ Ext w3 w' ∧ PBx w3.heap.size w' bp xs) ?_ ?_
      · refine ⟨?_, he4.trans hE6, hP6⟩
        exact hasP
      clear hP6 hi6
      rintro i ρ w7 hi ⟨hH, hx7, hP7⟩
      refine rwp_has hH fun ρ0 => ?_
      have hi7 : Ints _ _ w7 vl xs := @Ints.ext _ _ _ _ _ _ hx7 hi3
      have hz7 := hx7.size
      obtain ⟨vo, vp, vc, rp, gs, hB7, hO7, hS7⟩ := hP7.ex
      refine go ?_
      refine c_if (fun h8 => ?_) (fun h8 => ?_)
      · have hrl := hS7.lp
        obtain ⟨bq, hbq, hxq, hvq, hoq⟩ := hO7.ownP (fun e => by rw [e] at hrl; simp at hrl; omega)
        have hln : Len w7 vp rp.length := by have := hoq.toSl.toLen; simpa using this
        have c1 : Cell w7 bp 1 vp := hB7.cell rfl
        have hbp7 := hP7.lt
        have ap1 : Apart bp (bp + 1) bq := ⟨by omega⟩
        refine go ?_
        refine z_order bq (List.range 10) (h := fun w8 he8 _ => ?_)
        have hz8 := he8.size
        refine zgo ?_
        refine zc (l07Unit_ok (n := xs.length) (i := i + 1) rfl (by push_cast; rfl) (by omega) (by omega)) (next := fun v9 w9 h9 => ?_)
        obtain ⟨he9, hf9⟩ := h9
        refine zgo ?_
        refine l_store_val (@Own.ext _ _ _ _ _ _ (he8.trans he9) hoq) hf9.ints.sl.one (m := i) (by rw [List.length_map]; omega) (next := fun w10 hc10 hs10 ho10 => ?_)
        have hO10 := (hO7.ext he8).setP (i := i) (by omega) hvq he9 hf9 (fun b hb => by omega) hc10 ho10
        refine go ?_
        refine forQ_normal (by omega) ⟨?_, hc10.ext (hx7.trans (he8.trans he9)) (by omega), vo, vp, vc, _, gs, (@Blk.ext _ _ _ _ (he8.trans he9) hB7).wr (.one (B := fun g => g = bq) rfl hc10) fun e => hxq e.symm, hO10, hS7.setP (by simp [zeros])⟩
        exact hasP
      · have hbr7 : Blk w7 br _ := @Blk.ext _ _ _ _ hx7 hbr3
        refine go ?_
        refine ra (v := .agg #[vo, vp, vc]) (h := rd_load_blk (hb := hB7) (by ((try simp only [ev_tmp, ev_const, ev_func, get_put, get_args, get_putL, get_putL_nil, Nat.reduceEqDiff, reduceIte, List.getD_cons_zero, List.getD_cons_succ, List.getD_nil]); first | done | with_reducible rfl)) rfl) (next := ?_)
        refine st_store_agg (vs := [vo, vp, vc]) (cs := _) (hb := hbr7) (by ((try simp only [ev_tmp, ev_const, ev_func, get_put, get_args, get_putL, get_putL_nil, Nat.reduceEqDiff, reduceIte, List.getD_cons_zero, List.getD_cons_succ, List.getD_nil]); first | done | with_reducible rfl)) (by ((try simp only [ev_tmp, ev_const, ev_func, get_put, get_args, get_putL, get_putL_nil, Nat.reduceEqDiff, reduceIte, List.getD_cons_zero, List.getD_cons_succ, List.getD_nil]); first | done | with_reducible rfl)) rfl ?_ hO7.one3 (by first | exact True.intro | exact ⟨_, rfl, by ((try simp only [ev_tmp, ev_const, ev_func, get_put, get_args, get_putL, get_putL_nil, Nat.reduceEqDiff, reduceIte, List.getD_cons_zero, List.getD_cons_succ, List.getD_nil, Bool.not_true, Bool.not_false]); first | done | with_reducible rfl)⟩) fun w8 hc8 hs8 hB8 => ?_
        · rfl
        refine go ?_
        refine retc2 (b := br) (hb := hB8) ⟨_, _, xs, rfl, hc8.ext (hx3.trans hx7) (by omega), NewP.of (((hO7.chg hc8 (.inr (by omega))).weak (fun b hb => hb.elim)).mono (by omega)) hS7, hl3, hp3⟩ rfl
set_option maxHeartbeats 8000000 in
theorem l07Meta_ok {w : World} {n m r q : Int} (hn1 : 1 ≤ n) (hn2 : n ≤ 729) (hm1 : 1 ≤ m) (hm2 : m ≤ 729) (hr0 : 0 ≤ r) (hr1 : r ≤ 1000) (hq0 : 0 ≤ q) (hq1 : q ≤ 1000) :
    Calls Try.prog 66 #[.int .i64 n, .int .i64 m, .int .i64 r, .int .i64 q] w (Ret fun v w' => ∃ ord, Ext w w' ∧ NewP w.heap.size w' v ord ∧ Few 18 ord) := by
  refine enter (args := [.int .i64 n, .int .i64 m, .int .i64 r, .int .i64 q]) (l := [.cell 8 28]) Try.func66 rfl rfl Try.ntmps66 (by simp) ?_
  refine go ?_
  refine st_alloc (by first | exact True.intro | exact ⟨_, rfl, by ((try simp only [ev_tmp, ev_const, ev_func, get_put, get_args, get_putL, get_putL_nil, Nat.reduceEqDiff, reduceIte, List.getD_cons_zero, List.getD_cons_succ, List.getD_nil, Bool.not_true, Bool.not_false]); first | done | with_reducible rfl)⟩) fun w1 br he1 hbr hs1 hbk1 => ?_
  have hz1 := he1.size
  refine go ?_
  refine rc (l07Factors_ok hn1 hn2) (next := fun v2 w2 h => ?_)
  obtain ⟨vt, ts, ok2, rfl, he2, hf2, hl2, hp2⟩ := h
  have hz2 := he2.size
  have hi2 := hf2.ints
  refine go ?_
  refine rc (l07Factors_ok hm1 hm2) (next := fun v3 w3 h => ?_)
  obtain ⟨vb, bs, ok3, rfl, he3, hf3, hl3, hp3⟩ := h
  have hz3 := he3.size
  have hi3 := hf3.ints
  refine go ?_
  refine rc (l01OwnN_ok (xs := ts) (by omega)) (next := fun v4 w4 h => ?_)
  obtain ⟨he4, hN4⟩ := h
  have hz4 := he4.size
  have hsl4 : Sl _ _ w4 vb _ := Sl.ext (h := hi3.sl)
  refine go ?_
  refine st_append (hv := hN4) (hy := hsl4) (by ((try simp only [ev_tmp, ev_const, ev_func, get_put, get_args, get_putL, get_putL_nil, Nat.reduceEqDiff, reduceIte, List.getD_cons_zero, List.getD_cons_succ, List.getD_nil]); first | done | with_reducible rfl)) (by ((try simp only [ev_tmp, ev_const, ev_func, get_put, get_args, get_putL, get_putL_nil, Nat.reduceEqDiff, reduceIte, List.getD_cons_zero, List.getD_cons_succ, List.getD_nil]); first | done | with_reducible rfl)) rfl (oneCells bs) (by simp; omega) (by simp [maxLen]; omega) (by omega) (by first | exact True.intro | exact ⟨_, rfl, by ((try simp only [ev_tmp, ev_const, ev_func, get_put, get_args, get_putL, get_putL_nil, Nat.reduceEqDiff, reduceIte, List.getD_cons_zero, List.getD_cons_succ, List.getD_nil, Bool.not_true, Bool.not_false]); first | done | with_reducible rfl)⟩) fun v5 w5 ho5 hg5 ha5 => ?_
  obtain ⟨xs, hxs⟩ : ∃ xs, ts ++ bs = xs := ⟨_, rfl⟩
  have hF : Few 18 xs := hxs ▸ Few.app (n := 9) (m := 9) ⟨hl2, hp2⟩ ⟨hl3, hp3⟩
  have hkl : ts.length ≤ xs.length := by rw [← hxs]; simp
  have ho5' : OwnN 2 w3.heap.size w5 v5 (xs.map (Value.int .i64)) := by rw [← hxs]; simpa using ho5
  have he5 : Ext w3 w5 := Ext.app he4 hg5 fun k hk => (hN4.lt k hk).1
  have hz5 := he5.size
  have hi5 := ho5'.toFr.ints
  have hx5 : Ext w1 w5 := (he2.trans he3).trans he5
  have hxl := hF.1
  refine go ?_
  refine rc (l07Trivial_ok (xs := xs) (by omega)) (next := fun v6 w6 h => ?_)
  obtain ⟨vo6, vp6, vc6, rp6, gs6, rfl, he6, hO6, hS6⟩ := h
  have hz6 := he6.size
  refine go ?_
  refine st_alloc (by first | exact True.intro | exact ⟨_, rfl, by ((try simp only [ev_tmp, ev_const, ev_func, get_put, get_args, get_putL, get_putL_nil, Nat.reduceEqDiff, reduceIte, List.getD_cons_zero, List.getD_cons_succ, List.getD_nil, Bool.not_true, Bool.not_false]); first | done | with_reducible rfl)⟩) fun w7 bp he7 hbp hs7 hbk7 => ?_
  have hz7 := he7.size
  refine st_store_agg (vs := [vo6, vp6, vc6]) (cs := _) (hb := hbk7) (by ((try simp only [ev_tmp, ev_const, ev_func, get_put, get_args, get_putL, get_putL_nil, Nat.reduceEqDiff, reduceIte, List.getD_cons_zero, List.getD_cons_succ, List.getD_nil]); first | done | with_reducible rfl)) (by ((try simp only [ev_tmp, ev_const, ev_func, get_put, get_args, get_putL, get_putL_nil, Nat.reduceEqDiff, reduceIte, List.getD_cons_zero, List.getD_cons_succ, List.getD_nil]); first | done | with_reducible rfl)) rfl ?_ hO6.one3 (by first | exact True.intro | exact ⟨_, rfl, by ((try simp only [ev_tmp, ev_const, ev_func, get_put, get_args, get_putL, get_putL_nil, Nat.reduceEqDiff, reduceIte, List.getD_cons_zero, List.getD_cons_succ, List.getD_nil, Bool.not_true, Bool.not_false]); first | done | with_reducible rfl)⟩) fun w8 hc8 hs8 hB8 => ?_
  · rfl
  have hE8 : Ext w6 w8 := hc8.ext he7 (by omega)
  have hP8 : PBx w5.heap.size w8 bp xs := ⟨vo6, vp6, vc6, rp6, gs6, hB8, (hO6.weak fun b hb => .inr (.inr (by omega))).ext hE8, hS6⟩
  have hE58 : Ext w5 w8 := he6.trans hE8
  clear hbk7 hB8 hO6 hS6 hc8 he7
  obtain ⟨k, hk⟩ : ∃ k, ts.length = k := ⟨_, rfl⟩
  have hi8 : Ints _ _ w8 v5 xs := @Ints.ext _ _ _ _ _ _ hE58 hi5
  have hit8 : Ints _ _ w8 vt ts := @Ints.ext _ _ _ _ _ _ ((he3.trans he5).trans hE58) hi2
  refine go ?_
  refine r_for (xs.length) (fun i ρ w' => Has ρ [(0, .int .i64 n), (1, .int .i64 m), (2, .int .i64 r), (3, .int .i64 q), (8, .pointer (some ⟨br, 0, none⟩)), (9, vt), (13, v5), (14, .pointer (some ⟨bp, 0, none⟩)), (15, .int .i64 k), (16, .int .i64 i)] ∧ Ext w5 w' ∧ PBx w5.heap.size w' bp xs) ?_ ?_
  · rw [hk]
    refine ⟨?_, hE58, hP8⟩
    exact hasP
  clear hP8 hi8 hit8
  rintro i ρ w7 hi ⟨hH, hx7, hP7⟩
  refine rwp_has hH fun ρ0 => ?_
  have hi7 : Ints _ _ w7 v5 xs := @Ints.ext _ _ _ _ _ _ hx7 hi5
  have hit7 : Ints _ _ w7 vt ts := @Ints.ext _ _ _ _ _ _ ((he3.trans he5).trans hx7) hi2
  have hz7 := hx7.size
  have hbp7 := hP7.lt
  refine go ?_
  refine c_if (fun h8 => ?_) (fun h8 => ?_)
  · obtain ⟨vo, vp, vc, rp, gs, hB7, hO7, hS7⟩ := hP7.ex
    refine go ?_
    refine c_if (fun h9 => ?_) (fun h9 => ?_)
    · have hrl := hS7.lp
      obtain ⟨bq, hbq, hxq, hvq, hoq⟩ := hO7.ownP (fun e => by rw [e] at hrl; simp at hrl; omega)
      have c1 : Cell w7 bp 1 vp := hB7.cell rfl
      refine go ?_
      refine d_region (h := fun w8 he8 _ => ?_)
      have hln : Len w8 vp rp.length := by have := hoq.toSl.toLen; simpa using (⟨this.ex⟩ : Len w8 vp _)
      refine dgo ?_
      refine dc (l07Unit_ok (n := xs.length) (i := i + 1) rfl (by push_cast; rfl) (by omega) (by omega)) (next := fun v9 w9 h9 => ⟨fun h => h.trans h9.1, ?_⟩)
      obtain ⟨he9, hf9⟩ := h9
      refine dgo ?_
      refine l_store_val (@Own.ext _ _ _ _ _ _ (he8.trans he9) hoq) hf9.ints.sl.one (m := i) (by rw [List.length_map]; omega) (next := fun w10 hc10 hs10 ho10 => ?_)
      have hP10 := PBx.putP (@Blk.ext _ _ _ _ he8 hB7) (hO7.ext he8) hS7 (i := i) (by omega) hvq hxq he9 hf9 (by simp [zeros]) hc10 ho10
      refine go ?_
      refine forQ_normal (by omega) ⟨?_, hc10.ext (hx7.trans (he8.trans he9)) (by omega), hP10⟩
      exact hasP
    · refine go ?_
      refine forQ_normal (by omega) ⟨?_, hx7, hP7⟩
      exact hasP
  refine go ?_
  refine r_mid (fun ρ w' => Has ρ [(1, .int .i64 m), (2, .int .i64 r), (8, .pointer (some ⟨br, 0, none⟩)), (9, vt), (13, v5), (14, .pointer (some ⟨bp, 0, none⟩)), (15, .int .i64 k)] ∧ Ext w5 w' ∧ PBx w5.heap.size w' bp xs) ?_ ?_
  · refine c_if (fun h9 => ?_) (fun h9 => ?_)
    · obtain ⟨vo, vp, vc, rp, gs, hB7, hO7, hS7⟩ := hP7.ex
      have hrl := hS7.lp
      obtain ⟨bq, hbq, hxq, hvq, hoq⟩ := hO7.ownP (fun e => by rw [e] at hrl; simp at hrl; omega)
      have c1 : Cell w7 bp 1 vp := hB7.cell rfl
      refine go ?_
      refine d_region (h := fun w8 he8 _ => ?_)
      have hln : Len w8 vp rp.length := by have := hoq.toSl.toLen; simpa using (⟨this.ex⟩ : Len w8 vp _)
      have hi8 : Ints _ _ w8 v5 xs := @Ints.ext _ _ _ _ _ _ he8 hi7
      refine dgo ?_
      refine dc (l07Digits_ok (xs := xs) (k := (k : Int)) (by omega) (fun i hi => hF.one hi) (by omega) (by omega) hq0 (by omega)) (next := fun v9 w9 h9 => ⟨fun h => h.trans (by obtain ⟨_, h, _⟩ := h9; exact h), ?_⟩)
      obtain ⟨ys9, he9, hf9, hyl9⟩ := h9
      refine dgo ?_
      refine l_store_val (@Own.ext _ _ _ _ _ _ (he8.trans he9) hoq) hf9.ints.sl.one (m := k - 1) (by rw [List.length_map]; omega) (next := fun w10 hc10 hs10 ho10 => ?_)
      have hP10 := PBx.putP (@Blk.ext _ _ _ _ he8 hB7) (hO7.ext he8) hS7 (i := k - 1) (by omega) hvq hxq he9 hf9 hyl9 hc10 ho10
      refine ⟨rfl, ?_, hc10.ext (hx7.trans (he8.trans he9)) (by omega), hP10⟩
      exact hasP
    · refine go ?_
      refine ⟨rfl, ?_, hx7, hP7⟩
      exact hasP
  clear hP7 hbp7 hz7 hi7 hit7 hx7
  rintro ρ w7 ⟨hH, hx7, hP7⟩
  refine thn_normal (rwp_has hH fun ρ1 => ?_)
  refine go ?_
  refine r_for k (fun i ρ w' => ∃ a : Int, Has ρ [(1, .int .i64 m), (8, .pointer (some ⟨br, 0, none⟩)), (9, vt), (13, v5), (14, .pointer (some ⟨bp, 0, none⟩)), (15, .int .i64 k), (17, .int .i64 a), (18, .int .i64 i)] ∧ Ext w5 w' ∧ PBx w5.heap.size w' bp xs ∧ 0 ≤ a ∧ a < m) ?_ ?_
  · refine ⟨r % m, ?_, hx7, hP7, Int.emod_nonneg _ (by omega), Int.emod_lt_of_pos _ (by omega)⟩
    exact hasP
  clear hP7 hx7 hi
  rintro i ρ w7 hi ⟨a, hH, hx7, hP7, ha0, ha1⟩
  refine rwp_has hH fun ρ2 => ?_
  have hz7 := hx7.size
  refine go ?_
  refine c_if (fun h10 => ?_) (fun h10 => ?_)
  · refine go ?_
    refine r_for (xs.length - k) (fun j ρ w' => Has ρ [(1, .int .i64 m), (8, .pointer (some ⟨br, 0, none⟩)), (9, vt), (13, v5), (14, .pointer (some ⟨bp, 0, none⟩)), (15, .int .i64 k), (17, .int .i64 a), (18, .int .i64 i), (19, .int .i64 ((k : Int) + j))] ∧ Ext w5 w' ∧ PBx w5.heap.size w' bp xs) ?_ ?_
    · refine ⟨?_, hx7, hP7⟩
      exact hasP
    clear hP7 hx7 hz7
    rintro j ρ w7 hj ⟨hH, hx7, hP7⟩
    refine rwp_has hH fun ρ3 => ?_
    have hi7 : Ints _ _ w7 v5 xs := @Ints.ext _ _ _ _ _ _ hx7 hi5
    have hit7 : Ints _ _ w7 vt ts := @Ints.ext _ _ _ _ _ _ ((he3.trans he5).trans hx7) hi2
    have hz7 := hx7.size
    have hbp7 := hP7.lt
    refine go ?_
    refine c_if (fun h11 => ?_) (fun h11 => ?_)
    · obtain ⟨vo, vp, vc, rp, gs, hB7, hO7, hS7⟩ := hP7.ex
      have hgl := hS7.lg
      have hgi : i < gs.length := by omega
      have hli := hS7.li i hgi
      have hlc := hS7.lenC hgi
      have hgm : (gs.map fun q => q.2.map (·.2)).length = xs.length := by rw [List.length_map]; exact hgl
      obtain ⟨bq, hbq, hxq, hvq, hoq⟩ := hO7.ownC' hgi (by omega)
      have c2 : Cell w7 bp 2 vc := hB7.cell rfl
      have hrs := hO7.rowss
      refine go ?_
      refine d_region (h := fun w8 he8 _ => ?_)
      have hi8 : Ints _ _ w8 v5 xs := @Ints.ext _ _ _ _ _ _ he8 hi7
      have hrs8 : Pc.Rowss _ _ w8 vc _ _ _ := @Rowss.ext _ _ _ _ _ _ _ _ he8 hrs
      refine dgo ?_
      refine dc (l07Digits_ok (xs := xs) (k := (k : Int) + j) (by omega) (fun i hi => hF.one hi) (by omega) (by omega) ha0 (by omega)) (next := fun v9 w9 h9 => ⟨fun h => h.trans (by obtain ⟨_, h, _⟩ := h9; exact h), ?_⟩)
      obtain ⟨ys9, he9, hf9, hyl9⟩ := h9
      refine dgo ?_
      refine l_store_val (@Own.ext _ _ _ _ _ _ (he8.trans he9) hoq) hf9.ints.sl.one (m := k + j - i - 1) (by rw [List.length_map]; omega) (next := fun w10 hc10 hs10 ho10 => ?_)
      have hP10 := PBx.putC (@Blk.ext _ _ _ _ he8 hB7) (hO7.ext he8) hS7 (i := i) (j := k + j - i - 1) hgi (by omega) hvq hxq he9 hf9 hyl9 hc10 ho10
      refine go ?_
      refine forQ_normal (by omega) ⟨?_, hc10.ext (hx7.trans (he8.trans he9)) (by omega), hP10⟩
      exact hasP
    · have hti : Grp4 (ts.getD i 0) := by
        have h : i < ts.length := by omega
        have := hp2 _ (List.getElem_mem h)
        simpa [h] using this
      have htl := hti.le
      refine go ?_
      refine rc (l01Power_ok (e := ts.getD i 0) hm1 (by omega) ha0 ha1 (by omega) (by omega)) (next := fun v8 w8 h => ?_)
      obtain ⟨a8, rfl, he8, ha80, ha81⟩ := h
      refine go ?_
      refine forQ_normal (by omega) ⟨a8, ?_, hx7.trans he8, hP7.ext he8, ha80, ha81⟩
      exact hasP
  · obtain ⟨vo, vp, vc, rp, gs, hB7, hO7, hS7⟩ := hP7.ex
    have hbr7 : Blk w7 br _ := @Blk.ext _ _ _ _ (hx5.trans hx7) hbk1
    refine go ?_
    refine ra (v := .agg #[vo, vp, vc]) (h := rd_load_blk (hb := hB7) (by ((try simp only [ev_tmp, ev_const, ev_func, get_put, get_args, get_putL, get_putL_nil, Nat.reduceEqDiff, reduceIte, List.getD_cons_zero, List.getD_cons_succ, List.getD_nil]); first | done | with_reducible rfl)) rfl) (next := ?_)
    refine st_store_agg (vs := [vo, vp, vc]) (cs := _) (hb := hbr7) (by ((try simp only [ev_tmp, ev_const, ev_func, get_put, get_args, get_putL, get_putL_nil, Nat.reduceEqDiff, reduceIte, List.getD_cons_zero, List.getD_cons_succ, List.getD_nil]); first | done | with_reducible rfl)) (by ((try simp only [ev_tmp, ev_const, ev_func, get_put, get_args, get_putL, get_putL_nil, Nat.reduceEqDiff, reduceIte, List.getD_cons_zero, List.getD_cons_succ, List.getD_nil]); first | done | with_reducible rfl)) rfl ?_ hO7.one3 (by first | exact True.intro | exact ⟨_, rfl, by ((try simp only [ev_tmp, ev_const, ev_func, get_put, get_args, get_putL, get_putL_nil, Nat.reduceEqDiff, reduceIte, List.getD_cons_zero, List.getD_cons_succ, List.getD_nil, Bool.not_true, Bool.not_false]); first | done | with_reducible rfl)⟩) fun w8 hc8 hs8 hB8 => ?_
    · rfl
    refine go ?_
    refine retc (b := br) (hb := hB8) ⟨xs, hc8.ext ((he1.trans hx5).trans hx7) (by omega), NewP.of (((hO7.chg hc8 (.inr (by omega))).weak (fun b hb => hb.elim)).mono (by omega)) hS7, hF⟩ rfl
end Go.Proofs.Ytflniifngfiekaa

/-
  Walks: the reference's l07Heisenberg.
  Conditions: stated at each theorem.
-/
namespace Go.Proofs.Ytflniifngfiekaa
open Go Go.Pc
theorem O3.apart {X : Nat → Prop} {s bs : Nat} {w : World} {vo vp vc : Value} {ord : List Int} {rp : RL} {gs : List (Value × RL)} (_h : O3 X s w vo vp vc ord rp gs) (hb : bs < s) : Apart s w.heap.size bs := ⟨.inl hb⟩
theorem _root_.Go.Pc.Chg.app1 {b c : Nat} {w w1 w2 : World} (h : Chg b w w1) (k : Chg c w1 w2) (hb : w.heap.size ≤ c) : Chg b w w2 := h.app k.by_ fun g e => by injection e with e; omega
set_option maxHeartbeats 8000000 in
theorem l07Heisenberg_ok {w : World} {bs : Nat} {e : Int} (hs : Src w bs) (he : Grp4 e) :
    Calls Try.prog 67 #[.pointer (some ⟨bs, 0, none⟩), .int .i64 e] w (Ret fun v w' => ∃ ord, Chg bs w w' ∧ Src w' bs ∧ NewP w.heap.size w' v ord ∧ Few 3 ord) := by
  have hbs := hs.lt
  have hel := he.le
  refine enter (args := [.pointer (some ⟨bs, 0, none⟩), .int .i64 e]) (l := [.cell 4 28]) Try.func67 rfl rfl Try.ntmps67 (by simp) ?_
  refine go ?_
  refine st_alloc (by first | exact True.intro | exact ⟨_, rfl, by ((try simp only [ev_tmp, ev_const, ev_func, get_put, get_args, get_putL, get_putL_nil, Nat.reduceEqDiff, reduceIte, List.getD_cons_zero, List.getD_cons_succ, List.getD_nil, Bool.not_true, Bool.not_false]); first | done | with_reducible rfl)⟩) fun w1 br he1 hbr hs1 hbk1 => ?_
  have hz1 := he1.size
  refine go ?_
  refine st_sliceN (us := [.int .i64 e, .int .i64 e, .int .i64 e]) (next := fun w2 v2 he2 hz2 ho2 => ?_)
  have ho2' : OwnI 2 w1.heap.size w2 v2 [e, e, e] := ⟨ho2⟩
  have hi2 := (ho2'.toFr (Nat.le_refl _)).ints
  refine go ?_
  refine rc (l07Trivial_ok (xs := [e, e, e]) (by simp)) (next := fun v6 w6 h => ?_)
  obtain ⟨vo6, vp6, vc6, rp6, gs6, rfl, he6, hO6, hS6⟩ := h
  have hz6 := he6.size
  refine go ?_
  refine st_alloc (by first | exact True.intro | exact ⟨_, rfl, by ((try simp only [ev_tmp, ev_const, ev_func, get_put, get_args, get_putL, get_putL_nil, Nat.reduceEqDiff, reduceIte, List.getD_cons_zero, List.getD_cons_succ, List.getD_nil, Bool.not_true, Bool.not_false]); first | done | with_reducible rfl)⟩) fun w7 bp he7 hbp hs7 hbk7 => ?_
  have hz7 := he7.size
  refine st_store_agg (vs := [vo6, vp6, vc6]) (cs := _) (hb := hbk7) (by ((try simp only [ev_tmp, ev_const, ev_func, get_put, get_args, get_putL, get_putL_nil, Nat.reduceEqDiff, reduceIte, List.getD_cons_zero, List.getD_cons_succ, List.getD_nil]); first | done | with_reducible rfl)) (by ((try simp only [ev_tmp, ev_const, ev_func, get_put, get_args, get_putL, get_putL_nil, Nat.reduceEqDiff, reduceIte, List.getD_cons_zero, List.getD_cons_succ, List.getD_nil]); first | done | with_reducible rfl)) rfl ?_ hO6.one3 (by first | exact True.intro | exact ⟨_, rfl, by ((try simp only [ev_tmp, ev_const, ev_func, get_put, get_args, get_putL, get_putL_nil, Nat.reduceEqDiff, reduceIte, List.getD_cons_zero, List.getD_cons_succ, List.getD_nil, Bool.not_true, Bool.not_false]); first | done | with_reducible rfl)⟩) fun w8 hc8 hs8 hB8 => ?_
  · rfl
  have hE8 : Ext w6 w8 := hc8.ext he7 (by omega)
  have hO8 := (hO6.weak (Y := fun g => g = bp) fun b hb => .inr (.inr (by omega))).ext hE8
  have hx8 : Ext w w8 := ((he1.trans he2).trans he6).trans hE8
  clear hbk7 hO6 hc8 he7
  obtain ⟨xs, hxs⟩ : ∃ xs, [e, e, e] = xs := ⟨_, rfl⟩
  have hF : Few 3 xs := hxs ▸ ⟨by simp, fun x hx => by simp at hx; rw [hx]; exact he⟩
  have hxl : xs.length = 3 := by rw [← hxs]; rfl
  rw [hxs] at hO8 hS6
  have hgl := hS6.lg
  have hgi : 0 < gs6.length := by omega
  have hli := hS6.li 0 hgi
  have hlc := hS6.lenC hgi
  have hgm : (gs6.map fun q => q.2.map (·.2)).length = xs.length := by rw [List.length_map]; exact hgl
  obtain ⟨bq, hbq, hxq, hvq, hoq⟩ := hO8.ownC' hgi (by omega)
  have c2 : Cell w8 bp 2 vc6 := hB8.cell rfl
  have hrs := hO8.rowss
  refine go ?_
  refine st_sliceN (us := [.int .i64 0, .int .i64 1, .int .i64 1]) (next := fun w9 v9 he9 hz9 ho9 => ?_)
  have ho9' : OwnI 2 w8.heap.size w9 v9 [0, 1, 1] := ⟨ho9⟩
  have hf9 := ho9'.toFr (Nat.le_refl _)
  refine go ?_
  refine st_store_val (m := 0) (h := @Own.ext _ _ _ _ _ _ he9 hoq) (by ((try simp only [ev_tmp, ev_const, ev_func, get_put, get_args, get_putL, get_putL_nil, Nat.reduceEqDiff, reduceIte, List.getD_cons_zero, List.getD_cons_succ, List.getD_nil]); first | done | with_reducible rfl)) (by ((try simp only [ev_tmp, ev_const, ev_func, get_put, get_args, get_putL, get_putL_nil, Nat.reduceEqDiff, reduceIte, List.getD_cons_zero, List.getD_cons_succ, List.getD_nil]); first | done | with_reducible rfl)) hf9.ints.sl.one (by rw [List.length_map]; omega) (by first | exact True.intro | exact ⟨_, rfl, by ((try simp only [ev_tmp, ev_const, ev_func, get_put, get_args, get_putL, get_putL_nil, Nat.reduceEqDiff, reduceIte, List.getD_cons_zero, List.getD_cons_succ, List.getD_nil, Bool.not_true, Bool.not_false]); first | done | with_reducible rfl)⟩) (fun w10 hc10 hs10 ho10 => ?_)
  have hP10 := PBx.putC hB8 hO8 hS6 (i := 0) (j := 0) hgi (by omega) hvq hxq he9 hf9 (by simp [hxl]) hc10 ho10
  have hx10 : Ext w w10 := hc10.ext (hx8.trans he9) (by omega)
  have hx10' : Ext w1 w10 := hc10.ext (((he2.trans he6).trans hE8).trans he9) (by omega)
  clear hB8 hO8 hS6 c2 hrs hoq hlc hgm hli
  refine go ?_
  refine rc (l01Next_ok (hs.ext hx10)) (next := fun v11 w11 h11 => ?_)
  obtain ⟨k, rfl, hc11, hs11, hk0, hk1, hz11⟩ := h11
  have hP11 := hP10.chg hc11 (by omega) (by omega)
  have hbk11 : Blk w11 br _ := (@Blk.ext _ _ _ _ hx10' hbk1).wr (.one (B := fun g => g = bs) rfl hc11) fun e => by omega
  have hC11 : Chg bs w w11 := (Chg.ofExt hx10).trans hc11
  refine go ?_
  refine r_mid (fun ρ w' => Has ρ [(4, .pointer (some ⟨br, 0, none⟩)), (5, .pointer (some ⟨bp, 0, none⟩))] ∧ Chg bs w w' ∧ Src w' bs ∧ PBx w2.heap.size w' bp xs ∧ Blk w' br [nilv, nilv, nilv]) ?_ ?_
  · refine c_if (fun h12 => ?_) (fun h12 => ?_)
    · have hz12 := hC11.size
      obtain ⟨vo, vp, vc, rp, gs, hB7, hO7, hS7⟩ := hP11.ex
      have hrl := hS7.lp
      obtain ⟨bq, hbq, hxq, hvq, hoq⟩ := hO7.ownP (fun e => by rw [e] at hrl; simp at hrl; omega)
      have hbp7 := hP11.lt
      have c1 : Cell w11 bp 1 vp := hB7.cell rfl
      have hln : Len w11 vp rp.length := by have := hoq.toSl.toLen; simpa using this
      have ap1 : Apart bp (bp + 1) bs := ⟨by omega⟩
      refine go ?_
      refine z_order bs (List.range 8) (h := fun w12 he12 _ => ?_)
      refine zgo ?_
      refine zcc (l01Next_ok (n := e) (hs11.ext he12)) (hR := fun _ _ ⟨_, _, h, _⟩ => h) (next := fun v13 w13 h13 => ?_)
      obtain ⟨k13, rfl, hc13, hs13, hk130, hk131, hz13⟩ := h13
      refine zgo ?_
      refine z_sliceN (t := 24) (us := [.int .i64 0, .int .i64 0, .int .i64 k13]) (next := fun w14 v14 he14 hz14 ho14 => ?_)
      have ho14' : OwnI 2 w13.heap.size w14 v14 [0, 0, k13] := ⟨ho14⟩
      have hf14 := ho14'.toFr (Nat.le_refl _)
      have hbk14 : Blk w14 br [nilv, nilv, nilv] := @Blk.ext _ _ _ _ he14 ((@Blk.ext _ _ _ _ he12 hbk11).wr (.one (B := fun g => g = bs) rfl hc13) fun e => by omega)
      have hoq14 := @Own.ext _ _ _ _ _ _ he14 ((@Own.ext _ _ _ _ _ _ he12 hoq).chg' hc13 (by omega))
      have hB13 := (@Blk.ext _ _ _ _ he12 hB7).wr (.one (B := fun g => g = bs) rfl hc13) fun e => by omega
      have hO13 := (hO7.ext he12).chg hc13 (.inr (by omega))
      refine zgo ?_
      refine l_store_val hoq14 hf14.ints.sl.one (m := 0) (by rw [List.length_map]; omega) (next := fun w15 hc15 hs15 ho15 => ?_)
      have hP15 := PBx.putP hB13 hO13 hS7 (i := 0) (by omega) hvq hxq he14 hf14 (by simp [hxl]) hc15 ho15
      have hbk15 := hbk14.wr (.one (B := fun g => g = bq) rfl hc15) fun e => by omega
      have hC15 : Chg bs w w15 := ((hC11.grow he12).trans (hc13.grow he14)).app1 hc15 (by omega)
      have hs15 := (hs13.ext he14).wr (.one (B := fun g => g = bq) rfl hc15) fun b hb => by omega
      clear hB7 hO7 hS7 hrl hbq hxq hvq hoq hbp7 c1 hln ap1 hB13 hO13 hoq14 hbk14 hc15 ho15
      obtain ⟨vo, vp, vc, rp, gs, hB7, hO7, hS7⟩ := hP15.ex
      have hrl := hS7.lp
      obtain ⟨bq, hbq, hxq, hvq, hoq⟩ := hO7.ownP (fun e => by rw [e] at hrl; simp at hrl; omega)
      have hbp7 := hP15.lt
      have c1 : Cell w15 bp 1 vp := hB7.cell rfl
      have hln : Len w15 vp rp.length := by have := hoq.toSl.toLen; simpa using this
      have ap1 : Apart bp (bp + 1) bs := ⟨by omega⟩
      refine go ?_
      refine z_order bs (List.range 8) (h := fun w16 he16 _ => ?_)
      refine zgo ?_
      refine zcc (l01Next_ok (n := e) (hs15.ext he16)) (hR := fun _ _ ⟨_, _, h, _⟩ => h) (next := fun v17 w17 h17 => ?_)
      obtain ⟨k17, rfl, hc17, hs17, hk170, hk171, hz17⟩ := h17
      refine zgo ?_
      refine z_sliceN (t := 24) (us := [.int .i64 0, .int .i64 0, .int .i64 k17]) (next := fun w18 v18 he18 hz18 ho18 => ?_)
      have ho18' : OwnI 2 w17.heap.size w18 v18 [0, 0, k17] := ⟨ho18⟩
      have hf18 := ho18'.toFr (Nat.le_refl _)
      have hbk18 : Blk w18 br [nilv, nilv, nilv] := @Blk.ext _ _ _ _ he18 ((@Blk.ext _ _ _ _ he16 hbk15).wr (.one (B := fun g => g = bs) rfl hc17) fun e => by omega)
      have hoq18 := @Own.ext _ _ _ _ _ _ he18 ((@Own.ext _ _ _ _ _ _ he16 hoq).chg' hc17 (by omega))
      have hB17 := (@Blk.ext _ _ _ _ he16 hB7).wr (.one (B := fun g => g = bs) rfl hc17) fun e => by omega
      have hO17 := (hO7.ext he16).chg hc17 (.inr (by omega))
      refine zgo ?_
      refine l_store_val hoq18 hf18.ints.sl.one (m := 1) (by rw [List.length_map]; omega) (next := fun w19 hc19 hs19 ho19 => ?_)
      have hP19 := PBx.putP hB17 hO17 hS7 (i := 1) (by omega) hvq hxq he18 hf18 (by simp [hxl]) hc19 ho19
      have hbk19 := hbk18.wr (.one (B := fun g => g = bq) rfl hc19) fun e => by omega
      have hC19 : Chg bs w w19 := ((hC15.grow he16).trans (hc17.grow he18)).app1 hc19 (by omega)
      have hs19 := (hs17.ext he18).wr (.one (B := fun g => g = bq) rfl hc19) fun b hb => by omega
      refine go ?_
      refine ⟨rfl, ?_, hC19, hs19, hP19, hbk19⟩
      exact hasP
    · refine go ?_
      refine ⟨rfl, ?_, hC11, hs11, hP11, hbk11⟩
      exact hasP
  clear hP11 hC11 hs11 hbk11
  rintro ρ w11 ⟨hH, hC11, hs11, hP11, hbk11⟩
  refine thn_normal (rwp_has hH fun ρ1 => ?_)
  obtain ⟨vo, vp, vc, rp, gs, hB7, hO7, hS7⟩ := hP11.ex
  refine go ?_
  refine ra (v := .agg #[vo, vp, vc]) (h := rd_load_blk (hb := hB7) (by ((try simp only [ev_tmp, ev_const, ev_func, get_put, get_args, get_putL, get_putL_nil, Nat.reduceEqDiff, reduceIte, List.getD_cons_zero, List.getD_cons_succ, List.getD_nil]); first | done | with_reducible rfl)) rfl) (next := ?_)
  refine st_store_agg (vs := [vo, vp, vc]) (cs := _) (hb := hbk11) (by ((try simp only [ev_tmp, ev_const, ev_func, get_put, get_args, get_putL, get_putL_nil, Nat.reduceEqDiff, reduceIte, List.getD_cons_zero, List.getD_cons_succ, List.getD_nil]); first | done | with_reducible rfl)) (by ((try simp only [ev_tmp, ev_const, ev_func, get_put, get_args, get_putL, get_putL_nil, Nat.reduceEqDiff, reduceIte, List.getD_cons_zero, List.getD_cons_succ, List.getD_nil]); first | done | with_reducible rfl)) rfl ?_ hO7.one3 (by first | exact True.intro | exact ⟨_, rfl, by ((try simp only [ev_tmp, ev_const, ev_func, get_put, get_args, get_putL, get_putL_nil, Nat.reduceEqDiff, reduceIte, List.getD_cons_zero, List.getD_cons_succ, List.getD_nil, Bool.not_true, Bool.not_false]); first | done | with_reducible rfl)⟩) fun w12 hc12 hs12 hB12 => ?_
  · rfl
  refine go ?_
  refine retc (b := br) (hb := hB12) ⟨xs, hC11.app1 hc12 (by omega), hs11.wr (.one (B := fun g => g = br) rfl hc12) (fun b hb => by omega), NewP.of (((hO7.chg hc12 (.inr (by omega))).weak (fun b hb => hb.elim)).mono (by omega)) hS7, hF⟩ rfl
end Go.Proofs.Ytflniifngfiekaa

/-
  Walks: the reference's l02Times, l02Product, l07Affine.
  Conditions: stated at each theorem.
-/
namespace Go.Proofs.Ytflniifngfiekaa
open Go Go.Pc
/-- Small entries. -/
def Sm (xs : List Int) : Prop := ∀ i, 0 ≤ xs.getD i 0 ∧ xs.getD i 0 ≤ 6
theorem Sm.nil : Sm [] := fun i => by simp
theorem Sm.set {xs : List Int} {k : Int} (h : Sm xs) (j : Nat) (h0 : 0 ≤ k) (h1 : k ≤ 6) : Sm (xs.set j k) := fun i => by
  by_cases hi : i < xs.length
  · by_cases e : j = i
    · subst e; simp [hi]; exact ⟨h0, h1⟩
    · have := h i
      simpa [hi, e] using this
  · have : (xs.set j k).getD i 0 = 0 := by
      rw [List.getD_eq_getElem?_getD, List.getElem?_eq_none (by simp; omega)]; rfl
    rw [this]; simp
theorem Sm.zeros (n : Nat) : Sm (List.replicate n 0) := fun i => by
  by_cases hi : i < n <;> simp [hi, List.getD_eq_getElem?_getD]
set_option maxHeartbeats 4000000 in
theorem l02Times_ok {w : World} {v vr : Value} {us : List Value} {xs : List Int} {xss : List (List Int)} {p k : Int} {n lo hi lo1 hi1 : Nat} [hx : Ints lo hi w v xs] [hr : Pc.Rows lo1 hi1 w vr us xss] (hp : 1 ≤ p) (hp2 : p ≤ 7) (hs : Sm xs) (hss : ∀ i, Sm (xss.getD i [])) (hk : k = n) (hn : n ≤ 1000) (hl : xs.length ≤ 1000) :
    Calls Try.prog 87 #[.int .i64 p, v, vr, .int .i64 k] w (Ret fun v' w' => ∃ ys : List Int, Ext w w' ∧ Fr w.heap.size w' v' ys ∧ ys.length = n ∧ Sm ys) := by
  subst hk
  replace hx := hx.wide
  replace hr := hr.wide
  refine enter (args := [.int .i64 p, v, vr, .int .i64 n]) (l := [.tmp 8]) Try.func87 rfl rfl Try.ntmps87 (by simp) ?_
  refine go ?_
  refine st_make_int (n := n) (by ((try simp only [ev_tmp, ev_const, ev_func, get_put, get_args, get_putL, get_putL_nil, Nat.reduceEqDiff, reduceIte, List.getD_cons_zero, List.getD_cons_succ, List.getD_nil]); first | done | with_reducible rfl)) (by ((try simp only [ev_tmp, ev_const, ev_func, get_put, get_args, get_putL, get_putL_nil, Nat.reduceEqDiff, reduceIte, List.getD_cons_zero, List.getD_cons_succ, List.getD_nil]); first | done | with_reducible rfl)) (by omega) (by omega) (by first | exact True.intro | exact ⟨_, rfl, by ((try simp only [ev_tmp, ev_const, ev_func, get_put, get_args, get_putL, get_putL_nil, Nat.reduceEqDiff, reduceIte, List.getD_cons_zero, List.getD_cons_succ, List.getD_nil, Bool.not_true, Bool.not_false]); first | done | with_reducible rfl)⟩) fun w1 v1 he1 hs1 ho1 => ?_
  have hz1 := he1.size
  refine go ?_
  refine r_for xs.length (fun i ρ w' => ∃ (ys : List Int), Has ρ [(0, .int .i64 p), (1, v), (2, vr), (9, v1), (10, .int .i64 i)] ∧ Ext w w' ∧ OwnI 2 w.heap.size w' v1 ys ∧ ys.length = n ∧ Sm ys) ?_ ?_
  · refine ⟨_, ?_, he1, ho1, by simp, Sm.zeros n⟩
    exact hasP
  clear ho1
  rintro i ρ w2 hi ⟨ys, hH, hx2, ho2, hyl, hys⟩
  refine rwp_has hH fun ρ0 => ?_
  have hz2 := hx2.size
  have hlx : Len w2 v xs.length := (@Ints.ext _ _ _ _ _ _ hx2 hx).toLen
  have fin : ∀ w', Ext w2 w' → Ext w w' ∧ Fr w.heap.size w' v1 ys ∧ ys.length = n ∧ Sm ys := fun w' h => ⟨hx2.trans h, (@OwnI.ext _ _ _ _ _ _ h ho2).toFr (Nat.le_refl _), hyl, hys⟩
  refine go ?_
  refine spd (fun h3 => ?_) (fun h3 => ?_)
  · refine go ?_
    refine c_if (fun h4 => ?_) (fun h4 => ?_)
    · refine go ?_
      refine r_for n (fun j ρ w' => ∃ (ys : List Int), Has ρ [(0, .int .i64 p), (1, v), (2, vr), (9, v1), (10, .int .i64 i), (11, .int .i64 j)] ∧ Ext w w' ∧ OwnI 2 w.heap.size w' v1 ys ∧ ys.length = n ∧ Sm ys) ?_ ?_
      · refine ⟨ys, ?_, hx2, ho2, hyl, hys⟩
        exact hasP
      clear fin ho2 hyl hys hx2 hlx
      rintro j ρ w2 hj ⟨ys, hH, hx2, ho2, hyl, hys⟩
      refine rwp_has hH fun ρ1 => ?_
      have hlx : Len w2 v xs.length := (@Ints.ext _ _ _ _ _ _ hx2 hx).toLen
      have hr2 : Pc.Rows _ _ w2 vr us xss := @Rows.ext _ _ _ _ _ _ _ hx2 hr
      have hlo : Len w2 v1 ys.length := by have := ho2.own.toSl.toLen; simpa using this
      have hrl := (Rows.toInts (h := hr2) i).toLen
      have hir : i < xss.length := by omega
      refine go ?_
      refine spd (fun h5 => ?_) (fun h5 => ?_)
      · refine go ?_
        refine c_if (fun h6 => ?_) (fun h6 => ?_)
        · have b1 := hys j
          have b2 := hs i
          have b3 := hss i j
          obtain ⟨m, hm⟩ : ∃ m, xs.getD i 0 * (xss.getD i []).getD j 0 = m := ⟨_, rfl⟩
          have hm0 : 0 ≤ m := hm ▸ Int.mul_nonneg b2.1 b3.1
          have hm1 : m ≤ 36 := by
            have h1 : xs.getD i 0 * (xss.getD i []).getD j 0 ≤ 6 * (xss.getD i []).getD j 0 := Int.mul_le_mul_of_nonneg_right b2.2 b3.1
            omega
          have hmm : (ys.getD j 0 + m) % p < p := Int.emod_lt_of_pos _ (by omega)
          have hmn : 0 ≤ (ys.getD j 0 + m) % p := Int.emod_nonneg _ (by omega)
          refine go ?_
          refine d_region (h := fun w3 he3 _ => ?_)
          have ho3 : OwnI 2 w.heap.size w3 v1 ys := @OwnI.ext _ _ _ _ _ _ he3 ho2
          have hy3 : Ints _ _ w3 v1 ys := (ho3.toFr (Nat.le_refl _)).ints
          have hx3 : Ints _ _ w3 v xs := @Ints.ext _ _ _ _ _ _ (hx2.trans he3) hx
          have hr3 : Pc.Rows _ _ w3 vr us xss := @Rows.ext _ _ _ _ _ _ _ (hx2.trans he3) hr
          refine dgo ?_
          refine da (h := rs_mul (by ((try simp only [ev_tmp, ev_const, ev_func, get_put, get_args, get_putL, get_putL_nil, Nat.reduceEqDiff, reduceIte, List.getD_cons_zero, List.getD_cons_succ, List.getD_nil]); first | done | with_reducible rfl)) (by ((try simp only [ev_tmp, ev_const, ev_func, get_put, get_args, get_putL, get_putL_nil, Nat.reduceEqDiff, reduceIte, List.getD_cons_zero, List.getD_cons_succ, List.getD_nil]); first | done | with_reducible rfl)) (by rw [hm]; omega)) (next := ?_)
          rw [hm]
          refine dgo ?_
          refine l_store_val ho3.own rfl (m := j) (by rw [List.length_map]; omega) (next := fun w4 hc4 hs4 ho4 => ?_)
          rw [← List.map_set] at ho4
          refine go ?_
          refine forQ_normal (by omega) ⟨_, ?_, hc4.ext (hx2.trans he3) (Nat.le_refl _), ⟨ho4⟩, by simp [hyl], hys.set j hmn (by omega)⟩
          exact hasP
        · refine go ?_
          refine forQ_normal (by omega) ⟨_, ?_, hx2, ho2, hyl, hys⟩
          exact hasP
      · refine go ?_
        refine forQ_normal (by omega) ⟨_, ?_, hx2, ho2, hyl, hys⟩
        exact hasP
    · refine go ?_
      exact ret1 ⟨ys, fin _ (Ext.refl _)⟩
  · refine go ?_
    exact ret1 ⟨ys, fin _ (Ext.refl _)⟩
def SmR (m : Nat) (xss : List (List Int)) : Prop := xss.length ≤ m ∧ ∀ i, Sm (xss.getD i []) ∧ (xss.getD i []).length ≤ m
set_option maxHeartbeats 4000000 in
theorem l02Product_ok {w : World} {va vb : Value} {us vs : List Value} {xss yss : List (List Int)} {p k : Int} {n lo hi lo1 hi1 : Nat} [ha : Pc.Rows lo hi w va us xss] [hb : Pc.Rows lo1 hi1 w vb vs yss] (hp : 1 ≤ p) (hp2 : p ≤ 7) (hs : SmR 20 xss) (hss : SmR 20 yss) (hk : k = n) (hn : n ≤ 20) :
    Calls Try.prog 80 #[.int .i64 p, va, vb, .int .i64 k] w (Ret fun v' w' => ∃ (us' : List Value) (zss : List (List Int)), Ext w w' ∧ Pc.Rows w.heap.size w'.heap.size w' v' us' zss ∧ zss.length = xss.length ∧ SmR 20 zss ∧ ∀ j, j < zss.length → (zss.getD j []).length = n) := by
  subst hk
  replace ha := ha.wide
  replace hb := hb.wide
  have hal := hs.1
  refine enter (args := [.int .i64 p, va, vb, .int .i64 n]) (l := [.tmp 8]) Try.func80 rfl rfl Try.ntmps80 (by simp) ?_
  refine go ?_
  refine st_slice0 (by first | exact True.intro | exact ⟨_, rfl, by ((try simp only [ev_tmp, ev_const, ev_func, get_put, get_args, get_putL, get_putL_nil, Nat.reduceEqDiff, reduceIte, List.getD_cons_zero, List.getD_cons_succ, List.getD_nil, Bool.not_true, Bool.not_false]); first | done | with_reducible rfl)⟩) fun w1 v1 he1 hs1 ho1 => ?_
  have hz1 := he1.size
  refine go ?_
  refine r_for xss.length (fun i ρ w' => ∃ (vl : Value) (rs : RL), Has ρ [(0, .int .i64 p), (1, va), (2, vb), (3, .int .i64 n), (9, vl), (10, .int .i64 i)] ∧ Ext w w' ∧ GrowL 24 w.heap.size w' vl rs ∧ rs.length = i ∧ ∀ j, Sm ((rs.map (·.2)).getD j []) ∧ ((rs.map (·.2)).getD j []).length ≤ 20 ∧ (j < rs.length → ((rs.map (·.2)).getD j []).length = n)) ?_ ?_
  · refine ⟨v1, [], ?_, he1, GrowL.start ho1 (Nat.le_refl _), rfl, fun j => ⟨Sm.nil, by simp, fun h => absurd h (Nat.not_lt_zero _)⟩⟩
    exact hasP
  clear ho1
  rintro i ρ w2 hi ⟨vl, rs, hH, hx2, hG2, hrl, hrs⟩
  refine rwp_has hH fun ρ0 => ?_
  have hz2 := hx2.size
  have ha2 : Pc.Rows _ _ w2 va us xss := @Rows.ext _ _ _ _ _ _ _ hx2 ha
  have hb2 : Pc.Rows _ _ w2 vb vs yss := @Rows.ext _ _ _ _ _ _ _ hx2 hb
  refine go ?_
  refine c_if (fun h3 => ?_) (fun h3 => ?_)
  · have hxi := hs.2 i
    refine go ?_
    refine rc (l02Times_ok (n := n) (xs := xss.getD i []) (xss := yss) hp hp2 hxi.1 (fun j => (hss.2 j).1) rfl (by omega) (by omega)) (next := fun v3 w3 h => ?_)
    obtain ⟨ys, he3, hf3, hyl, hys⟩ := h
    refine go ?_
    refine st_grow hG2 he3 hf3 (by omega) (by omega) (next := fun v4 v5 w5 hG5 hx5 hz5 hgs5 => ?_)
    refine go ?_
    refine forQ_normal (by omega) ⟨v5, _, ?_, hx5 w (hx2.trans he3) (Nat.le_refl _), hG5, by simp [hrl], fun j => ?_⟩
    · exact hasP
    · rw [List.map_append]
      by_cases hj : j < rs.length
      · have := hrs j
        rw [List.getD_eq_getElem?_getD, List.getElem?_append_left (by simpa using hj), ← List.getD_eq_getElem?_getD]
        exact ⟨this.1, this.2.1, fun _ => this.2.2 hj⟩
      · by_cases hj2 : j = rs.length
        · subst hj2
          rw [List.getD_eq_getElem?_getD, List.getElem?_append_right (by simp)]
          simp
          exact ⟨hys, by omega, hyl⟩
        · rw [List.getD_eq_getElem?_getD, List.getElem?_eq_none (by simp; omega)]
          exact ⟨Sm.nil, by simp, fun h => by simp at h; omega⟩
  · refine go ?_
    have hre := hG2.rows
    refine ret1 ⟨_, _, hx2, hre, by rw [List.length_map]; omega, ⟨by rw [List.length_map]; omega, fun j => ⟨(hrs j).1, (hrs j).2.1⟩⟩, fun j hj => (hrs j).2.2 (by simpa using hj)⟩
theorem SmR.mono {m n : Nat} {xss : List (List Int)} (h : SmR m xss) (hm : m ≤ n) : SmR n xss := ⟨by have := h.1; omega, fun i => ⟨(h.2 i).1, by have := (h.2 i).2; omega⟩⟩
set_option maxHeartbeats 8000000 in
theorem l07Affine_ok {w : World} {vr : Value} {us : List Value} {xss : List (List Int)} {p n : Int} {lo hi : Nat} [hr : Pc.Rows lo hi w vr us xss] (hp : Grp4 p) (hn1 : 1 ≤ n) (hn2 : n ≤ 729) (hs : SmR 6 xss) (hsq : ∀ j, j < xss.length → (xss.getD j []).length = xss.length) :
    Calls Try.prog 68 #[.int .i64 p, vr, .int .i64 n] w (Ret fun v w' => ∃ ord, Ext w w' ∧ NewP w.heap.size w' v ord ∧ Few 15 ord) := by
  replace hr := hr.wide
  have hrl := hs.1
  have hpl := hp.le
  refine enter (args := [.int .i64 p, vr, .int .i64 n]) (l := [.cell 6 28]) Try.func68 rfl rfl Try.ntmps68 (by simp) ?_
  refine go ?_
  refine st_alloc (by first | exact True.intro | exact ⟨_, rfl, by ((try simp only [ev_tmp, ev_const, ev_func, get_put, get_args, get_putL, get_putL_nil, Nat.reduceEqDiff, reduceIte, List.getD_cons_zero, List.getD_cons_succ, List.getD_nil, Bool.not_true, Bool.not_false]); first | done | with_reducible rfl)⟩) fun w1 br he1 hbr hs1 hbk1 => ?_
  have hz1 := he1.size
  refine go ?_
  refine rc (l07Factors_ok hn1 hn2) (next := fun v2 w2 h => ?_)
  obtain ⟨vt, ts, ok2, rfl, he2, hf2, hl2, hp2⟩ := h
  have hz2 := he2.size
  have hi2 := hf2.ints
  refine go ?_
  refine rc (l01OwnN_ok (xs := ts) (by omega)) (next := fun v4 w4 h => ?_)
  obtain ⟨he4, hN4⟩ := h
  have hz4 := he4.size
  refine go ?_
  refine r_for xss.length (fun i ρ w' => ∃ (vl : Value) (xs : List Int), Has ρ [(0, .int .i64 p), (1, vr), (6, .pointer (some ⟨br, 0, none⟩)), (7, vt), (9, vl), (10, .int .i64 i)] ∧ Ext w2 w' ∧ GrowI 2 w2.heap.size w' vl xs ∧ xs.length = ts.length + i ∧ ∀ e, e ∈ xs → Grp4 e) ?_ ?_
  · refine ⟨v4, ts, ?_, he4, ⟨hN4⟩, rfl, hp2⟩
    exact hasP
  clear hN4
  rintro i ρ w5 hi ⟨vl, xs, hH, hx5, hG5, hxl, hxp⟩
  refine rwp_has hH fun ρ0 => ?_
  have hz5 := hx5.size
  have hr5 : Pc.Rows _ _ w5 vr us xss := @Rows.ext _ _ _ _ _ _ _ ((he1.trans he2).trans hx5) hr
  refine go ?_
  refine c_if (fun h3 => ?_) (fun h3 => ?_)
  · refine go ?_
    refine st_growi hG5 (by omega) (by omega) (next := fun v7 v8 w8 hg8 hx8 hz8 hst8 => ?_)
    refine go ?_
    refine forQ_normal (by omega) ⟨v8, xs ++ [p], ?_, hx8 w2 hx5 (Nat.le_refl _), hg8, by simp; omega, fun e he => ?_⟩
    · exact hasP
    · rcases List.mem_append.1 he with he | he
      · exact hxp e he
      · rw [List.mem_singleton.1 he]; exact hp
  obtain rfl : i = xss.length := by omega
  obtain ⟨m, hm⟩ : ∃ m, xss.length = m := ⟨_, rfl⟩
  have hF : Few 15 xs := ⟨by omega, hxp⟩
  have hi5 := hG5.fr.ints
  have hit5 : Ints _ _ w5 vt ts := @Ints.ext _ _ _ _ _ _ hx5 hi2
  rw [hm] at hxl hrl
  refine go ?_
  refine rc (l07Trivial_ok (xs := xs) (by omega)) (next := fun v6 w6 h => ?_)
  obtain ⟨vo6, vp6, vc6, rp6, gs6, rfl, he6, hO6, hS6⟩ := h
  have hz6 := he6.size
  refine go ?_
  refine st_alloc (by first | exact True.intro | exact ⟨_, rfl, by ((try simp only [ev_tmp, ev_const, ev_func, get_put, get_args, get_putL, get_putL_nil, Nat.reduceEqDiff, reduceIte, List.getD_cons_zero, List.getD_cons_succ, List.getD_nil, Bool.not_true, Bool.not_false]); first | done | with_reducible rfl)⟩) fun w7 bp he7 hbp hs7 hbk7 => ?_
  have hz7 := he7.size
  refine st_store_agg (vs := [vo6, vp6, vc6]) (cs := _) (hb := hbk7) (by ((try simp only [ev_tmp, ev_const, ev_func, get_put, get_args, get_putL, get_putL_nil, Nat.reduceEqDiff, reduceIte, List.getD_cons_zero, List.getD_cons_succ, List.getD_nil]); first | done | with_reducible rfl)) (by ((try simp only [ev_tmp, ev_const, ev_func, get_put, get_args, get_putL, get_putL_nil, Nat.reduceEqDiff, reduceIte, List.getD_cons_zero, List.getD_cons_succ, List.getD_nil]); first | done | with_reducible rfl)) rfl ?_ hO6.one3 (by first | exact True.intro | exact ⟨_, rfl, by ((try simp only [ev_tmp, ev_const, ev_func, get_put, get_args, get_putL, get_putL_nil, Nat.reduceEqDiff, reduceIte, List.getD_cons_zero, List.getD_cons_succ, List.getD_nil, Bool.not_true, Bool.not_false]); first | done | with_reducible rfl)⟩) fun w8 hc8 hs8 hB8 => ?_
  · rfl
  have hE8 : Ext w6 w8 := hc8.ext he7 (by omega)
  have hP8 : PBx w5.heap.size w8 bp xs := ⟨vo6, vp6, vc6, rp6, gs6, hB8, (hO6.weak fun b hb => .inr (.inr (by omega))).ext hE8, hS6⟩
  have hE58 : Ext w5 w8 := he6.trans hE8
  clear hbk7 hB8 hO6 hS6 hc8 he7
  obtain ⟨k, hk⟩ : ∃ k, ts.length = k := ⟨_, rfl⟩
  have hi8 : Ints _ _ w8 vl xs := @Ints.ext _ _ _ _ _ _ hE58 hi5
  have hit8 : Ints _ _ w8 vt ts := @Ints.ext _ _ _ _ _ _ hE58 hit5
  refine go ?_
  refine r_for k (fun i ρ w' => Has ρ [(0, .int .i64 p), (1, vr), (6, .pointer (some ⟨br, 0, none⟩)), (7, vt), (9, vl), (11, .pointer (some ⟨bp, 0, none⟩)), (12, .int .i64 k), (13, .int .i64 i)] ∧ Ext w5 w' ∧ PBx w5.heap.size w' bp xs) ?_ ?_
  · rw [hk]
    refine ⟨?_, hE58, hP8⟩
    exact hasP
  clear hP8 hi8 hit8
  rintro i ρ w7 hi ⟨hH, hx7, hP7⟩
  refine rwp_has hH fun ρ1 => ?_
  have hi7 : Ints _ _ w7 vl xs := @Ints.ext _ _ _ _ _ _ hx7 hi5
  have hz7 := hx7.size
  have hbp7 := hP7.lt
  refine go ?_
  refine c_if (fun h8 => ?_) (fun h8 => ?_)
  · obtain ⟨vo, vp, vc, rp, gs, hB7, hO7, hS7⟩ := hP7.ex
    have hrl7 := hS7.lp
    obtain ⟨bq, hbq, hxq, hvq, hoq⟩ := hO7.ownP (fun e => by rw [e] at hrl7; simp at hrl7; omega)
    have c1 : Cell w7 bp 1 vp := hB7.cell rfl
    refine go ?_
    refine d_region (h := fun w8 he8 _ => ?_)
    have hln : Len w8 vp rp.length := by have := hoq.toSl.toLen; simpa using (⟨this.ex⟩ : Len w8 vp _)
    refine dgo ?_
    refine dc (l07Unit_ok (n := xs.length) (i := i + 1) rfl (by push_cast; rfl) (by omega) (by omega)) (next := fun v9 w9 h9 => ⟨fun h => h.trans h9.1, ?_⟩)
    obtain ⟨he9, hf9⟩ := h9
    refine dgo ?_
    refine l_store_val (@Own.ext _ _ _ _ _ _ (he8.trans he9) hoq) hf9.ints.sl.one (m := i) (by rw [List.length_map]; omega) (next := fun w10 hc10 hs10 ho10 => ?_)
    have hP10 := PBx.putP (@Blk.ext _ _ _ _ he8 hB7) (hO7.ext he8) hS7 (i := i) (by omega) hvq hxq he9 hf9 (by simp [zeros]) hc10 ho10
    refine go ?_
    refine forQ_normal (by omega) ⟨?_, hc10.ext (hx7.trans (he8.trans he9)) (by omega), hP10⟩
    exact hasP
  have hr7 : Pc.Rows _ _ w7 vr us xss := @Rows.ext _ _ _ _ _ _ _ hx7 hr5
  refine go ?_
  refine rc (l01Own2_ok (xss := xss) (fun j => by have := (hs.2 j).2; omega) (by omega)) (next := fun v9 w9 h => ?_)
  obtain ⟨he9, us9, hL9⟩ := h
  have ha9 := hL9.newRows
  have hx9 := hx7.trans he9
  have hP9 : PBy (fun g => w7.heap.size ≤ g ∧ g < w9.heap.size) w5.heap.size w9 bp xs := (hP7.toY fun g hg => hg.1).ext he9
  refine go ?_
  refine r_for k (fun i ρ w' => ∃ (va : Value) (us : List Value) (yss : List (List Int)) (A B : Nat), Has ρ [(0, .int .i64 p), (1, vr), (6, .pointer (some ⟨br, 0, none⟩)), (7, vt), (9, vl), (11, .pointer (some ⟨bp, 0, none⟩)), (12, .int .i64 k), (14, va), (15, .int .i64 i)] ∧ Ext w5 w' ∧ PBy (fun g => A ≤ g ∧ g < B) w5.heap.size w' bp xs ∧ B ≤ w'.heap.size ∧ Pc.Rows A B w' va us yss ∧ yss.length = m ∧ SmR 20 yss ∧ ∀ j, j < m → (yss.getD j []).length = m) ?_ ?_
  · refine ⟨v9, us9, xss, w7.heap.size, w9.heap.size, ?_, hx9, hP9, Nat.le_refl _, ha9, hm, hs.mono (by omega), fun j hj => by rw [hsq j (by omega), hm]⟩
    exact hasP
  clear hP7 hP9 hx9 ha9 hL9 he9 hr7 hi7 hbp7 hz7 hx7 hi
  rintro i ρ w7 hi ⟨va, us', yss, A, B, hH, hx7, hP7, hAB, ha7, hyl7, hys7, hyq7⟩
  refine rwp_has hH fun ρ2 => ?_
  have hz7 := hx7.size
  refine go ?_
  refine c_if (fun h10 => ?_) (fun h10 => ?_)
  · refine go ?_
    refine r_for m (fun j ρ w' => Has ρ [(0, .int .i64 p), (1, vr), (6, .pointer (some ⟨br, 0, none⟩)), (7, vt), (9, vl), (11, .pointer (some ⟨bp, 0, none⟩)), (12, .int .i64 k), (14, va), (15, .int .i64 i), (16, .int .i64 j)] ∧ Ext w5 w' ∧ PBy (fun g => A ≤ g ∧ g < B) w5.heap.size w' bp xs ∧ B ≤ w'.heap.size ∧ Pc.Rows A B w' va us' yss) ?_ ?_
    · refine ⟨?_, hx7, hP7, hAB, ha7⟩
      exact hasP
    clear hP7 hx7 hz7 ha7 hAB
    rintro j ρ w7 hj ⟨hH, hx7, hP7, hAB, ha7⟩
    refine rwp_has hH fun ρ3 => ?_
    have hz7 := hx7.size
    have hbp7 := hP7.toX.lt
    have hr7 : Pc.Rows _ _ w7 vr us xss := @Rows.ext _ _ _ _ _ _ _ hx7 hr5
    refine go ?_
    refine c_if (fun h11 => ?_) (fun h11 => ?_)
    · obtain ⟨vo, vp, vc, rp, gs, hB7, hO7, hS7⟩ := hP7.ex
      have hgl := hS7.lg
      have hgi : i < gs.length := by omega
      have hli := hS7.li i hgi
      have hlc := hS7.lenC hgi
      have hgm : (gs.map fun q => q.2.map (·.2)).length = xs.length := by rw [List.length_map]; exact hgl
      obtain ⟨bq, hbq, hxq, hvq, hoq⟩ := hO7.ownC' hgi (by omega)
      have c2 : Cell w7 bp 2 vc := hB7.cell rfl
      have hrs := hO7.rowss
      have hyj := hys7.2 j
      have hyq := hyq7 j (by omega)
      refine go ?_
      refine d_region (h := fun w8 he8 _ => ?_)
      have hrs8 : Pc.Rowss _ _ w8 vc _ _ _ := @Rowss.ext _ _ _ _ _ _ _ _ he8 hrs
      have ha8 : Pc.Rows _ _ w8 va us' yss := @Rows.ext _ _ _ _ _ _ _ he8 ha7
      refine dgo ?_
      refine dc (l07Shift_ok (m := k) (n := 0) (xs := yss.getD j []) rfl rfl (by omega) (by omega) (by omega)) (next := fun v9 w9 h9 => ⟨fun h => h.trans (by obtain ⟨_, h, _⟩ := h9; exact h), ?_⟩)
      obtain ⟨ys9, he9, hf9, hyl9⟩ := h9
      refine dgo ?_
      refine l_store_val (@Own.ext _ _ _ _ _ _ (he8.trans he9) hoq) hf9.ints.sl.one (m := k + j - i - 1) (by rw [List.length_map]; omega) (next := fun w10 hc10 hs10 ho10 => ?_)
      have hz8 := he8.size
      have hP10 := PBy.putC (@Blk.ext _ _ _ _ he8 hB7) (hO7.ext he8) hS7 (fun g hg => by omega) (i := i) (j := k + j - i - 1) hgi (by omega) hvq (fun e => hxq (.inl e)) he9 hf9 (by omega) hc10 ho10
      refine go ?_
      refine forQ_normal (by omega) ⟨?_, hc10.ext (hx7.trans (he8.trans he9)) (by omega), hP10, ?_, ?_⟩
      · exact hasP
      · have := he9.size; omega
      · exact (@Rows.ext _ _ _ _ _ _ _ he9 ha8).same (hc10.same (by omega))
    · have hit7 : Ints _ _ w7 vt ts := @Ints.ext _ _ _ _ _ _ hx7 hit5
      have hti : Grp4 (ts.getD i 0) := by
        have h : i < ts.length := by omega
        have := hp2 _ (List.getElem_mem h)
        simpa [h] using this
      have htl := hti.le
      refine go ?_
      refine r_for 7 (fun t ρ w' => ∃ (va2 : Value) (us : List Value) (zss : List (List Int)) (A B : Nat), Has ρ [(0, .int .i64 p), (1, vr), (6, .pointer (some ⟨br, 0, none⟩)), (7, vt), (9, vl), (11, .pointer (some ⟨bp, 0, none⟩)), (12, .int .i64 k), (14, va2), (15, .int .i64 i), (17, va), (18, .int .i64 (1 + (t : Int)))] ∧ Ext w7 w' ∧ PBy (fun g => A ≤ g ∧ g < B) w5.heap.size w' bp xs ∧ B ≤ w'.heap.size ∧ Pc.Rows A B w' va2 us zss ∧ zss.length = m ∧ SmR 20 zss ∧ ∀ j, j < m → (zss.getD j []).length = m) ?_ ?_
      · refine ⟨va, us', yss, A, B, ?_, Ext.refl _, hP7, hAB, ha7, hyl7, hys7, hyq7⟩
        exact hasP
      rintro t ρ w8 ht ⟨va2, us2, zss, A2, B2, hH, hx8, hP8, hAB8, ha8, hyl8, hys8, hyq8⟩
      refine rwp_has hH fun ρ4 => ?_
      have hz8 := hx8.size
      have hit8 : Ints _ _ w8 vt ts := @Ints.ext _ _ _ _ _ _ hx8 hit7
      have hr8 : Pc.Rows _ _ w8 vr us xss := @Rows.ext _ _ _ _ _ _ _ hx8 hr7
      have hb8 : Pc.Rows _ _ w8 va us' yss := @Rows.ext _ _ _ _ _ _ _ hx8 ha7
      refine go ?_
      refine c_if (fun h12 => ?_) (fun h12 => ?_)
      · refine go ?_
        refine rc (l02Product_ok (p := p) (k := (xss.length : Int)) (n := m) (xss := zss) (yss := yss) (by omega) (by omega) hys8 hys7 (by rw [hm]) (by omega)) (next := fun v9 w9 h => ?_)
        obtain ⟨us9, zss9, he9, hr9, hl9, hs9, hq9⟩ := h
        refine go ?_
        refine forQ_normal (by omega) ⟨v9, us9, zss9, w8.heap.size, w9.heap.size, ?_, hx8.trans he9, (hP8.toX.toY fun g hg => hg.1).ext he9, Nat.le_refl _, hr9, by omega, hs9, fun j hj => hq9 j (by omega)⟩
        exact hasP
      · refine go ?_
        refine forQ_normal (by omega) ⟨va2, us2, zss, A2, B2, ?_, hx7.trans hx8, hP8, hAB8, ha8, hyl8, hys8, hyq8⟩
        exact hasP
  · obtain ⟨vo, vp, vc, rp, gs, hB7, hO7, hS7⟩ := hP7.toX.ex
    have hbr7 : Blk w7 br _ := @Blk.ext _ _ _ _ ((he2.trans hx5).trans hx7) hbk1
    refine go ?_
    refine ra (v := .agg #[vo, vp, vc]) (h := rd_load_blk (hb := hB7) (by ((try simp only [ev_tmp, ev_const, ev_func, get_put, get_args, get_putL, get_putL_nil, Nat.reduceEqDiff, reduceIte, List.getD_cons_zero, List.getD_cons_succ, List.getD_nil]); first | done | with_reducible rfl)) rfl) (next := ?_)
    refine st_store_agg (vs := [vo, vp, vc]) (cs := _) (hb := hbr7) (by ((try simp only [ev_tmp, ev_const, ev_func, get_put, get_args, get_putL, get_putL_nil, Nat.reduceEqDiff, reduceIte, List.getD_cons_zero, List.getD_cons_succ, List.getD_nil]); first | done | with_reducible rfl)) (by ((try simp only [ev_tmp, ev_const, ev_func, get_put, get_args, get_putL, get_putL_nil, Nat.reduceEqDiff, reduceIte, List.getD_cons_zero, List.getD_cons_succ, List.getD_nil]); first | done | with_reducible rfl)) rfl ?_ hO7.one3 (by first | exact True.intro | exact ⟨_, rfl, by ((try simp only [ev_tmp, ev_const, ev_func, get_put, get_args, get_putL, get_putL_nil, Nat.reduceEqDiff, reduceIte, List.getD_cons_zero, List.getD_cons_succ, List.getD_nil, Bool.not_true, Bool.not_false]); first | done | with_reducible rfl)⟩) fun w8 hc8 hs8 hB8 => ?_
    · rfl
    refine go ?_
    refine retc (b := br) (hb := hB8) ⟨xs, hc8.ext (((he1.trans he2).trans hx5).trans hx7) (by omega), NewP.of (((hO7.chg hc8 (.inr (by omega))).weak (fun b hb => hb.elim)).mono (by omega)) hS7, hF⟩ rfl
end Go.Proofs.Ytflniifngfiekaa
